/- MADE BY PROGRAM (sxgen.py): the small code of some functions, points of it and their equations. -/
import Derived.Test.YtncmmbacoknefaaGreatProg
import Derived.Test.YtncmmbacoknefaaGreatSn2
namespace Go.Proofs.YtncmmbacoknefaaGreat
open Go Go.RowKit Sx Sx.Q
set_option linter.unusedVariables false
variable (C : Cx) (R L1 L2 L3 L4 : St → Prop)

/-! ### tscodec/tscodeclaw14.SwingAlls -/
namespace w14_SwingAlls
abbrev q0 := [0, 1, 2]
abbrev r0 : List G := [Mb 6 false]
abbrev q1 := [0, 1, 7]
abbrev r1 : List G := [m 22 2, K1 23 15 22, m 7 23]
abbrev q2 := [0, 1, 8, 9]
abbrev r2 : List G := [m 24 7, e 25 (.call false 16 [(t 24), (i 30)]), m 26 7, K1 27 17 26, m 8 25, m 9 27]
abbrev q3 := [0, 1, 8, 9, 10, 11]
abbrev r3 : List G := [m 29 0, m 30 1, K2 31 46 29 30, m 28 31, x 32 28 0, x 33 28 1, m 10 32, m 11 33]
abbrev q4 := [1, 8, 9, 10, 11, 12, 13]
abbrev r4 : List G := [m 35 0, m 36 1, K2 37 18 35 36, m 34 37, x 38 34 0, x 39 34 1, m 12 38, m 13 39]
abbrev q5 := [1, 8, 9, 10, 11, 12, 13, 14, 15]
abbrev r5 : List G := [m 41 8, m 42 9, K2 43 46 41 42, m 40 43, x 44 40 0, x 45 40 1, m 14 44, m 15 45]
abbrev q6 := [1, 8, 10, 11, 12, 13, 14, 15, 16, 17]
abbrev r6 : List G := [m 47 8, m 48 9, K2 49 18 47 48, m 46 49, x 50 46 0, x 51 46 1, m 16 50, m 17 51]
abbrev q7 := [1, 8, 10, 11, 12, 13, 14, 15, 16, 17, 18, 19]
abbrev r7 : List G := [m 53 8, m 54 1, K2 55 46 53 54, m 52 55, x 56 52 0, x 57 52 1, m 18 56, m 19 57]
abbrev q8 := [10, 11, 12, 13, 14, 15, 16, 17, 18, 19, 20, 21]
abbrev r8 : List G := [m 59 8, m 60 1, K2 61 18 59 60, m 58 61, x 62 58 0, x 63 58 1, m 20 62, m 21 63]
abbrev r9 : List G := [K0 64 47, m 65 64, ym 66 65 11, ym 67 65 13, y 68 65 (.bin .eql (t 66) (t 67)), w 69 65 68, m 70 69, ym 71 70 10, ym 72 70 12, y 73 70 (.call false 48 [(t 71), (t 72)]), w 74 70 73, m 75 74, ym 76 75 15, ym 77 75 17, y 78 75 (.bin .eql (t 76) (t 77)), w 79 75 78, m 80 79, ym 81 80 14, ym 82 80 16, y 83 80 (.call false 48 [(t 81), (t 82)]), w 84 80 83, m 85 84, ym 86 85 19, ym 87 85 21, y 88 85 (.bin .eql (t 86) (t 87)), w 89 85 88, m 90 89, ym 91 90 18, ym 92 90 20, y 93 90 (.call false 48 [(t 91), (t 92)]), w 94 90 93, m 6 94]
abbrev c : MC := sq [g r0 q0, g r1 q1, g r2 q2, g r3 q3, g r4 q4, g r5 q5, g r6 q6, g r7 q7, g r8 q8, g r9 [6], .ret]
theorem ok : compF Tryz.prog Tryz.f9 (an (rg 10) c []) = some (95, c, [(6, none)]) := by kernel_rfl
abbrev p1 := P C r9 [6] R
abbrev p2 := P C r8 q8 (p1 C R)
abbrev p3 := P C r7 q7 (p2 C R)
abbrev p4 := P C r6 q6 (p3 C R)
abbrev p5 := P C r5 q5 (p4 C R)
abbrev p6 := P C r4 q4 (p5 C R)
abbrev p7 := P C r3 q3 (p6 C R)
abbrev p8 := P C r2 q2 (p7 C R)
abbrev p9 := P C r1 q1 (p8 C R)
abbrev p10 := P C r0 q0 (p9 C R)
theorem s (S : St) : X C c (retK R) S = p10 C R S := by kernel_rfl
theorem E : type_of% @s := @s
end w14_SwingAlls
end Go.Proofs.YtncmmbacoknefaaGreat
