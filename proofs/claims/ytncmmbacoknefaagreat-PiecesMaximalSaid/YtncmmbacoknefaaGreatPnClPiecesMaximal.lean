/- MADE BY PROGRAM (sxgen.py): the small code of some functions, points of it and their equations. -/
import Derived.Test.YtncmmbacoknefaaGreatProg
import Derived.Test.YtncmmbacoknefaaGreatPn2
namespace Go.Proofs.YtncmmbacoknefaaGreat
open Go Go.RowKit Sx Sx.Q
set_option linter.unusedVariables false
variable (C : Cx) (R L1 L2 L3 L4 : St → Prop)

/-! ### tscodec/tscodeclaw19.PiecesMaximal -/
namespace w19_PiecesMaximal
abbrev r0 : List G := [Mb 2 false]
abbrev r1 : List G := [m 15 0, K1 16 15 15, m 3 16]
abbrev q0 := [4, 5]
abbrev r2 : List G := [m 17 3, e 18 (.call false 16 [(t 17), (i 30)]), m 19 3, K1 20 17 19, m 4 18, m 5 20]
abbrev q1 := [4, 5, 6, 7]
abbrev r3 : List G := [m 22 4, m 23 5, K2 24 35 22 23, m 21 24, x 25 21 0, x 26 21 1, m 6 25, m 7 26]
abbrev q2 := [4, 5, 6, 7, 8]
abbrev r4 : List G := [Mi 8 0]
abbrev q3 := [4, 5, 6, 7, 8, 9]
abbrev r5 : List G := [Mi 9 0]
abbrev q4 := [4, 5, 6, 7, 8, 9, 31]
abbrev r6 : List G := [m 27 9, bi 28 .add 27 1, m 29 6, e 30 (.len false (t 29)), b 31 .lss 28 30]
abbrev q5 := [4, 5, 6, 7, 8, 9, 10]
abbrev r8 : List G := [m 34 6, m 35 9, j 36 24 34 35, a 37 1 36, l 38 37, m 10 38]
abbrev q6 := [4, 5, 6, 7, 8, 9, 10, 48]
abbrev r9 : List G := [m 39 10, bi 40 .lss 39 2, m 41 40, nm 42 41 10, nm 43 41 4, n 44 41 (.len false (t 43)), nm 45 41 8, n 46 41 (.bin .sub (t 44) (t 45)), n 47 41 (.bin .geq (t 42) (t 46)), o 48 41 47]
abbrev r10 : List G := [Mb 2 false]
abbrev q7 := [4, 5, 6, 7, 8, 9, 10, 11, 12]
abbrev r11 : List G := [m 50 6, m 51 9, j 52 24 50 51, a 53 2 52, l 54 53, m 55 5, k2 56 41 54 55, m 57 4, m 58 8, m 59 10, b 60 .add 58 59, j 61 2 57 60, a 62 1 61, l 63 62, m 64 5, m 65 4, m 66 8, m 67 10, b 68 .add 66 67, j 69 2 65 68, a 70 0 69, l 71 70, m 72 4, m 73 8, j 74 2 72 73, a 75 0 74, l 76 75, k2 77 42 71 76, k4 78 40 56 63 64 77, m 49 78, x 79 49 0, x 80 49 1]
abbrev z0 : List Value := [.bool false, .bool false, .int .u64 0, .int .u64 0, .int .u64 0, .int .u64 0, .bool false, .int .u64 0, .int .u64 0, .int .u64 0, .int .u64 0, .bool false, .int .u64 0, .int .u64 0, .int .u64 0, .int .u64 0, .bool false, .int .u64 0, .int .u64 0, .int .u64 0, .int .u64 0]
abbrev t11 : List G := [e 11 (.new z0), V 21 11 79, m 12 80]
abbrev q8 := [4, 5, 6, 7, 8, 9, 10, 12, 14]
abbrev r12 : List G := [m 82 6, m 83 9, j 84 24 82 83, a 85 3 84, L 86 21 85, L 87 21 11, k2 88 45 86 87, m 81 88, x 89 81 0, x 90 81 1]
abbrev t12 : List G := [e 13 (.new z0), V 21 13 89, m 14 90]
abbrev q9 := [4, 5, 6, 7, 8, 9, 10, 95]
abbrev r13 : List G := [m 91 12, e 92 (.un .not (t 91)), m 93 92, nm 94 93 14, o 95 93 94]
abbrev r14 : List G := [Mb 2 false]
abbrev r15 : List G := [m 96 8, m 97 10, b 98 .add 96 97, m 8 98]
abbrev r7 : List G := [m 32 9, bi 33 .add 32 1, m 9 33]
abbrev r16 : List G := [K0 99 36, m 100 99, ym 101 100 7, y 102 100 (.bin .eql (t 101) (i 0)), w 103 100 102, m 2 103]
abbrev c : MC := sq [g r0 [0], g r1 [3], g r2 q0, g r3 q1, g r4 q2, sq [g r5 q3, .block 0 (.loop (sq [sq [g r6 q4, ci 31 .skip (.exit 0)], .block 1 (sq [g r8 q5, sq [g r9 q6, ci 48 (sq [g r10 [2], .ret]) .skip], gd r11 t11 q7, gd r12 t12 q8, sq [g r13 q9, ci 95 (sq [g r14 [2], .ret]) .skip], g r15 q3]), g r7 q3]))], g r16 [2], .ret]
theorem ok : compF Tryz.prog Tryz.f8 (an [0, 1, 2, 3, 4, 5, 6, 8, 9, 10, 11, 12, 13, 14, 15, 7, 16] c [(11, 33, [31], (up 31 ++ [(31, 2)]), [32]), (12, 11, [9], (up 9 ++ [(9, 2)]), [10])]) = some (104, c, [(2, none)]) := by kernel_rfl
abbrev p1 := P C r16 [2] R
abbrev p3 := P C r7 q3 L1
abbrev p4 := P C r15 q3 (p3 C L1)
abbrev p6 := P C r14 [2] R
abbrev p5 := cd (t 95) (p6 C R) (p4 C L1)
abbrev p7 := P C r13 q9 (p5 C R L1)
abbrev p8 := Pd C r12 t12 q8 (p7 C R L1)
abbrev p9 := Pd C r11 t11 q7 (p8 C R L1)
abbrev p11 := P C r10 [2] R
abbrev p10 := cd (t 48) (p11 C R) (p9 C R L1)
abbrev p12 := P C r9 q6 (p10 C R L1)
abbrev p13 := P C r8 q5 (p12 C R L1)
abbrev p14 := cd (t 31) (p13 C R L1) (p1 C R)
abbrev p15 := P C r6 q4 (p14 C R L1)
def p2 (S : St) : Prop := LX C (fun L1 => (p15 C R L1)) S
theorem p2_l (S : St) : p2 C R S = LX C (fun L1 => (p15 C R L1)) S := rfl
abbrev p16 := P C r5 q3 (p2 C R)
abbrev p17 := P C r4 q2 (p16 C R)
abbrev p18 := P C r3 q1 (p17 C R)
abbrev p19 := P C r2 q0 (p18 C R)
abbrev p20 := P C r1 [3] (p19 C R)
abbrev p21 := P C r0 [0] (p20 C R)
theorem s (S : St) : X C c (retK R) S = p21 C R S := by kernel_rfl
theorem E : type_of% @s := @s
end w19_PiecesMaximal
end Go.Proofs.YtncmmbacoknefaaGreat
