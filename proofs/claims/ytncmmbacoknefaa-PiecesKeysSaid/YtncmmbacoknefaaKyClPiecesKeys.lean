/- MADE BY PROGRAM (sxgen.py): the small code of some functions, points of it and their equations. -/
import Derived.Test.YtncmmbacoknefaaProg
import Derived.Test.YtncmmbacoknefaaKy2
namespace Go.Proofs.Ytncmmbacoknefaa
open Go Go.RowKit Sx Sx.Q
set_option linter.unusedVariables false
variable (C : Cx) (R L1 L2 L3 L4 : St → Prop)

/-! ### tscodec/tscodeclaw19.PiecesKeys -/
namespace w19_PiecesKeys
abbrev q0 := [0, 1]
abbrev r0 : List G := [Mb 4 false]
abbrev r1 : List G := [m 8 1, bi 9 .and 8 4611686018427387903, m 1 9]
abbrev q1 := [0, 1, 5]
abbrev r2 : List G := [m 10 0, m 11 1, K2 12 63 10 11, m 13 1, K2 14 62 12 13, e 5 (.new zW), V 5 5 14]
abbrev q2 := [1, 6, 7]
abbrev r3 : List G := [m 16 0, k1 17 20 16, L 18 5 5, k2 19 41 17 18, m 15 19, x 20 15 0, x 21 15 1]
abbrev t3 : List G := [e 6 (.new zW), V 5 6 20, m 7 21]
abbrev r4 : List G := [k0 22 64, m 23 22, ym 24 23 7, w 25 23 24, m 26 25, y 27 26 (.ld true 5 (t 6)), y 28 26 (.call true 65 [(t 27)]), y 29 26 (.bin .geq (t 28) (i 0)), w 30 26 29, m 31 30, y 32 31 (.ld true 5 (t 6)), ym 33 31 1, y 34 31 (.mm true (t 33) (i 1)), y 35 31 (.call true 20 [(t 34)]), y 36 31 (.call true 42 [(t 32), (t 35)]), y 37 31 (.bin .lss (t 36) (i 0)), w 38 31 37]
abbrev t4 : List G := [m 4 38]
abbrev c : MC := sq [g r0 q0, g r1 q0, g r2 q1, gd r3 t3 q2, gd r4 t4 [4], .ret]
theorem ok : compF Try.prog Try.f15 (an (rg 5) c [(3, 8, [6], (up 6 ++ [(6, 2)]), [7]), (4, 17, [], (up 17), [])]) = some (39, c, [(4, none)]) := by kernel_rfl
abbrev p1 := Pd C r4 t4 [4] R
abbrev p2 := Pd C r3 t3 q2 (p1 C R)
abbrev p3 := P C r2 q1 (p2 C R)
abbrev p4 := P C r1 q0 (p3 C R)
abbrev p5 := P C r0 q0 (p4 C R)
theorem s (S : St) : X C c (retK R) S = p5 C R S := by kernel_rfl
theorem E : type_of% @s := @s
end w19_PiecesKeys
end Go.Proofs.Ytncmmbacoknefaa
