/- MADE BY PROGRAM (sxgen.py): the small code of some functions, points of it and their equations. -/
import Derived.Test.YtncmmbacoknefaaGreatProg
import Derived.Test.YtncmmbacoknefaaGreatSn2
namespace Go.Proofs.YtncmmbacoknefaaGreat
open Go Go.RowKit Sx Sx.Q
set_option linter.unusedVariables false
variable (C : Cx) (R L1 L2 L3 L4 : St → Prop)

/-! ### tscodec/tscodeclaw14.SwingSimplest -/
namespace w14_SwingSimplest
abbrev r0 : List G := [Mb 2 false]
abbrev r1 : List G := [m 15 0, K1 16 15 15, m 3 16]
abbrev q0 := [4, 5]
abbrev r2 : List G := [m 17 3, e 18 (.call false 16 [(t 17), (i 30)]), m 19 3, K1 20 17 19, m 4 18, m 5 20]
abbrev q1 := [4, 5, 6, 7]
abbrev r3 : List G := [m 22 4, m 23 5, K2 24 46 22 23, m 21 24, x 25 21 0, x 26 21 1, m 6 25, m 7 26]
abbrev q2 := [4, 5, 6, 7, 8]
abbrev r4 : List G := [Mi 8 0]
abbrev q3 := [4, 5, 6, 7, 8, 9]
abbrev r5 : List G := [Mi 9 0]
abbrev q4 := [4, 5, 6, 7, 8, 9, 30]
abbrev r6 : List G := [m 27 9, m 28 6, e 29 (.len false (t 28)), b 30 .lss 27 29]
abbrev q5 := [4, 5, 6, 7, 8, 9, 10]
abbrev r8 : List G := [m 33 6, m 34 9, j 35 12 33 34, a 36 0 35, l 37 36, m 10 37]
abbrev q6 := [4, 5, 6, 7, 8, 9, 10, 47]
abbrev r9 : List G := [m 38 10, bi 39 .lss 38 1, m 40 39, nm 41 40 10, nm 42 40 4, n 43 40 (.len false (t 42)), nm 44 40 8, n 45 40 (.bin .sub (t 43) (t 44)), n 46 40 (.bin .gtr (t 41) (t 45)), o 47 40 46]
abbrev r10 : List G := [Mb 2 false]
abbrev q7 := [4, 5, 6, 7, 8, 9, 10, 11]
abbrev z0 : List Value := [.bool false, .bool false, .int .u64 0, .int .u64 0, .int .u64 0, .int .u64 0, .bool false, .int .u64 0, .int .u64 0, .int .u64 0, .int .u64 0, .bool false, .int .u64 0, .int .u64 0, .int .u64 0, .int .u64 0, .bool false, .int .u64 0, .int .u64 0, .int .u64 0, .int .u64 0]
abbrev r11 : List G := [K0 48 55, e 11 (.new z0), V 21 11 48]
abbrev q8 := [4, 5, 6, 7, 8, 9, 10, 11, 12]
abbrev r12 : List G := [Mi 12 1]
abbrev q9 := [4, 5, 6, 7, 8, 9, 10, 11, 12, 51]
abbrev r13 : List G := [m 49 12, m 50 10, b 51 .lss 49 50]
abbrev q10 := [4, 5, 6, 7, 8, 9, 10, 11, 12, 13]
abbrev r15 : List G := [m 55 4, m 56 8, j 57 2 55 56, a 58 1 57, l 59 58, k1 60 50 59, m 61 4, m 62 8, m 63 12, b 64 .add 62 63, j 65 2 61 64, a 66 1 65, l 67 66, m 68 5, m 69 4, m 70 8, m 71 12, b 72 .add 70 71, j 73 2 69 72, a 74 0 73, l 75 74, m 76 4, m 77 8, j 78 2 76 77, a 79 0 78, l 80 79, k2 81 42 75 80, k4 82 40 60 67 68 81, m 54 82, x 83 54 0, x 84 54 1]
abbrev t15 : List G := [e 13 (.new z0), V 21 13 83, m 14 84]
abbrev r16 : List G := [L 86 21 11, L 87 21 13, K2 88 45 86 87, m 85 88, x 89 85 0, x 90 85 1, V 21 11 89]
abbrev r14 : List G := [m 52 12, bi 53 .add 52 1, m 12 53]
abbrev q11 := [4, 5, 6, 7, 8, 9, 10, 98]
abbrev r17 : List G := [m 91 6, m 92 9, j 93 12 91 92, a 94 2 93, L 95 10 94, L 96 21 11, k1 97 44 96, e 98 (.eqg true 39 (t 95) (t 97))]
abbrev r18 : List G := [Mb 2 false]
abbrev r19 : List G := [m 99 8, m 100 10, b 101 .add 99 100, m 8 101]
abbrev r7 : List G := [m 31 9, bi 32 .add 31 1, m 9 32]
abbrev r20 : List G := [K0 102 47, m 103 102, ym 104 103 7, y 105 103 (.bin .eql (t 104) (i 0)), w 106 103 105, m 107 106, ym 108 107 8, ym 109 107 4, y 110 107 (.len false (t 109)), y 111 107 (.bin .eql (t 108) (t 110)), w 112 107 111, m 2 112]
abbrev c : MC := sq [g r0 [0], g r1 [3], g r2 q0, g r3 q1, g r4 q2, sq [g r5 q3, .block 0 (.loop (sq [sq [g r6 q4, ci 30 .skip (.exit 0)], .block 1 (sq [g r8 q5, sq [g r9 q6, ci 47 (sq [g r10 [2], .ret]) .skip], g r11 q7, sq [g r12 q8, .block 2 (.loop (sq [sq [g r13 q9, ci 51 .skip (.exit 2)], .block 3 (sq [gd r15 t15 q10, g r16 q8]), g r14 q8]))], sq [gd r17 [] q11, ci 98 (sq [g r18 [2], .ret]) .skip], g r19 q3]), g r7 q3]))], g r20 [2], .ret]
theorem ok : compF Tryz.prog Tryz.f12 (an [0, 1, 2, 3, 4, 5, 6, 8, 9, 10, 11, 12, 13, 15, 16, 14, 17, 18, 19, 7, 20] c [(15, 32, [30], (up 30 ++ [(30, 2)]), [31]), (17, 8, [], (up 8), [])]) = some (113, c, [(2, none)]) := by kernel_rfl
abbrev p1 := P C r20 [2] R
abbrev p3 := P C r7 q3 L1
abbrev p4 := P C r19 q3 (p3 C L1)
abbrev p6 := P C r18 [2] R
abbrev p5 := cd (t 98) (p6 C R) (p4 C L1)
abbrev p7 := Pd C r17 [] q11 (p5 C R L1)
abbrev p9 := P C r14 q8 L2
abbrev p10 := P C r16 q8 (p9 C L2)
abbrev p11 := Pd C r15 t15 q10 (p10 C L2)
abbrev p12 := cd (t 51) (p11 C L2) (p7 C R L1)
abbrev p13 := P C r13 q9 (p12 C R L1 L2)
def p8 (S : St) : Prop := LX C (fun L2 => (p13 C R L1 L2)) S
theorem p8_l (S : St) : p8 C R L1 S = LX C (fun L2 => (p13 C R L1 L2)) S := rfl
abbrev p14 := P C r12 q8 (p8 C R L1)
abbrev p15 := P C r11 q7 (p14 C R L1)
abbrev p17 := P C r10 [2] R
abbrev p16 := cd (t 47) (p17 C R) (p15 C R L1)
abbrev p18 := P C r9 q6 (p16 C R L1)
abbrev p19 := P C r8 q5 (p18 C R L1)
abbrev p20 := cd (t 30) (p19 C R L1) (p1 C R)
abbrev p21 := P C r6 q4 (p20 C R L1)
def p2 (S : St) : Prop := LX C (fun L1 => (p21 C R L1)) S
theorem p2_l (S : St) : p2 C R S = LX C (fun L1 => (p21 C R L1)) S := rfl
abbrev p22 := P C r5 q3 (p2 C R)
abbrev p23 := P C r4 q2 (p22 C R)
abbrev p24 := P C r3 q1 (p23 C R)
abbrev p25 := P C r2 q0 (p24 C R)
abbrev p26 := P C r1 [3] (p25 C R)
abbrev p27 := P C r0 [0] (p26 C R)
theorem s (S : St) : X C c (retK R) S = p27 C R S := by kernel_rfl
theorem E : type_of% @s := @s
end w14_SwingSimplest
end Go.Proofs.YtncmmbacoknefaaGreat
