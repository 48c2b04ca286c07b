/- MADE BY PROGRAM (sxgen.py): the small code of some functions, points of it and their equations. -/
import Derived.Test.YtncmmbacoknefaaGreatProg
import Derived.Test.YtncmmbacoknefaaGreatSn2
namespace Go.Proofs.YtncmmbacoknefaaGreat
open Go Go.RowKit Sx Sx.Q
set_option linter.unusedVariables false
variable (C : Cx) (R L1 L2 L3 L4 : St → Prop)

/-! ### tscodec/tscodeclaw14.SwingWithin -/
namespace w14_SwingWithin
abbrev r0 : List G := [Mb 2 false]
abbrev r1 : List G := [m 17 0, K1 18 15 17, m 3 18]
abbrev q0 := [4, 5]
abbrev r2 : List G := [m 19 3, e 20 (.call false 16 [(t 19), (i 30)]), m 21 3, K1 22 17 21, m 4 20, m 5 22]
abbrev q1 := [4, 5, 6, 7]
abbrev r3 : List G := [m 24 4, m 25 5, K2 26 46 24 25, m 23 26, x 27 23 0, x 28 23 1, m 6 27, m 7 28]
abbrev q2 := [4, 5, 6, 7, 8]
abbrev r4 : List G := [Mi 8 0]
abbrev q3 := [4, 5, 6, 7, 8, 9]
abbrev r5 : List G := [Mi 9 0]
abbrev q4 := [4, 5, 6, 7, 8, 9, 32]
abbrev r6 : List G := [m 29 9, m 30 6, e 31 (.len false (t 30)), b 32 .lss 29 31]
abbrev q5 := [4, 5, 6, 7, 8, 9, 10]
abbrev z0 : List Value := [.int .i64 0, .int .i64 0, .bool false, .int .u64 0, .int .u64 0, .int .u64 0, .int .u64 0, .bool false, .int .u64 0, .int .u64 0, .int .u64 0, .int .u64 0]
abbrev r8 : List G := [m 35 6, m 36 9, j 37 12 35 36, L 38 12 37, e 10 (.new z0), V 12 10 38]
abbrev q6 := [4, 5, 6, 7, 8, 9, 10, 66]
abbrev r9 : List G := [a 39 0 10, l 40 39, bi 41 .lss 40 1, m 42 41, na 43 42 0 10, nl 44 42 43, nm 45 42 4, n 46 42 (.len false (t 45)), nm 47 42 8, n 48 42 (.bin .sub (t 46) (t 47)), n 49 42 (.bin .gtr (t 44) (t 48)), o 50 42 49, m 51 50, na 52 51 1 10, nl 53 51 52, nm 54 51 4, nm 55 51 8, n 56 51 (.is 2 (t 54) (t 55)), na 57 51 1 56, nl 58 51 57, n 59 51 (.bin .neq (t 53) (t 58)), o 60 51 59, m 61 60, na 62 61 2 10, n 63 61 (.ld true 10 (t 62)), n 64 61 (.call true 49 [(t 63)]), n 65 61 (.un .not (t 64)), o 66 61 65]
abbrev r10 : List G := [Mb 2 false]
abbrev q7 := [4, 5, 6, 7, 8, 9, 10, 11]
abbrev r11 : List G := [Mi 11 1]
abbrev q8 := [4, 5, 6, 7, 8, 9, 10, 11, 70]
abbrev r12 : List G := [m 67 11, a 68 0 10, l 69 68, b 70 .lss 67 69]
abbrev q9 := [4, 5, 6, 7, 8, 9, 10, 11, 12]
abbrev r14 : List G := [m 73 4, m 74 8, m 75 11, b 76 .add 74 75, j 77 2 73 76, a 78 0 77, l 79 78, m 80 4, m 81 8, j 82 2 80 81, a 83 0 82, l 84 83, k2 85 42 79 84]
abbrev t14 : List G := [m 12 85]
abbrev q10 := [4, 5, 6, 7, 8, 9, 10, 11, 12, 13]
abbrev r15 : List G := [a 87 1 10, l 88 87, k1 89 50 88, m 90 4, m 91 8, m 92 11, b 93 .add 91 92, j 94 2 90 93, a 95 1 94, l 96 95, m 97 5, m 98 12, k4 99 40 89 96 97 98, m 86 99, x 100 86 0, x 101 86 1]
abbrev z1 : List Value := [.bool false, .bool false, .int .u64 0, .int .u64 0, .int .u64 0, .int .u64 0, .bool false, .int .u64 0, .int .u64 0, .int .u64 0, .int .u64 0, .bool false, .int .u64 0, .int .u64 0, .int .u64 0, .int .u64 0, .bool false, .int .u64 0, .int .u64 0, .int .u64 0, .int .u64 0]
abbrev t15 : List G := [e 13 (.new z1), V 21 13 100, m 14 101]
abbrev q11 := [4, 5, 6, 7, 8, 9, 10, 11, 13, 15]
abbrev r16 : List G := [a 103 1 10, l 104 103, k1 105 50 104, a 106 2 10, L 107 10 106, m 108 12, k2 109 52 107 108, k2 110 51 105 109, m 102 110, x 111 102 0, x 112 102 1]
abbrev t16 : List G := [e 15 (.new zW), V 5 15 111, m 16 112]
abbrev r17 : List G := [L 114 5 15, m 115 4, m 116 8, m 117 11, b 118 .add 116 117, j 119 2 115 118, a 120 1 119, l 121 120, k1 122 50 121, k2 123 53 114 122, m 113 123, x 124 113 0, x 125 113 1]
abbrev t17 : List G := [V 5 15 124]
abbrev r18 : List G := [a 126 0 15, z (.st false 1 (t 126) bf)]
abbrev q12 := [4, 5, 6, 7, 8, 9, 10, 11, 138]
abbrev r19 : List G := [L 127 21 13, a 128 2 10, L 129 10 128, k2 130 43 127 129, e 131 (.un .not (t 130)), m 132 131, n 133 132 (.ld true 5 (t 15)), nm 134 132 5, n 135 132 (.call true 50 [(t 134)]), n 136 132 (.call true 54 [(t 133), (t 135)]), n 137 132 (.bin .gtr (t 136) (i 0)), o 138 132 137]
abbrev r20 : List G := [Mb 2 false]
abbrev r13 : List G := [m 71 11, bi 72 .add 71 1, m 11 72]
abbrev r21 : List G := [m 139 8, a 140 0 10, l 141 140, b 142 .add 139 141, m 8 142]
abbrev r7 : List G := [m 33 9, bi 34 .add 33 1, m 9 34]
abbrev r22 : List G := [K0 143 47, m 144 143, ym 145 144 7, y 146 144 (.bin .eql (t 145) (i 0)), w 147 144 146, m 148 147, ym 149 148 8, ym 150 148 4, y 151 148 (.len false (t 150)), y 152 148 (.bin .eql (t 149) (t 151)), w 153 148 152, m 2 153]
abbrev c : MC := sq [g r0 [0], g r1 [3], g r2 q0, g r3 q1, g r4 q2, sq [g r5 q3, .block 0 (.loop (sq [sq [g r6 q4, ci 32 .skip (.exit 0)], .block 1 (sq [g r8 q5, sq [gd r9 [] q6, ci 66 (sq [g r10 [2], .ret]) .skip], sq [g r11 q7, .block 2 (.loop (sq [sq [g r12 q8, ci 70 .skip (.exit 2)], .block 3 (sq [gd r14 t14 q9, gd r15 t15 q10, gd r16 t16 q11, gd r17 t17 q11, g r18 q11, gd r19 [] q12, ci 138 (sq [g r20 [2], .ret]) .skip]), g r13 q7]))], g r21 q3]), g r7 q3]))], g r22 [2], .ret]
theorem ok : compF Tryz.prog Tryz.f10 (an [0, 1, 2, 3, 4, 5, 6, 8, 9, 10, 11, 12, 14, 15, 16, 17, 18, 19, 20, 13, 21, 7, 22] c [(9, 28, [], (up 28), []), (14, 13, [], (up 13), []), (15, 17, [15], (up 15 ++ [(15, 2)]), [16]), (16, 12, [10], (up 10 ++ [(10, 2)]), [11]), (17, 13, [12], (up 12 ++ [(12, 2)]), []), (19, 12, [], (up 12), [])]) = some (154, c, [(2, none)]) := by kernel_rfl
abbrev p1 := P C r22 [2] R
abbrev p3 := P C r7 q3 L1
abbrev p4 := P C r21 q3 (p3 C L1)
abbrev p6 := P C r13 q7 L2
abbrev p8 := P C r20 [2] R
abbrev p7 := cd (t 138) (p8 C R) (p6 C L2)
abbrev p9 := Pd C r19 [] q12 (p7 C R L2)
abbrev p10 := P C r18 q11 (p9 C R L2)
abbrev p11 := Pd C r17 t17 q11 (p10 C R L2)
abbrev p12 := Pd C r16 t16 q11 (p11 C R L2)
abbrev p13 := Pd C r15 t15 q10 (p12 C R L2)
abbrev p14 := Pd C r14 t14 q9 (p13 C R L2)
abbrev p15 := cd (t 70) (p14 C R L2) (p4 C L1)
abbrev p16 := P C r12 q8 (p15 C R L1 L2)
def p5 (S : St) : Prop := LX C (fun L2 => (p16 C R L1 L2)) S
theorem p5_l (S : St) : p5 C R L1 S = LX C (fun L2 => (p16 C R L1 L2)) S := rfl
abbrev p17 := P C r11 q7 (p5 C R L1)
abbrev p19 := P C r10 [2] R
abbrev p18 := cd (t 66) (p19 C R) (p17 C R L1)
abbrev p20 := Pd C r9 [] q6 (p18 C R L1)
abbrev p21 := P C r8 q5 (p20 C R L1)
abbrev p22 := cd (t 32) (p21 C R L1) (p1 C R)
abbrev p23 := P C r6 q4 (p22 C R L1)
def p2 (S : St) : Prop := LX C (fun L1 => (p23 C R L1)) S
theorem p2_l (S : St) : p2 C R S = LX C (fun L1 => (p23 C R L1)) S := rfl
abbrev p24 := P C r5 q3 (p2 C R)
abbrev p25 := P C r4 q2 (p24 C R)
abbrev p26 := P C r3 q1 (p25 C R)
abbrev p27 := P C r2 q0 (p26 C R)
abbrev p28 := P C r1 [3] (p27 C R)
abbrev p29 := P C r0 [0] (p28 C R)
theorem s (S : St) : X C c (retK R) S = p29 C R S := by kernel_rfl
theorem E : type_of% @s := @s
end w14_SwingWithin
end Go.Proofs.YtncmmbacoknefaaGreat
