/- MADE BY PROGRAM (sxgen.py): the small code of some functions, points of it and their equations. -/
import Derived.Test.YtncmmbacoknefaaGreatProg
import Derived.Test.YtncmmbacoknefaaGreatPw2
namespace Go.Proofs.YtncmmbacoknefaaGreat
open Go Go.RowKit Sx Sx.Q
set_option linter.unusedVariables false
variable (C : Cx) (R L1 L2 L3 L4 : St → Prop)

/-! ### tscodec/tscodeclaw19.PiecesWithin -/
namespace w19_PiecesWithin
abbrev r0 : List G := [Mb 2 false]
abbrev r1 : List G := [m 16 0, K1 17 15 16, m 3 17]
abbrev q0 := [3, 4, 5]
abbrev r2 : List G := [m 18 3, e 19 (.call false 16 [(t 18), (i 30)]), m 20 3, K1 21 17 20, m 4 19, m 5 21]
abbrev q1 := [4, 5, 6]
abbrev r3 : List G := [m 22 3, K1 23 21 22, e 6 (.new zR), V 10 6 23]
abbrev q2 := [4, 5, 6, 7, 8]
abbrev r4 : List G := [m 25 4, m 26 5, K2 27 35 25 26, m 24 27, x 28 24 0, x 29 24 1, m 7 28, m 8 29]
abbrev q3 := [4, 5, 6, 7, 8, 9]
abbrev r5 : List G := [Mi 9 0]
abbrev q4 := [4, 5, 6, 7, 8, 9, 10]
abbrev r6 : List G := [Mi 10 0]
abbrev q5 := [4, 5, 6, 7, 8, 9, 10, 33]
abbrev r7 : List G := [m 30 10, m 31 7, e 32 (.len false (t 31)), b 33 .lss 30 32]
abbrev q6 := [4, 5, 6, 7, 8, 9, 10, 11]
abbrev z0 : List Value := [.int .i64 0, .int .i64 0, .int .i64 0, .bool false, .bool false, .int .u64 0, .int .u64 0, .int .u64 0, .int .u64 0, .bool false, .int .u64 0, .int .u64 0, .int .u64 0, .int .u64 0, .bool false, .int .u64 0, .int .u64 0, .int .u64 0, .int .u64 0, .bool false, .int .u64 0, .int .u64 0, .int .u64 0, .int .u64 0]
abbrev r9 : List G := [m 36 7, m 37 10, j 38 24 36 37, L 39 24 38, e 11 (.new z0), V 24 11 39]
abbrev q7 := [4, 5, 6, 7, 8, 9, 10, 11, 75]
abbrev r10 : List G := [a 40 1 11, l 41 40, bi 42 .lss 41 1, m 43 42, na 44 43 1 11, nl 45 43 44, nm 46 43 4, n 47 43 (.len false (t 46)), nm 48 43 9, n 49 43 (.bin .sub (t 47) (t 48)), n 50 43 (.bin .gtr (t 45) (t 49)), o 51 43 50, m 52 51, na 53 52 0 11, nl 54 52 53, nm 55 52 9, n 56 52 (.bin .neq (t 54) (t 55)), o 57 52 56, m 58 57, na 59 58 2 11, nl 60 58 59, nm 61 58 4, nm 62 58 9, n 63 58 (.is 2 (t 61) (t 62)), na 64 58 1 63, nl 65 58 64, nm 66 58 5, n 67 58 (.call true 38 [(t 65), (t 66)]), n 68 58 (.bin .neq (t 60) (t 67)), o 69 58 68, m 70 69, na 71 70 3 11, n 72 70 (.ld true 21 (t 71)), n 73 70 (.call true 39 [(t 72)]), n 74 70 (.un .not (t 73)), o 75 70 74]
abbrev r11 : List G := [Mb 2 false]
abbrev q8 := [4, 5, 6, 7, 8, 9, 10, 11, 12]
abbrev r12 : List G := [Mb 12 true]
abbrev q9 := [4, 5, 6, 7, 8, 9, 10, 11, 12, 13]
abbrev r13 : List G := [Mi 13 1]
abbrev q10 := [4, 5, 6, 7, 8, 9, 10, 11, 12, 13, 79]
abbrev r14 : List G := [m 76 13, a 77 1 11, l 78 77, b 79 .lss 76 78]
abbrev q11 := [4, 5, 6, 7, 8, 9, 10, 11, 12, 13, 14, 15]
abbrev r16 : List G := [a 83 2 11, l 84 83, m 85 5, k2 86 41 84 85, m 87 4, m 88 9, m 89 13, b 90 .add 88 89, j 91 2 87 90, a 92 1 91, l 93 92, m 94 5, m 95 4, m 96 9, m 97 13, b 98 .add 96 97, j 99 2 95 98, a 100 0 99, l 101 100, m 102 4, m 103 9, j 104 2 102 103, a 105 0 104, l 106 105, k2 107 42 101 106, k4 108 40 86 93 94 107, m 82 108, x 109 82 0, x 110 82 1]
abbrev z1 : List Value := [.bool false, .bool false, .int .u64 0, .int .u64 0, .int .u64 0, .int .u64 0, .bool false, .int .u64 0, .int .u64 0, .int .u64 0, .int .u64 0, .bool false, .int .u64 0, .int .u64 0, .int .u64 0, .int .u64 0, .bool false, .int .u64 0, .int .u64 0, .int .u64 0, .int .u64 0]
abbrev t16 : List G := [e 14 (.new z1), V 21 14 109, m 15 110]
abbrev r17 : List G := [m 111 12, m 112 111, y 113 112 (.ld true 21 (t 14)), y 114 112 (.ld true 10 (t 6)), y 115 112 (.call false 43 [(t 113), (t 114)]), w 116 112 115, m 12 116]
abbrev q12 := [4, 5, 6, 7, 8, 9, 10, 11, 12, 13, 126]
abbrev r18 : List G := [m 117 15, e 118 (.un .not (t 117)), m 119 118, n 120 119 (.ld true 21 (t 14)), na 121 119 3 11, n 122 119 (.ld true 21 (t 121)), n 123 119 (.call true 44 [(t 122)]), n 124 119 (.call true 43 [(t 120), (t 123)]), n 125 119 (.un .not (t 124)), o 126 119 125]
abbrev r19 : List G := [Mb 2 false]
abbrev r15 : List G := [m 80 13, bi 81 .add 80 1, m 13 81]
abbrev q13 := [4, 5, 6, 7, 8, 9, 10, 11, 132]
abbrev r20 : List G := [m 127 12, a 128 3 11, L 129 21 128, L 130 10 6, K2 131 43 129 130, e 132 (.bq true (t 127) (t 131))]
abbrev r21 : List G := [Mb 2 false]
abbrev r22 : List G := [m 133 9, a 134 1 11, l 135 134, b 136 .add 133 135, m 9 136]
abbrev r8 : List G := [m 34 10, bi 35 .add 34 1, m 10 35]
abbrev r23 : List G := [K0 137 36, m 138 137, ym 139 138 8, y 140 138 (.bin .eql (t 139) (i 0)), w 141 138 140, m 142 141, ym 143 142 9, ym 144 142 4, y 145 142 (.len false (t 144)), y 146 142 (.bin .eql (t 143) (t 145)), w 147 142 146, m 2 147]
abbrev c : MC := sq [g r0 [0], g r1 [3], g r2 q0, g r3 q1, g r4 q2, g r5 q3, sq [g r6 q4, .block 0 (.loop (sq [sq [g r7 q5, ci 33 .skip (.exit 0)], .block 1 (sq [g r9 q6, sq [gd r10 [] q7, ci 75 (sq [g r11 [2], .ret]) .skip], g r12 q8, sq [g r13 q9, .block 2 (.loop (sq [sq [g r14 q10, ci 79 .skip (.exit 2)], .block 3 (sq [gd r16 t16 q11, g r17 q11, gd r18 [] q12, ci 126 (sq [g r19 [2], .ret]) .skip]), g r15 q9]))], sq [g r20 q13, ci 132 (sq [g r21 [2], .ret]) .skip], g r22 q4]), g r8 q4]))], g r23 [2], .ret]
theorem ok : compF Tryz.prog Tryz.f7 (an [0, 1, 2, 3, 4, 5, 6, 7, 9, 10, 11, 12, 13, 14, 16, 17, 18, 19, 15, 20, 21, 22, 8, 23] c [(10, 36, [], (up 36), []), (16, 30, [28], (up 28 ++ [(28, 2)]), [29]), (18, 10, [], (up 10), [])]) = some (148, c, [(2, none)]) := by kernel_rfl
abbrev p1 := P C r23 [2] R
abbrev p3 := P C r8 q4 L1
abbrev p4 := P C r22 q4 (p3 C L1)
abbrev p6 := P C r21 [2] R
abbrev p5 := cd (t 132) (p6 C R) (p4 C L1)
abbrev p7 := P C r20 q13 (p5 C R L1)
abbrev p9 := P C r15 q9 L2
abbrev p11 := P C r19 [2] R
abbrev p10 := cd (t 126) (p11 C R) (p9 C L2)
abbrev p12 := Pd C r18 [] q12 (p10 C R L2)
abbrev p13 := P C r17 q11 (p12 C R L2)
abbrev p14 := Pd C r16 t16 q11 (p13 C R L2)
abbrev p15 := cd (t 79) (p14 C R L2) (p7 C R L1)
abbrev p16 := P C r14 q10 (p15 C R L1 L2)
def p8 (S : St) : Prop := LX C (fun L2 => (p16 C R L1 L2)) S
theorem p8_l (S : St) : p8 C R L1 S = LX C (fun L2 => (p16 C R L1 L2)) S := rfl
abbrev p17 := P C r13 q9 (p8 C R L1)
abbrev p18 := P C r12 q8 (p17 C R L1)
abbrev p20 := P C r11 [2] R
abbrev p19 := cd (t 75) (p20 C R) (p18 C R L1)
abbrev p21 := Pd C r10 [] q7 (p19 C R L1)
abbrev p22 := P C r9 q6 (p21 C R L1)
abbrev p23 := cd (t 33) (p22 C R L1) (p1 C R)
abbrev p24 := P C r7 q5 (p23 C R L1)
def p2 (S : St) : Prop := LX C (fun L1 => (p24 C R L1)) S
theorem p2_l (S : St) : p2 C R S = LX C (fun L1 => (p24 C R L1)) S := rfl
abbrev p25 := P C r6 q4 (p2 C R)
abbrev p26 := P C r5 q3 (p25 C R)
abbrev p27 := P C r4 q2 (p26 C R)
abbrev p28 := P C r3 q1 (p27 C R)
abbrev p29 := P C r2 q0 (p28 C R)
abbrev p30 := P C r1 [3] (p29 C R)
abbrev p31 := P C r0 [0] (p30 C R)
theorem s (S : St) : X C c (retK R) S = p31 C R S := by kernel_rfl
theorem E : type_of% @s := @s
end w19_PiecesWithin
end Go.Proofs.YtncmmbacoknefaaGreat
