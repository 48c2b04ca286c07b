/- Several texts in one: CdPi, Pa, Pb, CdP1, Pk. -/
import Derived.Test.YtncmmbacoknefaaProg
import Derived.Test.YtncmmbacoknefaaKy2
import Derived.Test.YtncmmbacoknefaaKy4
set_option linter.defProp false

/- CdPi: MADE BY PROGRAM (sxgen.py): the small code of some functions, points of it and their equations. -/
namespace Go.Proofs.Ytncmmbacoknefaa
open Go Go.RowKit Sx Sx.Q
set_option linter.unusedVariables false
variable (C : Cx) (R L1 L2 L3 L4 : St → Prop)
namespace pieces_unit
abbrev r0 : List G := [Mi 2 0]
abbrev r1 : List G := [m 3 0, e 4 (.mm true (t 3) (i 1)), m 2 4]
abbrev c : MC := sq [g r0 [0], g r1 [2], .ret]
theorem ok : compF Try.prog Try.f120 (an (rg 2) c []) = some (5, c, [(2, none)]) := by kernel_rfl
abbrev p1 := P C r1 [2] R
abbrev p2 := P C r0 [0] (p1 C R)
theorem s (S : St) : X C c (retK R) S = p2 C R S := by kernel_rfl
theorem E : type_of% @s := @s
end pieces_unit
namespace pieces_Key
abbrev q0 := [0, 1]
abbrev r0 : List G := [Mi 4 0]
abbrev r1 : List G := [m 8 0, m 9 1, K1 10 120 9, K2 11 121 8 10, m 7 11, x 12 7 0, x 13 7 1, m 5 12, m 6 13]
abbrev r2 : List G := [m 14 5, m 4 14]
abbrev c : MC := sq [g r0 q0, g r1 [5], g r2 [4], .ret]
theorem ok : compF Try.prog Try.f63 (an (rg 3) c []) = some (15, c, [(4, none)]) := by kernel_rfl
abbrev p1 := P C r2 [4] R
abbrev p2 := P C r1 [5] (p1 C R)
abbrev p3 := P C r0 q0 (p2 C R)
theorem s (S : St) : X C c (retK R) S = p3 C R S := by kernel_rfl
theorem E : type_of% @s := @s
end pieces_Key
namespace pieces_Base
abbrev q0 := [0, 1, 4]
abbrev r0 : List G := [e 4 (.new zW)]
abbrev q1 := [4, 5]
abbrev r1 : List G := [m 8 0, K1 9 109 8, m 10 1, K1 11 120 10, K1 12 109 11, K2 13 119 9 12, m 7 13, x 14 7 0, x 15 7 1, e 5 (.new zW), V 5 5 14, m 6 15]
abbrev r2 : List G := [L 16 5 5, V 5 4 16]
abbrev c : MC := sq [g r0 q0, g r1 q1, g r2 [4], .ret]
theorem ok : compF Try.prog Try.f62 (an (rg 3) c []) = some (17, c, [(4, some (true, 5))]) := by kernel_rfl
abbrev p1 := P C r2 [4] R
abbrev p2 := P C r1 q1 (p1 C R)
abbrev p3 := P C r0 q0 (p2 C R)
theorem s (S : St) : X C c (retK R) S = p3 C R S := by kernel_rfl
theorem E : type_of% @s := @s
end pieces_Base
namespace pieces_tolerable
abbrev r0 : List G := [Mb 2 false]
abbrev r1 : List G := [m 3 0, bi 4 .geq 3 0, m 5 4, ym 6 5 0, y 7 5 (.bin .leq (t 6) (i 4611686018427387904)), w 8 5 7, m 2 8]
abbrev c : MC := sq [g r0 [0], g r1 [2], .ret]
theorem ok : compF Try.prog Try.f177 (an (rg 2) c []) = some (9, c, [(2, none)]) := by kernel_rfl
abbrev p1 := P C r1 [2] R
abbrev p2 := P C r0 [0] (p1 C R)
theorem s (S : St) : X C c (retK R) S = p2 C R S := by kernel_rfl
theorem E : type_of% @s := @s
end pieces_tolerable
namespace pieces_Start
abbrev q0 := [0, 2]
abbrev z0 : List Value := [.int .i64 0, .int .i64 0, .int .i64 0, .int .i64 0, .int .i64 0, .int .i64 0, .int .i64 0, .bool false, .bool false, .int .u64 0, .int .u64 0, .int .u64 0, .int .u64 0, .bool false, .int .u64 0, .int .u64 0, .int .u64 0, .int .u64 0, .bool false, .int .u64 0, .int .u64 0, .int .u64 0, .int .u64 0, .bool false, .int .u64 0, .int .u64 0, .int .u64 0, .int .u64 0]
abbrev r0 : List G := [e 2 (.new z0), Mi 3 0]
abbrev q1 := [0, 2, 6]
abbrev r1 : List G := [m 4 0, K1 5 177 4, e 6 (.un .not (t 5))]
abbrev q2 := [2, 3]
abbrev r2 : List G := [e 7 (.bd z0 []), V 28 2 7, Mi 3 9]
abbrev r3 : List G := [m 8 0, e 9 (.bd z0 [(0, 1, (t 8))]), V 28 2 9, Mi 3 0]
abbrev c : MC := sq [g r0 q0, sq [g r1 q1, ci 6 (sq [g r2 q2, .ret]) .skip], g r3 q2, .ret]
theorem ok : compF Try.prog Try.f163 (an (rg 4) c []) = some (10, c, [(2, some (true, 28)), (3, none)]) := by kernel_rfl
abbrev p1 := P C r3 q2 R
abbrev p3 := P C r2 q2 R
abbrev p2 := cd (t 6) (p3 C R) (p1 C R)
abbrev p4 := P C r1 q1 (p2 C R)
abbrev p5 := P C r0 q0 (p4 C R)
theorem s (S : St) : X C c (retK R) S = p5 C R S := by kernel_rfl
theorem E : type_of% @s := @s
end pieces_Start
namespace pieces_work__begin
abbrev q0 := [0, 3]
abbrev r0 : List G := [e 3 (.box true 2 (t 1))]
abbrev r1 : List G := [m 4 0, e 5 (.nc (t 4)), a 6 0 5, a 7 1 6, l 8 7, m 9 0, e 10 (.nc (t 9)), a 11 0 10, a 12 2 11, l 13 12, b 14 .add 8 13, e 15 (.nc (t 4)), a 16 0 15, a 17 1 16]
abbrev t1 : List G := [v 17 14]
abbrev r2 : List G := [m 18 0, m 19 0, m 20 0, m 21 0, m 22 0, L 23 2 3, a 24 0 3, l 25 24, a 26 1 3, l 27 26, m 28 0, e 29 (.nc (t 28)), a 30 0 29, a 31 0 30]
abbrev t2 : GT := br 32 (.ld false 1 (t 31)) (br 33 (.call false 63 [(t 27), (t 32)]) (br 34 (.call false 49 []) (br 35 (.nc (t 18)) (br 36 (.fa 0 (t 35)) (br 37 (.fa 3 (t 36)) (.br none none (.st true 2 (t 37) (t 23)) (br 38 (.nc (t 19)) (br 39 (.fa 0 (t 38)) (br 40 (.fa 5 (t 39)) (.br none none (.st false 1 (t 40) (t 25)) (br 41 (.nc (t 20)) (br 42 (.fa 0 (t 41)) (br 43 (.fa 2 (t 42)) (.br none none (.st false 1 (t 43) (i 1)) (br 44 (.nc (t 21)) (br 45 (.fa 0 (t 44)) (br 46 (.fa 6 (t 45)) (.br none none (.st false 1 (t 46) (t 33)) (br 47 (.nc (t 22)) (br 48 (.fa 0 (t 47)) (br 49 (.fa 7 (t 48)) (.br none none (.st true 21 (t 49) (t 34)) .fin .no) .no) .no) .no) .no) .no) .no) .no) .no) .no) .no) .no) .no) .no) .no) .no) .no) .no) .no) .no) .no) .no) .no
abbrev c : MC := sq [g r0 q0, gd r1 t1 q0, gh r2 t2 [0, 3, 24, 26, 28, 29, 30] []]
theorem ok : compF Try.prog Try.f181 (an (rg 3) c [(1, 14, [], (up 14), []), (2, 99998, [0, 1, 2, 3, 4, 5, 6, 7, 8, 9, 10, 11, 12, 13], [], [0, 3, 24, 26, 28, 29, 30])]) = some (50, c, []) := by kernel_rfl
abbrev p1 := Ph C r2 t2 [0, 3, 24, 26, 28, 29, 30] [] R
abbrev p2 := Pd C r1 t1 q0 (p1 C R)
abbrev p3 := P C r0 q0 (p2 C R)
theorem s (S : St) : X C c (retK R) S = p3 C R S := by kernel_rfl
theorem E : type_of% @s := @s
end pieces_work__begin
namespace pieces_work__end
abbrev q0 := [0, 7]
abbrev r0 : List G := [m 2 0, e 3 (.nc (t 2)), a 4 0 3, a 5 2 4, l 6 5, bi 7 .gtr 6 0]
abbrev z0 : List Value := [.int .i64 0, .int .i64 0, .int .i64 0, .bool false, .bool false, .int .u64 0, .int .u64 0, .int .u64 0, .int .u64 0, .bool false, .int .u64 0, .int .u64 0, .int .u64 0, .int .u64 0, .bool false, .int .u64 0, .int .u64 0, .int .u64 0, .int .u64 0, .bool false, .int .u64 0, .int .u64 0, .int .u64 0, .int .u64 0]
abbrev r1 : List G := [m 8 0, m 9 0, e 10 (.nc (t 9)), a 11 28 10, l 12 11, m 13 0, e 14 (.nc (t 13)), a 15 0 14, a 16 1 15, l 17 16, m 18 0, e 19 (.nc (t 18)), a 20 0 19, a 21 2 20, l 22 21, m 23 0, e 24 (.nc (t 23)), a 25 0 24, a 26 6 25, l 27 26, m 28 0, e 29 (.nc (t 28)), a 30 0 29, a 31 7 30, L 32 21 31, e 33 (.bd z0 [(0, 1, (t 17)), (1, 1, (t 22)), (2, 1, (t 27)), (3, 21, (t 32))]), e 34 (.gen false (.bsl 145 1 [0]) [(t 33)]), e 35 (.gen false (.bi .append [145, 145] 145 [false, false]) [(t 12), (t 34)]), e 36 (.nc (t 8)), a 37 28 36]
abbrev t1 : List G := [v 37 35]
abbrev c : MC := sq [g r0 q0, ci 7 (gk false false r1 t1 []) .skip]
theorem ok : compF Try.prog Try.f166 (an (rg 2) c [(1, 300030, [], (up 26 ++ [(26, 1), (27, 1), (28, 0), (29, 0)]), [])]) = some (38, c, []) := by kernel_rfl
abbrev p2 := Pc C false false r1 t1 [] R
abbrev p1 := cd (t 7) (p2 C R) R
abbrev p3 := P C r0 q0 (p1 C R)
theorem s (S : St) : X C c (retK R) S = p3 C R S := by kernel_rfl
theorem E : type_of% @s := @s
end pieces_work__end
namespace pieces_work__step
abbrev q0 := [0, 3]
abbrev r0 : List G := [e 3 (.box true 2 (t 1))]
abbrev q1 := [0, 3, 13]
abbrev r1 : List G := [m 8 0, e 9 (.nc (t 8)), a 10 0 9, a 11 2 10, l 12 11, bi 13 .gtr 12 0]
abbrev q2 := [0, 3, 4]
abbrev r2 : List G := [m 15 0, e 16 (.nc (t 15)), a 17 0 16, a 18 6 17, l 19 18, m 20 0, e 21 (.nc (t 20)), a 22 0 21, a 23 0 22, l 24 23, k2 25 62 19 24, a 26 1 3, l 27 26, m 28 0, e 29 (.nc (t 28)), a 30 0 29, a 31 0 30, l 32 31, a 33 0 3, l 34 33, m 35 0, e 36 (.nc (t 35)), a 37 0 36, a 38 3 37, a 39 0 38, l 40 39, k2 41 180 34 40, k4 42 55 25 27 32 41, m 14 42, x 43 14 0, x 44 14 1]
abbrev z0 : List Value := [.bool false, .bool false, .int .u64 0, .int .u64 0, .int .u64 0, .int .u64 0, .bool false, .int .u64 0, .int .u64 0, .int .u64 0, .int .u64 0, .bool false, .int .u64 0, .int .u64 0, .int .u64 0, .int .u64 0, .bool false, .int .u64 0, .int .u64 0, .int .u64 0, .int .u64 0]
abbrev t2 : List G := [e 4 (.new z0), V 21 4 43, m 5 44]
abbrev q3 := [0, 3, 6, 7]
abbrev r3 : List G := [m 46 0, e 47 (.nc (t 46)), a 48 0 47, a 49 7 48, L 50 21 49, L 51 21 4, k2 52 60 50 51, m 45 52, x 53 45 0, x 54 45 1]
abbrev t3 : List G := [e 6 (.new z0), V 21 6 53, m 7 54]
abbrev q4 := [0, 3, 6, 55]
abbrev r4 : List G := [m 55 7]
abbrev r5 : List G := [m 56 0, m 57 0, L 58 21 6, a 59 0 3, l 60 59, e 61 (.nc (t 56)), a 62 0 61, a 63 7 62]
abbrev t5 : GT := .br none none (.st true 21 (t 63) (t 58)) (br 64 (.nc (t 57)) (br 65 (.fa 0 (t 64)) (br 66 (.fa 5 (t 65)) (.br none none (.st false 1 (t 66) (t 60)) .fin .no) .no) .no) .no) .no
abbrev r6 : List G := [m 67 0, e 68 (.nc (t 67)), a 69 0 68, a 70 2 69, l 71 70, bi 72 .add 71 1, e 73 (.nc (t 67)), a 74 0 73, a 75 2 74, v 75 72]
abbrev r7 : List G := [m 76 0, K1 77 166 76]
abbrev r8 : List G := [m 78 0, L 79 2 3, K2 80 181 78 79]
abbrev c : MC := sq [g r0 q0, sq [g r1 q1, ci 13 (sq [gd r2 t2 q2, gd r3 t3 q3, g r4 q4, ci 55 (sq [gh r5 t5 [0, 3, 6, 56, 59, 61, 62] [0], g r6 [], .ret]) .skip]) .skip], g r7 q0, g r8 []]
theorem ok : compF Try.prog Try.f165 (an (rg 9) c [(2, 32, [30], (up 30 ++ [(30, 2)]), [31]), (3, 11, [9], (up 9 ++ [(9, 2)]), [10]), (5, 99998, [0, 1, 2, 3, 4, 5, 6, 7], [], [0, 3, 6, 56, 59, 61, 62])]) = some (81, c, []) := by kernel_rfl
abbrev p1 := P C r8 [] R
abbrev p2 := P C r7 q0 (p1 C R)
abbrev p5 := P C r6 [] R
abbrev p6 := Ph C r5 t5 [0, 3, 6, 56, 59, 61, 62] [0] (p5 C R)
abbrev p4 := cd (t 55) (p6 C R) (p2 C R)
abbrev p7 := P C r4 q4 (p4 C R)
abbrev p8 := Pd C r3 t3 q3 (p7 C R)
abbrev p9 := Pd C r2 t2 q2 (p8 C R)
abbrev p3 := cd (t 13) (p9 C R) (p2 C R)
abbrev p10 := P C r1 q1 (p3 C R)
abbrev p11 := P C r0 q0 (p10 C R)
theorem s (S : St) : X C c (retK R) S = p11 C R S := by kernel_rfl
theorem E : type_of% @s := @s
end pieces_work__step
namespace pieces_All
abbrev q0 := [0, 1]
abbrev r0 : List G := [e 4 (.mv (.const (.slice none 0 0))), Mi 5 0]
abbrev q1 := [0, 6, 7]
abbrev z0 : List Value := [.int .i64 0, .int .i64 0, .int .i64 0, .int .i64 0, .int .i64 0, .int .i64 0, .int .i64 0, .bool false, .bool false, .int .u64 0, .int .u64 0, .int .u64 0, .int .u64 0, .bool false, .int .u64 0, .int .u64 0, .int .u64 0, .int .u64 0, .bool false, .int .u64 0, .int .u64 0, .int .u64 0, .int .u64 0, .bool false, .int .u64 0, .int .u64 0, .int .u64 0, .int .u64 0]
abbrev r1 : List G := [m 12 1, K1 13 163 12, m 11 13, x 14 11 0, x 15 11 1, e 6 (.new z0), V 28 6 14, m 7 15]
abbrev q2 := [0, 6, 7, 17]
abbrev r2 : List G := [m 16 7, bi 17 .eql 16 0]
abbrev r3 : List G := [m 18 0, K1 19 164 18, m 7 19]
abbrev q3 := [0, 6, 7, 21]
abbrev r4 : List G := [m 20 7, bi 21 .neq 20 0]
abbrev q4 := [4, 5]
abbrev r5 : List G := [m 22 7, e 4 (.mv (.const (.slice none 0 0))), m 5 22]
abbrev q5 := [0, 6, 25]
abbrev r6 : List G := [m 23 0, e 24 (.len false (t 23)), bi 25 .gtr 24 1073741824]
abbrev r7 : List G := [e 4 (.mv (.const (.slice none 0 0))), Mi 5 3]
abbrev q6 := [0, 8]
abbrev z1 : List Value := [.int .i64 0, .int .i64 0, .int .i64 0, .int .i64 0, .int .i64 0, .int .i64 0, .int .i64 0, .bool false, .bool false, .int .u64 0, .int .u64 0, .int .u64 0, .int .u64 0, .bool false, .int .u64 0, .int .u64 0, .int .u64 0, .int .u64 0, .bool false, .int .u64 0, .int .u64 0, .int .u64 0, .int .u64 0, .bool false, .int .u64 0, .int .u64 0, .int .u64 0, .int .u64 0, (.slice none 0 0)]
abbrev r8 : List G := [L 26 28 6, e 27 (.bd z1 [(0, 28, (t 26))]), e 8 (.gen false (.al 177) []), V 29 8 27]
abbrev q7 := [8, 28, 29, 30]
abbrev r9 : List G := [m 28 0, e 29 (.len false (t 28)), Mi 30 0]
abbrev q8 := [8, 28, 29, 30, 31]
abbrev r10 : List G := [b 31 .lss 30 29]
abbrev q9 := [8, 10, 28, 29, 30]
abbrev r11 : List G := [j 32 2 28 30, L 33 2 32, e 10 (.new [.int .i64 0, .int .i64 0]), V 2 10 33]
abbrev r12 : List G := [L 34 2 10, K2 35 165 8 34]
abbrev r13 : List G := [bi 36 .add 30 1, m 30 36]
abbrev r14 : List G := [K1 37 166 8]
abbrev r15 : List G := [a 38 28 8, l 39 38, m 4 39, Mi 5 0]
abbrev c : MC := sq [g r0 q0, g r1 q1, sq [g r2 q2, ci 17 (g r3 q1) .skip], sq [g r4 q3, ci 21 (sq [g r5 q4, .ret]) .skip], sq [g r6 q5, ci 25 (sq [g r7 q4, .ret]) .skip], g r8 q6, sq [g r9 q7, .block 0 (.loop (sq [g r10 q8, ci 31 .skip (.exit 0), .block 1 (sq [g r11 q9, g r12 q7]), g r13 q7]))], g r14 [8], g r15 q4, .ret]
theorem ok : compF Try.prog Try.f122 (an (rg 16) c []) = some (40, c, [(4, none), (5, none)]) := by kernel_rfl
abbrev p1 := P C r15 q4 R
abbrev p2 := P C r14 [8] (p1 C R)
abbrev p4 := P C r13 q7 L1
abbrev p5 := P C r12 q7 (p4 C L1)
abbrev p6 := P C r11 q9 (p5 C L1)
abbrev p7 := cd (t 31) (p6 C L1) (p2 C R)
abbrev p8 := P C r10 q8 (p7 C R L1)
def p3 (S : St) : Prop := LX C (fun L1 => (p8 C R L1)) S
theorem p3_l (S : St) : p3 C R S = LX C (fun L1 => (p8 C R L1)) S := rfl
abbrev p9 := P C r9 q7 (p3 C R)
abbrev p10 := P C r8 q6 (p9 C R)
abbrev p12 := P C r7 q4 R
abbrev p11 := cd (t 25) (p12 C R) (p10 C R)
abbrev p13 := P C r6 q5 (p11 C R)
abbrev p15 := P C r5 q4 R
abbrev p14 := cd (t 21) (p15 C R) (p13 C R)
abbrev p16 := P C r4 q3 (p14 C R)
abbrev p18 := P C r3 q1 (p16 C R)
abbrev p17 := cd (t 17) (p18 C R) (p16 C R)
abbrev p19 := P C r2 q2 (p17 C R)
abbrev p20 := P C r1 q1 (p19 C R)
abbrev p21 := P C r0 q0 (p20 C R)
theorem s (S : St) : X C c (retK R) S = p21 C R S := by kernel_rfl
theorem E : type_of% @s := @s
end pieces_All
end Go.Proofs.Ytncmmbacoknefaa

/- Pa: pieces: the plain state machine; begin, end and step of the program. -/
namespace Go.Proofs.Ytncmmbacoknefaa
open Go Go.RowKit Sx
set_option linter.unusedVariables false
set_option linter.unusedSimpArgs false
structure PcS where
 t : Int
 i : Int
 n : Int
 T : Int
 V : Int
 L : Int
 k : Int
 c : Cn
structure PcV where
 i : Int
 n : Int
 k : Int
 c : Cn
def pcell (x : PcV) : List Value := [.int .i64 x.i, .int .i64 x.n, .int .i64 x.k, .bool x.c.o, .bool (sg x.c.p), .int .u64 (lb0 (ab x.c.p)), .int .u64 (lb1 (ab x.c.p)), .int .u64 (lb2 (ab x.c.p)), .int .u64 (lb3 (ab x.c.p)), .bool (sg x.c.q), .int .u64 (lb0 (ab x.c.q)), .int .u64 (lb1 (ab x.c.q)), .int .u64 (lb2 (ab x.c.q)), .int .u64 (lb3 (ab x.c.q)), .bool (sg x.c.p1), .int .u64 (lb0 (ab x.c.p1)), .int .u64 (lb1 (ab x.c.p1)), .int .u64 (lb2 (ab x.c.p1)), .int .u64 (lb3 (ab x.c.p1)), .bool (sg x.c.q1), .int .u64 (lb0 (ab x.c.q1)), .int .u64 (lb1 (ab x.c.q1)), .int .u64 (lb2 (ab x.c.q1)), .int .u64 (lb3 (ab x.c.q1))]
def pcells (l : List PcV) : List Value := l.flatMap pcell
theorem pcells_app (a b : List PcV) : pcells (a ++ b) = pcells a ++ pcells b := by unfold pcells; rw [List.flatMap_append]
theorem pcells_one (x : PcV) : pcells [x] = pcell x := by unfold pcells; simp
abbrev qcs (s : PcS) (v : Value) : List Value := [.int .i64 s.t, .int .i64 s.i, .int .i64 s.n, .int .i64 s.T, .int .i64 s.V, .int .i64 s.L, .int .i64 s.k, .bool s.c.o, .bool (sg s.c.p), .int .u64 (lb0 (ab s.c.p)), .int .u64 (lb1 (ab s.c.p)), .int .u64 (lb2 (ab s.c.p)), .int .u64 (lb3 (ab s.c.p)), .bool (sg s.c.q), .int .u64 (lb0 (ab s.c.q)), .int .u64 (lb1 (ab s.c.q)), .int .u64 (lb2 (ab s.c.q)), .int .u64 (lb3 (ab s.c.q)), .bool (sg s.c.p1), .int .u64 (lb0 (ab s.c.p1)), .int .u64 (lb1 (ab s.c.p1)), .int .u64 (lb2 (ab s.c.p1)), .int .u64 (lb3 (ab s.c.p1)), .bool (sg s.c.q1), .int .u64 (lb0 (ab s.c.q1)), .int .u64 (lb1 (ab s.c.q1)), .int .u64 (lb2 (ab s.c.q1)), .int .u64 (lb3 (ab s.c.q1)), v]
def un (t : Int) : Int := if t < 1 then 1 else t
def ke (v t : Int) : Int := v / un t
theorem un_pos (t : Int) : 0 < un t := by unfold un; split <;> omega
def pcb (t i xt xv : Int) : PcS := ⟨t, i, 1, xt, xv, xt, ke xv t, cO⟩
def pcl (s : PcS) : List PcV := if 0 < s.n then [⟨s.i, s.n, s.k, s.c⟩] else []
def pcm (s : PcS) (xt xv : Int) : Cn × Bool := cmt s.c (thc (s.k * un s.t) xv s.t (xt - s.T))
def pcg (s : PcS) (xt xv : Int) : Bool := decide (0 < s.n) && (pcm s xt xv).2
def pcn (s : PcS) (xt xv : Int) : PcS := if pcg s xt xv = true then ⟨s.t, s.i, s.n + 1, s.T, s.V, xt, s.k, (pcm s xt xv).1⟩ else pcb s.t (s.i + s.n) xt xv
def pce (s : PcS) (xt xv : Int) : List PcV := if pcg s xt xv = true then [] else pcl s
theorem un_i64 {t : Int} (h : I64 t) : I64 (un t) := by
 have := h.1
 have := h.2
 unfold un I64
 split <;> constructor <;> omega
theorem ediv_i64 {a b : Int} (ha : I64 a) (h : 0 < b) : I64 (a / b) := by
 have h1 := ha.1
 have h2 := ha.2
 refine ⟨?_, ?_⟩
 ·rw [Int.le_ediv_iff_mul_le h]
  have : -9223372036854775808 * b ≤ -9223372036854775808 * 1 := Int.mul_le_mul_of_nonpos_left (by decide) (by omega)
  omega
 ·refine Int.le_of_lt_add_one ((Int.ediv_lt_iff_lt_mul h).2 ?_)
  have : (9223372036854775807 + 1) * 1 ≤ (9223372036854775807 + 1) * b := Int.mul_le_mul_of_nonneg_left (by omega) (by decide)
  omega
theorem ke_i64 {v t : Int} (h : I64 v) : I64 (ke v t) := ediv_i64 h (un_pos t)
theorem ke_base (v t : Int) : ke v t * un t ≤ v ∧ v < ke v t * un t + un t := by
 have hu := un_pos t
 have h1 := Int.emod_add_mul_ediv v (un t)
 have h2 := Int.emod_nonneg v (show un t ≠ 0 by omega)
 have h3 := Int.emod_lt_of_pos v hu
 unfold ke
 rw [Int.mul_comm (v / un t)]
 omega
theorem fdiv_tdiv {a b : Int} (h : 0 < b) : a / b = if a.tmod b ≠ 0 ∧ a < 0 then a.tdiv b - 1 else a.tdiv b := by
 rcases Int.lt_or_le a 0 with ha | ha
 ·have h1 := Int.mul_tdiv_add_tmod a b
  have h2 := Int.emod_add_mul_ediv a b
  have h3 := Int.emod_nonneg a (show b ≠ 0 by omega)
  have h4 := Int.emod_lt_of_pos a h
  have h5 : a.tmod b ≤ 0 := by have := Int.tmod_nonneg (a := -a) b (by omega); rw [Int.neg_tmod] at this; omega
  have h6 : -b < a.tmod b := by have := Int.tmod_lt_of_pos (-a) h; rw [Int.neg_tmod] at this; omega
  generalize a.tmod b = r at *
  generalize a.tdiv b = q at *
  generalize a % b = r' at *
  generalize a / b = q' at *
  have h7 : b * (q - q') = r' - r := by rw [Int.mul_sub]; omega
  by_cases hr : r = 0
  ·rw [if_neg (fun h => h.1 hr)]
   subst hr
   have : q - q' = 0 := by
    rcases Int.lt_trichotomy (q - q') 0 with hq | hq | hq
    ·have : b * (q - q') ≤ b * (-1) := Int.mul_le_mul_of_nonneg_left (by omega) (by omega)
     omega
    ·exact hq
    ·have : b * 1 ≤ b * (q - q') := Int.mul_le_mul_of_nonneg_left (by omega) (by omega)
     omega
   omega
  ·rw [if_pos ⟨hr, ha⟩]
   have : q - q' = 1 := by
    rcases Int.lt_trichotomy (q - q') 1 with hq | hq | hq
    ·have : b * (q - q') ≤ b * 0 := Int.mul_le_mul_of_nonneg_left (by omega) (by omega)
     omega
    ·exact hq
    ·have : b * 2 ≤ b * (q - q') := Int.mul_le_mul_of_nonneg_left (by omega) (by omega)
     omega
   omega
 ·rw [if_neg (by omega)]
  exact (Int.tdiv_eq_ediv_of_nonneg ha).symm
theorem gx_unit (t : Int) (W : World) : Gives Try.prog 120 [.int .i64 t] W (· = .int .i64 (un t)) := by
 refine gives_known en_pieces_unit ?_
 unfold un
 refine known_of (enter Try.func120 pieces_unit.ok (args := [_]) (by simp) ?_)
 repeat' (first | simp (disch := omega) only [sxE, pieces_unit.E, Nat.reduceAdd, Nat.reduceEqDiff, Nat.reduceMul, Nat.reduceSub, Int.reduceAdd, Int.reduceSub, Int.reduceMul, Int.reduceNeg, Int.reduceLT, Int.reduceLE, Int.reduceEq, Int.reduceToNat, ↓reduceIte, Int.reducePow, Nat.reduceLeDiff, Nat.reduceLT, ne_eq, eq_self, List.length_cons, List.length_nil, qxE] | (with_reducible refine cregF ?_))
theorem gx_divisible {a b : Int} (hb : 0 < b) (W : World) : Gives Try.prog 162 [.int .i64 a, .int .i64 b] W (· = .bool true) := by
 refine gives_known en_checked_divisible ?_
 have b0 : (b == 0) = false := beq_eq_false_iff_ne.2 (by omega)
 have b1 : (b == -1) = false := beq_eq_false_iff_ne.2 (by omega)
 refine known_of (enter Try.func162 checked_divisible.ok (args := [_, _]) (by simp) ?_)
 repeat' (first | simp (disch := omega) only [sxE, checked_divisible.E, Nat.reduceAdd, Nat.reduceEqDiff, Nat.reduceMul, Nat.reduceSub, Int.reduceAdd, Int.reduceSub, Int.reduceMul, Int.reduceNeg, Int.reduceLT, Int.reduceLE, Int.reduceEq, Int.reduceToNat, ↓reduceIte, Int.reducePow, Nat.reduceLeDiff, Nat.reduceLT, ne_eq, eq_self, List.length_cons, List.length_nil, qxE, b0, b1] | ((with_reducible first | apply cond_beq | apply gd_beq) <;> (intro hc; first | simp only [beq_iff_eq.2 hc] | simp only [beq_eq_false_iff_ne.2 hc] | skip)) | ((with_reducible first | apply cond_dec | apply gd_dec) <;> (intro hc; first | simp only [decide_eq_true hc] | simp only [decide_eq_false hc] | skip)) | ((with_reducible first | apply cond_of | apply gd_of) <;> (intro hc; try simp only [hc])) | (with_reducible refine cregF ?_))
theorem gx_floordiv {a b : Int} (ha : I64 a) (h : 0 < b) (W : World) : Gives Try.prog 121 [.int .i64 a, .int .i64 b] W (· = .tuple #[.int .i64 (a / b), .bool true]) := by
 refine gives_known en_checked_FloorDiv ?_
 have k := fun W => gx_divisible (a := a) h W
 have hf := fdiv_tdiv (a := a) h
 have hi := ediv_i64 ha h
 have d2 : decide (b < 0) = false := decide_eq_false (by omega)
 have x0 : ((0 : Int) == 0) = true := rfl
 have x1 : (true == false) = false := rfl
 have x2 : (false == false) = true := rfl
 refine known_of (enter Try.func121 checked_FloorDiv.ok (args := [_, _]) (by simp) ?_)
 rcases Int.lt_or_le a 0 with ha0 | ha0
 ·have d1 : decide (a < 0) = true := decide_eq_true ha0
  by_cases hr : a.tmod b = 0
  ·rw [if_neg (fun h => h.1 hr)] at hf
   have hw : IntKind.i64.wrap (a.tdiv b) = a / b := by rw [← hf]; exact IntWalk.i64_in _ hi
   clear hf hi
   generalize a / b = Q at *
   repeat' (first | simp (disch := omega) only [sxE, checked_FloorDiv.E, Nat.reduceAdd, Nat.reduceEqDiff, Nat.reduceMul, Nat.reduceSub, Int.reduceAdd, Int.reduceSub, Int.reduceMul, Int.reduceNeg, Int.reduceLT, Int.reduceLE, Int.reduceEq, Int.reduceToNat, ↓reduceIte, Int.reducePow, Nat.reduceLeDiff, Nat.reduceLT, ne_eq, eq_self, List.length_cons, List.length_nil, qxE, hw, hr, x0, d1, d2, x1, x2, Bool.not_true] | (with_reducible refine Sx.call_at (f := 162) (fun W hW => k W) ?_) | ((with_reducible first | apply cond_beq | apply gd_beq) <;> (intro hc; first | simp only [beq_iff_eq.2 hc] | simp only [beq_eq_false_iff_ne.2 hc] | skip)) | ((with_reducible first | apply cond_dec | apply gd_dec) <;> (intro hc; first | simp only [decide_eq_true hc] | simp only [decide_eq_false hc] | skip)) | ((with_reducible first | apply cond_of | apply gd_of) <;> (intro hc; try simp only [hc])) | (with_reducible refine cregF ?_))
  ·rw [if_pos ⟨hr, ha0⟩] at hf
   have h1 := Int.ediv_neg_of_neg_of_pos ha0 h
   have h2 := hi.1
   have hw : IntKind.i64.wrap (a.tdiv b) = a / b + 1 := by rw [show a.tdiv b = a / b + 1 by omega]; exact IntWalk.i64_in _ ⟨by omega, by omega⟩
   clear hf hi
   generalize a / b = Q at *
   have e : Q + 1 - 1 = Q := by omega
   have r1 : (a.tmod b == 0) = false := beq_eq_false_iff_ne.2 hr
   repeat' (first | simp (disch := omega) only [sxE, checked_FloorDiv.E, Nat.reduceAdd, Nat.reduceEqDiff, Nat.reduceMul, Nat.reduceSub, Int.reduceAdd, Int.reduceSub, Int.reduceMul, Int.reduceNeg, Int.reduceLT, Int.reduceLE, Int.reduceEq, Int.reduceToNat, ↓reduceIte, Int.reducePow, Nat.reduceLeDiff, Nat.reduceLT, ne_eq, eq_self, List.length_cons, List.length_nil, qxE, hw, e, r1, d1, d2, x1, x2, Bool.not_true] | (with_reducible refine Sx.call_at (f := 162) (fun W hW => k W) ?_) | ((with_reducible first | apply cond_beq | apply gd_beq) <;> (intro hc; first | simp only [beq_iff_eq.2 hc] | simp only [beq_eq_false_iff_ne.2 hc] | skip)) | ((with_reducible first | apply cond_dec | apply gd_dec) <;> (intro hc; first | simp only [decide_eq_true hc] | simp only [decide_eq_false hc] | skip)) | ((with_reducible first | apply cond_of | apply gd_of) <;> (intro hc; try simp only [hc])) | (with_reducible refine cregF ?_))
 ·have hw : IntKind.i64.wrap (a / b) = a / b := IntWalk.i64_in _ hi
  have d1 : decide (a < 0) = false := decide_eq_false (by omega)
  clear hf hi
  repeat' (first | simp (disch := omega) only [sxE, checked_FloorDiv.E, Nat.reduceAdd, Nat.reduceEqDiff, Nat.reduceMul, Nat.reduceSub, Int.reduceAdd, Int.reduceSub, Int.reduceMul, Int.reduceNeg, Int.reduceLT, Int.reduceLE, Int.reduceEq, Int.reduceToNat, ↓reduceIte, Int.reducePow, Nat.reduceLeDiff, Nat.reduceLT, ne_eq, eq_self, List.length_cons, List.length_nil, qxE, hw, d1, d2, x1, x2, Bool.not_true] | (with_reducible refine Sx.call_at (f := 162) (fun W hW => k W) ?_) | ((with_reducible first | apply cond_beq | apply gd_beq) <;> (intro hc; first | simp only [beq_iff_eq.2 hc] | simp only [beq_eq_false_iff_ne.2 hc] | skip)) | ((with_reducible first | apply cond_dec | apply gd_dec) <;> (intro hc; first | simp only [decide_eq_true hc] | simp only [decide_eq_false hc] | skip)) | ((with_reducible first | apply cond_of | apply gd_of) <;> (intro hc; try simp only [hc])) | (with_reducible refine cregF ?_))
theorem gx_key {v t : Int} (hv : I64 v) (ht : I64 t) (W : World) : Gives Try.prog 63 [.int .i64 v, .int .i64 t] W (· = .int .i64 (ke v t)) := by
 refine gives_known en_pieces_Key ?_
 have k1 := fun W => gx_unit t W
 have k2 := fun W => gx_floordiv hv (un_pos t) W
 unfold ke
 generalize un t = u at *
 refine known_of (enter Try.func63 pieces_Key.ok (args := [_, _]) (by simp) ?_)
 repeat' (first | simp (disch := omega) only [sxE, pieces_Key.E, Nat.reduceAdd, Nat.reduceEqDiff, Nat.reduceMul, Nat.reduceSub, Int.reduceAdd, Int.reduceSub, Int.reduceMul, Int.reduceNeg, Int.reduceLT, Int.reduceLE, Int.reduceEq, Int.reduceToNat, ↓reduceIte, Int.reducePow, Nat.reduceLeDiff, Nat.reduceLT, ne_eq, eq_self, List.length_cons, List.length_nil, qxE] | (with_reducible refine Sx.call_at (f := 120) (fun W hW => k1 W) ?_) | (with_reducible refine Sx.call_at (f := 121) (fun W hW => k2 W) ?_) | (with_reducible refine cregF ?_))
theorem gx_base {k t : Int} (hk : I64 k) (ht : I64 t) (W : World) : Gives Try.prog 62 [.int .i64 k, .int .i64 t] W (· = WX (k * un t)) := by
 refine gives_known en_pieces_Base ?_
 have k1 := fun W => gx_unit t W
 have o1 := fun W => gx_of hk W
 have o2 := fun W => gx_of (un_i64 ht) W
 have f1 := (bd_i64 hk).fits
 have f2 := (bd_i64 (un_i64 ht)).fits
 have f3 := (bd_mul (bd_i64 hk) (bd_i64 (un_i64 ht))).fits
 have mu := fun W => gx_mul f1 f2 f3 W
 generalize un t = u at *
 refine known_of (enter Try.func62 pieces_Base.ok (args := [_, _]) (by simp) ?_)
 repeat' (first | simp (disch := omega) only [sxE, pieces_Base.E, Nat.reduceAdd, Nat.reduceEqDiff, Nat.reduceMul, Nat.reduceSub, Int.reduceAdd, Int.reduceSub, Int.reduceMul, Int.reduceNeg, Int.reduceLT, Int.reduceLE, Int.reduceEq, Int.reduceToNat, ↓reduceIte, Int.reducePow, Nat.reduceLeDiff, Nat.reduceLT, ne_eq, eq_self, List.length_cons, List.length_nil, qxE] | (with_reducible refine Sx.call_at (f := 120) (fun W hW => k1 W) ?_) | (with_reducible refine Sx.call_at (f := 109) (fun W hW => o1 W) ?_) | (with_reducible refine Sx.call_at (f := 109) (fun W hW => o2 W) ?_) | (with_reducible refine Sx.call_at (f := 119) (fun W hW => mu W) ?_) | (with_reducible refine cregF ?_))
set_option maxRecDepth 100000 in
theorem pc_begin {w : World} {b : Nat} {s : PcS} {v : Value} {xt xv : Int} (hb : HB w b (qcs s v).toArray) (hv : one v = true) (ht : I64 s.t) (hxv : I64 xv) (hi0 : 0 ≤ s.i) (hi1 : s.i ≤ 1073741824) (hn0 : 0 ≤ s.n) (hn1 : s.n ≤ 1073741824) : Calls Try.prog 181 #[.pointer (some ⟨b, 0, none⟩), .agg #[.int .i64 xt, .int .i64 xv]] w fun e w' =>
  e = .returned (.tuple #[]) ∧ HB w' b (qcs (pcb s.t (s.i + s.n) xt xv) v).toArray ∧ Moves [b] w w' := by
 have k1 := fun W => gx_kstart W
 have k2 := fun W => gx_key hxv ht W
 have hle := Nat.le_of_lt hb.lt
 obtain ⟨st, si, sn, sT, sV, sL, sk, o, p, q, p1, q1⟩ := s
 have hR : ∀ {x : Kn}, ∀ k ∈ [Kn.g (xW w b [b])], k ∈ [x, Kn.g (xW w b [b])] ∧ b ∉ k.bs := fun k hk => ⟨List.mem_cons_of_mem _ hk, by rw [List.mem_singleton.1 hk]; exact fun h => (xW_bs.1 h).2 (List.mem_singleton.2 rfl)⟩
 refine (enterB (n0 := b) (ex := [b]) (L := [.g (cK b (qcs ⟨st, si, sn, sT, sV, sL, sk, o, p, q, p1, q1⟩ v)), .g (xW w b [b])]) (ι := Unit) (fun _ => True) (fun _ => .tuple #[]) (fun _ => [.g (cK b (qcs (pcb st (si + sn) xt xv) v)), .g (xW w b [b])]) Try.func181 pieces_work__begin.ok (args := [.pointer (some ⟨b, 0, none⟩), .agg #[.int .i64 xt, .int .i64 xv]]) (by simp) hle (fun k hk => ?_) (fun _ => (by first | exact List.mem_cons_self | exact List.mem_cons_of_mem _ List.mem_cons_self | exact List.mem_cons_of_mem _ (List.mem_cons_of_mem _ List.mem_cons_self) | exact List.mem_cons_of_mem _ (List.mem_cons_of_mem _ (List.mem_cons_of_mem _ List.mem_cons_self)) | exact List.mem_cons_of_mem _ (List.mem_cons_of_mem _ (List.mem_cons_of_mem _ (List.mem_cons_of_mem _ List.mem_cons_self))))) ?run).mono ?fin
 case fin =>
  rintro e w' ⟨-, -, rfl, hk, hm⟩
  exact ⟨rfl, (hk _ List.mem_cons_self).2, hm⟩
 case run =>
  dsimp only at *
  repeat' (first | simp (disch := omega) only [sxE, pieces_work__begin.E, Nat.reduceAdd, Nat.reduceEqDiff, Nat.reduceMul, Nat.reduceSub, Int.reduceAdd, Int.reduceSub, Int.reduceMul, Int.reduceNeg, Int.reduceLT, Int.reduceLE, Int.reduceEq, Int.reduceToNat, ↓reduceIte, Int.reducePow, Nat.reduceLeDiff, Nat.reduceLT, ne_eq, eq_self, List.length_cons, List.length_nil, kxE, x_stq] | (with_reducible refine Sx.call_at (f := 49) (fun W hW => k1 W) ?_) | (with_reducible refine Sx.call_at (f := 63) (fun W hW => k2 W) ?_) | (with_reducible refine And.intro ?_ ?_) | (with_reducible refine ldP_blk b ?_; refine ldP_k (b := b) rfl (by first | exact List.mem_cons_self | exact List.mem_cons_of_mem _ List.mem_cons_self | exact List.mem_cons_of_mem _ (List.mem_cons_of_mem _ List.mem_cons_self) | exact List.mem_cons_of_mem _ (List.mem_cons_of_mem _ (List.mem_cons_of_mem _ List.mem_cons_self)) | exact List.mem_cons_of_mem _ (List.mem_cons_of_mem _ (List.mem_cons_of_mem _ (List.mem_cons_of_mem _ List.mem_cons_self)))) rfl ?_) | (with_reducible refine stP_blk b ?_; refine stP_c (b := b) (R := [.g (xW w b [b])]) rfl (by first | exact List.mem_cons_self | exact List.mem_cons_of_mem _ List.mem_cons_self | exact List.mem_cons_of_mem _ (List.mem_cons_of_mem _ List.mem_cons_self) | exact List.mem_cons_of_mem _ (List.mem_cons_of_mem _ (List.mem_cons_of_mem _ List.mem_cons_self)) | exact List.mem_cons_of_mem _ (List.mem_cons_of_mem _ (List.mem_cons_of_mem _ (List.mem_cons_of_mem _ List.mem_cons_self)))) hR rfl rfl ?_) | (with_reducible refine stL_blk b ?_; refine stL_c (b := b) (R := [.g (xW w b [b])]) rfl (by first | exact List.mem_cons_self | exact List.mem_cons_of_mem _ List.mem_cons_self | exact List.mem_cons_of_mem _ (List.mem_cons_of_mem _ List.mem_cons_self) | exact List.mem_cons_of_mem _ (List.mem_cons_of_mem _ (List.mem_cons_of_mem _ List.mem_cons_self)) | exact List.mem_cons_of_mem _ (List.mem_cons_of_mem _ (List.mem_cons_of_mem _ (List.mem_cons_of_mem _ List.mem_cons_self)))) hR rfl rfl ?_) | (with_reducible refine cregF ?_))
  exact ⟨(), rfl⟩
 ·rcases List.mem_cons.1 hk with rfl | hk
  ·exact ⟨Nat.le_refl _, hb⟩
  ·rw [List.mem_singleton.1 hk]
   exact xW_start hle
theorem elt_piece : ElT Try.prog 145 149 24 192 := elT (z := .agg (pcell ⟨0, 0, 0, c0⟩).toArray) Try.underlying145 (by kernel_rfl) rfl (by decide)
set_option maxRecDepth 100000 in
set_option maxHeartbeats 2000000 in
theorem pc_end {w : World} {b n0 : Nat} {s : PcS} {v : Value} {k : Nat} {xs : List Value} (hn0 : n0 ≤ b) (hb : HB w b (qcs s v).toArray) (hv : w.ownsRow n0 149 24 v k xs) (hvb : v.ownBlock ≠ some b) (hk : (k + 1) * 192 ≤ 140737488355328) :
  Calls Try.prog 166 #[.pointer (some ⟨b, 0, none⟩)] w (EndP w b n0 v (qcs s) 149 24 (k + (pcl s).length) (xs ++ pcells (pcl s))) := by
 have hle : n0 ≤ w.heap.size := by have := hb.lt; omega
 obtain ⟨va, vc, hvf, hvc, hvm, -⟩ := row_form hv
 have hone : one v = true := by rw [hvf]; rfl
 obtain ⟨st, si, sn, sT, sV, sL, sk, o, p, q, p1, q1⟩ := s
 refine (enterB (n0 := n0) (ex := b :: v.ownBlock.toList) (L := [.g (cK b (qcs ⟨st, si, sn, sT, sV, sL, sk, o, p, q, p1, q1⟩ v)), .g (wK 149 24 v k xs), .g (xW w n0 (b :: v.ownBlock.toList))]) (fun v' : Value => v'.ownBlock ≠ some b ∧ ∀ g, v'.ownBlock = some g → v.ownBlock = some g ∨ w.heap.size ≤ g) (fun _ => .tuple #[]) (fun v' => [.g (cK b (qcs ⟨st, si, sn, sT, sV, sL, sk, o, p, q, p1, q1⟩ v')), .g (wK 149 24 v' (k + (pcl ⟨st, si, sn, sT, sV, sL, sk, o, p, q, p1, q1⟩).length) (xs ++ pcells (pcl ⟨st, si, sn, sT, sV, sL, sk, o, p, q, p1, q1⟩))), .g (xW w n0 (b :: v.ownBlock.toList))]) Try.func166 pieces_work__end.ok (args := [.pointer (some ⟨b, 0, none⟩)]) (by simp) hle (fun k hk => ?_) (fun _ => (by first | exact List.mem_cons_self | exact List.mem_cons_of_mem _ List.mem_cons_self | exact List.mem_cons_of_mem _ (List.mem_cons_of_mem _ List.mem_cons_self) | exact List.mem_cons_of_mem _ (List.mem_cons_of_mem _ (List.mem_cons_of_mem _ List.mem_cons_self)) | exact List.mem_cons_of_mem _ (List.mem_cons_of_mem _ (List.mem_cons_of_mem _ (List.mem_cons_of_mem _ List.mem_cons_self))))) ?run).mono ?fin
 case fin =>
  rintro e w' ⟨v', ⟨h1, h2⟩, rfl, hk, hm⟩
  exact ⟨v', rfl, (hk _ List.mem_cons_self).2, hk (.g (wK 149 24 v' _ _)) (List.mem_cons_of_mem _ List.mem_cons_self), hm, h1, h2⟩
 case run =>
  have old : ∀ g, v.ownBlock = some g → v.ownBlock = some g ∨ w.heap.size ≤ g := fun g h => .inl h
  by_cases hn : 0 < sn
  ·have e1 : pcl ⟨st, si, sn, sT, sV, sL, sk, o, p, q, p1, q1⟩ = [⟨si, sn, sk, ⟨o, p, q, p1, q1⟩⟩] := if_pos hn
   rw [e1, pcells_one]
   clear e1
   repeat' (first | simp (disch := omega) only [sxE, pieces_work__end.E, Nat.reduceAdd, Nat.reduceEqDiff, Nat.reduceMul, Nat.reduceSub, Int.reduceAdd, Int.reduceSub, Int.reduceMul, Int.reduceNeg, Int.reduceLT, Int.reduceLE, Int.reduceEq, Int.reduceToNat, ↓reduceIte, Int.reducePow, Nat.reduceLeDiff, Nat.reduceLT, ne_eq, eq_self, List.length_cons, List.length_nil, kxE, x_stq] | (with_reducible refine ldP_blk b ?_; refine ldP_k (b := b) rfl (by first | exact List.mem_cons_self | exact List.mem_cons_of_mem _ List.mem_cons_self | exact List.mem_cons_of_mem _ (List.mem_cons_of_mem _ List.mem_cons_self) | exact List.mem_cons_of_mem _ (List.mem_cons_of_mem _ (List.mem_cons_of_mem _ List.mem_cons_self)) | exact List.mem_cons_of_mem _ (List.mem_cons_of_mem _ (List.mem_cons_of_mem _ (List.mem_cons_of_mem _ List.mem_cons_self)))) rfl ?_))
   refine cregI [.g (cK b (qcs ⟨st, si, sn, sT, sV, sL, sk, o, p, q, p1, q1⟩ v))] v.ownBlock.toList rfl (fun k hk => ?_) (fun x hx => ?_) ?_
   ·rw [List.mem_singleton.1 hk]
    exact ⟨List.mem_cons_self, fun x hx hr => hvb (by rw [← cK_bs.1 hx]; simpa using hr)⟩
   ·exact ⟨_, List.mem_cons_of_mem _ List.mem_cons_self, wK_bs.2 (by simpa using hx)⟩
   repeat' (first | simp (disch := omega) only [sxE, pieces_work__end.E, Nat.reduceAdd, Nat.reduceEqDiff, Nat.reduceMul, Nat.reduceSub, Int.reduceAdd, Int.reduceSub, Int.reduceMul, Int.reduceNeg, Int.reduceLT, Int.reduceLE, Int.reduceEq, Int.reduceToNat, ↓reduceIte, Int.reducePow, Nat.reduceLeDiff, Nat.reduceLT, ne_eq, eq_self, List.length_cons, List.length_nil, kxE, qxE, x_stq] | (with_reducible refine ldP_blk b ?_; refine ldP_k (b := b) rfl (by first | exact List.mem_cons_self | exact List.mem_cons_of_mem _ List.mem_cons_self | exact List.mem_cons_of_mem _ (List.mem_cons_of_mem _ List.mem_cons_self) | exact List.mem_cons_of_mem _ (List.mem_cons_of_mem _ (List.mem_cons_of_mem _ List.mem_cons_self)) | exact List.mem_cons_of_mem _ (List.mem_cons_of_mem _ (List.mem_cons_of_mem _ (List.mem_cons_of_mem _ List.mem_cons_self)))) rfl ?_))
   refine genA_c (L := [.g (cK b (qcs ⟨st, si, sn, sT, sV, sL, sk, o, p, q, p1, q1⟩ v)), .g (wK 149 24 v k xs), .g (xW w n0 (b :: v.ownBlock.toList))]) (cs := pcell ⟨si, sn, sk, ⟨o, p, q, p1, q1⟩⟩) (T := 149) (fun b => .slice (some ⟨b, 0, none⟩) 1 1) rfl (fun W => by kernel_rfl) fun bl hbl => ?_
   repeat' (first | simp (disch := omega) only [sxE, pieces_work__end.E, Nat.reduceAdd, Nat.reduceEqDiff, Nat.reduceMul, Nat.reduceSub, Int.reduceAdd, Int.reduceSub, Int.reduceMul, Int.reduceNeg, Int.reduceLT, Int.reduceLE, Int.reduceEq, Int.reduceToNat, ↓reduceIte, Int.reducePow, Nat.reduceLeDiff, Nat.reduceLT, ne_eq, eq_self, List.length_cons, List.length_nil, kxE, qxE, x_stq] | (with_reducible refine ldP_blk b ?_; refine ldP_k (b := b) rfl (by first | exact List.mem_cons_self | exact List.mem_cons_of_mem _ List.mem_cons_self | exact List.mem_cons_of_mem _ (List.mem_cons_of_mem _ List.mem_cons_self) | exact List.mem_cons_of_mem _ (List.mem_cons_of_mem _ (List.mem_cons_of_mem _ List.mem_cons_self)) | exact List.mem_cons_of_mem _ (List.mem_cons_of_mem _ (List.mem_cons_of_mem _ (List.mem_cons_of_mem _ List.mem_cons_self)))) rfl ?_))
   refine genA_lit rfl [.g (cK b (qcs ⟨st, si, sn, sT, sV, sL, sk, o, p, q, p1, q1⟩ v)), .g (xW w n0 (b :: v.ownBlock.toList))] elt_piece rfl (.inr (List.mem_cons_of_mem _ (List.mem_cons_of_mem _ List.mem_cons_self))) (.inr fun g hg => by show g ∈ v.ownBlock.toList; simpa using hg) List.mem_cons_self rfl (by decide) rfl (by simp only [maxLen]; omega) hk (fun k hk => ?_) fun g1 c1 hc1 hc1' hge1 hg1 => ?_
   ·rcases List.mem_cons.1 hk with rfl | hk
    ·exact ⟨(by first | exact List.mem_cons_self | exact List.mem_cons_of_mem _ List.mem_cons_self | exact List.mem_cons_of_mem _ (List.mem_cons_of_mem _ List.mem_cons_self) | exact List.mem_cons_of_mem _ (List.mem_cons_of_mem _ (List.mem_cons_of_mem _ List.mem_cons_self)) | exact List.mem_cons_of_mem _ (List.mem_cons_of_mem _ (List.mem_cons_of_mem _ (List.mem_cons_of_mem _ List.mem_cons_self)))), fun x hx h => hvb (by rw [h, cK_bs.1 hx])⟩
    ·rw [List.mem_singleton.1 hk]
     exact ⟨(by first | exact List.mem_cons_self | exact List.mem_cons_of_mem _ List.mem_cons_self | exact List.mem_cons_of_mem _ (List.mem_cons_of_mem _ List.mem_cons_self) | exact List.mem_cons_of_mem _ (List.mem_cons_of_mem _ (List.mem_cons_of_mem _ List.mem_cons_self)) | exact List.mem_cons_of_mem _ (List.mem_cons_of_mem _ (List.mem_cons_of_mem _ (List.mem_cons_of_mem _ List.mem_cons_self)))), fun x hx h => (xW_bs.1 hx).2 (List.mem_cons_of_mem _ (by simpa using h))⟩
   rw [show (Sx.Cx.w0 _ : World).heap.size = n0 from cut_size hle] at hge1
   have n1 : g1 ≠ b := fun h => hg1 _ List.mem_cons_self (cK_bs.2 h)
   have n2 := fun h => hg1 _ (List.mem_cons_of_mem _ (List.mem_singleton.2 rfl)) (xW_bs.2 h)
   clear hbl
   have hR : ∀ x ∈ [Kn.g (wK 149 24 (.slice (some ⟨g1, 0, none⟩) (k + 1) c1) (k + 1) (xs ++ pcell ⟨si, sn, sk, ⟨o, p, q, p1, q1⟩⟩)), .g (xW w n0 (b :: v.ownBlock.toList))], x ∈ [Kn.g (wK 149 24 (.slice (some ⟨g1, 0, none⟩) (k + 1) c1) (k + 1) (xs ++ pcell ⟨si, sn, sk, ⟨o, p, q, p1, q1⟩⟩)), .g (cK b (qcs ⟨st, si, sn, sT, sV, sL, sk, o, p, q, p1, q1⟩ v)), .g (xW w n0 (b :: v.ownBlock.toList))] ∧ b ∉ x.bs := fun x hx => by
    rcases List.mem_cons.1 hx with rfl | hx
    ·exact ⟨(by first | exact List.mem_cons_self | exact List.mem_cons_of_mem _ List.mem_cons_self | exact List.mem_cons_of_mem _ (List.mem_cons_of_mem _ List.mem_cons_self) | exact List.mem_cons_of_mem _ (List.mem_cons_of_mem _ (List.mem_cons_of_mem _ List.mem_cons_self)) | exact List.mem_cons_of_mem _ (List.mem_cons_of_mem _ (List.mem_cons_of_mem _ (List.mem_cons_of_mem _ List.mem_cons_self)))), fun h => n1 (by have := wK_bs.1 h; cases this; rfl)⟩
    ·rw [List.mem_singleton.1 hx]
     exact ⟨(by first | exact List.mem_cons_self | exact List.mem_cons_of_mem _ List.mem_cons_self | exact List.mem_cons_of_mem _ (List.mem_cons_of_mem _ List.mem_cons_self) | exact List.mem_cons_of_mem _ (List.mem_cons_of_mem _ (List.mem_cons_of_mem _ List.mem_cons_self)) | exact List.mem_cons_of_mem _ (List.mem_cons_of_mem _ (List.mem_cons_of_mem _ (List.mem_cons_of_mem _ List.mem_cons_self)))), fun h => (xW_bs.1 h).2 List.mem_cons_self⟩
   repeat' (first | simp (disch := omega) only [sxE, pieces_work__end.E, Nat.reduceAdd, Nat.reduceEqDiff, Nat.reduceMul, Nat.reduceSub, Int.reduceAdd, Int.reduceSub, Int.reduceMul, Int.reduceNeg, Int.reduceLT, Int.reduceLE, Int.reduceEq, Int.reduceToNat, ↓reduceIte, Int.reducePow, Nat.reduceLeDiff, Nat.reduceLT, ne_eq, eq_self, List.length_cons, List.length_nil, kxE, qxE, x_stq, x_cSl] | (with_reducible refine ldP_blk b ?_; refine ldP_k (b := b) rfl (by first | exact List.mem_cons_self | exact List.mem_cons_of_mem _ List.mem_cons_self | exact List.mem_cons_of_mem _ (List.mem_cons_of_mem _ List.mem_cons_self) | exact List.mem_cons_of_mem _ (List.mem_cons_of_mem _ (List.mem_cons_of_mem _ List.mem_cons_self)) | exact List.mem_cons_of_mem _ (List.mem_cons_of_mem _ (List.mem_cons_of_mem _ (List.mem_cons_of_mem _ List.mem_cons_self)))) rfl ?_) | (with_reducible refine stP_blk b ?_; refine stP_c (b := b) (R := [.g (wK 149 24 (.slice (some ⟨g1, 0, none⟩) (k + 1) c1) (k + 1) (xs ++ pcell ⟨si, sn, sk, ⟨o, p, q, p1, q1⟩⟩)), .g (xW w n0 (b :: v.ownBlock.toList))]) rfl (by first | exact List.mem_cons_self | exact List.mem_cons_of_mem _ List.mem_cons_self | exact List.mem_cons_of_mem _ (List.mem_cons_of_mem _ List.mem_cons_self) | exact List.mem_cons_of_mem _ (List.mem_cons_of_mem _ (List.mem_cons_of_mem _ List.mem_cons_self)) | exact List.mem_cons_of_mem _ (List.mem_cons_of_mem _ (List.mem_cons_of_mem _ (List.mem_cons_of_mem _ List.mem_cons_self)))) hR rfl rfl ?_) | (with_reducible refine stL_blk b ?_; refine stL_c (b := b) (R := [.g (wK 149 24 (.slice (some ⟨g1, 0, none⟩) (k + 1) c1) (k + 1) (xs ++ pcell ⟨si, sn, sk, ⟨o, p, q, p1, q1⟩⟩)), .g (xW w n0 (b :: v.ownBlock.toList))]) rfl (by first | exact List.mem_cons_self | exact List.mem_cons_of_mem _ List.mem_cons_self | exact List.mem_cons_of_mem _ (List.mem_cons_of_mem _ List.mem_cons_self) | exact List.mem_cons_of_mem _ (List.mem_cons_of_mem _ (List.mem_cons_of_mem _ List.mem_cons_self)) | exact List.mem_cons_of_mem _ (List.mem_cons_of_mem _ (List.mem_cons_of_mem _ (List.mem_cons_of_mem _ List.mem_cons_self)))) hR rfl rfl ?_))
   refine ⟨.slice (some ⟨g1, 0, none⟩) (k + 1) c1, ⟨fun h => n1 (by cases h; rfl), fun g h => ?_⟩, rfl⟩
   obtain rfl : g1 = g := by cases h; rfl
   rcases Nat.lt_or_ge g1 w.heap.size with hlt | hge
   ·by_cases hx : g1 ∈ b :: v.ownBlock.toList
    ·rcases List.mem_cons.1 hx with rfl | hx
     ·exact absurd rfl n1
     ·exact .inl (by simpa using hx)
    ·exact absurd ⟨⟨hge1, hlt⟩, hx⟩ n2
   ·exact .inr hge
  ·have e1 : pcl ⟨st, si, sn, sT, sV, sL, sk, o, p, q, p1, q1⟩ = [] := if_neg hn
   rw [e1, show pcells [] = [] from rfl, List.append_nil]
   repeat' (first | simp (disch := omega) only [sxE, pieces_work__end.E, Nat.reduceAdd, Nat.reduceEqDiff, Nat.reduceMul, Nat.reduceSub, Int.reduceAdd, Int.reduceSub, Int.reduceMul, Int.reduceNeg, Int.reduceLT, Int.reduceLE, Int.reduceEq, Int.reduceToNat, ↓reduceIte, Int.reducePow, Nat.reduceLeDiff, Nat.reduceLT, ne_eq, eq_self, List.length_cons, List.length_nil, kxE, x_stq] | (with_reducible refine ldP_blk b ?_; refine ldP_k (b := b) rfl (by first | exact List.mem_cons_self | exact List.mem_cons_of_mem _ List.mem_cons_self | exact List.mem_cons_of_mem _ (List.mem_cons_of_mem _ List.mem_cons_self) | exact List.mem_cons_of_mem _ (List.mem_cons_of_mem _ (List.mem_cons_of_mem _ List.mem_cons_self)) | exact List.mem_cons_of_mem _ (List.mem_cons_of_mem _ (List.mem_cons_of_mem _ (List.mem_cons_of_mem _ List.mem_cons_self)))) rfl ?_))
   exact ⟨v, ⟨hvb, old⟩, rfl⟩
 ·rcases List.mem_cons.1 hk with rfl | hk
  ·exact ⟨hn0, hb⟩
  rcases List.mem_cons.1 hk with rfl | hk
  ·exact hv
  ·rw [List.mem_singleton.1 hk]
   exact xW_start hle
set_option maxRecDepth 100000 in
set_option maxHeartbeats 4000000 in
theorem pc_step {w : World} {b n0 : Nat} {s : PcS} {v : Value} {k : Nat} {xs : List Value} {xt xv : Int} (hn0 : n0 ≤ b) (hb : HB w b (qcs s v).toArray) (hv : w.ownsRow n0 149 24 v k xs) (hvb : v.ownBlock ≠ some b)
  (t0 : 0 ≤ s.t) (t1 : s.t ≤ 4611686018427387904) (hi0 : 0 ≤ s.i) (hi1 : s.i ≤ 1073741824) (m0 : 0 ≤ s.n) (m1 : s.n ≤ 1073741824) (iT : I64 s.T) (iK : I64 s.k) (hz : 0 < s.n → ab (s.k * un s.t) < 73786976294838206464) (hc : 0 < s.n → s.c.ok) (hxt : I64 xt) (hxv : I64 xv) (hx : 0 < s.n → s.T < xt) (hk : (k + 1) * 192 ≤ 140737488355328) :
  Calls Try.prog 165 #[.pointer (some ⟨b, 0, none⟩), .agg #[.int .i64 xt, .int .i64 xv]] w (EndP w b n0 v (qcs (pcn s xt xv)) 149 24 (k + (pce s xt xv).length) (xs ++ pcells (pce s xt xv))) := by
 have hle : n0 ≤ w.heap.size := by have := hb.lt; omega
 obtain ⟨va, vc, hvf, hvc, hvm, -⟩ := row_form hv
 have hone : one v = true := by rw [hvf]; rfl
 obtain ⟨st, si, sn, sT, sV, sL, sk, ⟨o, p, q, p1, q1⟩⟩ := s
 dsimp only at t0 t1 hi0 hi1 m0 m1 iT iK hz hc hx
 have it : I64 st := ⟨by omega, by omega⟩
 obtain ⟨k', hk'⟩ : ∃ k', k + (pce ⟨st, si, sn, sT, sV, sL, sk, ⟨o, p, q, p1, q1⟩⟩ xt xv).length = k' := ⟨_, rfl⟩
 obtain ⟨xs', hxs'⟩ : ∃ xs', xs ++ pcells (pce ⟨st, si, sn, sT, sV, sL, sk, ⟨o, p, q, p1, q1⟩⟩ xt xv) = xs' := ⟨_, rfl⟩
 obtain ⟨s', hs'⟩ : ∃ s', pcn ⟨st, si, sn, sT, sV, sL, sk, ⟨o, p, q, p1, q1⟩⟩ xt xv = s' := ⟨_, rfl⟩
 rw [hk', hxs', hs']
 refine (enterB (n0 := n0) (ex := b :: v.ownBlock.toList) (L := [.g (cK b (qcs ⟨st, si, sn, sT, sV, sL, sk, ⟨o, p, q, p1, q1⟩⟩ v)), .g (wK 149 24 v k xs), .g (xW w n0 (b :: v.ownBlock.toList))]) (fun v' : Value => v'.ownBlock ≠ some b ∧ ∀ g, v'.ownBlock = some g → v.ownBlock = some g ∨ w.heap.size ≤ g) (fun _ => .tuple #[]) (fun v' => [.g (cK b (qcs s' v')), .g (wK 149 24 v' k' xs'), .g (xW w n0 (b :: v.ownBlock.toList))]) Try.func165 pieces_work__step.ok (args := [.pointer (some ⟨b, 0, none⟩), .agg #[.int .i64 xt, .int .i64 xv]]) (by simp) hle (fun k hk => ?_) (fun _ => (by first | exact List.mem_cons_self | exact List.mem_cons_of_mem _ List.mem_cons_self | exact List.mem_cons_of_mem _ (List.mem_cons_of_mem _ List.mem_cons_self) | exact List.mem_cons_of_mem _ (List.mem_cons_of_mem _ (List.mem_cons_of_mem _ List.mem_cons_self)) | exact List.mem_cons_of_mem _ (List.mem_cons_of_mem _ (List.mem_cons_of_mem _ (List.mem_cons_of_mem _ List.mem_cons_self))))) ?run).mono ?fin
 case fin =>
  rintro e w' ⟨v', ⟨h1, h2⟩, rfl, hk, hm⟩
  exact ⟨v', rfl, (hk _ List.mem_cons_self).2, hk (.g (wK 149 24 v' _ _)) (List.mem_cons_of_mem _ List.mem_cons_self), hm, h1, h2⟩
 case run =>
  have old : ∀ g, v.ownBlock = some g → v.ownBlock = some g ∨ w.heap.size ≤ g := fun g h => .inl h
  have other : pcg ⟨st, si, sn, sT, sV, sL, sk, ⟨o, p, q, p1, q1⟩⟩ xt xv = false → s' = pcb st (si + sn) xt xv ∧ k' = k + (pcl ⟨st, si, sn, sT, sV, sL, sk, ⟨o, p, q, p1, q1⟩⟩).length ∧ xs' = xs ++ pcells (pcl ⟨st, si, sn, sT, sV, sL, sk, ⟨o, p, q, p1, q1⟩⟩) := fun e => by
   have e1 : pcn ⟨st, si, sn, sT, sV, sL, sk, ⟨o, p, q, p1, q1⟩⟩ xt xv = pcb st (si + sn) xt xv := by unfold pcn; rw [if_neg (by rw [e]; decide)]
   have e2 : pce ⟨st, si, sn, sT, sV, sL, sk, ⟨o, p, q, p1, q1⟩⟩ xt xv = pcl ⟨st, si, sn, sT, sV, sL, sk, ⟨o, p, q, p1, q1⟩⟩ := by unfold pce; rw [if_neg (by rw [e]; decide)]
   exact ⟨hs'.symm.trans e1, by rw [← hk', e2], by rw [← hxs', e2]⟩
  have hcs := cut_size hle
  by_cases hn : 0 < sn
  ·have hc := hc hn
   have hx := hx hn
   have d1 := fun W => gx_dist hxt iT (Int.le_of_lt hx) W
   have hz := hz hn
   have o1 := fun W => gx_base iK it W
   have fz : Fits (sk * un st) := (bd_mul (bd_i64 iK) (bd_i64 (un_i64 it))).fits
   have iDt : U64 (xt - sT) := ⟨by omega, by have := hxt.2; have := iT.1; omega⟩
   have th := fun W => gx_through fz.rw hxv ⟨by omega, by omega⟩ iDt (eps := st) W
   rw [thV_yes hz t0 t1 (by omega)] at th
   have tp := th_p hz hxv ⟨t0, t1⟩ iDt (by omega)
   have mt := fun W => gx_meet (kv_ok hc) (kv_ok tp.cl.ok) W
   have hsm : pcm ⟨st, si, sn, sT, sV, sL, sk, ⟨o, p, q, p1, q1⟩⟩ xt xv = cmt ⟨o, p, q, p1, q1⟩ ⟨false, mn (xv - sk * un st - st) (xt - sT), mD (xv - sk * un st - st) (xt - sT), mn (xv - sk * un st + st) (xt - sT), mD (xv - sk * un st + st) (xt - sT)⟩ := rfl
   unfold mtV mtv at mt
   rw [Bool.true_and, if_pos rfl] at mt
   have hE1 : pcn ⟨st, si, sn, sT, sV, sL, sk, ⟨o, p, q, p1, q1⟩⟩ xt xv = if pcg ⟨st, si, sn, sT, sV, sL, sk, ⟨o, p, q, p1, q1⟩⟩ xt xv = true then ⟨st, si, sn + 1, sT, sV, xt, sk, (pcm ⟨st, si, sn, sT, sV, sL, sk, ⟨o, p, q, p1, q1⟩⟩ xt xv).1⟩ else pcb st (si + sn) xt xv := rfl
   have hE2 : pce ⟨st, si, sn, sT, sV, sL, sk, ⟨o, p, q, p1, q1⟩⟩ xt xv = if pcg ⟨st, si, sn, sT, sV, sL, sk, ⟨o, p, q, p1, q1⟩⟩ xt xv = true then [] else pcl ⟨st, si, sn, sT, sV, sL, sk, ⟨o, p, q, p1, q1⟩⟩ := rfl
   have hE3 : pcg ⟨st, si, sn, sT, sV, sL, sk, ⟨o, p, q, p1, q1⟩⟩ xt xv = (pcm ⟨st, si, sn, sT, sV, sL, sk, ⟨o, p, q, p1, q1⟩⟩ xt xv).2 := by unfold pcg; rw [decide_eq_true hn, Bool.true_and]
   rw [hsm] at hE1 hE3
   clear tp hsm
   generalize sk * un st = B0 at *
   generalize mn (xv - B0 - st) (xt - sT) = a1 at *
   generalize mD (xv - B0 - st) (xt - sT) = a2 at *
   generalize mn (xv - B0 + st) (xt - sT) = a3 at *
   generalize mD (xv - B0 + st) (xt - sT) = a4 at *
   generalize cmt ⟨o, p, q, p1, q1⟩ ⟨false, a1, a2, a3, a4⟩ = M at *
   obtain ⟨⟨mo, mp, mq, mp1, mq1⟩, mb⟩ := M
   dsimp only at hE1 hE3 mt
   have mt : ∀ W, Gives Try.prog 60 [KX o p q p1 q1, KX false a1 a2 a3 a4] W (· = .tuple #[KX mo mp mq mp1 mq1, .bool mb]) := mt
   cases mb
   ·obtain ⟨es, ek, ex⟩ := other hE3
    subst es
    clear hE1 hE2 hE3 other hk' hxs' hs'
    repeat' (first | simp (disch := omega) only [sxE, pieces_work__step.E, Nat.reduceAdd, Nat.reduceEqDiff, Nat.reduceMul, Nat.reduceSub, Int.reduceAdd, Int.reduceSub, Int.reduceMul, Int.reduceNeg, Int.reduceLT, Int.reduceLE, Int.reduceEq, Int.reduceToNat, ↓reduceIte, Int.reducePow, Nat.reduceLeDiff, Nat.reduceLT, ne_eq, eq_self, List.length_cons, List.length_nil, kxE, qxE, x_stq, x_cSl] | (with_reducible refine ldP_blk b ?_; refine ldP_k (b := b) rfl (by first | exact List.mem_cons_self | exact List.mem_cons_of_mem _ List.mem_cons_self | exact List.mem_cons_of_mem _ (List.mem_cons_of_mem _ List.mem_cons_self) | exact List.mem_cons_of_mem _ (List.mem_cons_of_mem _ (List.mem_cons_of_mem _ List.mem_cons_self)) | exact List.mem_cons_of_mem _ (List.mem_cons_of_mem _ (List.mem_cons_of_mem _ (List.mem_cons_of_mem _ List.mem_cons_self)))) rfl ?_) | (with_reducible refine Sx.call_at (f := 62) (fun W hW => o1 W) ?_) | (with_reducible refine Sx.call_at (f := 180) (fun W hW => d1 W) ?_) | (with_reducible refine Sx.call_at (f := 55) (fun W hW => th W) ?_) | (with_reducible refine Sx.call_at (f := 60) (fun W hW => mt W) ?_))
    refine asks_ob (C := Sx.cx _ (cut w n0) _) [.g (xW w n0 (b :: v.ownBlock.toList))] (ι := Unit) (fun _ => True) (fun _ => .tuple #[]) b (qcs ⟨st, si, sn, sT, sV, sL, sk, ⟨o, p, q, p1, q1⟩⟩ v) (fun _ v' => qcs ⟨st, si, sn, sT, sV, sL, sk, ⟨o, p, q, p1, q1⟩⟩ v') v k xs (fun _ => k') (fun _ => xs') en_pieces_work__end rfl List.mem_cons_self (.inr (List.mem_cons_of_mem _ List.mem_cons_self)) (fun _ h => h) (fun k hk => ?_) (fun W hW hbW hB ho => ?_) fun _ v' _ hnb hsh hR' hgl => ?_
    ·rw [List.mem_singleton.1 hk]
     exact ⟨(by first | exact List.mem_cons_self | exact List.mem_cons_of_mem _ List.mem_cons_self | exact List.mem_cons_of_mem _ (List.mem_cons_of_mem _ List.mem_cons_self) | exact List.mem_cons_of_mem _ (List.mem_cons_of_mem _ (List.mem_cons_of_mem _ List.mem_cons_self)) | exact List.mem_cons_of_mem _ (List.mem_cons_of_mem _ (List.mem_cons_of_mem _ (List.mem_cons_of_mem _ List.mem_cons_self)))), fun h => (xW_bs.1 h).2 List.mem_cons_self, fun x hx h => (xW_bs.1 hx).2 (List.mem_cons_of_mem _ (by simpa using h))⟩
    ·refine (pc_end (s := ⟨st, si, sn, sT, sV, sL, sk, ⟨o, p, q, p1, q1⟩⟩) hbW hB ho hvb hk).mono ?_
     rintro e w' ⟨v', rfl, h1, h2, h3, h4, h5⟩
     rw [← ek, ← ex] at h2
     exact ⟨(), v', trivial, rfl, h1, h2, h3, h4, h5⟩
    replace hgl : ∀ g, v'.ownBlock = some g → n0 ≤ g := fun g h => by have := hgl g h; rw [show (Sx.Cx.w0 _ : World).heap.size = n0 from hcs] at this; exact this
    obtain ⟨va', vc', hvf', -, -, -⟩ := hsh
    have hone' : one v' = true := by rw [hvf']; rfl
    have hR : ∀ x ∈ [Kn.g (wK 149 24 v' k' xs'), .g (xW w n0 (b :: v.ownBlock.toList))], x ∈ [Kn.g (cK b (qcs ⟨st, si, sn, sT, sV, sL, sk, ⟨o, p, q, p1, q1⟩⟩ v')), .g (wK 149 24 v' k' xs'), .g (xW w n0 (b :: v.ownBlock.toList))] ∧ b ∉ x.bs := fun x hx => by
     refine ⟨List.mem_cons_of_mem _ hx, ?_⟩
     rcases List.mem_cons.1 hx with rfl | hx
     ·exact fun h => hnb (wK_bs.1 h)
     ·rw [List.mem_singleton.1 hx]
      exact fun h => (xW_bs.1 h).2 List.mem_cons_self
    have hR' := hR' _ (List.mem_singleton.2 rfl)
    repeat' (first | simp (disch := omega) only [sxE, pieces_work__step.E, Nat.reduceAdd, Nat.reduceEqDiff, Nat.reduceMul, Nat.reduceSub, Int.reduceAdd, Int.reduceSub, Int.reduceMul, Int.reduceNeg, Int.reduceLT, Int.reduceLE, Int.reduceEq, Int.reduceToNat, ↓reduceIte, Int.reducePow, Nat.reduceLeDiff, Nat.reduceLT, ne_eq, eq_self, List.length_cons, List.length_nil, kxE, qxE, x_stq, x_cSl] | (with_reducible refine ldP_blk b ?_; refine ldP_k (b := b) rfl (by first | exact List.mem_cons_self | exact List.mem_cons_of_mem _ List.mem_cons_self | exact List.mem_cons_of_mem _ (List.mem_cons_of_mem _ List.mem_cons_self) | exact List.mem_cons_of_mem _ (List.mem_cons_of_mem _ (List.mem_cons_of_mem _ List.mem_cons_self)) | exact List.mem_cons_of_mem _ (List.mem_cons_of_mem _ (List.mem_cons_of_mem _ (List.mem_cons_of_mem _ List.mem_cons_self)))) rfl ?_))
    refine asks_bl (C := Sx.cx _ (cut w n0) _) [.g (wK 149 24 v' k' xs'), .g (xW w n0 (b :: v.ownBlock.toList))] (ι := Unit) (fun _ => True) (fun _ => .tuple #[]) b (qcs ⟨st, si, sn, sT, sV, sL, sk, ⟨o, p, q, p1, q1⟩⟩ v') (fun _ => qcs (pcb st (si + sn) xt xv) v') en_pieces_work__begin rfl List.mem_cons_self (fun _ h => h) hR (fun W hW hbW hB => ?_) fun _ _ => ?_
    ·refine (pc_begin (s := ⟨st, si, sn, sT, sV, sL, sk, ⟨o, p, q, p1, q1⟩⟩) hB hone' it hxv hi0 hi1 m0 m1).mono ?_
     rintro e w' ⟨rfl, h1, h2⟩
     exact ⟨(), trivial, rfl, h1, h2⟩
    repeat' (first | simp (disch := omega) only [sxE, pieces_work__step.E, Nat.reduceAdd, Nat.reduceEqDiff, Nat.reduceMul, Nat.reduceSub, Int.reduceAdd, Int.reduceSub, Int.reduceMul, Int.reduceNeg, Int.reduceLT, Int.reduceLE, Int.reduceEq, Int.reduceToNat, ↓reduceIte, Int.reducePow, Nat.reduceLeDiff, Nat.reduceLT, ne_eq, eq_self, List.length_cons, List.length_nil, kxE, qxE, x_stq, x_cSl] | (with_reducible refine ldP_blk b ?_; refine ldP_k (b := b) rfl (by first | exact List.mem_cons_self | exact List.mem_cons_of_mem _ List.mem_cons_self | exact List.mem_cons_of_mem _ (List.mem_cons_of_mem _ List.mem_cons_self) | exact List.mem_cons_of_mem _ (List.mem_cons_of_mem _ (List.mem_cons_of_mem _ List.mem_cons_self)) | exact List.mem_cons_of_mem _ (List.mem_cons_of_mem _ (List.mem_cons_of_mem _ (List.mem_cons_of_mem _ List.mem_cons_self)))) rfl ?_))
    refine ⟨v', ⟨hnb, fun g h => ?_⟩, rfl⟩
    rcases Nat.lt_or_ge g w.heap.size with hlt | hge
    ·by_cases hxx : g ∈ b :: v.ownBlock.toList
     ·rcases List.mem_cons.1 hxx with rfl | hxx
      ·exact absurd h hnb
      ·exact .inl (by simpa using hxx)
     ·exact absurd h (hR' g (xW_bs.2 ⟨⟨hgl g h, hlt⟩, hxx⟩))
    ·exact .inr hge
   ·rw [if_pos hE3] at hE1 hE2
    have e1 : k' = k := by rw [← hk', hE2]; rfl
    have e2 : xs' = xs := by rw [← hxs', hE2]; show xs ++ [] = xs; rw [List.append_nil]
    have e3 : s' = ⟨st, si, sn + 1, sT, sV, xt, sk, ⟨mo, mp, mq, mp1, mq1⟩⟩ := hs'.symm.trans hE1
    subst e1
    subst e2
    subst e3
    clear hE1 hE2 hE3 other hk' hxs' hs'
    have hR : ∀ {y : Kn}, ∀ x ∈ [Kn.g (wK 149 24 v k' xs'), .g (xW w n0 (b :: v.ownBlock.toList))], x ∈ [y, .g (wK 149 24 v k' xs'), .g (xW w n0 (b :: v.ownBlock.toList))] ∧ b ∉ x.bs := fun x hx => by
     refine ⟨List.mem_cons_of_mem _ hx, ?_⟩
     rcases List.mem_cons.1 hx with rfl | hx
     ·exact fun h => hvb (wK_bs.1 h)
     ·rw [List.mem_singleton.1 hx]
      exact fun h => (xW_bs.1 h).2 List.mem_cons_self
    repeat' (first | simp (disch := omega) only [sxE, pieces_work__step.E, Nat.reduceAdd, Nat.reduceEqDiff, Nat.reduceMul, Nat.reduceSub, Int.reduceAdd, Int.reduceSub, Int.reduceMul, Int.reduceNeg, Int.reduceLT, Int.reduceLE, Int.reduceEq, Int.reduceToNat, ↓reduceIte, Int.reducePow, Nat.reduceLeDiff, Nat.reduceLT, ne_eq, eq_self, List.length_cons, List.length_nil, kxE, qxE, x_stq, x_cSl] | (with_reducible refine ldP_blk b ?_; refine ldP_k (b := b) rfl (by first | exact List.mem_cons_self | exact List.mem_cons_of_mem _ List.mem_cons_self | exact List.mem_cons_of_mem _ (List.mem_cons_of_mem _ List.mem_cons_self) | exact List.mem_cons_of_mem _ (List.mem_cons_of_mem _ (List.mem_cons_of_mem _ List.mem_cons_self)) | exact List.mem_cons_of_mem _ (List.mem_cons_of_mem _ (List.mem_cons_of_mem _ (List.mem_cons_of_mem _ List.mem_cons_self)))) rfl ?_) | (with_reducible refine Sx.call_at (f := 62) (fun W hW => o1 W) ?_) | (with_reducible refine Sx.call_at (f := 180) (fun W hW => d1 W) ?_) | (with_reducible refine Sx.call_at (f := 55) (fun W hW => th W) ?_) | (with_reducible refine Sx.call_at (f := 60) (fun W hW => mt W) ?_) | (with_reducible refine stP_blk b ?_; refine stP_c (b := b) (R := [.g (wK 149 24 v k' xs'), .g (xW w n0 (b :: v.ownBlock.toList))]) rfl (by first | exact List.mem_cons_self | exact List.mem_cons_of_mem _ List.mem_cons_self | exact List.mem_cons_of_mem _ (List.mem_cons_of_mem _ List.mem_cons_self) | exact List.mem_cons_of_mem _ (List.mem_cons_of_mem _ (List.mem_cons_of_mem _ List.mem_cons_self)) | exact List.mem_cons_of_mem _ (List.mem_cons_of_mem _ (List.mem_cons_of_mem _ (List.mem_cons_of_mem _ List.mem_cons_self)))) hR rfl rfl ?_) | (with_reducible refine stL_blk b ?_; refine stL_c (b := b) (R := [.g (wK 149 24 v k' xs'), .g (xW w n0 (b :: v.ownBlock.toList))]) rfl (by first | exact List.mem_cons_self | exact List.mem_cons_of_mem _ List.mem_cons_self | exact List.mem_cons_of_mem _ (List.mem_cons_of_mem _ List.mem_cons_self) | exact List.mem_cons_of_mem _ (List.mem_cons_of_mem _ (List.mem_cons_of_mem _ List.mem_cons_self)) | exact List.mem_cons_of_mem _ (List.mem_cons_of_mem _ (List.mem_cons_of_mem _ (List.mem_cons_of_mem _ List.mem_cons_self)))) hR rfl rfl ?_))
    exact ⟨v, ⟨hvb, old⟩, rfl⟩
  ·obtain ⟨es, ek, ex⟩ := other (by unfold pcg; rw [decide_eq_false hn]; rfl)
   subst es
   clear other hk' hxs' hs'
   repeat' (first | simp (disch := omega) only [sxE, pieces_work__step.E, Nat.reduceAdd, Nat.reduceEqDiff, Nat.reduceMul, Nat.reduceSub, Int.reduceAdd, Int.reduceSub, Int.reduceMul, Int.reduceNeg, Int.reduceLT, Int.reduceLE, Int.reduceEq, Int.reduceToNat, ↓reduceIte, Int.reducePow, Nat.reduceLeDiff, Nat.reduceLT, ne_eq, eq_self, List.length_cons, List.length_nil, kxE, qxE, x_stq, x_cSl] | (with_reducible refine ldP_blk b ?_; refine ldP_k (b := b) rfl (by first | exact List.mem_cons_self | exact List.mem_cons_of_mem _ List.mem_cons_self | exact List.mem_cons_of_mem _ (List.mem_cons_of_mem _ List.mem_cons_self) | exact List.mem_cons_of_mem _ (List.mem_cons_of_mem _ (List.mem_cons_of_mem _ List.mem_cons_self)) | exact List.mem_cons_of_mem _ (List.mem_cons_of_mem _ (List.mem_cons_of_mem _ (List.mem_cons_of_mem _ List.mem_cons_self)))) rfl ?_))
   refine asks_ob (C := Sx.cx _ (cut w n0) _) [.g (xW w n0 (b :: v.ownBlock.toList))] (ι := Unit) (fun _ => True) (fun _ => .tuple #[]) b (qcs ⟨st, si, sn, sT, sV, sL, sk, ⟨o, p, q, p1, q1⟩⟩ v) (fun _ v' => qcs ⟨st, si, sn, sT, sV, sL, sk, ⟨o, p, q, p1, q1⟩⟩ v') v k xs (fun _ => k') (fun _ => xs') en_pieces_work__end rfl List.mem_cons_self (.inr (List.mem_cons_of_mem _ List.mem_cons_self)) (fun _ h => h) (fun k hk => ?_) (fun W hW hbW hB ho => ?_) fun _ v' _ hnb hsh hR' hgl => ?_
   ·rw [List.mem_singleton.1 hk]
    exact ⟨(by first | exact List.mem_cons_self | exact List.mem_cons_of_mem _ List.mem_cons_self | exact List.mem_cons_of_mem _ (List.mem_cons_of_mem _ List.mem_cons_self) | exact List.mem_cons_of_mem _ (List.mem_cons_of_mem _ (List.mem_cons_of_mem _ List.mem_cons_self)) | exact List.mem_cons_of_mem _ (List.mem_cons_of_mem _ (List.mem_cons_of_mem _ (List.mem_cons_of_mem _ List.mem_cons_self)))), fun h => (xW_bs.1 h).2 List.mem_cons_self, fun x hx h => (xW_bs.1 hx).2 (List.mem_cons_of_mem _ (by simpa using h))⟩
   ·refine (pc_end (s := ⟨st, si, sn, sT, sV, sL, sk, ⟨o, p, q, p1, q1⟩⟩) hbW hB ho hvb hk).mono ?_
    rintro e w' ⟨v', rfl, h1, h2, h3, h4, h5⟩
    rw [← ek, ← ex] at h2
    exact ⟨(), v', trivial, rfl, h1, h2, h3, h4, h5⟩
   replace hgl : ∀ g, v'.ownBlock = some g → n0 ≤ g := fun g h => by have := hgl g h; rw [show (Sx.Cx.w0 _ : World).heap.size = n0 from hcs] at this; exact this
   obtain ⟨va', vc', hvf', -, -, -⟩ := hsh
   have hone' : one v' = true := by rw [hvf']; rfl
   have hR : ∀ x ∈ [Kn.g (wK 149 24 v' k' xs'), .g (xW w n0 (b :: v.ownBlock.toList))], x ∈ [Kn.g (cK b (qcs ⟨st, si, sn, sT, sV, sL, sk, ⟨o, p, q, p1, q1⟩⟩ v')), .g (wK 149 24 v' k' xs'), .g (xW w n0 (b :: v.ownBlock.toList))] ∧ b ∉ x.bs := fun x hx => by
    refine ⟨List.mem_cons_of_mem _ hx, ?_⟩
    rcases List.mem_cons.1 hx with rfl | hx
    ·exact fun h => hnb (wK_bs.1 h)
    ·rw [List.mem_singleton.1 hx]
     exact fun h => (xW_bs.1 h).2 List.mem_cons_self
   have hR' := hR' _ (List.mem_singleton.2 rfl)
   repeat' (first | simp (disch := omega) only [sxE, pieces_work__step.E, Nat.reduceAdd, Nat.reduceEqDiff, Nat.reduceMul, Nat.reduceSub, Int.reduceAdd, Int.reduceSub, Int.reduceMul, Int.reduceNeg, Int.reduceLT, Int.reduceLE, Int.reduceEq, Int.reduceToNat, ↓reduceIte, Int.reducePow, Nat.reduceLeDiff, Nat.reduceLT, ne_eq, eq_self, List.length_cons, List.length_nil, kxE, qxE, x_stq, x_cSl] | (with_reducible refine ldP_blk b ?_; refine ldP_k (b := b) rfl (by first | exact List.mem_cons_self | exact List.mem_cons_of_mem _ List.mem_cons_self | exact List.mem_cons_of_mem _ (List.mem_cons_of_mem _ List.mem_cons_self) | exact List.mem_cons_of_mem _ (List.mem_cons_of_mem _ (List.mem_cons_of_mem _ List.mem_cons_self)) | exact List.mem_cons_of_mem _ (List.mem_cons_of_mem _ (List.mem_cons_of_mem _ (List.mem_cons_of_mem _ List.mem_cons_self)))) rfl ?_))
   refine asks_bl (C := Sx.cx _ (cut w n0) _) [.g (wK 149 24 v' k' xs'), .g (xW w n0 (b :: v.ownBlock.toList))] (ι := Unit) (fun _ => True) (fun _ => .tuple #[]) b (qcs ⟨st, si, sn, sT, sV, sL, sk, ⟨o, p, q, p1, q1⟩⟩ v') (fun _ => qcs (pcb st (si + sn) xt xv) v') en_pieces_work__begin rfl List.mem_cons_self (fun _ h => h) hR (fun W hW hbW hB => ?_) fun _ _ => ?_
   ·refine (pc_begin (s := ⟨st, si, sn, sT, sV, sL, sk, ⟨o, p, q, p1, q1⟩⟩) hB hone' it hxv hi0 hi1 m0 m1).mono ?_
    rintro e w' ⟨rfl, h1, h2⟩
    exact ⟨(), trivial, rfl, h1, h2⟩
   repeat' (first | simp (disch := omega) only [sxE, pieces_work__step.E, Nat.reduceAdd, Nat.reduceEqDiff, Nat.reduceMul, Nat.reduceSub, Int.reduceAdd, Int.reduceSub, Int.reduceMul, Int.reduceNeg, Int.reduceLT, Int.reduceLE, Int.reduceEq, Int.reduceToNat, ↓reduceIte, Int.reducePow, Nat.reduceLeDiff, Nat.reduceLT, ne_eq, eq_self, List.length_cons, List.length_nil, kxE, qxE, x_stq, x_cSl] | (with_reducible refine ldP_blk b ?_; refine ldP_k (b := b) rfl (by first | exact List.mem_cons_self | exact List.mem_cons_of_mem _ List.mem_cons_self | exact List.mem_cons_of_mem _ (List.mem_cons_of_mem _ List.mem_cons_self) | exact List.mem_cons_of_mem _ (List.mem_cons_of_mem _ (List.mem_cons_of_mem _ List.mem_cons_self)) | exact List.mem_cons_of_mem _ (List.mem_cons_of_mem _ (List.mem_cons_of_mem _ (List.mem_cons_of_mem _ List.mem_cons_self)))) rfl ?_))
   refine ⟨v', ⟨hnb, fun g h => ?_⟩, rfl⟩
   rcases Nat.lt_or_ge g w.heap.size with hlt | hge
   ·by_cases hxx : g ∈ b :: v.ownBlock.toList
    ·rcases List.mem_cons.1 hxx with rfl | hxx
     ·exact absurd h hnb
     ·exact .inl (by simpa using hxx)
    ·exact absurd h (hR' g (xW_bs.2 ⟨⟨hgl g h, hlt⟩, hxx⟩))
   ·exact .inr hge
 ·rcases List.mem_cons.1 hk with rfl | hk
  ·exact ⟨hn0, hb⟩
  rcases List.mem_cons.1 hk with rfl | hk
  ·exact hv
  ·rw [List.mem_singleton.1 hk]
   exact xW_start hle
end Go.Proofs.Ytncmmbacoknefaa

/- Pb: pieces: All of the program. -/
namespace Go.Proofs.Ytncmmbacoknefaa
open Go Go.RowKit Sx
set_option linter.unusedVariables false
set_option linter.unusedSimpArgs false
def pc0 (t : Int) : PcS := ⟨t, 0, 0, 0, 0, 0, 0, c0⟩
def pca (a : PcS × List PcV) (x : Int × Int) : PcS × List PcV := (pcn a.1 x.1 x.2, a.2 ++ pce a.1 x.1 x.2)
def pcf (t : Int) (ss : Smps) : PcS × List PcV := ss.foldl pca (pc0 t, [])
theorem pcf_snoc (t : Int) (ss : Smps) (x : Int × Int) : pcf t (ss ++ [x]) = pca (pcf t ss) x := by unfold pcf; rw [List.foldl_append]; rfl
def pcall (t : Int) (ss : Smps) : List PcV := (pcf t ss).2 ++ pcl (pcf t ss).1
def perz (t : Int) (ss : Smps) : Int := if tolz t then (if incr ss then (if ss.length ≤ 1073741824 then 0 else 3) else 7) else 9
def piecz (t : Int) (ss : Smps) : List PcV := if perz t ss = 0 then pcall t ss else []
structure PcI (t : Int) (ss : Smps) (i : Nat) (a : PcS × List PcV) : Prop where
 tt : a.1.t = t
 n0 : 0 ≤ a.1.n
 n1 : a.1.n ≤ i
 i0 : 0 ≤ a.1.i
 ix : a.1.i + a.1.n = i
 c : 0 < a.1.n → a.1.c.ok
 K : I64 a.1.k
 ke : 0 < a.1.n → a.1.k = ke a.1.V t
 T : I64 a.1.T
 V : I64 a.1.V
 L : I64 a.1.L
 TL : a.1.T ≤ a.1.L
 z : a.1.n = 0 → a.1 = pc0 t
 l : 0 < i → 0 < a.1.n ∧ a.1.L = (ss.getD (i - 1) (0, 0)).1
 len : a.2.length ≤ i
 one : a.1.n = 1 → a.1.L = a.1.T ∧ a.1.c = cO
 more : 1 < a.1.n → a.1.T < a.1.L ∧ a.1.c.o = false
theorem ke_small {v t : Int} (hv : I64 v) (t0 : 0 ≤ t) (t1 : t ≤ 4611686018427387904) : ab (ke v t * un t) < 73786976294838206464 := by
 obtain ⟨h1, h2⟩ := ke_base v t
 have h3 := hv.1
 have h4 := hv.2
 have h5 : un t ≤ 4611686018427387904 := by unfold un; split <;> omega
 unfold ab
 split <;> omega
theorem pcl_len (s : PcS) : (pcl s).length ≤ 1 := by unfold pcl; split <;> simp
theorem pci_next {t : Int} {ss : Smps} {i : Nat} {a : PcS × List PcV} (h : PcI t ss i a) (ht : tolz t = true) (hi : i < ss.length) (hin : ∀ s ∈ ss, I64 s.1 ∧ I64 s.2) (hinc : incr ss = true) : PcI t ss (i + 1) (pca a (ss.getD i (0, 0))) ∧ (0 < a.1.n → a.1.T < (ss.getD i (0, 0)).1) := by
 have hx := smp_i64 hin i
 obtain ⟨t0, t1⟩ := tolz_iff.1 ht
 have hT : 0 < a.1.n → a.1.T < (ss.getD i (0, 0)).1 := fun hn => by
  have h0 : 0 < i := by have := h.n1; omega
  obtain ⟨-, hL⟩ := h.l h0
  have hinc' := of_decide_eq_true hinc (i - 1) (by omega)
  rw [show i - 1 + 1 = i by omega] at hinc'
  have := h.TL
  omega
 refine ⟨?_, hT⟩
 have hlen : (pce a.1 (ss.getD i (0, 0)).1 (ss.getD i (0, 0)).2).length ≤ 1 := by
  unfold pce
  split
  ·simp
  ·exact pcl_len _
 have el : (pca a (ss.getD i (0, 0))).2.length ≤ i + 1 := by
  show (a.2 ++ _).length ≤ _
  rw [List.length_append]
  have := h.len
  omega
 have e1 : i + 1 - 1 = i := by omega
 by_cases hg : pcg a.1 (ss.getD i (0, 0)).1 (ss.getD i (0, 0)).2 = true
 ·have e : (pca a (ss.getD i (0, 0))).1 = ⟨a.1.t, a.1.i, a.1.n + 1, a.1.T, a.1.V, (ss.getD i (0, 0)).1, a.1.k, (pcm a.1 (ss.getD i (0, 0)).1 (ss.getD i (0, 0)).2).1⟩ := if_pos hg
  unfold pcg at hg
  rw [Bool.and_eq_true] at hg
  obtain ⟨hn, hm⟩ := hg
  have hn := of_decide_eq_true hn
  have hT := hT hn
  have iDt : U64 ((ss.getD i (0, 0)).1 - a.1.T) := ⟨by omega, by have := hx.1.2; have := h.T.1; omega⟩
  have hke := h.ke hn
  have tp := th_p (z := a.1.k * un t) (by rw [hke]; exact ke_small h.V t0 t1) hx.2 ⟨t0, t1⟩ iDt (by omega)
  have hok : (pcm a.1 (ss.getD i (0, 0)).1 (ss.getD i (0, 0)).2).1.ok := by
   unfold pcm
   rw [h.tt]
   refine cmt_ok (h.c hn) tp.cl.ok ?_
   unfold pcm at hm
   rw [h.tt] at hm
   exact hm
  have ho : (pcm a.1 (ss.getD i (0, 0)).1 (ss.getD i (0, 0)).2).1.o = false := cmt_o hm
  have n1 := h.n1
  have n0 := h.n0
  refine ⟨by rw [e]; exact h.tt, by rw [e]; show 0 ≤ a.1.n + 1; omega, by rw [e]; show a.1.n + 1 ≤ _; omega, by rw [e]; exact h.i0, by rw [e]; show a.1.i + (a.1.n + 1) = _; have := h.ix; omega, fun _ => by rw [e]; exact hok, by rw [e]; exact h.K, fun _ => by rw [e]; exact hke, by rw [e]; exact h.T, by rw [e]; exact h.V, by rw [e]; exact hx.1, by rw [e]; show a.1.T ≤ (ss.getD i (0, 0)).1; omega, fun hz => ?_, fun _ => ?_, el, fun hz => ?_, fun _ => by rw [e]; exact ⟨hT, ho⟩⟩
  ·rw [e] at hz
   have hz : a.1.n + 1 = 0 := hz
   omega
  ·rw [e, e1]
   exact ⟨by show 0 < a.1.n + 1; omega, rfl⟩
  ·rw [e] at hz
   have hz : a.1.n + 1 = 1 := hz
   omega
 ·have e : (pca a (ss.getD i (0, 0))).1 = pcb a.1.t (a.1.i + a.1.n) (ss.getD i (0, 0)).1 (ss.getD i (0, 0)).2 := if_neg hg
  refine ⟨by rw [e]; exact h.tt, by rw [e]; show (0 : Int) ≤ 1; decide, by rw [e]; show (1 : Int) ≤ _; omega, by rw [e]; show 0 ≤ a.1.i + a.1.n; have := h.i0; have := h.n0; omega, by rw [e]; show a.1.i + a.1.n + 1 = _; have := h.ix; omega, fun _ => by rw [e]; exact cO_ok, by rw [e]; exact ke_i64 hx.2, fun _ => by rw [e]; exact congrArg (ke _) h.tt, by rw [e]; exact hx.1, by rw [e]; exact hx.2, by rw [e]; exact hx.1, by rw [e]; exact Int.le_refl _, fun hz => ?_, fun _ => ?_, el, fun _ => by rw [e]; exact ⟨rfl, rfl⟩, fun hz => ?_⟩
  ·rw [e] at hz
   cases hz
  ·rw [e, e1]
   exact ⟨by show (0 : Int) < 1; decide, rfl⟩
  ·rw [e] at hz
   have hz : (1 : Int) < 1 := hz
   omega
theorem pci_start (t : Int) (ss : Smps) : PcI t ss 0 (pcf t []) :=
 ⟨rfl, Int.le_refl _, Int.le_refl _, Int.le_refl _, rfl, (fun h => by cases h), i64_0, (fun h => by cases h), i64_0, i64_0, i64_0, Int.le_refl _, fun _ => rfl, (fun h => by cases h), Nat.le_refl _, (fun h => by cases h), (fun h => by cases h)⟩
theorem pci_at {t : Int} {ss : Smps} (ht : tolz t = true) (hin : ∀ s ∈ ss, I64 s.1 ∧ I64 s.2) (hinc : incr ss = true) : ∀ i, i ≤ ss.length → PcI t ss i (pcf t (ss.take i))
 | 0, _ => pci_start t ss
 | i + 1, h => by
  rw [take_snoc' (by omega), pcf_snoc]
  exact (pci_next (pci_at ht hin hinc i (by omega)) ht (by omega) hin hinc).1
abbrev pcZ (t : Int) : Value := .agg #[.int .i64 t, .int .i64 0, .int .i64 0, .int .i64 0, .int .i64 0, .int .i64 0, .int .i64 0, .bool false, .bool false, .int .u64 0, .int .u64 0, .int .u64 0, .int .u64 0, .bool false, .int .u64 0, .int .u64 0, .int .u64 0, .int .u64 0, .bool false, .int .u64 0, .int .u64 0, .int .u64 0, .int .u64 0, .bool false, .int .u64 0, .int .u64 0, .int .u64 0, .int .u64 0]
theorem gx_ptol (t : Int) (W : World) : Gives Try.prog 177 [.int .i64 t] W (· = .bool (tolz t)) := by
 refine gives_known en_pieces_tolerable ?_
 unfold tolz
 by_cases h0 : 0 ≤ t
 ·have d0 := decide_eq_true h0
  refine known_of (enter Try.func177 pieces_tolerable.ok (args := [_]) (by simp) ?_)
  repeat' (first | simp (disch := omega) only [sxE, pieces_tolerable.E, Nat.reduceAdd, Nat.reduceEqDiff, Nat.reduceMul, Nat.reduceSub, Int.reduceAdd, Int.reduceSub, Int.reduceMul, Int.reduceNeg, Int.reduceLT, Int.reduceLE, Int.reduceEq, Int.reduceToNat, ↓reduceIte, Int.reducePow, Nat.reduceLeDiff, Nat.reduceLT, ne_eq, eq_self, List.length_cons, List.length_nil, qxE, d0, Bool.true_and] | (with_reducible refine cregF ?_))
 ·have d0 := decide_eq_false h0
  refine known_of (enter Try.func177 pieces_tolerable.ok (args := [_]) (by simp) ?_)
  repeat' (first | simp (disch := omega) only [sxE, pieces_tolerable.E, Nat.reduceAdd, Nat.reduceEqDiff, Nat.reduceMul, Nat.reduceSub, Int.reduceAdd, Int.reduceSub, Int.reduceMul, Int.reduceNeg, Int.reduceLT, Int.reduceLE, Int.reduceEq, Int.reduceToNat, ↓reduceIte, Int.reducePow, Nat.reduceLeDiff, Nat.reduceLT, ne_eq, eq_self, List.length_cons, List.length_nil, qxE, d0, Bool.false_and] | (with_reducible refine cregF ?_))
theorem gx_pcstart (t : Int) (W : World) : Gives Try.prog 163 [.int .i64 t] W (· = if tolz t then .tuple #[pcZ t, .int .i64 0] else .tuple #[pcZ 0, .int .i64 9]) := by
 refine gives_known en_pieces_Start ?_
 have k := fun W => gx_ptol t W
 cases h : tolz t
 ·rw [h] at k
  refine known_of (enter Try.func163 pieces_Start.ok (args := [_]) (by simp) ?_)
  repeat' (first | simp (disch := omega) only [sxE, pieces_Start.E, Nat.reduceAdd, Nat.reduceEqDiff, Nat.reduceMul, Nat.reduceSub, Int.reduceAdd, Int.reduceSub, Int.reduceMul, Int.reduceNeg, Int.reduceLT, Int.reduceLE, Int.reduceEq, Int.reduceToNat, ↓reduceIte, Int.reducePow, Nat.reduceLeDiff, Nat.reduceLT, ne_eq, eq_self, List.length_cons, List.length_nil, qxE] | (with_reducible refine Sx.call_at (f := 177) (fun W hW => k W) ?_) | (with_reducible refine cregF ?_))
 ·rw [h] at k
  refine known_of (enter Try.func163 pieces_Start.ok (args := [_]) (by simp) ?_)
  repeat' (first | simp (disch := omega) only [sxE, pieces_Start.E, Nat.reduceAdd, Nat.reduceEqDiff, Nat.reduceMul, Nat.reduceSub, Int.reduceAdd, Int.reduceSub, Int.reduceMul, Int.reduceNeg, Int.reduceLT, Int.reduceLE, Int.reduceEq, Int.reduceToNat, ↓reduceIte, Int.reducePow, Nat.reduceLeDiff, Nat.reduceLT, ne_eq, eq_self, List.length_cons, List.length_nil, qxE] | (with_reducible refine Sx.call_at (f := 177) (fun W hW => k W) ?_) | (with_reducible refine cregF ?_))
def PllB (w : World) (ls : List PcV) (er : Int) (en : Ending) (w' : World) : Prop := ∃ v, en = .returned (.tuple #[v, .int .i64 er]) ∧ w'.ownsRow w.heap.size 149 24 v ls.length (pcells ls) ∧ Below w.heap.size w w'
theorem perz_tol {t : Int} {ss : Smps} (h : tolz t = false) : perz t ss = 9 ∧ piecz t ss = [] := by
 have e : perz t ss = 9 := by unfold perz; rw [h]; rfl
 exact ⟨e, by unfold piecz; rw [e]; rfl⟩
theorem perz_inc {t : Int} {ss : Smps} (h : tolz t = true) (hi : incr ss = false) : perz t ss = 7 ∧ piecz t ss = [] := by
 have e : perz t ss = 7 := by unfold perz; rw [h, hi]; rfl
 exact ⟨e, by unfold piecz; rw [e]; rfl⟩
theorem perz_lim {t : Int} {ss : Smps} (h : tolz t = true) (hi : incr ss = true) (hl : ¬ ss.length ≤ 1073741824) : perz t ss = 3 ∧ piecz t ss = [] := by
 have e : perz t ss = 3 := by unfold perz; rw [h, hi, if_pos rfl, if_pos rfl, if_neg hl]
 exact ⟨e, by unfold piecz; rw [e]; rfl⟩
theorem perz_ok {t : Int} {ss : Smps} (h : tolz t = true) (hi : incr ss = true) (hl : ss.length ≤ 1073741824) : perz t ss = 0 ∧ piecz t ss = pcall t ss := by
 have e : perz t ss = 0 := by unfold perz; rw [h, hi, if_pos rfl, if_pos rfl, if_pos hl]
 exact ⟨e, by unfold piecz; rw [e]; rfl⟩
set_option maxRecDepth 100000 in
set_option maxHeartbeats 2000000 in
theorem pc_all {w : World} {v : Value} {ss : Smps} {t : Int} (h : SlS w v ss) (hi : I64 t) (hn : 8 * ss.length ≤ 281474976710656) : Calls Try.prog 122 #[v, .int .i64 t] w (PllB w (piecz t ss) (perz t ss)) := by
 obtain ⟨a, cap, rfl, h1, h2, h3, h4⟩ := id h
 have h2' := h2
 simp only [maxLen] at h2'
 refine (enterX Try.func122 pieces_All.ok (args := [.slice a ss.length cap, .int .i64 t]) (R := fun u X => ∃ v L, u = .tuple #[v, .int .i64 (perz t ss)] ∧ X = kX w.heap.size L ∧ rowOf L 149 24 v (piecz t ss).length (pcells (piecz t ss))) (by simp) ?run).mono ?fin
 case fin =>
  rintro e w' ⟨u, X, rfl, ⟨v, L, rfl, rfl, hr⟩, hX, hbl, -⟩
  exact ⟨v, rfl, hr.own hX, hbl⟩
 case run =>
  have k1 := fun W => gx_pcstart t W
  have c1 : ∀ W, Below w.heap.size w W → Gives Try.prog 164 [.slice a ss.length cap] W (· = .int .i64 (if incr ss then 0 else 7)) := fun W hW => gives_known en_series_Check (g_check (SlS.below h hW) hn)
  by_cases ht : tolz t = true
  ·rw [if_pos ht] at k1
   by_cases hinc : incr ss = true
   ·rw [if_pos hinc] at c1
    by_cases hl : ss.length ≤ 1073741824
    ·obtain ⟨e1, e2⟩ := perz_ok ht hinc hl
     rw [e1, e2]
     clear e1 e2
     repeat' (first | simp (disch := omega) only [sxE, pieces_All.E, Nat.reduceAdd, Nat.reduceEqDiff, Nat.reduceMul, Nat.reduceSub, Int.reduceAdd, Int.reduceSub, Int.reduceMul, Int.reduceNeg, Int.reduceLT, Int.reduceLE, Int.reduceEq, Int.reduceToNat, ↓reduceIte, Int.reducePow, Nat.reduceLeDiff, Nat.reduceLT, ne_eq, eq_self, List.length_cons, List.length_nil, qxE] | (with_reducible refine Sx.call_at (f := 163) (fun W hW => k1 W) ?_) | (with_reducible refine cregF ?_))
     refine asks_at (fun W hW => c1 W hW) ?_
     repeat' (first | simp (disch := omega) only [sxE, pieces_All.E, Nat.reduceAdd, Nat.reduceEqDiff, Nat.reduceMul, Nat.reduceSub, Int.reduceAdd, Int.reduceSub, Int.reduceMul, Int.reduceNeg, Int.reduceLT, Int.reduceLE, Int.reduceEq, Int.reduceToNat, ↓reduceIte, Int.reducePow, Nat.reduceLeDiff, Nat.reduceLT, ne_eq, eq_self, List.length_cons, List.length_nil, qxE] | (with_reducible refine cregF ?_))
     refine genA_az (L := []) (z := .agg #[.int .i64 0, .int .i64 0, .int .i64 0, .int .i64 0, .int .i64 0, .int .i64 0, .int .i64 0, .bool false, .bool false, .int .u64 0, .int .u64 0, .int .u64 0, .int .u64 0, .bool false, .int .u64 0, .int .u64 0, .int .u64 0, .int .u64 0, .bool false, .int .u64 0, .int .u64 0, .int .u64 0, .int .u64 0, .bool false, .int .u64 0, .int .u64 0, .int .u64 0, .int .u64 0, .slice none 0 0]) [.int .i64 0, .int .i64 0, .int .i64 0, .int .i64 0, .int .i64 0, .int .i64 0, .int .i64 0, .bool false, .bool false, .int .u64 0, .int .u64 0, .int .u64 0, .int .u64 0, .bool false, .int .u64 0, .int .u64 0, .int .u64 0, .int .u64 0, .bool false, .int .u64 0, .int .u64 0, .int .u64 0, .int .u64 0, .bool false, .int .u64 0, .int .u64 0, .int .u64 0, .int .u64 0, .slice none 0 0] rfl (by kernel_rfl) (by kernel_rfl) (kX_nil _) fun b _ => ?_
     repeat' (first | simp (disch := omega) only [sxE, pieces_All.E, Nat.reduceAdd, Nat.reduceEqDiff, Nat.reduceMul, Nat.reduceSub, Int.reduceAdd, Int.reduceSub, Int.reduceMul, Int.reduceNeg, Int.reduceLT, Int.reduceLE, Int.reduceEq, Int.reduceToNat, ↓reduceIte, Int.reducePow, Nat.reduceLeDiff, Nat.reduceLT, ne_eq, eq_self, List.length_cons, List.length_nil, qxE, x_stq, x_cSl] | (with_reducible refine cregF ?_))
     refine stL_c (b := b) (R := []) rfl (List.mem_singleton.2 rfl) (fun k hk => by cases hk) rfl rfl ?_
     repeat' (first | simp (disch := omega) only [sxE, pieces_All.E, Nat.reduceAdd, Nat.reduceEqDiff, Nat.reduceMul, Nat.reduceSub, Int.reduceAdd, Int.reduceSub, Int.reduceMul, Int.reduceNeg, Int.reduceLT, Int.reduceLE, Int.reduceEq, Int.reduceToNat, ↓reduceIte, Int.reducePow, Nat.reduceLeDiff, Nat.reduceLT, ne_eq, eq_self, List.length_cons, List.length_nil, qxE, x_stq, x_cSl] | (with_reducible refine cregF ?_))
     rw [pieces_All.p3_l]
     have HI := fun i hi => pci_at ht h3 hinc i hi
     have t01 := tolz_iff.1 ht
     refine LX_inv (fun x : Nat × Value => ⟨0, [(8, .v (.pointer (some ⟨b, 0, none⟩))), (28, .v (.slice a ss.length cap)), (29, .v (.int .i64 ss.length)), (30, .v (.int .i64 (x.1 : Int)))], [], kX w.heap.size [.g (cK b (qcs (pcf t (ss.take x.1)).1 x.2)), .g (wK 149 24 x.2 (pcf t (ss.take x.1)).2.length (pcells (pcf t (ss.take x.1)).2))]⟩) (fun x => x.1 ≤ ss.length ∧ x.2.ownBlock ≠ some b) (fun x => ss.length - x.1) ?round (0, .slice none 0 0) ⟨Nat.zero_le _, (fun h => by cases h)⟩ ?start
     case start =>
      have c0 : ((0 : Nat) : Int) = 0 := rfl
      simp (disch := omega) only [sxE, pieces_All.E, Nat.reduceAdd, Nat.reduceEqDiff, Nat.reduceMul, Nat.reduceSub, Int.reduceAdd, Int.reduceSub, Int.reduceMul, Int.reduceNeg, Int.reduceLT, Int.reduceLE, Int.reduceEq, Int.reduceToNat, ↓reduceIte, Int.reducePow, Nat.reduceLeDiff, Nat.reduceLT, ne_eq, eq_self, List.length_cons, List.length_nil, c0]
      refine extS_of fun k hk => ?_
      rcases List.mem_cons.1 hk with rfl | hk
      ·exact .inl (List.mem_singleton.2 rfl)
      ·rw [List.mem_singleton.1 hk]
       exact .inr ⟨rfl, fun W => wK_nil _ _ _ W⟩
     case round =>
      rintro ⟨i, v⟩ ⟨hi', hvb⟩
      try dsimp only at hi' hvb ⊢
      by_cases hlt : i < ss.length
      ·obtain ⟨b', off, rfl, -, -⟩ := h4 (by omega)
       have hsi := HI i hi'
       have hnx := pci_next hsi ht hlt h3 hinc
       have enx : pcf t (ss.take (i + 1)) = pca (pcf t (ss.take i)) (ss.getD i (0, 0)) := by rw [take_snoc' hlt, pcf_snoc]
       have hx := smp_i64 h3 i
       have e0 : (i : Int) + 1 = ((i + 1 : Nat) : Int) := by omega
       generalize hA : pcf t (ss.take i) = A at *
       clear hA h3 h4
       obtain ⟨hn1, hn2⟩ := hnx
       have hn1 := hid hn1
       have hsi := hid hsi
       repeat' (first | simp (disch := omega) only [sxE, pieces_All.E, Nat.reduceAdd, Nat.reduceEqDiff, Nat.reduceMul, Nat.reduceSub, Int.reduceAdd, Int.reduceSub, Int.reduceMul, Int.reduceNeg, Int.reduceLT, Int.reduceLE, Int.reduceEq, Int.reduceToNat, ↓reduceIte, Int.reducePow, Nat.reduceLeDiff, Nat.reduceLT, ne_eq, eq_self, List.length_cons, List.length_nil, qxE] | (with_reducible refine ldP_blk b' ?_; refine ldP_S2 i h ?_ ?_ ?_; omega; omega) | (with_reducible refine cregF ?_))
       refine asks_ob (C := Sx.cx _ w _) [] (ι := Unit) (fun _ => True) (fun _ => .tuple #[]) b (qcs A.1 v) (fun _ v' => qcs (pcn A.1 (ss.getD i (0, 0)).1 (ss.getD i (0, 0)).2) v') v A.2.length (pcells A.2) (fun _ => A.2.length + (pce A.1 (ss.getD i (0, 0)).1 (ss.getD i (0, 0)).2).length) (fun _ => pcells A.2 ++ pcells (pce A.1 (ss.getD i (0, 0)).1 (ss.getD i (0, 0)).2)) en_pieces_work__step rfl List.mem_cons_self (.inr (List.mem_cons_of_mem _ List.mem_cons_self)) (fun _ h => h) (fun k hk => by cases hk) (fun W hW hbW hB ho => ?_) fun _ v' _ hnb hsh hR' hgl => ?_
       ·have s1 := hsi.out
        refine (pc_step (xt := (ss.getD i (0, 0)).1) (xv := (ss.getD i (0, 0)).2) hbW hB ho hvb (by rw [s1.tt]; exact t01.1) (by rw [s1.tt]; exact t01.2) s1.i0 (by have := s1.ix; have := s1.n0; omega) s1.n0 (by have := s1.n1; omega) s1.T s1.K (fun hz => by rw [s1.ke hz, s1.tt]; exact ke_small s1.V t01.1 t01.2) s1.c hx.1 hx.2 hn2 (by have := s1.len; omega)).mono ?_
        rintro e w' ⟨v', rfl, g1, g2, g3, g4, g5⟩
        exact ⟨(), v', trivial, rfl, g1, g2, g3, g4, g5⟩
       repeat' (first | simp (disch := omega) only [sxE, pieces_All.E, Nat.reduceAdd, Nat.reduceEqDiff, Nat.reduceMul, Nat.reduceSub, Int.reduceAdd, Int.reduceSub, Int.reduceMul, Int.reduceNeg, Int.reduceLT, Int.reduceLE, Int.reduceEq, Int.reduceToNat, ↓reduceIte, Int.reducePow, Nat.reduceLeDiff, Nat.reduceLT, ne_eq, eq_self, List.length_cons, List.length_nil, qxE] | (with_reducible refine cregF ?_))
       rw [e0]
       refine ⟨(i + 1, v'), ⟨by dsimp only; omega, hnb⟩, by dsimp only; omega, rfl, .inl ?_⟩
       dsimp only
       rw [enx]
       unfold pca
       dsimp only
       rw [List.length_append, pcells_app]
      ·obtain rfl : i = ss.length := by omega
       have hsi := HI _ (Nat.le_refl _)
       rw [List.take_length] at hsi ⊢
       unfold pcall
       generalize hA : pcf t ss = A at *
       clear hA h3 h4
       have hsi := hid hsi
       repeat' (first | simp (disch := omega) only [sxE, pieces_All.E, Nat.reduceAdd, Nat.reduceEqDiff, Nat.reduceMul, Nat.reduceSub, Int.reduceAdd, Int.reduceSub, Int.reduceMul, Int.reduceNeg, Int.reduceLT, Int.reduceLE, Int.reduceEq, Int.reduceToNat, ↓reduceIte, Int.reducePow, Nat.reduceLeDiff, Nat.reduceLT, ne_eq, eq_self, List.length_cons, List.length_nil, qxE] | (with_reducible refine cregF ?_))
       refine asks_ob (C := Sx.cx _ w _) [] (ι := Unit) (fun _ => True) (fun _ => .tuple #[]) b (qcs A.1 v) (fun _ v' => qcs A.1 v') v A.2.length (pcells A.2) (fun _ => A.2.length + (pcl A.1).length) (fun _ => pcells A.2 ++ pcells (pcl A.1)) en_pieces_work__end rfl List.mem_cons_self (.inr (List.mem_cons_of_mem _ List.mem_cons_self)) (fun _ h => h) (fun k hk => by cases hk) (fun W hW hbW hB ho => ?_) fun _ v' _ hnb hsh hR' hgl => ?_
       ·have s1 := hsi.out
        refine (pc_end hbW hB ho hvb (by have := s1.len; omega)).mono ?_
        rintro e w' ⟨v', rfl, g1, g2, g3, g4, g5⟩
        exact ⟨(), v', trivial, rfl, g1, g2, g3, g4, g5⟩
       repeat' (first | simp (disch := omega) only [sxE, pieces_All.E, Nat.reduceAdd, Nat.reduceEqDiff, Nat.reduceMul, Nat.reduceSub, Int.reduceAdd, Int.reduceSub, Int.reduceMul, Int.reduceNeg, Int.reduceLT, Int.reduceLE, Int.reduceEq, Int.reduceToNat, ↓reduceIte, Int.reducePow, Nat.reduceLeDiff, Nat.reduceLT, ne_eq, eq_self, List.length_cons, List.length_nil, qxE] | (with_reducible refine ldP_blk b ?_; refine ldP_k (b := b) rfl (by first | exact List.mem_cons_self | exact List.mem_cons_of_mem _ List.mem_cons_self | exact List.mem_cons_of_mem _ (List.mem_cons_of_mem _ List.mem_cons_self) | exact List.mem_cons_of_mem _ (List.mem_cons_of_mem _ (List.mem_cons_of_mem _ List.mem_cons_self)) | exact List.mem_cons_of_mem _ (List.mem_cons_of_mem _ (List.mem_cons_of_mem _ (List.mem_cons_of_mem _ List.mem_cons_self)))) rfl ?_) | (with_reducible refine cregF ?_))
       refine ⟨v', _, rfl, rfl, .inr ?_⟩
       rw [List.length_append, pcells_app]
       exact List.mem_cons_of_mem _ (List.mem_singleton.2 rfl)
    ·obtain ⟨e1, e2⟩ := perz_lim ht hinc hl
     rw [e1, e2]
     clear e1 e2
     repeat' (first | simp (disch := omega) only [sxE, pieces_All.E, Nat.reduceAdd, Nat.reduceEqDiff, Nat.reduceMul, Nat.reduceSub, Int.reduceAdd, Int.reduceSub, Int.reduceMul, Int.reduceNeg, Int.reduceLT, Int.reduceLE, Int.reduceEq, Int.reduceToNat, ↓reduceIte, Int.reducePow, Nat.reduceLeDiff, Nat.reduceLT, ne_eq, eq_self, List.length_cons, List.length_nil, qxE] | (with_reducible refine Sx.call_at (f := 163) (fun W hW => k1 W) ?_) | (with_reducible refine cregF ?_))
     refine asks_at (fun W hW => c1 W hW) ?_
     repeat' (first | simp (disch := omega) only [sxE, pieces_All.E, Nat.reduceAdd, Nat.reduceEqDiff, Nat.reduceMul, Nat.reduceSub, Int.reduceAdd, Int.reduceSub, Int.reduceMul, Int.reduceNeg, Int.reduceLT, Int.reduceLE, Int.reduceEq, Int.reduceToNat, ↓reduceIte, Int.reducePow, Nat.reduceLeDiff, Nat.reduceLT, ne_eq, eq_self, List.length_cons, List.length_nil, qxE] | (with_reducible refine cregF ?_))
     exact ⟨.slice none 0 0, [], rfl, kX_nil _, .inl ⟨rfl, rfl, rfl⟩⟩
   ·obtain ⟨e1, e2⟩ := perz_inc ht (Bool.eq_false_iff.2 hinc)
    rw [if_neg hinc] at c1
    rw [e1, e2]
    clear e1 e2
    repeat' (first | simp (disch := omega) only [sxE, pieces_All.E, Nat.reduceAdd, Nat.reduceEqDiff, Nat.reduceMul, Nat.reduceSub, Int.reduceAdd, Int.reduceSub, Int.reduceMul, Int.reduceNeg, Int.reduceLT, Int.reduceLE, Int.reduceEq, Int.reduceToNat, ↓reduceIte, Int.reducePow, Nat.reduceLeDiff, Nat.reduceLT, ne_eq, eq_self, List.length_cons, List.length_nil, qxE] | (with_reducible refine Sx.call_at (f := 163) (fun W hW => k1 W) ?_) | (with_reducible refine cregF ?_))
    refine asks_at (fun W hW => c1 W hW) ?_
    repeat' (first | simp (disch := omega) only [sxE, pieces_All.E, Nat.reduceAdd, Nat.reduceEqDiff, Nat.reduceMul, Nat.reduceSub, Int.reduceAdd, Int.reduceSub, Int.reduceMul, Int.reduceNeg, Int.reduceLT, Int.reduceLE, Int.reduceEq, Int.reduceToNat, ↓reduceIte, Int.reducePow, Nat.reduceLeDiff, Nat.reduceLT, ne_eq, eq_self, List.length_cons, List.length_nil, qxE] | (with_reducible refine cregF ?_))
    exact ⟨.slice none 0 0, [], rfl, kX_nil _, .inl ⟨rfl, rfl, rfl⟩⟩
  ·obtain ⟨e1, e2⟩ := perz_tol (ss := ss) (Bool.eq_false_iff.2 ht)
   rw [if_neg ht] at k1
   rw [e1, e2]
   clear e1 e2
   repeat' (first | simp (disch := omega) only [sxE, pieces_All.E, Nat.reduceAdd, Nat.reduceEqDiff, Nat.reduceMul, Nat.reduceSub, Int.reduceAdd, Int.reduceSub, Int.reduceMul, Int.reduceNeg, Int.reduceLT, Int.reduceLE, Int.reduceEq, Int.reduceToNat, ↓reduceIte, Int.reducePow, Nat.reduceLeDiff, Nat.reduceLT, ne_eq, eq_self, List.length_cons, List.length_nil, qxE] | (with_reducible refine Sx.call_at (f := 163) (fun W hW => k1 W) ?_) | (with_reducible refine cregF ?_))
   exact ⟨.slice none 0 0, [], rfl, kX_nil _, .inl ⟨rfl, rfl, rfl⟩⟩
end Go.Proofs.Ytncmmbacoknefaa

/- CdP1: MADE BY PROGRAM (sxgen.py): the small code of some functions, points of it and their equations. -/
namespace Go.Proofs.Ytncmmbacoknefaa
open Go Go.RowKit Sx Sx.Q
set_option linter.unusedVariables false
variable (C : Cx) (R L1 L2 L3 L4 : St → Prop)
namespace w19_known
abbrev r0 : List G := [Mb 0 false]
abbrev q0 := [1, 2]
abbrev r1 : List G := [e 4 (.bd [.int .i64 0, .int .i64 0] [(0, 1, (i 0)), (1, 1, (i 7))]), e 5 (.bd [.int .i64 0, .int .i64 0] [(0, 1, (i 1)), (1, 1, (i 8))]), e 6 (.bd [.int .i64 0, .int .i64 0] [(0, 1, (i 2)), (1, 1, (i 90))]), e 7 (.gen false (.bsl 99 3 [0, 1, 2]) [(t 4), (t 5), (t 6)]), e 8 (.call false 122 [(t 7), (i 3)]), m 3 8, x 9 3 0, x 10 3 1, m 1 9, m 2 10]
abbrev r2 : List G := [m 11 2, bi 12 .eql 11 0, m 13 12, ym 14 13 1, y 15 13 (.len false (t 14)), y 16 13 (.bin .eql (t 15) (i 2)), w 17 13 16, m 18 17, ym 19 18 1, y 20 18 (.is 24 (t 19) (i 0)), ya 21 18 2 20, yl 22 18 21, y 23 18 (.bin .eql (t 22) (i 2)), w 24 18 23, m 25 24, ym 26 25 1, y 27 25 (.is 24 (t 26) (i 0)), ya 28 25 1 27, yl 29 25 28, y 30 25 (.bin .eql (t 29) (i 2)), w 31 25 30, m 32 31, ym 33 32 1, y 34 32 (.is 24 (t 33) (i 1)), ya 35 32 0 34, yl 36 32 35, y 37 32 (.bin .eql (t 36) (i 2)), w 38 32 37, m 39 38, ym 40 39 1, y 41 39 (.is 24 (t 40) (i 1)), ya 42 39 3 41, ya 43 39 0 42, yl 44 39 43, w 45 39 44, m 46 45, y 47 46 (.call false 62 [(i (-3)), (i 3)]), y 48 46 (.call false 20 [(i (-9))]), y 49 46 (.eqg false 38 (t 47) (t 48)), w 50 46 49, m 0 50]
abbrev c : MC := sq [g r0 [], g r1 q0, g r2 [0], .ret]
theorem ok : compF Try.prog Try.f64 (an (rg 3) c []) = some (51, c, [(0, none)]) := by kernel_rfl
abbrev p1 := P C r2 [0] R
abbrev p2 := P C r1 q0 (p1 C R)
abbrev p3 := P C r0 [] (p2 C R)
theorem s (S : St) : X C c (retK R) S = p3 C R S := by kernel_rfl
theorem E : type_of% @s := @s
end w19_known
end Go.Proofs.Ytncmmbacoknefaa

/- Pk: Rows of pieces; equality of pieces; law 19's known. -/
namespace Go.Proofs.Ytncmmbacoknefaa
open Go Go.RowKit Sx
set_option linter.unusedVariables false
set_option linter.unusedSimpArgs false
def pc_0 : PcV := ⟨0, 0, 0, c0⟩
theorem pcells_at : ∀ {ls : List PcV} {i j : Nat}, i < ls.length → j < 24 → (pcells ls)[24 * i + j]? = (pcell (ls.getD i pc_0))[j]?
 | [], i, j, h, _ => absurd h (Nat.not_lt_zero _)
 | x :: ls, 0, j, h, hj => by
  show (pcell x ++ pcells ls)[24 * 0 + j]? = _
  rw [List.getElem?_append_left (by show _ < 24; omega)]
  rw [Nat.mul_zero, Nat.zero_add]
  rfl
 | x :: ls, i + 1, j, h, hj => by
  show (pcell x ++ pcells ls)[24 * (i + 1) + j]? = _
  rw [List.getElem?_append_right (by show 24 ≤ _; omega), show 24 * (i + 1) + j - (pcell x).length = 24 * i + j from by show 24 * (i + 1) + j - 24 = _; omega]
  exact pcells_at (by simpa using h) hj
namespace Sx
variable {C : Cx} {S : St} {K : St → Prop} {d : Option Nat}
theorem ldP_q1 {L : List Kn} {e : TypeId} {g n cap o : Nat} {ls : List PcV} (i j : Nat) (x : PcV) {v : Value} (hT : (C.kn S).T = kX C.w0.heap.size L) (hm : .g (wK e 24 (.slice (some ⟨g, 0, none⟩) n cap) n (pcells ls)) ∈ L) (ho : o = 24 * i + j) (hi : i < ls.length) (hx : ls.getD i pc_0 = x) (hv : (pcell x)[j]? = some v)
  (hk : K (S.put d (.v v))) : ldP C false 1 ⟨g, o, none⟩ d K S := by
 subst ho
 subst hx
 have hj : j < 24 := (List.getElem?_eq_some_iff.1 hv).1
 exact ldP_row (b := false) (l := [v]) hT hm rfl (read1 (by rw [pcells_at hi hj]; exact hv)) hk
end Sx
abbrev L19 : Smps := [(0, 7), (1, 8), (2, 90)]
abbrev A19 : List PcV := piecz 3 L19
theorem a19 : A19.length = 2 ∧ perz 3 L19 = 0 ∧ (A19.getD 0 pc_0).k = 2 ∧ (A19.getD 0 pc_0).n = 2 ∧ (A19.getD 1 pc_0).i = 2 ∧ (A19.getD 1 pc_0).c.o = true := ⟨by kernel_rfl, by kernel_rfl, by kernel_rfl, by kernel_rfl, by kernel_rfl, by kernel_rfl⟩
theorem L19_in : ∀ s ∈ L19, I64 s.1 ∧ I64 s.2 := by unfold I64; decide
set_option maxRecDepth 100000 in
set_option maxHeartbeats 1000000 in
theorem g_known19 (w : World) : Calls Try.prog 64 #[] w fun e w' => e = .returned (.bool true) ∧ Below w.heap.size w w' := by
 have o1 := fun W => rx_of (x := -9) ⟨by decide, by decide⟩ W
 have kb := fun W => gx_base (k := -3) (t := 3) ⟨by decide, by decide⟩ ⟨by decide, by decide⟩ W
 rw [show (-3 : Int) * un 3 = -9 from by decide] at kb
 have f9 : Fits (-9) := (bd_i64 (x := -9) ⟨by decide, by decide⟩).fits
 obtain ⟨e1, e2, e3, e4, e5, e6⟩ := a19
 refine known_of (enter Try.func64 w19_known.ok (args := []) (by simp) ?_)
 repeat' (first | simp (disch := omega) only [sxE, w19_known.E, Nat.reduceAdd, Nat.reduceEqDiff, Nat.reduceMul, Nat.reduceSub, Int.reduceAdd, Int.reduceSub, Int.reduceMul, Int.reduceNeg, Int.reduceLT, Int.reduceLE, Int.reduceEq, Int.reduceToNat, ↓reduceIte, Int.reducePow, Nat.reduceLeDiff, Nat.reduceLT, ne_eq, eq_self, List.length_cons, List.length_nil, qxE] | (with_reducible refine cregF ?_))
 refine genA_c (L := []) (cs := scells L19) (T := 102) (fun b => .slice (some ⟨b, 0, none⟩) 3 3) (kX_nil _) (fun W => by kernel_rfl) fun b _ => ?_
 repeat' (first | simp (disch := omega) only [sxE, w19_known.E, Nat.reduceAdd, Nat.reduceEqDiff, Nat.reduceMul, Nat.reduceSub, Int.reduceAdd, Int.reduceSub, Int.reduceMul, Int.reduceNeg, Int.reduceLT, Int.reduceLE, Int.reduceEq, Int.reduceToNat, ↓reduceIte, Int.reducePow, Nat.reduceLeDiff, Nat.reduceLT, ne_eq, eq_self, List.length_cons, List.length_nil, qxE] | (with_reducible refine cregF ?_))
 refine asks_rowB (L := [.g (cK b (scells L19))]) (e := 149) (s := 24) (ι := Unit) (fun _ => True) (fun _ => 2) (fun _ => pcells A19) (fun _ v => .tuple #[v, .int .i64 0]) en_pieces_All rfl (fun W hW hok => ?_) ?_
 ·have hb : (cK b (scells L19)).ok w.heap.size W := hok _ List.mem_cons_self
  refine (pc_all (t := 3) (sls_cK hb.2 L19_in (by decide)) ⟨by decide, by decide⟩ (by decide)).mono ?_
  rintro e w' ⟨v, h1, h2, h3⟩
  rw [e2] at h1
  rw [e1] at h2
  exact ⟨(), v, trivial, h1, h2, h3⟩
 rintro - a1 c1 - - - hg1 -
 obtain ⟨g1, rfl⟩ := hg1 (by decide)
 have l2 : 0 < A19.length ∧ 1 < A19.length := by rw [e1]; decide
 generalize A19 = A at *
 obtain ⟨l2, l3⟩ := l2
 have v3 : (pcell (A.getD 0 pc_0))[2]? = some (.int .i64 2) := by rw [← e3]; rfl
 have v4 : (pcell (A.getD 0 pc_0))[1]? = some (.int .i64 2) := by rw [← e4]; rfl
 have v5 : (pcell (A.getD 1 pc_0))[0]? = some (.int .i64 2) := by rw [← e5]; rfl
 have v6 : (pcell (A.getD 1 pc_0))[3]? = some (.bool true) := by rw [← e6]; rfl
 have m1 : (Kn.g (wK 149 24 (.slice (some ⟨g1, 0, none⟩) 2 c1) 2 (pcells A))) ∈ ([.g (wK 149 24 (.slice (some ⟨g1, 0, none⟩) 2 c1) 2 (pcells A)), .g (cK b (scells L19))] : List Kn) := List.mem_cons_self
 clear e1 e2 e3 e4 e5 e6
 repeat' (first | simp (disch := omega) only [sxE, w19_known.E, Nat.reduceAdd, Nat.reduceEqDiff, Nat.reduceMul, Nat.reduceSub, Int.reduceAdd, Int.reduceSub, Int.reduceMul, Int.reduceNeg, Int.reduceLT, Int.reduceLE, Int.reduceEq, Int.reduceToNat, ↓reduceIte, Int.reducePow, Nat.reduceLeDiff, Nat.reduceLT, ne_eq, eq_self, List.length_cons, List.length_nil, qxE, beq_self_eq_true, Bool.not_false] | (with_reducible refine Sx.call_at (f := 62) (fun W hW => kb W) ?_) | (with_reducible refine Sx.call_at (f := 20) (fun W hW => o1 W) ?_) | (with_reducible refine ldP_self false 1 g1 ?_; first | refine ldP_q1 0 2 _ rfl m1 rfl l2 rfl v3 ?_ | refine ldP_q1 0 1 _ rfl m1 rfl l2 rfl v4 ?_ | refine ldP_q1 1 0 _ rfl m1 rfl l3 rfl v5 ?_ | refine ldP_q1 1 3 _ rfl m1 rfl l3 rfl v6 ?_) | (with_reducible refine eq_is (fun W => by first | exact eqx_run f9 f9 W) ?_) | (with_reducible refine cregF ?_))
end Go.Proofs.Ytncmmbacoknefaa
