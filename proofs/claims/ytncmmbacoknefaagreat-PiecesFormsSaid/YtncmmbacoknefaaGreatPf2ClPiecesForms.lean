/- MADE BY PROGRAM (sxgen.py): the small code of some functions, points of it and their equations. -/
import Derived.Test.YtncmmbacoknefaaGreatProg
import Derived.Test.YtncmmbacoknefaaGreatPf22
namespace Go.Proofs.YtncmmbacoknefaaGreat
open Go Go.RowKit Sx Sx.Q
set_option linter.unusedVariables false
variable (C:Cx) (R L1 L2 L3 L4:St→Prop)

/-! ### tscodec/tscodeclaw19.PiecesForms -/
namespace w19_PiecesForms
abbrev q0:=[2,3,4,5,6]
abbrev r0:List G:=[e 5 (.box true 28 (t 0)),e 6 (.box true 2 (t 1)),Mb 10 false]
abbrev q1:=[2,3,5,6,11]
abbrev r1:List G:=[m 20 4,K1 21 15 20,m 11 21]
abbrev q2:=[2,3,5,6,11,12,13]
abbrev z0:List Value:=[.int .i64 0,.int .i64 0,.int .i64 0,.int .i64 0,.int .i64 0,.int .i64 0,.int .i64 0,.bool false,.bool false,.int .u64 0,.int .u64 0,.int .u64 0,.int .u64 0,.bool false,.int .u64 0,.int .u64 0,.int .u64 0,.int .u64 0,.bool false,.int .u64 0,.int .u64 0,.int .u64 0,.int .u64 0,.bool false,.int .u64 0,.int .u64 0,.int .u64 0,.int .u64 0]
abbrev r2:List G:=[m 23 11,K1 24 56 23,m 22 24,x 25 22 0,x 26 22 1,e 12 (.new z0),e 13 (.new [.int .i64 0,.int .i64 0]),V 28 12 25,V 2 13 26]
abbrev q3:=[2,3,5,6,11,12,13,14,15]
abbrev r3:List G:=[m 28 2,K1 29 57 28,m 27 29,x 30 27 0,x 31 27 1,e 14 (.new z0),V 28 14 30,m 15 31]
abbrev q4:=[2,3,5,6,11,12,13,14,15,16,17]
abbrev r4:List G:=[m 33 2,K1 34 58 33,m 32 34,x 35 32 0,x 36 32 1,e 16 (.new z0),V 28 16 35,m 17 36]
abbrev q5:=[2,3,5,6,11,12,13,14,15,16,17,18]
abbrev r5:List G:=[m 37 11,L 38 28 12,K2 39 59 37 38,e 18 (.new z0),V 28 18 39]
abbrev q6:=[2,3,5,6,12,13,14,15,16,17,18,19]
abbrev r6:List G:=[m 40 11,K1 41 17 40,m 19 41]
abbrev r7:List G:=[k0 42 36,m 43 42,y 44 43 (.ld true 28 (t 14)),y 45 43 (.ld true 28 (t 16)),y 46 43 (.eqg false 94 (t 44) (t 45)),w 47 43 46,m 48 47,ym 49 48 15,ym 50 48 17,y 51 48 (.bin .eql (t 49) (t 50)),w 52 48 51,m 53 52,y 54 53 (.ld true 28 (t 5)),y 55 53 (.ld true 2 (t 6)),y 56 53 (.call true 60 [(t 54),(t 55)]),w 57 53 56,m 58 57,y 59 58 (.ld true 28 (t 12)),y 60 58 (.ld true 2 (t 13)),y 61 58 (.call true 60 [(t 59),(t 60)]),w 62 58 61,m 63 62,y 64 63 (.ld true 28 (t 12)),y 65 63 (.ld true 2 (t 6)),y 66 63 (.call true 60 [(t 64),(t 65)]),w 67 63 66,m 68 67,y 69 68 (.ld true 28 (t 18)),y 70 68 (.ld true 2 (t 13)),y 71 68 (.call true 60 [(t 69),(t 70)]),w 72 68 71,m 73 72,ya 74 73 1 6,yl 75 73 74,ym 76 73 2,y 77 73 (.call true 61 [(t 75),(t 76)]),ya 78 73 1 6,yl 79 73 78,ym 80 73 2,y 81 73 (.call true 38 [(t 79),(t 80)]),y 82 73 (.bin .eql (t 77) (t 81)),w 83 73 82,m 84 83,ya 85 84 1 6,yl 86 84 85,ym 87 84 19,y 88 84 (.call true 61 [(t 86),(t 87)]),ya 89 84 1 6,yl 90 84 89,ym 91 84 19,y 92 84 (.call true 38 [(t 90),(t 91)]),y 93 84 (.bin .eql (t 88) (t 92)),w 94 84 93,m 95 94,ym 96 95 3,ym 97 95 2,y 98 95 (.call true 62 [(t 96),(t 97)]),ym 99 95 3,ym 100 95 2,y 101 95 (.call true 41 [(t 99),(t 100)]),y 102 95 (.eqg false 37 (t 98) (t 101)),w 103 95 102,m 104 103,ym 105 104 3,ym 106 104 19,y 107 104 (.call true 62 [(t 105),(t 106)]),ym 108 104 3,ym 109 104 19,y 110 104 (.call true 41 [(t 108),(t 109)]),y 111 104 (.eqg false 37 (t 107) (t 110)),w 112 104 111]
abbrev t7:List G:=[m 10 112]
abbrev c:MC:=sq [g r0 q0,g r1 q1,g r2 q2,g r3 q3,g r4 q4,g r5 q5,g r6 q6,gd r7 t7 [10],.ret]
theorem ok:compF Tryz.prog Tryz.f13 (an (rg 8) c [(7,71,[],(up 71),[])]) = some (113,c,[(10,none)]):=by kernel_rfl
abbrev p1:=Pd C r7 t7 [10] R
abbrev p2:=P C r6 q6 (p1 C R)
abbrev p3:=P C r5 q5 (p2 C R)
abbrev p4:=P C r4 q4 (p3 C R)
abbrev p5:=P C r3 q3 (p4 C R)
abbrev p6:=P C r2 q2 (p5 C R)
abbrev p7:=P C r1 q1 (p6 C R)
abbrev p8:=P C r0 q0 (p7 C R)
theorem s (S:St):X C c (retK R) S = p8 C R S:=by kernel_rfl
theorem E:type_of% @s:=@s
end w19_PiecesForms
end Go.Proofs.YtncmmbacoknefaaGreat
