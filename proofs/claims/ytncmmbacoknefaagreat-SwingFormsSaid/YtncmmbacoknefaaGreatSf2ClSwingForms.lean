/- MADE BY PROGRAM (sxgen.py): the small code of some functions, points of it and their equations. -/
import Derived.Test.YtncmmbacoknefaaGreatProg
import Derived.Test.YtncmmbacoknefaaGreatSf22
namespace Go.Proofs.YtncmmbacoknefaaGreat
open Go Go.RowKit Sx Sx.Q
set_option linter.unusedVariables false
variable (C:Cx) (R L1 L2 L3 L4:St→Prop)

/-! ### tscodec/tscodeclaw14.SwingForms -/
namespace w14_SwingForms
abbrev q0:=[2,3,4,5]
abbrev r0:List G:=[e 4 (.box true 26 (t 0)),e 5 (.box true 2 (t 1)),Mb 8 false]
abbrev q1:=[2,4,5,9]
abbrev r1:List G:=[m 17 3,K1 18 15 17,m 9 18]
abbrev q2:=[2,4,5,9,10,11]
abbrev z0:List Value:=[.int .i64 0,.int .i64 0,.int .i64 0,.int .i64 0,.int .i64 0,.bool false,.bool false,.int .u64 0,.int .u64 0,.int .u64 0,.int .u64 0,.bool false,.int .u64 0,.int .u64 0,.int .u64 0,.int .u64 0,.bool false,.int .u64 0,.int .u64 0,.int .u64 0,.int .u64 0,.bool false,.int .u64 0,.int .u64 0,.int .u64 0,.int .u64 0]
abbrev r2:List G:=[m 20 9,K1 21 63 20,m 19 21,x 22 19 0,x 23 19 1,e 10 (.new z0),e 11 (.new [.int .i64 0,.int .i64 0]),V 26 10 22,V 2 11 23]
abbrev q3:=[2,4,5,9,10,11,12,13]
abbrev r3:List G:=[m 25 2,K1 26 64 25,m 24 26,x 27 24 0,x 28 24 1,e 12 (.new z0),V 26 12 27,m 13 28]
abbrev q4:=[4,5,9,10,11,12,13,14,15]
abbrev r4:List G:=[m 30 2,K1 31 65 30,m 29 31,x 32 29 0,x 33 29 1,e 14 (.new z0),V 26 14 32,m 15 33]
abbrev q5:=[4,5,10,11,12,13,14,15,16]
abbrev r5:List G:=[m 34 9,L 35 26 10,K2 36 66 34 35,e 16 (.new z0),V 26 16 36]
abbrev r6:List G:=[K0 37 47,m 38 37,y 39 38 (.ld true 26 (t 12)),y 40 38 (.ld true 26 (t 14)),y 41 38 (.eqg false 103 (t 39) (t 40)),w 42 38 41,m 43 42,ym 44 43 13,ym 45 43 15,y 46 43 (.bin .eql (t 44) (t 45)),w 47 43 46,m 48 47,y 49 48 (.ld true 26 (t 4)),y 50 48 (.ld true 2 (t 5)),y 51 48 (.call false 67 [(t 49),(t 50)]),w 52 48 51,m 53 52,y 54 53 (.ld true 26 (t 10)),y 55 53 (.ld true 2 (t 11)),y 56 53 (.call false 67 [(t 54),(t 55)]),w 57 53 56,m 58 57,y 59 58 (.ld true 26 (t 10)),y 60 58 (.ld true 2 (t 5)),y 61 58 (.call false 67 [(t 59),(t 60)]),w 62 58 61,m 63 62,y 64 63 (.ld true 26 (t 16)),y 65 63 (.ld true 2 (t 11)),y 66 63 (.call false 67 [(t 64),(t 65)]),w 67 63 66,m 68 67,y 69 68 (.ld true 26 (t 16)),ya 70 68 4 16,yl 71 68 70,y 72 68 (.bin .add (t 71) (i 1)),ya 73 68 1 5,yl 74 68 73,y 75 68 (.bd [.int .i64 0,.int .i64 0] [(0,1,(t 72)),(1,1,(t 74))]),y 76 68 (.call false 67 [(t 69),(t 75)]),w 77 68 76,m 8 77]
abbrev c:MC:=sq [g r0 q0,g r1 q1,g r2 q2,g r3 q3,g r4 q4,g r5 q5,g r6 [8],.ret]
theorem ok:compF Tryz.prog Tryz.f14 (an (rg 7) c []) = some (78,c,[(8,none)]):=by kernel_rfl
abbrev p1:=P C r6 [8] R
abbrev p2:=P C r5 q5 (p1 C R)
abbrev p3:=P C r4 q4 (p2 C R)
abbrev p4:=P C r3 q3 (p3 C R)
abbrev p5:=P C r2 q2 (p4 C R)
abbrev p6:=P C r1 q1 (p5 C R)
abbrev p7:=P C r0 q0 (p6 C R)
theorem s (S:St):X C c (retK R) S = p7 C R S:=by kernel_rfl
theorem E:type_of% @s:=@s
end w14_SwingForms
end Go.Proofs.YtncmmbacoknefaaGreat
