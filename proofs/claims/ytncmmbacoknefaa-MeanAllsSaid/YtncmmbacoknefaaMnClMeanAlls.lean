/- MADE BY PROGRAM (sxgen.py): the small code of some functions, points of it and their equations. -/
import Derived.Test.YtncmmbacoknefaaProg
import Derived.Test.YtncmmbacoknefaaMn2
namespace Go.Proofs.Ytncmmbacoknefaa
open Go Go.RowKit Sx Sx.Q
set_option linter.unusedVariables false
variable (C:Cx) (R L1 L2 L3 L4:St→Prop)

/-! ### tscodec/tscodeclaw16.MeanAlls -/
namespace w16_MeanAlls
abbrev q0:=[0,1,2]
abbrev r0:List G:=[Mb 6 false]
abbrev q1:=[0,1,7]
abbrev r1:List G:=[m 18 2,K1 19 16 18,m 7 19]
abbrev q2:=[0,1,8,9]
abbrev r2:List G:=[m 20 7,e 21 (.call false 18 [(t 20),(i 30)]),m 22 7,K1 23 17 22,m 8 21,m 9 23]
abbrev q3:=[0,1,8,9,10,11]
abbrev r3:List G:=[m 25 0,m 26 1,K2 27 19 25 26,m 24 27,x 28 24 0,x 29 24 1,m 10 28,m 11 29]
abbrev q4:=[8,9,10,11,12,13]
abbrev r4:List G:=[m 31 0,m 32 1,K2 33 26 31 32,m 30 33,x 34 30 0,x 35 30 1,m 12 34,m 13 35]
abbrev q5:=[8,9,10,11,12,13,14,15]
abbrev r5:List G:=[m 37 8,m 38 9,K2 39 19 37 38,m 36 39,x 40 36 0,x 41 36 1,m 14 40,m 15 41]
abbrev q6:=[10,11,12,13,14,15,16,17]
abbrev r6:List G:=[m 43 8,m 44 9,K2 45 26 43 44,m 42 45,x 46 42 0,x 47 42 1,m 16 46,m 17 47]
abbrev r7:List G:=[K0 48 24,m 49 48,ym 50 49 11,ym 51 49 13,y 52 49 (.bin .eql (t 50) (t 51)),w 53 49 52,m 54 53,ym 55 54 10,ym 56 54 12,y 57 54 (.call false 27 [(t 55),(t 56)]),w 58 54 57,m 59 58,ym 60 59 15,ym 61 59 17,y 62 59 (.bin .eql (t 60) (t 61)),w 63 59 62,m 64 63,ym 65 64 14,ym 66 64 16,y 67 64 (.call false 27 [(t 65),(t 66)]),w 68 64 67,m 6 68]
abbrev c:MC:=sq [g r0 q0,g r1 q1,g r2 q2,g r3 q3,g r4 q4,g r5 q5,g r6 q6,g r7 [6],.ret]
theorem ok:compF Try.prog Try.f5 (an (rg 8) c []) = some (69,c,[(6,none)]):=by kernel_rfl
abbrev p1:=P C r7 [6] R
abbrev p2:=P C r6 q6 (p1 C R)
abbrev p3:=P C r5 q5 (p2 C R)
abbrev p4:=P C r4 q4 (p3 C R)
abbrev p5:=P C r3 q3 (p4 C R)
abbrev p6:=P C r2 q2 (p5 C R)
abbrev p7:=P C r1 q1 (p6 C R)
abbrev p8:=P C r0 q0 (p7 C R)
theorem s (S:St):X C c (retK R) S = p8 C R S:=by kernel_rfl
theorem E:type_of% @s:=@s
end w16_MeanAlls
end Go.Proofs.Ytncmmbacoknefaa
