/- MADE BY PROGRAM (sxgen.py): the small code of some functions, points of it and their equations. -/
import Derived.Test.YtncmmbacoknefaaGreatProg
import Derived.Test.YtncmmbacoknefaaGreatRg22
namespace Go.Proofs.YtncmmbacoknefaaGreat
open Go Go.RowKit Sx Sx.Q
set_option linter.unusedVariables false
variable (C:Cx) (R L1 L2 L3 L4:St→Prop)

/-! ### tscodec/tscodeclaw20.RebuildGroups -/
namespace w20_RebuildGroups
abbrev q0:=[0,1,2,3]
abbrev r0:List G:=[Mb 8 false]
abbrev q1:=[0,1,2,9]
abbrev r1:List G:=[m 25 3,K1 26 15 25,m 9 26]
abbrev q2:=[0,1,2,9,10,11]
abbrev r2:List G:=[m 27 9,e 28 (.call false 16 [(t 27),(i 25)]),m 29 9,K1 30 17 29,m 10 28,m 11 30]
abbrev q3:=[0,1,2,9,10,11,12]
abbrev r3:List G:=[m 32 10,m 33 11,K2 34 31 32 33,m 31 34,x 35 31 0,x 36 31 1,m 12 35,m 13 36]
abbrev q4:=[0,1,2,9,10,11,14]
abbrev r4:List G:=[m 37 12,m 38 9,K2 39 32 37 38,m 14 39]
abbrev q5:=[0,1,2,9,10,11,14,15]
abbrev r5:List G:=[m 40 10,K1 41 19 40,m 15 41]
abbrev q6:=[0,1,2,9,10,11,14,15,16]
abbrev r6:List G:=[e 42 (.gen false (.bsl 60 0 []) []),m 43 14,e 44 (.gen false (.bi .append [60,60] 60 [false,false]) [(t 42),(t 43)]),m 16 44]
abbrev q7:=[0,1,2,9,10,11,14,15,16,47]
abbrev r7:List G:=[m 45 16,e 46 (.len false (t 45)),bi 47 .gtr 46 0]
abbrev q8:=[0,1,2,11,14,15,16]
abbrev r8:List G:=[m 48 16,m 49 9,m 50 16,e 51 (.len false (t 50)),K2 52 20 49 51,m 53 9,m 54 10,e 55 (.len false (t 54)),bi 56 .add 55 2,K2 57 20 53 56,bi 58 .sub 57 1,m 59 9,m 60 10,e 61 (.len false (t 60)),bi 62 .add 61 1,K2 63 20 59 62,e 64 (.gen false (.bsl 24 2 [0,1]) [(t 58),(t 63)]),j 65 12 48 52,a 66 11 65,v 66 64]
abbrev q9:=[1,2,11,15,17]
abbrev r9:List G:=[m 67 0,m 68 14,m 69 16,m 70 14,m 71 14,e 72 (.gen false (.bsl 67 5 [0,1,2,3,4]) [(t 67),(t 68),(t 69),(t 70),(t 71)]),m 17 72]
abbrev q10:=[2,15,17,18]
abbrev r10:List G:=[m 73 1,m 74 11,m 75 11,m 76 1,m 77 11,e 78 (.gen false (.bsl 23 5 [0,1,2,3,4]) [(t 73),(t 74),(t 75),(t 76),(t 77)]),m 18 78]
abbrev q11:=[17,18,19]
abbrev r11:List G:=[m 79 2,m 80 15,m 81 15,m 82 15,m 83 2,e 84 (.gen false (.bsl 46 5 [0,1,2,3,4]) [(t 79),(t 80),(t 81),(t 82),(t 83)]),m 19 84]
abbrev q12:=[17,18,19,20]
abbrev r12:List G:=[Mi 20 0]
abbrev q13:=[17,18,19,20,88]
abbrev r13:List G:=[m 85 20,m 86 17,e 87 (.len false (t 86)),b 88 .lss 85 87]
abbrev q14:=[17,18,19,20,21,22]
abbrev r15:List G:=[m 92 17,m 93 20,j 94 1 92 93,l 95 94,m 96 18,m 97 20,j 98 1 96 97,l 99 98,m 100 19,m 101 20,j 102 1 100 101,l 103 102,K3 104 33 95 99 103,m 91 104,x 105 91 0,x 106 91 1]
abbrev t15:List G:=[m 21 105,m 22 106]
abbrev q15:=[17,18,19,20,21,22,23,24]
abbrev r16:List G:=[m 108 17,m 109 20,j 110 1 108 109,l 111 110,m 112 18,m 113 20,j 114 1 112 113,l 115 114,m 116 19,m 117 20,j 118 1 116 117,l 119 118,K3 120 34 111 115 119,m 107 120,x 121 107 0,x 122 107 1]
abbrev t16:List G:=[m 23 121,m 24 122]
abbrev q16:=[17,18,19,20,131]
abbrev r17:List G:=[m 123 22,m 124 24,b 125 .neq 123 124,m 126 125,nm 127 126 21,nm 128 126 23,n 129 126 (.call false 25 [(t 127),(t 128)]),n 130 126 (.un .not (t 129)),o 131 126 130]
abbrev r18:List G:=[Mb 8 false]
abbrev r14:List G:=[m 89 20,bi 90 .add 89 1,m 20 90]
abbrev r19:List G:=[K0 132 26,m 8 132]
abbrev c:MC:=sq [g r0 q0,g r1 q1,g r2 q2,g r3 q3,g r4 q4,g r5 q5,g r6 q6,sq [g r7 q7,ci 47 (g r8 q8) .skip],g r9 q9,g r10 q10,g r11 q11,sq [g r12 q12,.block 0 (.loop (sq [sq [g r13 q13,ci 88 .skip (.exit 0)],.block 1 (sq [gk true false r15 t15 q14,gk true false r16 t16 q15,g r17 q16,ci 131 (sq [g r18 [8],.ret]) .skip]),g r14 q12]))],g r19 [8],.ret]
theorem ok:compF Tryz.prog Tryz.f5 (an [0,1,2,3,4,5,6,7,8,9,10,11,12,13,15,16,17,18,14,19] c [(15,200016,[15],(up 12 ++ [(12,1),(13,0),(14,0),(15,2)]),[]),(16,200016,[15],(up 12 ++ [(12,1),(13,0),(14,0),(15,2)]),[])]) = some (133,c,[(8,none)]):=by kernel_rfl
abbrev p1:=P C r19 [8] R
abbrev p3:=P C r14 q12 L1
abbrev p5:=P C r18 [8] R
abbrev p4:=cd (t 131) (p5 C R) (p3 C L1)
abbrev p6:=P C r17 q16 (p4 C R L1)
abbrev p7:=Pc C true false r16 t16 q15 (p6 C R L1)
abbrev p8:=Pc C true false r15 t15 q14 (p7 C R L1)
abbrev p9:=cd (t 88) (p8 C R L1) (p1 C R)
abbrev p10:=P C r13 q13 (p9 C R L1)
def p2 (S:St):Prop:=LX C (fun L1=>(p10 C R L1)) S
theorem p2_l (S:St):p2 C R S = LX C (fun L1=>(p10 C R L1)) S:=rfl
abbrev p11:=P C r12 q12 (p2 C R)
abbrev p12:=P C r11 q11 (p11 C R)
abbrev p13:=P C r10 q10 (p12 C R)
abbrev p14:=P C r9 q9 (p13 C R)
abbrev p16:=P C r8 q8 (p14 C R)
abbrev p15:=cd (t 47) (p16 C R) (p14 C R)
abbrev p17:=P C r7 q7 (p15 C R)
abbrev p18:=P C r6 q6 (p17 C R)
abbrev p19:=P C r5 q5 (p18 C R)
abbrev p20:=P C r4 q4 (p19 C R)
abbrev p21:=P C r3 q3 (p20 C R)
abbrev p22:=P C r2 q2 (p21 C R)
abbrev p23:=P C r1 q1 (p22 C R)
abbrev p24:=P C r0 q0 (p23 C R)
theorem s (S:St):X C c (retK R) S = p24 C R S:=by kernel_rfl
theorem E:type_of% @s:=@s
end w20_RebuildGroups
end Go.Proofs.YtncmmbacoknefaaGreat
