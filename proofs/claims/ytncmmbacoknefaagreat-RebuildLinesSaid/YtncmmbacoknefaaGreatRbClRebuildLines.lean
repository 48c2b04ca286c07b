/- MADE BY PROGRAM (sxgen.py): the small code of some functions, points of it and their equations. -/
import Derived.Test.YtncmmbacoknefaaGreatProg
import Derived.Test.YtncmmbacoknefaaGreatRb2
namespace Go.Proofs.YtncmmbacoknefaaGreat
open Go Go.RowKit Sx Sx.Q
set_option linter.unusedVariables false
variable (C:Cx) (R L1 L2 L3 L4:St→Prop)

/-! ### tscodec/tscodeclaw20.RebuildLines -/
namespace w20_RebuildLines
abbrev q0:=[0,1,2]
abbrev r0:List G:=[Mb 6 false]
abbrev q1:=[0,1,7]
abbrev r1:List G:=[m 22 2,K1 23 15 22,m 7 23]
abbrev q2:=[0,1,7,8,9]
abbrev r2:List G:=[m 24 7,e 25 (.call false 16 [(t 24),(i 25)]),m 26 7,K1 27 17 26,m 8 25,m 9 27]
abbrev q3:=[0,1,7,8,10]
abbrev r3:List G:=[m 29 8,m 30 9,K2 31 18 29 30,m 28 31,x 32 28 0,x 33 28 1,m 10 32,m 11 33]
abbrev q4:=[0,1,7,10,12]
abbrev r4:List G:=[m 34 8,K1 35 19 34,m 12 35]
abbrev q5:=[0,1,7,10,12,13]
abbrev r5:List G:=[e 36 (.gen false (.bsl 22 0 []) []),m 37 10,e 38 (.gen false (.bi .append [22,22] 22 [false,false]) [(t 36),(t 37)]),m 13 38]
abbrev q6:=[0,1,7,10,12,13,41]
abbrev r6:List G:=[m 39 13,e 40 (.len false (t 39)),bi 41 .gtr 40 0]
abbrev r7:List G:=[m 42 13,m 43 7,m 44 13,e 45 (.len false (t 44)),m 50 7,K2 46 20 43 45,j 47 12 42 46,a 48 0 47,l 49 48,e 51 (.call false 20 [(t 50),(i 3)]),bi 52 .sub 51 1,b 53 .add 49 52,j 54 12 42 46,a 55 0 54]
abbrev t7:List G:=[v 55 53]
abbrev r8:List G:=[m 56 13,m 57 7,m 58 13,e 59 (.len false (t 58)),K2 60 20 57 59,m 61 7,K1 62 21 61,j 63 12 56 60,a 64 2 63,V 10 64 62]
abbrev q7:=[0,1,10,12,13,14]
abbrev r9:List G:=[m 65 7,e 66 (.call false 22 [(t 65),(i 25)]),m 14 66]
abbrev q8:=[1,12,14,15]
abbrev r10:List G:=[m 67 0,m 68 10,m 69 13,m 70 10,m 71 0,e 72 (.gen false (.bsl 45 5 [0,1,2,3,4]) [(t 67),(t 68),(t 69),(t 70),(t 71)]),m 15 72]
abbrev q9:=[15,16]
abbrev r11:List G:=[m 73 1,m 74 12,m 75 12,m 76 14,m 77 12,e 78 (.gen false (.bsl 46 5 [0,1,2,3,4]) [(t 73),(t 74),(t 75),(t 76),(t 77)]),m 16 78]
abbrev q10:=[15,16,17]
abbrev r12:List G:=[Mi 17 0]
abbrev q11:=[15,16,17,82]
abbrev r13:List G:=[m 79 17,m 80 15,e 81 (.len false (t 80)),b 82 .lss 79 81]
abbrev q12:=[15,16,17,18,19]
abbrev r15:List G:=[m 86 15,m 87 17,j 88 1 86 87,l 89 88,m 90 16,m 91 17,j 92 1 90 91,l 93 92,K2 94 23 89 93,m 85 94,x 95 85 0,x 96 85 1]
abbrev t15:List G:=[m 18 95,m 19 96]
abbrev q13:=[15,16,17,18,19,20,21]
abbrev r16:List G:=[m 98 15,m 99 17,j 100 1 98 99,l 101 100,m 102 16,m 103 17,j 104 1 102 103,l 105 104,K2 106 24 101 105,m 97 106,x 107 97 0,x 108 97 1]
abbrev t16:List G:=[m 20 107,m 21 108]
abbrev q14:=[15,16,17,117]
abbrev r17:List G:=[m 109 19,m 110 21,b 111 .neq 109 110,m 112 111,nm 113 112 18,nm 114 112 20,n 115 112 (.call false 25 [(t 113),(t 114)]),n 116 112 (.un .not (t 115)),o 117 112 116]
abbrev r18:List G:=[Mb 6 false]
abbrev r14:List G:=[m 83 17,bi 84 .add 83 1,m 17 84]
abbrev r19:List G:=[K0 118 26,m 6 118]
abbrev c:MC:=sq [g r0 q0,g r1 q1,g r2 q2,g r3 q3,g r4 q4,g r5 q5,sq [g r6 q6,ci 41 (sq [gk false false r7 t7 q5,g r8 q5]) .skip],g r9 q7,g r10 q8,g r11 q9,sq [g r12 q10,.block 0 (.loop (sq [sq [g r13 q11,ci 82 .skip (.exit 0)],.block 1 (sq [gk true false r15 t15 q12,gk true false r16 t16 q13,g r17 q14,ci 117 (sq [g r18 [6],.ret]) .skip]),g r14 q10]))],g r19 [6],.ret]
theorem ok:compF Tryz.prog Tryz.f3 (an [0,1,2,3,4,5,6,7,8,9,10,11,12,13,15,16,17,18,14,19] c [(7,300014,[],(up 4 ++ [(8,0),(4,1),(5,0),(6,0),(7,0),(9,1),(10,0),(11,0),(12,0),(13,0)]),[]),(15,200012,[11],(up 8 ++ [(8,1),(9,0),(10,0),(11,2)]),[]),(16,200012,[11],(up 8 ++ [(8,1),(9,0),(10,0),(11,2)]),[])]) = some (119,c,[(6,none)]):=by kernel_rfl
abbrev p1:=P C r19 [6] R
abbrev p3:=P C r14 q10 L1
abbrev p5:=P C r18 [6] R
abbrev p4:=cd (t 117) (p5 C R) (p3 C L1)
abbrev p6:=P C r17 q14 (p4 C R L1)
abbrev p7:=Pc C true false r16 t16 q13 (p6 C R L1)
abbrev p8:=Pc C true false r15 t15 q12 (p7 C R L1)
abbrev p9:=cd (t 82) (p8 C R L1) (p1 C R)
abbrev p10:=P C r13 q11 (p9 C R L1)
def p2 (S:St):Prop:=LX C (fun L1=>(p10 C R L1)) S
theorem p2_l (S:St):p2 C R S = LX C (fun L1=>(p10 C R L1)) S:=rfl
abbrev p11:=P C r12 q10 (p2 C R)
abbrev p12:=P C r11 q9 (p11 C R)
abbrev p13:=P C r10 q8 (p12 C R)
abbrev p14:=P C r9 q7 (p13 C R)
abbrev p16:=P C r8 q5 (p14 C R)
abbrev p17:=Pc C false false r7 t7 q5 (p16 C R)
abbrev p15:=cd (t 41) (p17 C R) (p14 C R)
abbrev p18:=P C r6 q6 (p15 C R)
abbrev p19:=P C r5 q5 (p18 C R)
abbrev p20:=P C r4 q4 (p19 C R)
abbrev p21:=P C r3 q3 (p20 C R)
abbrev p22:=P C r2 q2 (p21 C R)
abbrev p23:=P C r1 q1 (p22 C R)
abbrev p24:=P C r0 q0 (p23 C R)
theorem s (S:St):X C c (retK R) S = p24 C R S:=by kernel_rfl
theorem E:type_of% @s:=@s
end w20_RebuildLines
end Go.Proofs.YtncmmbacoknefaaGreat
