/- MADE BY PROGRAM (sxgen.py): the small code of some functions, points of it and their equations. -/
import Derived.Test.YtncmmbacoknefaaProg
import Derived.Test.YtncmmbacoknefaaMn2
namespace Go.Proofs.Ytncmmbacoknefaa
open Go Go.RowKit Sx Sx.Q
set_option linter.unusedVariables false
variable (C:Cx) (R L1 L2 L3 L4:St→Prop)

/-! ### tscodec/tscodeclaw16.MeanWithin -/
namespace w16_MeanWithin
abbrev q0:=[0,1]
abbrev r0:List G:=[Mb 4 false]
abbrev r1:List G:=[m 18 0,m 19 0,e 20 (.len false (t 19)),e 21 (.mm false (t 20) (i 2000)),e 22 (.gen false (.sl 22 false true false) [(t 18),(t 21)]),m 0 22]
abbrev q1:=[0,5]
abbrev r2:List G:=[m 23 1,K1 24 16 23,m 5 24]
abbrev q2:=[0,5,6]
abbrev r3:List G:=[m 25 5,K1 26 17 25,m 6 26]
abbrev q3:=[6,7]
abbrev r4:List G:=[m 27 0,m 28 5,e 29 (.call false 18 [(t 28),(i 30)]),e 30 (.gen false (.bsl 28 2 [0,1]) [(t 27),(t 29)]),m 7 30]
abbrev q4:=[6,7,8]
abbrev r5:List G:=[Mi 8 0]
abbrev q5:=[6,7,8,32]
abbrev r6:List G:=[m 31 8,bi 32 .lss 31 2]
abbrev q6:=[6,7,8,9,10]
abbrev r8:List G:=[m 36 7,m 37 8,j 38 1 36 37,l 39 38,m 40 6,K2 41 19 39 40,m 35 41,x 42 35 0,x 43 35 1,m 9 42,m 10 43]
abbrev q7:=[6,7,8,9,10,11]
abbrev r9:List G:=[Mi 11 0]
abbrev q8:=[6,7,8,9,10,11,12]
abbrev r10:List G:=[Mi 12 0]
abbrev q9:=[6,7,8,9,10,11,12,47]
abbrev r11:List G:=[m 44 12,m 45 9,e 46 (.len false (t 45)),b 47 .lss 44 46]
abbrev q10:=[6,7,8,9,10,11,12,70]
abbrev r13:List G:=[m 50 9,m 51 12,j 52 2 50 51,a 53 0 52,l 54 53,bi 55 .lss 54 1,m 56 55,nm 57 56 9,nm 58 56 12,n 59 56 (.is 2 (t 57) (t 58)),na 60 56 0 59,nl 61 56 60,nm 62 56 7,nm 63 56 8,n 64 56 (.is 1 (t 62) (t 63)),nl 65 56 64,n 66 56 (.len false (t 65)),nm 67 56 11,n 68 56 (.bin .sub (t 66) (t 67)),n 69 56 (.bin .gtr (t 61) (t 68)),o 70 56 69]
abbrev r14:List G:=[Mb 4 false]
abbrev q11:=[6,7,8,9,10,11,12,13]
abbrev r15:List G:=[e 71 (.call false 20 [(i 0)]),e 13 (.new zW),V 5 13 71]
abbrev q12:=[6,7,8,9,10,11,12,13,14]
abbrev r16:List G:=[Mi 14 0]
abbrev q13:=[6,7,8,9,10,11,12,13,14,78]
abbrev r17:List G:=[m 72 14,m 73 9,m 74 12,j 75 2 73 74,a 76 0 75,l 77 76,b 78 .lss 72 77]
abbrev q14:=[6,7,8,9,10,11,12,13,14,95]
abbrev r19:List G:=[m 81 7,m 82 8,j 83 1 81 82,l 84 83,m 85 11,j 86 1 84 85,l 87 86,m 88 9,m 89 12,j 90 2 88 89,a 91 1 90,l 92 91,m 93 6,k3 94 21 87 92 93,e 95 (.un .not (t 94))]
abbrev r20:List G:=[Mb 4 false]
abbrev r21:List G:=[L 97 5 13,m 98 7,m 99 8,j 100 1 98 99,l 101 100,m 102 11,j 103 1 101 102,l 104 103,k1 105 20 104,k2 106 22 97 105,m 96 106,x 107 96 0,x 108 96 1]
abbrev t21:List G:=[V 5 13 107]
abbrev r22:List G:=[m 109 11,bi 110 .add 109 1,m 11 110]
abbrev r18:List G:=[m 79 14,bi 80 .add 79 1,m 14 80]
abbrev q15:=[6,7,8,9,10,11,12,15]
abbrev r23:List G:=[L 112 5 13,m 113 9,m 114 12,j 115 2 113 114,a 116 0 115,l 117 116,k1 118 20 117,k2 119 23 112 118,m 111 119,x 120 111 0,x 121 111 1,x 122 111 2]
abbrev t23:List G:=[e 15 (.new zW),e 16 (.new zW),V 5 15 120,V 5 16 121,m 17 122]
abbrev q16:=[6,7,8,9,10,11,12,130]
abbrev r24:List G:=[L 123 5 15,m 124 9,m 125 12,j 126 2 124 125,a 127 1 126,l 128 127,k1 129 20 128,e 130 (.eqg true 38 (t 123) (t 129))]
abbrev r25:List G:=[Mb 4 false]
abbrev r12:List G:=[m 48 12,bi 49 .add 48 1,m 12 49]
abbrev q17:=[6,7,8,141]
abbrev r26:List G:=[m 131 10,bi 132 .neq 131 0,m 133 132,nm 134 133 11,nm 135 133 7,nm 136 133 8,n 137 133 (.is 1 (t 135) (t 136)),nl 138 133 137,n 139 133 (.len false (t 138)),n 140 133 (.bin .neq (t 134) (t 139)),o 141 133 140]
abbrev r27:List G:=[Mb 4 false]
abbrev r7:List G:=[m 33 8,bi 34 .add 33 1,m 8 34]
abbrev r28:List G:=[K0 142 24,m 4 142]
abbrev c:MC:=sq [g r0 q0,g r1 q0,g r2 q1,g r3 q2,g r4 q3,sq [g r5 q4,.block 0 (.loop (sq [sq [g r6 q5,ci 32 .skip (.exit 0)],.block 1 (sq [g r8 q6,g r9 q7,sq [g r10 q8,.block 2 (.loop (sq [sq [g r11 q9,ci 47 .skip (.exit 2)],.block 3 (sq [sq [gd r13 [] q10,ci 70 (sq [g r14 [4],.ret]) .skip],g r15 q11,sq [g r16 q12,.block 4 (.loop (sq [sq [g r17 q13,ci 78 .skip (.exit 4)],.block 5 (sq [sq [gd r19 [] q14,ci 95 (sq [g r20 [4],.ret]) .skip],gd r21 t21 q12,g r22 q12]),g r18 q12]))],gd r23 t23 q15,gd r24 [] q16,ci 130 (sq [g r25 [4],.ret]) .skip]),g r12 q8]))],g r26 q17,ci 141 (sq [g r27 [4],.ret]) .skip]),g r7 q4]))],g r28 [4],.ret]
theorem ok:compF Try.prog Try.f3 (an [0,1,2,3,4,5,6,8,9,10,11,13,14,15,16,17,19,20,21,22,18,23,24,25,12,26,27,7,28] c [(13,21,[],(up 21),[]),(19,15,[],(up 15),[]),(21,13,[12],(up 12 ++ [(12,2)]),[]),(23,14,[10,11],(up 10 ++ [(10,2),(11,2)]),[12,13]),(24,8,[],(up 8),[])]) = some (143,c,[(4,none)]):=by kernel_rfl
abbrev p1:=P C r28 [4] R
abbrev p3:=P C r7 q4 L1
abbrev p5:=P C r27 [4] R
abbrev p4:=cd (t 141) (p5 C R) (p3 C L1)
abbrev p6:=P C r26 q17 (p4 C R L1)
abbrev p8:=P C r12 q8 L2
abbrev p10:=P C r25 [4] R
abbrev p9:=cd (t 130) (p10 C R) (p8 C L2)
abbrev p11:=Pd C r24 [] q16 (p9 C R L2)
abbrev p12:=Pd C r23 t23 q15 (p11 C R L2)
abbrev p14:=P C r18 q12 L3
abbrev p15:=P C r22 q12 (p14 C L3)
abbrev p16:=Pd C r21 t21 q12 (p15 C L3)
abbrev p18:=P C r20 [4] R
abbrev p17:=cd (t 95) (p18 C R) (p16 C L3)
abbrev p19:=Pd C r19 [] q14 (p17 C R L3)
abbrev p20:=cd (t 78) (p19 C R L3) (p12 C R L2)
abbrev p21:=P C r17 q13 (p20 C R L2 L3)
def p13 (S:St):Prop:=LX C (fun L3=>(p21 C R L2 L3)) S
theorem p13_l (S:St):p13 C R L2 S = LX C (fun L3=>(p21 C R L2 L3)) S:=rfl
abbrev p22:=P C r16 q12 (p13 C R L2)
abbrev p23:=P C r15 q11 (p22 C R L2)
abbrev p25:=P C r14 [4] R
abbrev p24:=cd (t 70) (p25 C R) (p23 C R L2)
abbrev p26:=Pd C r13 [] q10 (p24 C R L2)
abbrev p27:=cd (t 47) (p26 C R L2) (p6 C R L1)
abbrev p28:=P C r11 q9 (p27 C R L1 L2)
def p7 (S:St):Prop:=LX C (fun L2=>(p28 C R L1 L2)) S
theorem p7_l (S:St):p7 C R L1 S = LX C (fun L2=>(p28 C R L1 L2)) S:=rfl
abbrev p29:=P C r10 q8 (p7 C R L1)
abbrev p30:=P C r9 q7 (p29 C R L1)
abbrev p31:=P C r8 q6 (p30 C R L1)
abbrev p32:=cd (t 32) (p31 C R L1) (p1 C R)
abbrev p33:=P C r6 q5 (p32 C R L1)
def p2 (S:St):Prop:=LX C (fun L1=>(p33 C R L1)) S
theorem p2_l (S:St):p2 C R S = LX C (fun L1=>(p33 C R L1)) S:=rfl
abbrev p34:=P C r5 q4 (p2 C R)
abbrev p35:=P C r4 q3 (p34 C R)
abbrev p36:=P C r3 q2 (p35 C R)
abbrev p37:=P C r2 q1 (p36 C R)
abbrev p38:=P C r1 q0 (p37 C R)
abbrev p39:=P C r0 q0 (p38 C R)
theorem s (S:St):X C c (retK R) S = p39 C R S:=by kernel_rfl
theorem E:type_of% @s:=@s
end w16_MeanWithin
end Go.Proofs.Ytncmmbacoknefaa
