/- MADE BY PROGRAM (sxgen.py): the small code of some functions, points of it and their equations. -/
import Derived.Test.YtncmmbacoknefaaProg
import Derived.Test.YtncmmbacoknefaaMn2
namespace Go.Proofs.Ytncmmbacoknefaa
open Go Go.RowKit Sx Sx.Q
set_option linter.unusedVariables false
variable (C:Cx) (R L1 L2 L3 L4:St→Prop)

/-! ### tscodec/tscodeclaw16.MeanMaximal -/
namespace w16_MeanMaximal
abbrev r0:List G:=[Mb 2 false]
abbrev r1:List G:=[m 20 0,K1 21 16 20,m 3 21]
abbrev q0:=[4,5]
abbrev r2:List G:=[m 22 3,e 23 (.call false 18 [(t 22),(i 30)]),m 24 3,K1 25 17 24,m 4 23,m 5 25]
abbrev q1:=[4,5,6,7]
abbrev r3:List G:=[m 27 4,m 28 5,K2 29 19 27 28,m 26 29,x 30 26 0,x 31 26 1,m 6 30,m 7 31]
abbrev q2:=[4,5,6,7,8]
abbrev r4:List G:=[Mi 8 0]
abbrev q3:=[4,5,6,7,8,9]
abbrev r5:List G:=[Mi 9 0]
abbrev q4:=[4,5,6,7,8,9,36]
abbrev r6:List G:=[m 32 9,bi 33 .add 32 1,m 34 6,e 35 (.len false (t 34)),b 36 .lss 33 35]
abbrev q5:=[4,5,6,7,8,9,10]
abbrev r8:List G:=[m 39 6,m 40 9,j 41 2 39 40,a 42 0 41,l 43 42,m 10 43]
abbrev q6:=[4,5,6,7,8,9,10,53]
abbrev r9:List G:=[m 44 10,bi 45 .lss 44 1,m 46 45,nm 47 46 10,nm 48 46 4,n 49 46 (.len false (t 48)),nm 50 46 8,n 51 46 (.bin .sub (t 49) (t 50)),n 52 46 (.bin .geq (t 47) (t 51)),o 53 46 52]
abbrev r10:List G:=[Mb 2 false]
abbrev q7:=[4,5,6,7,8,9,10,11]
abbrev r11:List G:=[e 54 (.call false 20 [(i 0)]),e 11 (.new zW),V 5 11 54]
abbrev q8:=[4,5,6,7,8,9,10,11,12]
abbrev r12:List G:=[Mi 12 0]
abbrev q9:=[4,5,6,7,8,9,10,11,12,57]
abbrev r13:List G:=[m 55 12,m 56 10,b 57 .leq 55 56]
abbrev r15:List G:=[L 61 5 11,m 62 4,m 63 8,m 64 12,b 65 .add 63 64,j 66 1 62 65,l 67 66,k1 68 20 67,k2 69 22 61 68,m 60 69,x 70 60 0,x 71 60 1]
abbrev t15:List G:=[V 5 11 70]
abbrev r14:List G:=[m 58 12,bi 59 .add 58 1,m 12 59]
abbrev q10:=[4,5,6,7,8,9,10,13]
abbrev r16:List G:=[L 73 5 11,m 74 10,bi 75 .add 74 1,k1 76 20 75,k2 77 23 73 76,m 72 77,x 78 72 0,x 79 72 1,x 80 72 2]
abbrev t16:List G:=[e 13 (.new zW),e 14 (.new zW),V 5 13 78,V 5 14 79,m 15 80]
abbrev q11:=[4,5,6,7,8,9,10,16]
abbrev r17:List G:=[L 82 5 13,K1 83 25 82,m 81 83,x 84 81 0,x 85 81 1,m 16 84,m 17 85]
abbrev q12:=[4,5,6,7,8,9,10,16,18]
abbrev r18:List G:=[Mb 18 true]
abbrev q13:=[4,5,6,7,8,9,10,16,18,19]
abbrev r19:List G:=[Mi 19 0]
abbrev q14:=[4,5,6,7,8,9,10,16,18,19,88]
abbrev r20:List G:=[m 86 19,m 87 10,b 88 .leq 86 87]
abbrev r22:List G:=[m 91 18,m 92 91,ym 93 92 4,ym 94 92 8,ym 95 92 19,y 96 92 (.bin .add (t 94) (t 95)),y 97 92 (.is 1 (t 93) (t 96)),yl 98 92 97,ym 99 92 16,ym 100 92 5,y 101 92 (.call false 21 [(t 98),(t 99),(t 100)]),w 102 92 101,m 18 102]
abbrev r21:List G:=[m 89 19,bi 90 .add 89 1,m 19 90]
abbrev q15:=[4,5,6,7,8,9,10,103]
abbrev r23:List G:=[m 103 18]
abbrev r24:List G:=[Mb 2 false]
abbrev r25:List G:=[m 104 8,m 105 10,b 106 .add 104 105,m 8 106]
abbrev r7:List G:=[m 37 9,bi 38 .add 37 1,m 9 38]
abbrev r26:List G:=[K0 107 24,m 108 107,ym 109 108 7,y 110 108 (.bin .eql (t 109) (i 0)),w 111 108 110,m 2 111]
abbrev c:MC:=sq [g r0 [0],g r1 [3],g r2 q0,g r3 q1,g r4 q2,sq [g r5 q3,.block 0 (.loop (sq [sq [g r6 q4,ci 36 .skip (.exit 0)],.block 1 (sq [g r8 q5,sq [g r9 q6,ci 53 (sq [g r10 [2],.ret]) .skip],g r11 q7,sq [g r12 q8,.block 2 (.loop (sq [sq [g r13 q9,ci 57 .skip (.exit 2)],.block 3 (gd r15 t15 q8),g r14 q8]))],gd r16 t16 q10,g r17 q11,g r18 q12,sq [g r19 q13,.block 4 (.loop (sq [sq [g r20 q14,ci 88 .skip (.exit 4)],.block 5 (g r22 q13),g r21 q13]))],sq [g r23 q15,ci 103 (sq [g r24 [2],.ret]) .skip],g r25 q3]),g r7 q3]))],g r26 [2],.ret]
theorem ok:compF Try.prog Try.f4 (an [0,1,2,3,4,5,6,8,9,10,11,12,13,15,14,16,17,18,19,20,22,21,23,24,25,7,26] c [(15,12,[11],(up 11 ++ [(11,2)]),[]),(16,11,[7,8],(up 7 ++ [(7,2),(8,2)]),[9,10])]) = some (112,c,[(2,none)]):=by kernel_rfl
abbrev p1:=P C r26 [2] R
abbrev p3:=P C r7 q3 L1
abbrev p4:=P C r25 q3 (p3 C L1)
abbrev p6:=P C r24 [2] R
abbrev p5:=cd (t 103) (p6 C R) (p4 C L1)
abbrev p7:=P C r23 q15 (p5 C R L1)
abbrev p9:=P C r21 q13 L2
abbrev p10:=P C r22 q13 (p9 C L2)
abbrev p11:=cd (t 88) (p10 C L2) (p7 C R L1)
abbrev p12:=P C r20 q14 (p11 C R L1 L2)
def p8 (S:St):Prop:=LX C (fun L2=>(p12 C R L1 L2)) S
theorem p8_l (S:St):p8 C R L1 S = LX C (fun L2=>(p12 C R L1 L2)) S:=rfl
abbrev p13:=P C r19 q13 (p8 C R L1)
abbrev p14:=P C r18 q12 (p13 C R L1)
abbrev p15:=P C r17 q11 (p14 C R L1)
abbrev p16:=Pd C r16 t16 q10 (p15 C R L1)
abbrev p18:=P C r14 q8 L2
abbrev p19:=Pd C r15 t15 q8 (p18 C L2)
abbrev p20:=cd (t 57) (p19 C L2) (p16 C R L1)
abbrev p21:=P C r13 q9 (p20 C R L1 L2)
def p17 (S:St):Prop:=LX C (fun L2=>(p21 C R L1 L2)) S
theorem p17_l (S:St):p17 C R L1 S = LX C (fun L2=>(p21 C R L1 L2)) S:=rfl
abbrev p22:=P C r12 q8 (p17 C R L1)
abbrev p23:=P C r11 q7 (p22 C R L1)
abbrev p25:=P C r10 [2] R
abbrev p24:=cd (t 53) (p25 C R) (p23 C R L1)
abbrev p26:=P C r9 q6 (p24 C R L1)
abbrev p27:=P C r8 q5 (p26 C R L1)
abbrev p28:=cd (t 36) (p27 C R L1) (p1 C R)
abbrev p29:=P C r6 q4 (p28 C R L1)
def p2 (S:St):Prop:=LX C (fun L1=>(p29 C R L1)) S
theorem p2_l (S:St):p2 C R S = LX C (fun L1=>(p29 C R L1)) S:=rfl
abbrev p30:=P C r5 q3 (p2 C R)
abbrev p31:=P C r4 q2 (p30 C R)
abbrev p32:=P C r3 q1 (p31 C R)
abbrev p33:=P C r2 q0 (p32 C R)
abbrev p34:=P C r1 [3] (p33 C R)
abbrev p35:=P C r0 [0] (p34 C R)
theorem s (S:St):X C c (retK R) S = p35 C R S:=by kernel_rfl
theorem E:type_of% @s:=@s
end w16_MeanMaximal
end Go.Proofs.Ytncmmbacoknefaa
