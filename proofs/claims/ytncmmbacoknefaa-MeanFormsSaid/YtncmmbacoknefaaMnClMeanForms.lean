/- MADE BY PROGRAM (sxgen.py): the small code of some functions, points of it and their equations. -/
import Derived.Test.YtncmmbacoknefaaProg
import Derived.Test.YtncmmbacoknefaaMn2
namespace Go.Proofs.Ytncmmbacoknefaa
open Go Go.RowKit Sx Sx.Q
set_option linter.unusedVariables false
variable (C:Cx) (R L1 L2 L3 L4:St→Prop)

/-! ### tscodec/tscodeclaw16.MeanForms -/
namespace w16_MeanForms
abbrev q0:=[1,2,3,4]
abbrev r0:List G:=[e 4 (.box true 9 (t 0)),Mb 8 false]
abbrev q1:=[1,2,4,9]
abbrev r1:List G:=[m 17 3,K1 18 16 17,m 9 18]
abbrev q2:=[1,2,4,9,10,11]
abbrev z0:List Value:=[.int .i64 0,.int .i64 0,.int .i64 0,.int .i64 0,.bool false,.int .u64 0,.int .u64 0,.int .u64 0,.int .u64 0]
abbrev r2:List G:=[m 20 9,K1 21 43 20,m 19 21,x 22 19 0,x 23 19 1,e 10 (.new z0),V 9 10 22,m 11 23]
abbrev q3:=[1,2,4,9,10,11,12,13]
abbrev r3:List G:=[m 25 2,K1 26 44 25,m 24 26,x 27 24 0,x 28 24 1,e 12 (.new z0),V 9 12 27,m 13 28]
abbrev q4:=[1,4,9,10,11,12,13,14,15]
abbrev r4:List G:=[m 30 2,K1 31 45 30,m 29 31,x 32 29 0,x 33 29 1,e 14 (.new z0),V 9 14 32,m 15 33]
abbrev q5:=[1,4,9,10,11,12,13,14,15,16]
abbrev r5:List G:=[L 34 9 10,e 16 (.new z0),V 9 16 34]
abbrev q6:=[1,4,9,10,11,12,13,14,15,16,36]
abbrev r6:List G:=[m 35 9,e 36 (.call false 31 [(t 35),(i 6)])]
abbrev q7:=[1,4,9,10,11,12,13,14,15,16,36,43]
abbrev r8:List G:=[bi 44 .eql 36 0,m 43 44]
abbrev q8:=[1,4,10,11,12,13,14,15,16]
abbrev r9:List G:=[m 45 9,e 46 (.call false 31 [(t 45),(i 4)]),bi 47 .sub 46 1,a 48 1 16,v 48 47]
abbrev q9:=[1,4,9,10,11,12,13,14,15,16,36,49]
abbrev r10:List G:=[bi 50 .eql 36 1,m 49 50]
abbrev r11:List G:=[a 51 0 16,l 52 51,m 53 9,e 54 (.call false 31 [(t 53),(i 3)]),b 55 .sub 52 54,a 56 0 16]
abbrev t11:List G:=[v 56 55]
abbrev q10:=[1,4,9,10,11,12,13,14,15,16,36,57]
abbrev r12:List G:=[bi 58 .eql 36 2,m 57 58]
abbrev r13:List G:=[a 59 2 16,l 60 59,bi 61 .add 60 1,a 62 2 16,v 62 61]
abbrev q11:=[1,4,9,10,11,12,13,14,15,16,36,63]
abbrev r14:List G:=[bi 64 .eql 36 3,m 63 64]
abbrev r15:List G:=[a 65 3 16,l 66 65,m 67 9,e 68 (.call false 31 [(t 67),(i 60)]),b 69 .add 66 68,a 70 3 16]
abbrev t15:List G:=[v 70 69]
abbrev q12:=[1,4,9,10,11,12,13,14,15,16,71]
abbrev r16:List G:=[bi 72 .eql 36 4,m 71 72]
abbrev r17:List G:=[a 74 4 16,L 75 5 74,m 76 9,e 77 (.call false 31 [(t 76),(i 40)]),bi 78 .sub 77 20,k1 79 20 78,k2 80 22 75 79,m 73 80,x 81 73 0,x 82 73 1,a 83 4 16]
abbrev t17:List G:=[V 5 83 81]
abbrev r7:List G:=[a 37 4 16,a 38 0 37,l 39 38,e 40 (.un .not (t 39)),a 41 4 16,a 42 0 41,v 42 40]
abbrev r18:List G:=[K0 84 24,m 85 84,y 86 85 (.ld true 9 (t 12)),y 87 85 (.ld true 9 (t 14)),y 88 85 (.eqg false 68 (t 86) (t 87)),w 89 85 88,m 90 89,ym 91 90 13,ym 92 90 15,y 93 90 (.bin .eql (t 91) (t 92)),w 94 90 93,m 95 94,y 96 95 (.ld true 9 (t 4)),ym 97 95 1,y 98 95 (.call false 46 [(t 96),(t 97)]),w 99 95 98,m 100 99,y 101 100 (.ld true 9 (t 10)),ym 102 100 11,y 103 100 (.call false 46 [(t 101),(t 102)]),w 104 100 103,m 105 104,y 106 105 (.ld true 9 (t 10)),ym 107 105 1,y 108 105 (.call false 46 [(t 106),(t 107)]),w 109 105 108,m 110 109,y 111 110 (.ld true 9 (t 16)),ym 112 110 11,y 113 110 (.call false 46 [(t 111),(t 112)]),w 114 110 113,m 8 114]
abbrev c:MC:=sq [g r0 q0,g r1 q1,g r2 q2,g r3 q3,g r4 q4,g r5 q5,sq [g r6 q6,.block 0 (sq [g r8 q7,ci 43 (g r9 q8) (sq [g r10 q9,ci 49 (gk false false r11 t11 q8) (sq [g r12 q10,ci 57 (g r13 q8) (sq [g r14 q11,ci 63 (gk false false r15 t15 q8) (sq [g r16 q12,ci 71 (gk false false r17 t17 q8) (g r7 q8)])])])])])],g r18 [8],.ret]
theorem ok:compF Try.prog Try.f9 (an [0,1,2,3,4,5,6,8,9,10,11,12,13,14,15,16,17,7,18] c [(11,300006,[],(up 3 ++ [(3,1),(4,0),(5,0)]),[]),(15,300006,[],(up 3 ++ [(3,1),(4,0),(5,0)]),[]),(17,300011,[9],(up 3 ++ [(3,1),(4,0),(5,0),(6,0),(7,0),(8,0),(9,2),(10,0)]),[])]) = some (115,c,[(8,none)]):=by kernel_rfl
abbrev p1:=P C r18 [8] R
abbrev p3:=P C r9 q8 (p1 C R)
abbrev p5:=Pc C false false r11 t11 q8 (p1 C R)
abbrev p7:=P C r13 q8 (p1 C R)
abbrev p9:=Pc C false false r15 t15 q8 (p1 C R)
abbrev p11:=Pc C false false r17 t17 q8 (p1 C R)
abbrev p12:=P C r7 q8 (p1 C R)
abbrev p10:=cd (t 71) (p11 C R) (p12 C R)
abbrev p13:=P C r16 q12 (p10 C R)
abbrev p8:=cd (t 63) (p9 C R) (p13 C R)
abbrev p14:=P C r14 q11 (p8 C R)
abbrev p6:=cd (t 57) (p7 C R) (p14 C R)
abbrev p15:=P C r12 q10 (p6 C R)
abbrev p4:=cd (t 49) (p5 C R) (p15 C R)
abbrev p16:=P C r10 q9 (p4 C R)
abbrev p2:=cd (t 43) (p3 C R) (p16 C R)
abbrev p17:=P C r8 q7 (p2 C R)
abbrev p18:=P C r6 q6 (p17 C R)
abbrev p19:=P C r5 q5 (p18 C R)
abbrev p20:=P C r4 q4 (p19 C R)
abbrev p21:=P C r3 q3 (p20 C R)
abbrev p22:=P C r2 q2 (p21 C R)
abbrev p23:=P C r1 q1 (p22 C R)
abbrev p24:=P C r0 q0 (p23 C R)
theorem s (S:St):X C c (retK R) S = p24 C R S:=by kernel_rfl
theorem E:type_of% @s:=@s
end w16_MeanForms
end Go.Proofs.Ytncmmbacoknefaa
