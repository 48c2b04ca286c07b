/- MADE BY PROGRAM (sxgen.py): the small code of some functions, points of it and their equations. -/
import Derived.Test.YtncmmbacoknefaaGreatProg
import Derived.Test.YtncmmbacoknefaaGreatRz2
namespace Go.Proofs.YtncmmbacoknefaaGreat
open Go Go.RowKit Sx Sx.Q
set_option linter.unusedVariables false
variable (C:Cx) (R L1 L2 L3 L4:St→Prop)

/-! ### tscodec/tscodeclaw20.RebuildWithin -/
namespace w20_RebuildWithin
abbrev r0:List G:=[Mb 2 false]
abbrev r1:List G:=[m 14 0,K1 15 15 14,m 3 15]
abbrev q0:=[4,5]
abbrev r2:List G:=[m 16 3,e 17 (.call false 16 [(t 16),(i 30)]),m 18 3,K1 19 17 18,m 4 17,m 5 19]
abbrev q1:=[4,5,6]
abbrev r3:List G:=[m 21 4,m 22 5,K2 23 18 21 22,m 20 23,x 24 20 0,x 25 20 1,m 6 24,m 7 25]
abbrev q2:=[4,5,6,8]
abbrev r4:List G:=[m 27 4,K1 28 28 27,m 29 5,K2 30 27 28 29,m 26 30,x 31 26 0,x 32 26 1,m 8 31,m 9 32]
abbrev q3:=[4,5,8,10,11]
abbrev r5:List G:=[m 34 6,m 35 4,K1 36 19 35,K2 37 23 34 36,m 33 37,x 38 33 0,x 39 33 1,m 10 38,m 11 39]
abbrev q4:=[4,5,10,11,12]
abbrev r6:List G:=[m 40 8,K1 41 29 40,m 12 41]
abbrev q5:=[4,5,10,12,57]
abbrev r7:List G:=[m 42 11,bi 43 .neq 42 0,m 44 43,nm 45 44 10,n 46 44 (.len false (t 45)),nm 47 44 4,n 48 44 (.len false (t 47)),n 49 44 (.bin .neq (t 46) (t 48)),o 50 44 49,m 51 50,nm 52 51 12,n 53 51 (.len false (t 52)),nm 54 51 4,n 55 51 (.len false (t 54)),n 56 51 (.bin .neq (t 53) (t 55)),o 57 51 56]
abbrev r8:List G:=[Mb 2 false]
abbrev q6:=[4,5,10,12,13]
abbrev r9:List G:=[Mi 13 0]
abbrev q7:=[4,5,10,12,13,61]
abbrev r10:List G:=[m 58 13,m 59 4,e 60 (.len false (t 59)),b 61 .lss 58 60]
abbrev q8:=[4,5,10,12,13,89]
abbrev r12:List G:=[m 64 10,m 65 13,j 66 1 64 65,l 67 66,m 68 4,m 69 13,j 70 2 68 69,a 71 1 70,l 72 71,m 73 5,k3 74 30 67 72 73,e 75 (.un .not (t 74)),m 76 75,nm 77 76 12,nm 78 76 13,n 79 76 (.is 1 (t 77) (t 78)),nl 80 76 79,nm 81 76 4,nm 82 76 13,n 83 76 (.is 2 (t 81) (t 82)),na 84 76 1 83,nl 85 76 84,nm 86 76 5,n 87 76 (.call true 30 [(t 80),(t 85),(t 86)]),n 88 76 (.un .not (t 87)),o 89 76 88]
abbrev r13:List G:=[Mb 2 false]
abbrev r11:List G:=[m 62 13,bi 63 .add 62 1,m 13 63]
abbrev r14:List G:=[K0 90 26,m 2 90]
abbrev c:MC:=sq [g r0 [0],g r1 [3],g r2 q0,g r3 q1,g r4 q2,g r5 q3,g r6 q4,sq [g r7 q5,ci 57 (sq [g r8 [2],.ret]) .skip],sq [g r9 q6,.block 0 (.loop (sq [sq [g r10 q7,ci 61 .skip (.exit 0)],.block 1 (sq [gd r12 [] q8,ci 89 (sq [g r13 [2],.ret]) .skip]),g r11 q6]))],g r14 [2],.ret]
theorem ok:compF Tryz.prog Tryz.f4 (an [0,1,2,3,4,5,6,7,8,9,10,12,13,11,14] c [(12,26,[],(up 26),[])]) = some (91,c,[(2,none)]):=by kernel_rfl
abbrev p1:=P C r14 [2] R
abbrev p3:=P C r11 q6 L1
abbrev p5:=P C r13 [2] R
abbrev p4:=cd (t 89) (p5 C R) (p3 C L1)
abbrev p6:=Pd C r12 [] q8 (p4 C R L1)
abbrev p7:=cd (t 61) (p6 C R L1) (p1 C R)
abbrev p8:=P C r10 q7 (p7 C R L1)
def p2 (S:St):Prop:=LX C (fun L1=>(p8 C R L1)) S
theorem p2_l (S:St):p2 C R S = LX C (fun L1=>(p8 C R L1)) S:=rfl
abbrev p9:=P C r9 q6 (p2 C R)
abbrev p11:=P C r8 [2] R
abbrev p10:=cd (t 57) (p11 C R) (p9 C R)
abbrev p12:=P C r7 q5 (p10 C R)
abbrev p13:=P C r6 q4 (p12 C R)
abbrev p14:=P C r5 q3 (p13 C R)
abbrev p15:=P C r4 q2 (p14 C R)
abbrev p16:=P C r3 q1 (p15 C R)
abbrev p17:=P C r2 q0 (p16 C R)
abbrev p18:=P C r1 [3] (p17 C R)
abbrev p19:=P C r0 [0] (p18 C R)
theorem s (S:St):X C c (retK R) S = p19 C R S:=by kernel_rfl
theorem E:type_of% @s:=@s
end w20_RebuildWithin
end Go.Proofs.YtncmmbacoknefaaGreat
