/- MADE BY PROGRAM (sxgen.py): the small code of some functions, points of it and their equations. -/
import Derived.Test.YtncmmbacoknefaaProg
import Derived.Test.YtncmmbacoknefaaRk2
namespace Go.Proofs.Ytncmmbacoknefaa
open Go Go.RowKit Sx Sx.Q
set_option linter.unusedVariables false
variable (C:Cx) (R L1 L2 L3 L4:St→Prop)

/-! ### tscodec/tscodeclaw20.RebuildConstants -/
namespace w20_RebuildConstants
abbrev q0:=[0,1]
abbrev r0:List G:=[Mb 4 false]
abbrev q1:=[0,5]
abbrev r1:List G:=[m 11 1,K1 12 16 11,m 5 12]
abbrev q2:=[5,6]
abbrev r2:List G:=[e 13 (.gen false (.bsl 29 0 []) []),m 14 0,e 15 (.gen false (.bi .append [29,29] 29 [false,false]) [(t 13),(t 14)]),m 6 15]
abbrev q3:=[5,6,7]
abbrev r3:List G:=[Mi 7 0]
abbrev q4:=[5,6,7,19]
abbrev r4:List G:=[m 16 7,m 17 6,e 18 (.len false (t 17)),b 19 .lss 16 18]
abbrev q5:=[5,6,7,27]
abbrev r6:List G:=[m 22 6,m 23 7,j 24 2 22 23,a 25 0 24,l 26 25,bi 27 .gtr 26 50]
abbrev r7:List G:=[m 28 6,m 29 7,m 30 6,m 31 7,j 32 2 30 31,a 33 0 32,l 34 33,bi 35 .rem 34 40,m 36 6,m 37 7,j 38 2 36 37,a 39 0 38,l 40 39,bi 41 .rem 40 3,bi 42 .quo 41 2,bu 43 .shl 42 40,b 44 .add 35 43,j 45 2 28 29,a 46 0 45]
abbrev t7:List G:=[v 46 44]
abbrev r5:List G:=[m 20 7,bi 21 .add 20 1,m 7 21]
abbrev q6:=[5,6,8]
abbrev r8:List G:=[m 47 5,e 48 (.call false 18 [(t 47),(i 25)]),m 8 48]
abbrev q7:=[6,8,9]
abbrev r9:List G:=[m 50 8,m 51 5,K1 52 17 51,K2 53 36 50 52,m 49 53,x 54 49 0,x 55 49 1,m 9 54,m 10 55]
abbrev r10:List G:=[K0 56 33,m 57 56,ym 58 57 6,y 59 57 (.call false 38 [(t 58)]),ym 60 57 6,y 61 57 (.call false 39 [(t 60)]),y 62 57 (.call false 37 [(t 59),(t 61)]),w 63 57 62,m 64 63,ym 65 64 9,y 66 64 (.call false 38 [(t 65)]),ym 67 64 9,y 68 64 (.call false 39 [(t 67)]),y 69 64 (.call false 37 [(t 66),(t 68)]),w 70 64 69,m 71 70,ym 72 71 9,y 73 71 (.call false 38 [(t 72)]),y 74 71 (.len false (t 73)),ym 75 71 8,y 76 71 (.len false (t 75)),y 77 71 (.bin .eql (t 74) (t 76)),w 78 71 77,m 4 78]
abbrev c:MC:=sq [g r0 q0,g r1 q1,g r2 q2,sq [g r3 q3,.block 0 (.loop (sq [sq [g r4 q4,ci 19 .skip (.exit 0)],.block 1 (sq [g r6 q5,ci 27 (gd r7 t7 q3) .skip]),g r5 q3]))],g r8 q6,g r9 q7,g r10 [4],.ret]
theorem ok:compF Try.prog Try.f7 (an [0,1,2,3,4,6,7,5,8,9,10] c [(7,19,[],(up 19),[])]) = some (79,c,[(4,none)]):=by kernel_rfl
abbrev p1:=P C r10 [4] R
abbrev p2:=P C r9 q7 (p1 C R)
abbrev p3:=P C r8 q6 (p2 C R)
abbrev p5:=P C r5 q3 L1
abbrev p7:=Pd C r7 t7 q3 (p5 C L1)
abbrev p6:=cd (t 27) (p7 C L1) (p5 C L1)
abbrev p8:=P C r6 q5 (p6 C L1)
abbrev p9:=cd (t 19) (p8 C L1) (p3 C R)
abbrev p10:=P C r4 q4 (p9 C R L1)
def p4 (S:St):Prop:=LX C (fun L1=>(p10 C R L1)) S
theorem p4_l (S:St):p4 C R S = LX C (fun L1=>(p10 C R L1)) S:=rfl
abbrev p11:=P C r3 q3 (p4 C R)
abbrev p12:=P C r2 q2 (p11 C R)
abbrev p13:=P C r1 q1 (p12 C R)
abbrev p14:=P C r0 q0 (p13 C R)
theorem s (S:St):X C c (retK R) S = p14 C R S:=by kernel_rfl
theorem E:type_of% @s:=@s
end w20_RebuildConstants
end Go.Proofs.Ytncmmbacoknefaa
