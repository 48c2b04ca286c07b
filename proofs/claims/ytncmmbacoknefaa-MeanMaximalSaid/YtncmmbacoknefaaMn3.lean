/- Several texts in one: CdV, WideC, RefC, CdY, WideD, MadeW, LawT, SxV, Tp, Ck, Wk, Ro, Rg, Eb, DvP, DvQ, DvR, CdW, LtC, Gw, Gd, Ha, Hb, DvK, Hc, Hd, Ge. -/
import Derived.Test.YtncmmbacoknefaaProg
import Derived.Test.YtncmmbacoknefaaRows
import Derived.WalkKit
import Derived.ProofKit
import Derived.WalkLawsBesides
import Derived.WalkSpells
import Derived.RegionTactic
import Derived.ChangeAlike
import Derived.BigRegion
import Derived.Outline
import Derived.Handy
import Derived.Deep.RegionWith
import Derived.Laws.AppendOwn
import Derived.Laws.OwnMore
import Derived.Deep.Onto
import Derived.Deep.Upon
import Derived.Laws.MathBits
import Derived.Lib.BitFns
import Derived.Lib.ItoaNum
import Derived.IntWalk
import Derived.Test.YtncmmbacoknefaaMn2
set_option linter.defProp false

/- CdV: MADE BY PROGRAM (sxgen.py): the small code of some functions, points of it and their equations. -/
namespace Go.Proofs.Ytncmmbacoknefaa
open Go Go.RowKit Sx Sx.Q
set_option linter.unusedVariables false
variable (C:Cx) (R L1 L2 L3 L4:St→Prop)
namespace r02_clean
abbrev q0:=[1,2]
abbrev r0:List G:=[e 1 (.box true 5 (t 0)),e 2 (.new zW)]
abbrev q1:=[1,2,5]
abbrev r1:List G:=[L 3 5 1,K1 4 88 3,e 5 (.un .not (t 4))]
abbrev r2:List G:=[e 6 (.bd zW []),V 5 2 6]
abbrev r3:List G:=[L 7 5 1,V 5 2 7]
abbrev c:MC:=sq [g r0 q0,sq [g r1 q1,ci 5 (sq [g r2 [2],.ret]) .skip],g r3 [2],.ret]
theorem ok:compF Try.prog Try.f72 (an (rg 4) c []) = some (8,c,[(2,some (true,5))]):=by kernel_rfl
abbrev p1:=P C r3 [2] R
abbrev p3:=P C r2 [2] R
abbrev p2:=cd (t 5) (p3 C R) (p1 C R)
abbrev p4:=P C r1 q1 (p2 C R)
abbrev p5:=P C r0 q0 (p4 C R)
theorem s (S:St):X C c (retK R) S = p5 C R S:=by kernel_rfl
theorem E:type_of% @s:=@s
end r02_clean
namespace wide_Add
abbrev q0:=[2,3,4]
abbrev r0:List G:=[e 2 (.box true 5 (t 0)),e 3 (.box true 5 (t 1)),e 4 (.new zW),Mb 5 false]
abbrev r1:List G:=[L 8 5 2,k1 9 138 8,L 10 5 3,k1 11 138 10]
abbrev t1:List G:=[V 5 2 9,V 5 3 11]
abbrev q1:=[2,3,4,16]
abbrev r2:List G:=[a 12 0 2,l 13 12,a 14 0 3,l 15 14,e 16 (.bq false (t 13) (t 15))]
abbrev q2:=[2,4,6,7]
abbrev r3:List G:=[a 18 1 2,L 19 4 18,a 20 1 3,L 21 4 20,K2 22 139 19 21,m 17 22,x 23 17 0,x 24 17 1,e 6 (.new [.int .u64 0,.int .u64 0,.int .u64 0,.int .u64 0]),V 4 6 23,m 7 24]
abbrev q3:=[2,4,6,26]
abbrev r4:List G:=[m 25 7,bu 26 .neq 25 0]
abbrev q4:=[4,5]
abbrev r5:List G:=[e 27 (.bd zW []),V 5 4 27,Mb 5 false]
abbrev r6:List G:=[a 28 0 2,l 29 28,L 30 4 6,K2 31 140 29 30,V 5 4 31,Mb 5 true]
abbrev q5:=[2,3,4,37]
abbrev r7:List G:=[a 32 1 2,L 33 4 32,a 34 1 3,L 35 4 34,K2 36 141 33 35,bi 37 .geq 36 0]
abbrev r8:List G:=[a 38 0 2,l 39 38,a 40 1 2,L 41 4 40,a 42 1 3,L 43 4 42,k2 44 142 41 43,k2 45 140 39 44]
abbrev t8:List G:=[V 5 4 45,Mb 5 true]
abbrev r9:List G:=[a 46 0 3,l 47 46,a 48 1 3,L 49 4 48,a 50 1 2,L 51 4 50,k2 52 142 49 51,k2 53 140 47 52]
abbrev t9:List G:=[V 5 4 53,Mb 5 true]
abbrev c:MC:=sq [g r0 q0,gd r1 t1 q0,sq [g r2 q1,ci 16 (sq [g r3 q2,sq [g r4 q3,ci 26 (sq [g r5 q4,.ret]) .skip],g r6 q4,.ret]) .skip],sq [g r7 q5,ci 37 (sq [gd r8 t8 q4,.ret]) .skip],gd r9 t9 q4,.ret]
theorem ok:compF Try.prog Try.f84 (an (rg 10) c [(1,4,[],(up 4),[]),(8,8,[],(up 8),[]),(9,8,[],(up 8),[])]) = some (54,c,[(4,some (true,5)),(5,none)]):=by kernel_rfl
abbrev p1:=Pd C r9 t9 q4 R
abbrev p3:=Pd C r8 t8 q4 R
abbrev p2:=cd (t 37) (p3 C R) (p1 C R)
abbrev p4:=P C r7 q5 (p2 C R)
abbrev p6:=P C r6 q4 R
abbrev p8:=P C r5 q4 R
abbrev p7:=cd (t 26) (p8 C R) (p6 C R)
abbrev p9:=P C r4 q3 (p7 C R)
abbrev p10:=P C r3 q2 (p9 C R)
abbrev p5:=cd (t 16) (p10 C R) (p4 C R)
abbrev p11:=P C r2 q1 (p5 C R)
abbrev p12:=Pd C r1 t1 q0 (p11 C R)
abbrev p13:=P C r0 q0 (p12 C R)
theorem s (S:St):X C c (retK R) S = p13 C R S:=by kernel_rfl
theorem E:type_of% @s:=@s
end wide_Add
namespace wide_Mul
abbrev q0:=[2,3,4]
abbrev r0:List G:=[e 2 (.box true 5 (t 0)),e 3 (.box true 5 (t 1)),e 4 (.new zW),Mb 5 false]
abbrev r1:List G:=[L 8 5 2,k1 9 138 8,L 10 5 3,k1 11 138 10]
abbrev t1:List G:=[V 5 2 9,V 5 3 11]
abbrev q1:=[2,3,4,6,7]
abbrev r2:List G:=[a 13 1 2,L 14 4 13,a 15 1 3,L 16 4 15,K2 17 161 14 16,m 12 17,x 18 12 0,x 19 12 1,e 6 (.new [.int .u64 0,.int .u64 0,.int .u64 0,.int .u64 0]),V 4 6 18,m 7 19]
abbrev q2:=[2,3,4,6,21]
abbrev r3:List G:=[m 20 7,e 21 (.un .not (t 20))]
abbrev q3:=[4,5]
abbrev r4:List G:=[e 22 (.bd zW []),V 5 4 22,Mb 5 false]
abbrev r5:List G:=[a 23 0 2,l 24 23,a 25 0 3,l 26 25,e 27 (.bq true (t 24) (t 26)),L 28 4 6,K2 29 140 27 28,V 5 4 29,Mb 5 true]
abbrev c:MC:=sq [g r0 q0,gd r1 t1 q0,g r2 q1,sq [g r3 q2,ci 21 (sq [g r4 q3,.ret]) .skip],g r5 q3,.ret]
theorem ok:compF Try.prog Try.f119 (an (rg 6) c [(1,4,[],(up 4),[])]) = some (30,c,[(4,some (true,5)),(5,none)]):=by kernel_rfl
abbrev p1:=P C r5 q3 R
abbrev p3:=P C r4 q3 R
abbrev p2:=cd (t 21) (p3 C R) (p1 C R)
abbrev p4:=P C r3 q2 (p2 C R)
abbrev p5:=P C r2 q1 (p4 C R)
abbrev p6:=Pd C r1 t1 q0 (p5 C R)
abbrev p7:=P C r0 q0 (p6 C R)
theorem s (S:St):X C c (retK R) S = p7 C R S:=by kernel_rfl
theorem E:type_of% @s:=@s
end wide_Mul
namespace r02_Add
abbrev q0:=[2,3,4]
abbrev r0:List G:=[e 2 (.box true 5 (t 0)),e 3 (.box true 5 (t 1)),e 4 (.new zW),Mb 5 false]
abbrev r1:List G:=[L 8 5 2,k1 9 72 8,L 10 5 3,k1 11 72 10]
abbrev t1:List G:=[V 5 2 9,V 5 3 11]
abbrev q1:=[2,3,4,6,7]
abbrev r2:List G:=[L 12 5 2,L 14 5 3,K1 13 73 12,K1 15 73 14]
abbrev t2:List G:=[m 6 13,m 7 15]
abbrev q2:=[2,3,4,6,7,16]
abbrev r3:List G:=[a 17 0 2,l 18 17,a 19 0 3,l 20 19,e 21 (.bq false (t 18) (t 20)),m 16 21]
abbrev q3:=[4,5]
abbrev r4:List G:=[a 22 0 2,l 23 22,m 24 6,m 25 7,K2 26 75 24 25,K2 27 74 23 26,x 28 27 0,x 29 27 1]
abbrev t4:List G:=[V 5 4 28,m 5 29]
abbrev q4:=[2,3,4,6,7,30]
abbrev r5:List G:=[m 31 6,m 32 7,K2 33 76 31 32,bi 34 .geq 33 0,m 30 34]
abbrev r6:List G:=[a 35 0 2,l 36 35,m 37 6,m 38 7,K2 39 77 37 38,K2 40 74 36 39,x 41 40 0,x 42 40 1]
abbrev t6:List G:=[V 5 4 41,m 5 42]
abbrev r7:List G:=[a 43 0 3,l 44 43,m 45 7,m 46 6,K2 47 77 45 46,K2 48 74 44 47,x 49 48 0,x 50 48 1]
abbrev t7:List G:=[V 5 4 49,m 5 50]
abbrev c:MC:=sq [g r0 q0,gd r1 t1 q0,gk true false r2 t2 q1,.block 0 (sq [g r3 q2,ci 16 (sq [gk true false r4 t4 q3,.ret]) (sq [g r5 q4,ci 30 (sq [gk true false r6 t6 q3,.ret]) .skip])]),gk true false r7 t7 q3,.ret]
theorem ok:compF Try.prog Try.f22 (an (rg 8) c [(1,4,[],(up 4),[]),(2,200004,[],[(0,0),(2,0),(1,1),(3,1)],[]),(4,200008,[],(up 4 ++ [(4,1),(5,1),(6,0),(7,0)]),[]),(6,200008,[],(up 4 ++ [(4,1),(5,1),(6,0),(7,0)]),[]),(7,200008,[],(up 4 ++ [(4,1),(5,1),(6,0),(7,0)]),[])]) = some (51,c,[(4,some (true,5)),(5,none)]):=by kernel_rfl
abbrev p1:=Pc C true false r7 t7 q3 R
abbrev p3:=Pc C true false r4 t4 q3 R
abbrev p5:=Pc C true false r6 t6 q3 R
abbrev p4:=cd (t 30) (p5 C R) (p1 C R)
abbrev p6:=P C r5 q4 (p4 C R)
abbrev p2:=cd (t 16) (p3 C R) (p6 C R)
abbrev p7:=P C r3 q2 (p2 C R)
abbrev p8:=Pc C true false r2 t2 q1 (p7 C R)
abbrev p9:=Pd C r1 t1 q0 (p8 C R)
abbrev p10:=P C r0 q0 (p9 C R)
theorem s (S:St):X C c (retK R) S = p10 C R S:=by kernel_rfl
theorem E:type_of% @s:=@s
end r02_Add
namespace r02_Mul
abbrev q0:=[2,3,4]
abbrev r0:List G:=[e 2 (.box true 5 (t 0)),e 3 (.box true 5 (t 1)),e 4 (.new zW),Mb 5 false]
abbrev r1:List G:=[L 6 5 2,k1 7 72 6,L 8 5 3,k1 9 72 8]
abbrev t1:List G:=[V 5 2 7,V 5 3 9]
abbrev q1:=[4,5]
abbrev r2:List G:=[a 10 0 2,l 11 10,a 12 0 3,l 13 12,e 14 (.bq true (t 11) (t 13)),L 15 5 2,L 17 5 3,K1 16 73 15,K1 18 73 17,K2 19 114 16 18,K2 20 74 14 19,x 21 20 0,x 22 20 1]
abbrev t2:List G:=[V 5 4 21,m 5 22]
abbrev c:MC:=sq [g r0 q0,gd r1 t1 q0,gk true false r2 t2 q1,.ret]
theorem ok:compF Try.prog Try.f57 (an (rg 3) c [(1,4,[],(up 4),[]),(2,200013,[],(up 6 ++ [(7,0),(6,1),(8,1),(9,1),(10,1),(11,0),(12,0)]),[])]) = some (23,c,[(4,some (true,5)),(5,none)]):=by kernel_rfl
abbrev p1:=Pc C true false r2 t2 q1 R
abbrev p2:=Pd C r1 t1 q0 (p1 C R)
abbrev p3:=P C r0 q0 (p2 C R)
theorem s (S:St):X C c (retK R) S = p3 C R S:=by kernel_rfl
theorem E:type_of% @s:=@s
end r02_Mul
end Go.Proofs.Ytncmmbacoknefaa

/- WideC: The package wide, continued: sums, differences, products (a symbolic run). -/
namespace Go.Proofs.Ytncmmbacoknefaa
open Go Go.RowKit Sx
set_option linter.unusedVariables false
set_option linter.unusedSimpArgs false
set_option maxRecDepth 100000 in
set_option maxHeartbeats 1000000 in
theorem add_any (n:Bool) (a b c d:Int) (n':Bool) (a' b' c' d':Int) (ha:U64 a) (hb:U64 b) (hc:U64 c) (hd:U64 d) (ha':U64 a') (hb':U64 b') (hc':U64 c') (hd':U64 d') (w:World) :
  Calls Try.prog 84 #[WV n a b c d,WV n' a' b' c' d'] w fun e w'=>e = .returned (.tuple #[WE (cl (wv n a b c d + wv n' a' b' c' d')),.bool (fb (wv n a b c d + wv n' a' b' c' d'))])∧Below w.heap.size w w':=by
 have cA:=fun W=>gives_known en_wide_clean (clean_any n a b c d W)
 have cB:=fun W=>gives_known en_wide_clean (clean_any n' a' b' c' d' W)
 rw [wv_sv n a b c d,wv_sv n' a' b' c' d']
 have m1:=mv_nonneg ha hb hc hd
 have m2:=mv_nonneg ha' hb' hc' hd'
 have u1:=mv_up4 ha hb hc hd
 have u2:=mv_up4 ha' hb' hc' hd'
 have C1:=cm4_mv (a3:=d) (b3:=d') ha hb hc ha' hb' hc'
 generalize cn n a b c d = p at *
 generalize cn n' a' b' c' d' = q at *
 by_cases hpq:p = q
 ·subst hpq
  rw [sv_add]
  have k1:=fun W=>gives_known en_wide_add (wadd_any a b c d a' b' c' d' ha hb hc hd ha' hb' hc' hd' W)
  have h0:0≤MV a b c d + MV a' b' c' d':=by omega
  generalize MV a b c d + MV a' b' c' d' = S at *
  clear m1 m2 u1 u2 C1 ha hb hc hd ha' hb' hc' hd'
  by_cases hu:up4 S = 0
  ·have hf:Fits (sv p S):=(fits_sv h0).2 hu
   have k2:=fun W=>gives_known en_wide_signed (signed_any p (lb0 S) (lb1 S) (lb2 S) (lb3 S) W)
   rw [sv_signed h0 hu] at k2
   rw [hu] at k1
   rw [cl_fit hf,fb_fit hf]
   clear hf hu h0
   generalize sv p S = y at *
   refine known_of (enter Try.func84 wide_Add.ok (args:=[_,_]) (by simp) ?_)
   repeat' (first | simp (disch:=omega) only [sxE,wide_Add.E,Nat.reduceAdd,Nat.reduceEqDiff,Nat.reduceMul,Nat.reduceSub,Int.reduceAdd,Int.reduceSub,Int.reduceMul,Int.reduceNeg,Int.reduceLT,Int.reduceLE,Int.reduceEq,Int.reduceToNat,↓reduceIte,Int.reducePow,Nat.reduceLeDiff,Nat.reduceLT,ne_eq,eq_self,List.length_cons,List.length_nil,beq_self_eq_true] | (with_reducible refine Sx.call_at (f:=138) (fun W hW=>cA W) ?_) | (with_reducible refine Sx.call_at (f:=138) (fun W hW=>cB W) ?_) | (with_reducible refine Sx.call_at (f:=139) (fun W hW=>k1 W) ?_) | (with_reducible refine Sx.call_at (f:=140) (fun W hW=>k2 W) ?_) | (with_reducible refine cregF ?_))
  ·have hf:¬Fits (sv p S):=fun h=>hu ((fits_sv h0).1 h)
   rw [cl_not hf,fb_not hf,we_zero]
   have hu':up4 S≠0:=hu
   clear hf
   generalize up4 S = U at *
   refine known_of (enter Try.func84 wide_Add.ok (args:=[_,_]) (by simp) ?_)
   repeat' (first | simp (disch:=omega) only [sxE,wide_Add.E,Nat.reduceAdd,Nat.reduceEqDiff,Nat.reduceMul,Nat.reduceSub,Int.reduceAdd,Int.reduceSub,Int.reduceMul,Int.reduceNeg,Int.reduceLT,Int.reduceLE,Int.reduceEq,Int.reduceToNat,↓reduceIte,Int.reducePow,Nat.reduceLeDiff,Nat.reduceLT,ne_eq,eq_self,List.length_cons,List.length_nil,beq_self_eq_true] | (with_reducible refine Sx.call_at (f:=138) (fun W hW=>cA W) ?_) | (with_reducible refine Sx.call_at (f:=138) (fun W hW=>cB W) ?_) | (with_reducible refine Sx.call_at (f:=139) (fun W hW=>k1 W) ?_) | (with_reducible refine cregF ?_))
 ·have T0:(p == q) = false:=beq_eq_false_iff_ne.2 hpq
  have k3:=fun W=>gives_known en_wide_compare (wcompare_any a b c d a' b' c' d' W)
  have k1:=fun W=>gives_known en_wide_sub (wsub_any a b c d a' b' c' d' ha hb hc hd ha' hb' hc' hd' W)
  have k1':=fun W=>gives_known en_wide_sub (wsub_any a' b' c' d' a b c d ha' hb' hc' hd' ha hb hc hd W)
  by_cases hle:MV a' b' c' d'≤MV a b c d
  ·have hu:up4 (MV a b c d - MV a' b' c' d') = 0:=up4_le (by omega) (by omega) u1
   have T:0≤cm4 a b c d a' b' c' d':=by rw [C1]; exact (cm_ge _ _).2 hle
   have h0:0≤MV a b c d - MV a' b' c' d':=by omega
   rw [sv_sub hpq]
   clear m1 m2 u1 u2 C1 hle ha hb hc hd ha' hb' hc' hd' k1' hpq
   generalize MV a b c d - MV a' b' c' d' = S at *
   generalize cm4 a b c d a' b' c' d' = Z at *
   have hf:Fits (sv p S):=(fits_sv h0).2 hu
   have k2:=fun W=>gives_known en_wide_signed (signed_any p (lb0 S) (lb1 S) (lb2 S) (lb3 S) W)
   rw [sv_signed h0 hu] at k2
   rw [cl_fit hf,fb_fit hf]
   clear hf hu h0
   generalize sv p S = y at *
   refine known_of (enter Try.func84 wide_Add.ok (args:=[_,_]) (by simp) ?_)
   repeat' (first | simp (disch:=omega) only [sxE,wide_Add.E,Nat.reduceAdd,Nat.reduceEqDiff,Nat.reduceMul,Nat.reduceSub,Int.reduceAdd,Int.reduceSub,Int.reduceMul,Int.reduceNeg,Int.reduceLT,Int.reduceLE,Int.reduceEq,Int.reduceToNat,↓reduceIte,Int.reducePow,Nat.reduceLeDiff,Nat.reduceLT,ne_eq,eq_self,List.length_cons,List.length_nil,T0] | (with_reducible refine Sx.call_at (f:=138) (fun W hW=>cA W) ?_) | (with_reducible refine Sx.call_at (f:=138) (fun W hW=>cB W) ?_) | (with_reducible refine Sx.call_at (f:=141) (fun W hW=>k3 W) ?_) | (with_reducible refine Sx.call_at (f:=142) (fun W hW=>k1 W) ?_) | (with_reducible refine Sx.call_at (f:=140) (fun W hW=>k2 W) ?_) | (with_reducible refine cregF ?_))
  ·have hu:up4 (MV a' b' c' d' - MV a b c d) = 0:=up4_le (by omega) (by omega) u2
   have T:¬ 0≤cm4 a b c d a' b' c' d':=by rw [C1]; exact fun h=>hle ((cm_ge _ _).1 h)
   have h0:0≤MV a' b' c' d' - MV a b c d:=by omega
   rw [sv_sub' hpq]
   clear m1 m2 u1 u2 C1 hle ha hb hc hd ha' hb' hc' hd' k1 hpq
   generalize MV a' b' c' d' - MV a b c d = S at *
   generalize cm4 a b c d a' b' c' d' = Z at *
   have hf:Fits (sv q S):=(fits_sv h0).2 hu
   have k2:=fun W=>gives_known en_wide_signed (signed_any q (lb0 S) (lb1 S) (lb2 S) (lb3 S) W)
   rw [sv_signed h0 hu] at k2
   rw [cl_fit hf,fb_fit hf]
   clear hf hu h0
   generalize sv q S = y at *
   refine known_of (enter Try.func84 wide_Add.ok (args:=[_,_]) (by simp) ?_)
   repeat' (first | simp (disch:=omega) only [sxE,wide_Add.E,Nat.reduceAdd,Nat.reduceEqDiff,Nat.reduceMul,Nat.reduceSub,Int.reduceAdd,Int.reduceSub,Int.reduceMul,Int.reduceNeg,Int.reduceLT,Int.reduceLE,Int.reduceEq,Int.reduceToNat,↓reduceIte,Int.reducePow,Nat.reduceLeDiff,Nat.reduceLT,ne_eq,eq_self,List.length_cons,List.length_nil,T0] | (with_reducible refine Sx.call_at (f:=138) (fun W hW=>cA W) ?_) | (with_reducible refine Sx.call_at (f:=138) (fun W hW=>cB W) ?_) | (with_reducible refine Sx.call_at (f:=141) (fun W hW=>k3 W) ?_) | (with_reducible refine Sx.call_at (f:=142) (fun W hW=>k1' W) ?_) | (with_reducible refine Sx.call_at (f:=140) (fun W hW=>k2 W) ?_) | (with_reducible refine cregF ?_))
set_option maxRecDepth 100000 in
set_option maxHeartbeats 1000000 in
theorem mul_any (n:Bool) (a b c d:Int) (n':Bool) (a' b' c' d':Int) (ha:U64 a) (hb:U64 b) (hc:U64 c) (hd:U64 d) (ha':U64 a') (hb':U64 b') (hc':U64 c') (hd':U64 d') (w:World) :
  Calls Try.prog 119 #[WV n a b c d,WV n' a' b' c' d'] w fun e w'=>e = .returned (.tuple #[WE (cl (wv n a b c d * wv n' a' b' c' d')),.bool (fb (wv n a b c d * wv n' a' b' c' d'))])∧Below w.heap.size w w':=by
 have cA:=fun W=>gives_known en_wide_clean (clean_any n a b c d W)
 have cB:=fun W=>gives_known en_wide_clean (clean_any n' a' b' c' d' W)
 rw [wv_sv n a b c d,wv_sv n' a' b' c' d',sv_mul]
 have h0:=Int.mul_nonneg (mv_nonneg ha hb hc hd) (mv_nonneg ha' hb' hc' hd')
 have k1:=fun W=>gives_known en_wide_mul (wmul_any a b c d a' b' c' d' ha hb hc hd ha' hb' hc' hd' W)
 clear ha hb hc hd ha' hb' hc' hd'
 generalize cn n a b c d = p at *
 generalize cn n' a' b' c' d' = q at *
 generalize MV a b c d * MV a' b' c' d' = S at *
 rw [show (p != q) = !(p == q) from rfl]
 by_cases hu:up4 S = 0
 ·have hf:Fits (sv (!(p == q)) S):=(fits_sv h0).2 hu
  have k2:=fun W=>gives_known en_wide_signed (signed_any (!(p == q)) (lb0 S) (lb1 S) (lb2 S) (lb3 S) W)
  rw [sv_signed h0 hu] at k2
  rw [hu,show ((0:Int) == 0) = true from rfl] at k1
  rw [cl_fit hf,fb_fit hf]
  clear hf hu h0
  generalize sv (!(p == q)) S = y at *
  refine known_of (enter Try.func119 wide_Mul.ok (args:=[_,_]) (by simp) ?_)
  repeat' (first | simp (disch:=omega) only [sxE,wide_Mul.E,Nat.reduceAdd,Nat.reduceEqDiff,Nat.reduceMul,Nat.reduceSub,Int.reduceAdd,Int.reduceSub,Int.reduceMul,Int.reduceNeg,Int.reduceLT,Int.reduceLE,Int.reduceEq,Int.reduceToNat,↓reduceIte,Int.reducePow,Nat.reduceLeDiff,Nat.reduceLT,ne_eq,eq_self,List.length_cons,List.length_nil] | (with_reducible refine Sx.call_at (f:=138) (fun W hW=>cA W) ?_) | (with_reducible refine Sx.call_at (f:=138) (fun W hW=>cB W) ?_) | (with_reducible refine Sx.call_at (f:=161) (fun W hW=>k1 W) ?_) | (with_reducible refine Sx.call_at (f:=140) (fun W hW=>k2 W) ?_) | (with_reducible refine cregF ?_))
 ·have hf:¬Fits (sv (!(p == q)) S):=fun h=>hu ((fits_sv h0).1 h)
  rw [beq_eq_false_iff_ne.2 hu] at k1
  rw [cl_not hf,fb_not hf,we_zero]
  clear hf hu
  refine known_of (enter Try.func119 wide_Mul.ok (args:=[_,_]) (by simp) ?_)
  repeat' (first | simp (disch:=omega) only [sxE,wide_Mul.E,Nat.reduceAdd,Nat.reduceEqDiff,Nat.reduceMul,Nat.reduceSub,Int.reduceAdd,Int.reduceSub,Int.reduceMul,Int.reduceNeg,Int.reduceLT,Int.reduceLE,Int.reduceEq,Int.reduceToNat,↓reduceIte,Int.reducePow,Nat.reduceLeDiff,Nat.reduceLT,ne_eq,eq_self,List.length_cons,List.length_nil] | (with_reducible refine Sx.call_at (f:=138) (fun W hW=>cA W) ?_) | (with_reducible refine Sx.call_at (f:=138) (fun W hW=>cB W) ?_) | (with_reducible refine Sx.call_at (f:=161) (fun W hW=>k1 W) ?_) | (with_reducible refine cregF ?_))
end Go.Proofs.Ytncmmbacoknefaa

/- RefC: The reference of wide, continued: its functions on Wides. -/
namespace Go.Proofs.Ytncmmbacoknefaa
open Go Go.ChangeShapes Go.WideShapes Go.ChangeAt Go.RowKit Sx
set_option linter.unusedVariables false
set_option linter.unusedSimpArgs false
theorem mz_len {a b c d:Int} (ha:U64 a) (hb:U64 b) (hc:U64 c) (hd:U64 d):decide (0 < (wl (MV a b c d)).length) = !mz a b c d:=by
 have h1:=mz_iff ha hb hc hd
 by_cases hm:MV a b c d = 0
 ·rw [h1.2 hm,hm,wl_nil (Int.le_refl _)]; rfl
 ·have h0:=mv_nonneg ha hb hc hd
  have h2:(wl (MV a b c d)).length≠0:=fun h=>wl_ne (show 0 < MV a b c d by omega) (List.length_eq_zero_iff.1 h)
  have h3:mz a b c d = false:=by
   cases hz:mz a b c d
   ·rfl
   ·exact absurd (h1.1 hz) hm
  rw [h3]; exact dT (by omega)
theorem MagP.open {w w':World} {m:Int} {e:Ending} (h:MagP w m e w'):∃ a len cap,e = .returned (.slice a len cap)∧(wl m).length = len∧SlU w' (.slice a len cap) (wl m)∧Below w.heap.size w w':=by
 obtain ⟨v,rfl,⟨hs,-⟩,hb⟩:=h
 have hs':=hs
 obtain ⟨a,len,cap,rfl,hl,_⟩:=hs
 exact ⟨a,len,cap,rfl,hl,hs',hb⟩
theorem rvalid_any (n:Bool) (a b c d:Int) (ha:U64 a) (hb:U64 b) (hc:U64 c) (hd:U64 d) (w:World) :
  Calls Try.prog 88 #[WV n a b c d] w fun e w'=>e = .returned (.bool (!n || !mz a b c d))∧Below w.heap.size w w':=by
 cases n
 ·clear ha hb hc hd
  go_enter Try.func88,Try.ntmps88
  go_wp2
  go_returns
  exact ⟨ret_b rfl,by (repeat' (first | (with_reducible assumption) | (with_reducible exact Below.refl _ _) | (with_reducible refine Below.alloc ?_ ?_ _) | (with_reducible refine Below.setCell ?_ ?_ _) | (with_reducible refine Below.drew ?_) | (with_reducible refine below_more ?_ (by with_reducible assumption)) | go_size | omega | (with_reducible refine below_drewN ?_)))⟩
 ·have hz:=hid (mz_len ha hb hc hd)
  go_enter Try.func88,Try.ntmps88
  (repeat' (first | (go_big_may; (first | (go_at_call 73; refine (rof_any true a b c d ha hb hc hd _).mono ?_; rintro e w' hmag; obtain ⟨a1,l1,c1,rfl,hl1,hs1,hb1⟩:=hmag.open; have HL:=hid hl1; clear hl1 hmag))) | go_values | go_skip | go_guarded | go_step | go_upon | (simp only [Int.not_lt,Int.not_le] at *; go_simp) | (go_values <;> (try go_simp)) | (go_ite <;> go_prune <;> (try go_simp)) | (split <;> (first | (rename_i hx; exact (hx _ rfl).elim) | go_prune))))
  go_ret
  refine ⟨ret_b ?_,by (repeat' (first | (with_reducible assumption) | (with_reducible exact Below.refl _ _) | (with_reducible refine Below.alloc ?_ ?_ _) | (with_reducible refine Below.setCell ?_ ?_ _) | (with_reducible refine Below.drew ?_) | (with_reducible refine below_more ?_ (by with_reducible assumption)) | go_size | omega | (with_reducible refine below_drewN ?_)))⟩
  have:=hz.out
  rw [HL.out] at this
  simp [this]
theorem rclean_any (n:Bool) (a b c d:Int) (ha:U64 a) (hb:U64 b) (hc:U64 c) (hd:U64 d) (w:World) :
  Calls Try.prog 72 #[WV n a b c d] w fun e w'=>e = .returned (WV (cn n a b c d) a b c d)∧Below w.heap.size w w':=by
 cases hz:(n && mz a b c d)
 ·have hv:(!n || !mz a b c d) = true:=by revert hz; cases n <;> cases mz a b c d <;> simp
  have hcn:cn n a b c d = n:=by revert hz; unfold cn; cases n <;> cases mz a b c d <;> simp
  rw [hcn]
  have C:=fun W=>rvalid_any n a b c d ha hb hc hd W
  simp only [hv] at C
  clear hz hcn hv ha hb hc hd
  have C:=fun W=>gives_known en_r02_Valid (C W)
  refine known_of (enter Try.func72 r02_clean.ok (args:=[_]) (by simp) ?_)
  repeat' (first | simp (disch:=omega) only [sxE,r02_clean.E,Nat.reduceAdd,Nat.reduceEqDiff,Nat.reduceMul,Nat.reduceSub,Int.reduceAdd,Int.reduceSub,Int.reduceMul,Int.reduceNeg,Int.reduceLT,Int.reduceLE,Int.reduceEq,Int.reduceToNat,↓reduceIte,Int.reducePow,Nat.reduceLeDiff,Nat.reduceLT,ne_eq,eq_self,List.length_cons,List.length_nil] | (with_reducible refine Sx.call_at (f:=88) (fun W hW=>C W) ?_) | (with_reducible refine cregF ?_))
 ·have hv:(!n || !mz a b c d) = false:=by revert hz; cases n <;> cases mz a b c d <;> simp
  have hzz:mz a b c d = true:=by revert hz; cases n <;> simp
  have hcn:cn n a b c d = false:=by unfold cn; rw [hzz]; simp
  have hw:a = 0∧b = 0∧c = 0∧d = 0:=by simpa [mz,meq] using hzz
  have C:=fun W=>rvalid_any n a b c d ha hb hc hd W
  simp only [hv] at C
  obtain ⟨rfl,rfl,rfl,rfl⟩:=hw
  rw [hcn]
  clear hz hcn hzz hv ha hb hc hd
  have C:=fun W=>gives_known en_r02_Valid (C W)
  refine known_of (enter Try.func72 r02_clean.ok (args:=[_]) (by simp) ?_)
  repeat' (first | simp (disch:=omega) only [sxE,r02_clean.E,Nat.reduceAdd,Nat.reduceEqDiff,Nat.reduceMul,Nat.reduceSub,Int.reduceAdd,Int.reduceSub,Int.reduceMul,Int.reduceNeg,Int.reduceLT,Int.reduceLE,Int.reduceEq,Int.reduceToNat,↓reduceIte,Int.reducePow,Nat.reduceLeDiff,Nat.reduceLT,ne_eq,eq_self,List.length_cons,List.length_nil] | (with_reducible refine Sx.call_at (f:=88) (fun W hW=>C W) ?_) | (with_reducible refine cregF ?_))
theorem rOf_any (v:Int) (hv:I64 v) (w:World) :
  Calls Try.prog 20 #[.int .i64 v] w fun e w'=>e = .returned (WE v)∧Below w.heap.size w w':=by
 obtain ⟨v1,v2⟩:=hv
 generalize hR:WE v = R
 have HR:=hid hR
 by_cases h:v < 0
 ·have e:WE v = WV true (IntKind.u64.wrap (-IntKind.u64.wrap v)) 0 0 0:=we_of_neg v ⟨v1,v2⟩ h
  have E:=hid (e.symm.trans hR)
  clear e hR
  go_enter Try.func20,Try.ntmps20
  (repeat' (first | go_values | go_skip | go_guarded | go_step | go_upon | (simp only [Int.not_lt,Int.not_le] at *; go_simp) | (go_values <;> (try go_simp)) | (go_ite <;> go_prune <;> (try go_simp)) | (split <;> (first | (rename_i hx; exact (hx _ rfl).elim) | go_prune))))
  refine bodyPost_ret (v:=WV true (IntKind.u64.wrap (-IntKind.u64.wrap v)) 0 0 0) ?_ rfl ⟨congrArg Ending.returned E.out,by (repeat' (first | (with_reducible assumption) | (with_reducible exact Below.refl _ _) | (with_reducible refine Below.alloc ?_ ?_ _) | (with_reducible refine Below.setCell ?_ ?_ _) | (with_reducible refine Below.drew ?_) | (with_reducible refine below_more ?_ (by with_reducible assumption)) | go_size | omega | (with_reducible refine below_drewN ?_)))⟩
  simp [results,Try.results20,go_sem]
 ·have e:WE v = WV false v 0 0 0:=we_uns v ⟨by omega,by omega⟩
  have E:=hid (e.symm.trans hR)
  clear e hR
  go_enter Try.func20,Try.ntmps20
  (repeat' (first | go_values | go_skip | go_guarded | go_step | go_upon | (simp only [Int.not_lt,Int.not_le] at *; go_simp) | (go_values <;> (try go_simp)) | (go_ite <;> go_prune <;> (try go_simp)) | (split <;> (first | (rename_i hx; exact (hx _ rfl).elim) | go_prune))))
  refine bodyPost_ret (v:=WV false v 0 0 0) ?_ rfl ⟨congrArg Ending.returned E.out,by (repeat' (first | (with_reducible assumption) | (with_reducible exact Below.refl _ _) | (with_reducible refine Below.alloc ?_ ?_ _) | (with_reducible refine Below.setCell ?_ ?_ _) | (with_reducible refine Below.drew ?_) | (with_reducible refine below_more ?_ (by with_reducible assumption)) | go_size | omega | (with_reducible refine below_drewN ?_)))⟩
  simp [results,Try.results20,go_sem]
set_option maxHeartbeats 1000000 in
set_option maxRecDepth 100000 in
theorem rmul2_any (n:Bool) (a b c d:Int) (n':Bool) (a' b' c' d':Int) (ha:U64 a) (hb:U64 b) (hc:U64 c) (hd:U64 d) (ha':U64 a') (hb':U64 b') (hc':U64 c') (hd':U64 d') (w:World) :
  Calls Try.prog 57 #[WV n a b c d,WV n' a' b' c' d'] w fun e w'=>e = .returned (.tuple #[WE (cl (wv n a b c d * wv n' a' b' c' d')),.bool (fb (wv n a b c d * wv n' a' b' c' d'))])∧Below w.heap.size w w':=by
 rw [wv_sv n a b c d,wv_sv n' a' b' c' d',sv_mul]
 have m1:=mv_nonneg ha hb hc hd
 have m2:=mv_nonneg ha' hb' hc' hd'
 have k1:=(wl_fit m1).2 (mv_up4 ha hb hc hd)
 have k2:=(wl_fit m2).2 (mv_up4 ha' hb' hc' hd')
 have cA:=fun W=>gives_known en_r02_clean (rclean_any n a b c d ha hb hc hd W)
 have cB:=fun W=>gives_known en_r02_clean (rclean_any n' a' b' c' d' ha' hb' hc' hd' W)
 generalize cn n a b c d = p at *
 generalize cn n' a' b' c' d' = q at *
 have OA:=fun W=>rof_any p a b c d ha hb hc hd W
 have OB:=fun W=>rof_any q a' b' c' d' ha' hb' hc' hd' W
 clear ha hb hc hd ha' hb' hc' hd'
 generalize MV a b c d = m at *
 generalize MV a' b' c' d' = m' at *
 have mm:=Int.mul_nonneg m1 m2
 rw [show (p != q) = !(p == q) from rfl]
 obtain ⟨Y,hY⟩:∃ Y,cl (sv (!(p == q)) (m * m')) = Y:=⟨_,rfl⟩
 obtain ⟨B,hB⟩:∃ B,fb (sv (!(p == q)) (m * m')) = B:=⟨_,rfl⟩
 rw [hY,hB]
 refine known_of (enter Try.func57 r02_Mul.ok (args:=[_,_]) (by simp) ?_)
 repeat' (first | simp (disch:=omega) only [sxE,r02_Mul.E,Nat.reduceAdd,Nat.reduceEqDiff,Nat.reduceMul,Nat.reduceSub,Int.reduceAdd,Int.reduceSub,Int.reduceMul,Int.reduceNeg,Int.reduceLT,Int.reduceLE,Int.reduceEq,Int.reduceToNat,↓reduceIte,Int.reducePow,Nat.reduceLeDiff,Nat.reduceLT,ne_eq,eq_self,List.length_cons,List.length_nil] | (with_reducible refine Sx.call_at (f:=72) (fun W hW=>cA W) ?_) | (with_reducible refine Sx.call_at (f:=72) (fun W hW=>cB W) ?_) | (with_reducible refine cregF ?_))
 refine asks_r (L:=[]) (ws:=wl m) en_r02_of (kX_nil _) (fun W hW _=>OA W) fun a1 c1 hs1 hn1=>?_
 simp (disch:=omega) only [sxE,r02_Mul.E,Nat.reduceAdd,Nat.reduceEqDiff,Nat.reduceMul,Nat.reduceSub,Int.reduceAdd,Int.reduceSub,Int.reduceMul,Int.reduceNeg,Int.reduceLT,Int.reduceLE,Int.reduceEq,Int.reduceToNat,↓reduceIte,Int.reducePow,Nat.reduceLeDiff,Nat.reduceLT,ne_eq,eq_self,List.length_cons,List.length_nil]
 refine asks_r (L:=[.r (.slice a1 (wl m).length c1) (wl m)]) (ws:=wl m') en_r02_of rfl (fun W hW _=>OB W) fun a2 c2 hs2 hn2=>?_
 clear hs1 hs2 hn1 hn2 cA cB OA OB
 repeat' (first | simp (disch:=omega) only [sxE,r02_Mul.E,Nat.reduceAdd,Nat.reduceEqDiff,Nat.reduceMul,Nat.reduceSub,Int.reduceAdd,Int.reduceSub,Int.reduceMul,Int.reduceNeg,Int.reduceLT,Int.reduceLE,Int.reduceEq,Int.reduceToNat,↓reduceIte,Int.reducePow,Nat.reduceLeDiff,Nat.reduceLT,ne_eq,eq_self,List.length_cons,List.length_nil] | (with_reducible refine cregF ?_))
 refine asks_r (L:=[.r (.slice a2 (wl m').length c2) (wl m'),.r (.slice a1 (wl m).length c1) (wl m)]) (ws:=wl (m * m')) en_r02_mul rfl (fun W hW hok=>rmul_any a1 a2 _ c1 _ c2 _ _ m1 m2 (by omega) (by omega) W (hok (.r (.slice a1 (wl m).length c1) (wl m)) (List.mem_cons_of_mem _ List.mem_cons_self)).1 (hok (.r (.slice a2 (wl m').length c2) (wl m')) List.mem_cons_self).1) fun a3 c3 hs3 hn3=>?_
 clear hs3 hn3
 repeat' (first | simp (disch:=omega) only [sxE,r02_Mul.E,Nat.reduceAdd,Nat.reduceEqDiff,Nat.reduceMul,Nat.reduceSub,Int.reduceAdd,Int.reduceSub,Int.reduceMul,Int.reduceNeg,Int.reduceLT,Int.reduceLE,Int.reduceEq,Int.reduceToNat,↓reduceIte,Int.reducePow,Nat.reduceLeDiff,Nat.reduceLT,ne_eq,eq_self,List.length_cons,List.length_nil] | (with_reducible refine cregF ?_))
 refine asks_ext (v:=.tuple #[WE Y,.bool B]) (fun W hW hok=>by
  have:=gives_known en_r02_wide (rwide_any (!(p == q)) a3 (wl (m * m')).length c3 (wl (m * m')) W (hok (.r (.slice a3 (wl (m * m')).length c3) (wl (m * m'))) List.mem_cons_self).1)
  rw [VL_wl mm,hY,hB] at this
  exact this) ?_
 repeat' (first | simp (disch:=omega) only [sxE,r02_Mul.E,Nat.reduceAdd,Nat.reduceEqDiff,Nat.reduceMul,Nat.reduceSub,Int.reduceAdd,Int.reduceSub,Int.reduceMul,Int.reduceNeg,Int.reduceLT,Int.reduceLE,Int.reduceEq,Int.reduceToNat,↓reduceIte,Int.reducePow,Nat.reduceLeDiff,Nat.reduceLT,ne_eq,eq_self,List.length_cons,List.length_nil] | (with_reducible refine cregF ?_))
theorem rcompare_b (m n:Int) (hm:0≤m) (hn:0≤n) (a a':Option Addr) (len cap len' cap':Nat) (w:World) (h:SlU w (.slice a len cap) (wl m)) (h':SlU w (.slice a' len' cap') (wl n)) :
  Calls Try.prog 76 #[.slice a len cap,.slice a' len' cap'] w fun e w'=>e = .returned (.int .i64 (cm m n))∧Below w.heap.size w w' :=
 (rcompare_any a a' len cap len' cap' m n hm hn w h h').mono (fun e w' ⟨he,d,hd⟩=>⟨he,by subst hd; exact below_drewN (Below.refl _ _)⟩)
set_option maxHeartbeats 1000000 in
set_option maxRecDepth 100000 in
theorem radd2_any (n:Bool) (a b c d:Int) (n':Bool) (a' b' c' d':Int) (ha:U64 a) (hb:U64 b) (hc:U64 c) (hd:U64 d) (ha':U64 a') (hb':U64 b') (hc':U64 c') (hd':U64 d') (w:World) :
  Calls Try.prog 22 #[WV n a b c d,WV n' a' b' c' d'] w fun e w'=>e = .returned (.tuple #[WE (cl (wv n a b c d + wv n' a' b' c' d')),.bool (fb (wv n a b c d + wv n' a' b' c' d'))])∧Below w.heap.size w w':=by
 rw [wv_sv n a b c d,wv_sv n' a' b' c' d']
 have m1:=mv_nonneg ha hb hc hd
 have m2:=mv_nonneg ha' hb' hc' hd'
 have k1:=(wl_fit m1).2 (mv_up4 ha hb hc hd)
 have k2:=(wl_fit m2).2 (mv_up4 ha' hb' hc' hd')
 have cA:=fun W=>gives_known en_r02_clean (rclean_any n a b c d ha hb hc hd W)
 have cB:=fun W=>gives_known en_r02_clean (rclean_any n' a' b' c' d' ha' hb' hc' hd' W)
 generalize cn n a b c d = p at *
 generalize cn n' a' b' c' d' = q at *
 have OA:=fun W=>rof_any p a b c d ha hb hc hd W
 have OB:=fun W=>rof_any q a' b' c' d' ha' hb' hc' hd' W
 clear ha hb hc hd ha' hb' hc' hd'
 generalize MV a b c d = m at *
 generalize MV a' b' c' d' = m' at *
 by_cases hpq:p = q
 ·subst hpq
  rw [sv_add]
  have mm:0≤m + m':=by omega
  obtain ⟨Y,hY⟩:∃ Y,cl (sv p (m + m')) = Y:=⟨_,rfl⟩
  obtain ⟨B,hB⟩:∃ B,fb (sv p (m + m')) = B:=⟨_,rfl⟩
  rw [hY,hB]
  refine known_of (enter Try.func22 r02_Add.ok (args:=[_,_]) (by simp) ?_)
  repeat' (first | simp (disch:=omega) only [sxE,r02_Add.E,Nat.reduceAdd,Nat.reduceEqDiff,Nat.reduceMul,Nat.reduceSub,Int.reduceAdd,Int.reduceSub,Int.reduceMul,Int.reduceNeg,Int.reduceLT,Int.reduceLE,Int.reduceEq,Int.reduceToNat,↓reduceIte,Int.reducePow,Nat.reduceLeDiff,Nat.reduceLT,ne_eq,eq_self,List.length_cons,List.length_nil] | (with_reducible refine Sx.call_at (f:=72) (fun W hW=>cA W) ?_) | (with_reducible refine Sx.call_at (f:=72) (fun W hW=>cB W) ?_) | (with_reducible refine cregF ?_))
  refine asks_r (L:=[]) (ws:=wl m) en_r02_of (kX_nil _) (fun W hW _=>OA W) fun a1 c1 hs1 hn1=>?_
  simp (disch:=omega) only [sxE,r02_Add.E,Nat.reduceAdd,Nat.reduceEqDiff,Nat.reduceMul,Nat.reduceSub,Int.reduceAdd,Int.reduceSub,Int.reduceMul,Int.reduceNeg,Int.reduceLT,Int.reduceLE,Int.reduceEq,Int.reduceToNat,↓reduceIte,Int.reducePow,Nat.reduceLeDiff,Nat.reduceLT,ne_eq,eq_self,List.length_cons,List.length_nil]
  refine asks_r (L:=[.r (.slice a1 (wl m).length c1) (wl m)]) (ws:=wl m') en_r02_of rfl (fun W hW _=>OB W) fun a2 c2 hs2 hn2=>?_
  clear hs1 hs2 hn1 hn2 cA cB OA OB
  repeat' (first | simp (disch:=omega) only [sxE,r02_Add.E,Nat.reduceAdd,Nat.reduceEqDiff,Nat.reduceMul,Nat.reduceSub,Int.reduceAdd,Int.reduceSub,Int.reduceMul,Int.reduceNeg,Int.reduceLT,Int.reduceLE,Int.reduceEq,Int.reduceToNat,↓reduceIte,Int.reducePow,Nat.reduceLeDiff,Nat.reduceLT,ne_eq,eq_self,List.length_cons,List.length_nil,beq_self_eq_true] | (with_reducible refine cregF ?_))
  refine asks_r (L:=[.r (.slice a2 (wl m').length c2) (wl m'),.r (.slice a1 (wl m).length c1) (wl m)]) (ws:=wl (m + m')) en_r02_add rfl (fun W hW hok=>radd_any a1 a2 _ c1 _ c2 _ _ m1 m2 (by omega) (by omega) W (hok (.r (.slice a1 (wl m).length c1) (wl m)) (List.mem_cons_of_mem _ List.mem_cons_self)).1 (hok (.r (.slice a2 (wl m').length c2) (wl m')) List.mem_cons_self).1) fun a3 c3 hs3 hn3=>?_
  clear hs3 hn3
  repeat' (first | simp (disch:=omega) only [sxE,r02_Add.E,Nat.reduceAdd,Nat.reduceEqDiff,Nat.reduceMul,Nat.reduceSub,Int.reduceAdd,Int.reduceSub,Int.reduceMul,Int.reduceNeg,Int.reduceLT,Int.reduceLE,Int.reduceEq,Int.reduceToNat,↓reduceIte,Int.reducePow,Nat.reduceLeDiff,Nat.reduceLT,ne_eq,eq_self,List.length_cons,List.length_nil] | (with_reducible refine cregF ?_))
  refine asks_ext (v:=.tuple #[WE Y,.bool B]) (fun W hW hok=>by
   have:=gives_known en_r02_wide (rwide_any (p) a3 (wl (m + m')).length c3 (wl (m + m')) W (hok (.r (.slice a3 (wl (m + m')).length c3) (wl (m + m'))) List.mem_cons_self).1)
   rw [VL_wl mm,hY,hB] at this
   exact this) ?_
  repeat' (first | simp (disch:=omega) only [sxE,r02_Add.E,Nat.reduceAdd,Nat.reduceEqDiff,Nat.reduceMul,Nat.reduceSub,Int.reduceAdd,Int.reduceSub,Int.reduceMul,Int.reduceNeg,Int.reduceLT,Int.reduceLE,Int.reduceEq,Int.reduceToNat,↓reduceIte,Int.reducePow,Nat.reduceLeDiff,Nat.reduceLT,ne_eq,eq_self,List.length_cons,List.length_nil] | (with_reducible refine cregF ?_))
 ·have T0:(p == q) = false:=beq_eq_false_iff_ne.2 hpq
  obtain ⟨Z,hZ⟩:∃ Z,cm m m' = Z:=⟨_,rfl⟩
  by_cases hle:m'≤m
  ·have mm:0≤m - m':=by omega
   have T:0≤Z:=by rw [← hZ]; exact (cm_ge _ _).2 hle
   rw [sv_sub hpq]
   obtain ⟨Y,hY⟩:∃ Y,cl (sv p (m - m')) = Y:=⟨_,rfl⟩
   obtain ⟨B,hB⟩:∃ B,fb (sv p (m - m')) = B:=⟨_,rfl⟩
   rw [hY,hB]
   refine known_of (enter Try.func22 r02_Add.ok (args:=[_,_]) (by simp) ?_)
   repeat' (first | simp (disch:=omega) only [sxE,r02_Add.E,Nat.reduceAdd,Nat.reduceEqDiff,Nat.reduceMul,Nat.reduceSub,Int.reduceAdd,Int.reduceSub,Int.reduceMul,Int.reduceNeg,Int.reduceLT,Int.reduceLE,Int.reduceEq,Int.reduceToNat,↓reduceIte,Int.reducePow,Nat.reduceLeDiff,Nat.reduceLT,ne_eq,eq_self,List.length_cons,List.length_nil] | (with_reducible refine Sx.call_at (f:=72) (fun W hW=>cA W) ?_) | (with_reducible refine Sx.call_at (f:=72) (fun W hW=>cB W) ?_) | (with_reducible refine cregF ?_))
   refine asks_r (L:=[]) (ws:=wl m) en_r02_of (kX_nil _) (fun W hW _=>OA W) fun a1 c1 hs1 hn1=>?_
   simp (disch:=omega) only [sxE,r02_Add.E,Nat.reduceAdd,Nat.reduceEqDiff,Nat.reduceMul,Nat.reduceSub,Int.reduceAdd,Int.reduceSub,Int.reduceMul,Int.reduceNeg,Int.reduceLT,Int.reduceLE,Int.reduceEq,Int.reduceToNat,↓reduceIte,Int.reducePow,Nat.reduceLeDiff,Nat.reduceLT,ne_eq,eq_self,List.length_cons,List.length_nil]
   refine asks_r (L:=[.r (.slice a1 (wl m).length c1) (wl m)]) (ws:=wl m') en_r02_of rfl (fun W hW _=>OB W) fun a2 c2 hs2 hn2=>?_
   clear hs1 hs2 hn1 hn2 cA cB OA OB
   repeat' (first | simp (disch:=omega) only [sxE,r02_Add.E,Nat.reduceAdd,Nat.reduceEqDiff,Nat.reduceMul,Nat.reduceSub,Int.reduceAdd,Int.reduceSub,Int.reduceMul,Int.reduceNeg,Int.reduceLT,Int.reduceLE,Int.reduceEq,Int.reduceToNat,↓reduceIte,Int.reducePow,Nat.reduceLeDiff,Nat.reduceLT,ne_eq,eq_self,List.length_cons,List.length_nil,T0] | (with_reducible refine cregF ?_))
   refine asks_ext (v:=.int .i64 Z) (fun W hW hok=>by
    have:=gives_known en_r02_compare (rcompare_b m m' m1 m2 a1 a2 _ c1 _ c2 W (hok (.r (.slice a1 (wl m).length c1) (wl m)) (List.mem_cons_of_mem _ List.mem_cons_self)).1 (hok (.r (.slice a2 (wl m').length c2) (wl m')) List.mem_cons_self).1)
    rw [hZ] at this
    exact this) ?_
   repeat' (first | simp (disch:=omega) only [sxE,r02_Add.E,Nat.reduceAdd,Nat.reduceEqDiff,Nat.reduceMul,Nat.reduceSub,Int.reduceAdd,Int.reduceSub,Int.reduceMul,Int.reduceNeg,Int.reduceLT,Int.reduceLE,Int.reduceEq,Int.reduceToNat,↓reduceIte,Int.reducePow,Nat.reduceLeDiff,Nat.reduceLT,ne_eq,eq_self,List.length_cons,List.length_nil] | (with_reducible refine cregF ?_))
   refine asks_r (L:=[.r (.slice a2 (wl m').length c2) (wl m'),.r (.slice a1 (wl m).length c1) (wl m)]) (ws:=wl (m - m')) en_r02_sub rfl (fun W hW hok=>rsub_any a1 a2 _ c1 _ c2 _ _ m2 hle (by omega) W (hok (.r (.slice a1 (wl m).length c1) (wl m)) (List.mem_cons_of_mem _ List.mem_cons_self)).1 (hok (.r (.slice a2 (wl m').length c2) (wl m')) List.mem_cons_self).1) fun a3 c3 hs3 hn3=>?_
   clear hs3 hn3
   repeat' (first | simp (disch:=omega) only [sxE,r02_Add.E,Nat.reduceAdd,Nat.reduceEqDiff,Nat.reduceMul,Nat.reduceSub,Int.reduceAdd,Int.reduceSub,Int.reduceMul,Int.reduceNeg,Int.reduceLT,Int.reduceLE,Int.reduceEq,Int.reduceToNat,↓reduceIte,Int.reducePow,Nat.reduceLeDiff,Nat.reduceLT,ne_eq,eq_self,List.length_cons,List.length_nil] | (with_reducible refine cregF ?_))
   refine asks_ext (v:=.tuple #[WE Y,.bool B]) (fun W hW hok=>by
    have:=gives_known en_r02_wide (rwide_any (p) a3 (wl (m - m')).length c3 (wl (m - m')) W (hok (.r (.slice a3 (wl (m - m')).length c3) (wl (m - m'))) List.mem_cons_self).1)
    rw [VL_wl mm,hY,hB] at this
    exact this) ?_
   repeat' (first | simp (disch:=omega) only [sxE,r02_Add.E,Nat.reduceAdd,Nat.reduceEqDiff,Nat.reduceMul,Nat.reduceSub,Int.reduceAdd,Int.reduceSub,Int.reduceMul,Int.reduceNeg,Int.reduceLT,Int.reduceLE,Int.reduceEq,Int.reduceToNat,↓reduceIte,Int.reducePow,Nat.reduceLeDiff,Nat.reduceLT,ne_eq,eq_self,List.length_cons,List.length_nil] | (with_reducible refine cregF ?_))
  ·have mm:0≤m' - m:=by omega
   have T:¬ 0≤Z:=by rw [← hZ]; exact fun h=>hle ((cm_ge _ _).1 h)
   rw [sv_sub' hpq]
   obtain ⟨Y,hY⟩:∃ Y,cl (sv q (m' - m)) = Y:=⟨_,rfl⟩
   obtain ⟨B,hB⟩:∃ B,fb (sv q (m' - m)) = B:=⟨_,rfl⟩
   rw [hY,hB]
   refine known_of (enter Try.func22 r02_Add.ok (args:=[_,_]) (by simp) ?_)
   repeat' (first | simp (disch:=omega) only [sxE,r02_Add.E,Nat.reduceAdd,Nat.reduceEqDiff,Nat.reduceMul,Nat.reduceSub,Int.reduceAdd,Int.reduceSub,Int.reduceMul,Int.reduceNeg,Int.reduceLT,Int.reduceLE,Int.reduceEq,Int.reduceToNat,↓reduceIte,Int.reducePow,Nat.reduceLeDiff,Nat.reduceLT,ne_eq,eq_self,List.length_cons,List.length_nil] | (with_reducible refine Sx.call_at (f:=72) (fun W hW=>cA W) ?_) | (with_reducible refine Sx.call_at (f:=72) (fun W hW=>cB W) ?_) | (with_reducible refine cregF ?_))
   refine asks_r (L:=[]) (ws:=wl m) en_r02_of (kX_nil _) (fun W hW _=>OA W) fun a1 c1 hs1 hn1=>?_
   simp (disch:=omega) only [sxE,r02_Add.E,Nat.reduceAdd,Nat.reduceEqDiff,Nat.reduceMul,Nat.reduceSub,Int.reduceAdd,Int.reduceSub,Int.reduceMul,Int.reduceNeg,Int.reduceLT,Int.reduceLE,Int.reduceEq,Int.reduceToNat,↓reduceIte,Int.reducePow,Nat.reduceLeDiff,Nat.reduceLT,ne_eq,eq_self,List.length_cons,List.length_nil]
   refine asks_r (L:=[.r (.slice a1 (wl m).length c1) (wl m)]) (ws:=wl m') en_r02_of rfl (fun W hW _=>OB W) fun a2 c2 hs2 hn2=>?_
   clear hs1 hs2 hn1 hn2 cA cB OA OB
   repeat' (first | simp (disch:=omega) only [sxE,r02_Add.E,Nat.reduceAdd,Nat.reduceEqDiff,Nat.reduceMul,Nat.reduceSub,Int.reduceAdd,Int.reduceSub,Int.reduceMul,Int.reduceNeg,Int.reduceLT,Int.reduceLE,Int.reduceEq,Int.reduceToNat,↓reduceIte,Int.reducePow,Nat.reduceLeDiff,Nat.reduceLT,ne_eq,eq_self,List.length_cons,List.length_nil,T0] | (with_reducible refine cregF ?_))
   refine asks_ext (v:=.int .i64 Z) (fun W hW hok=>by
    have:=gives_known en_r02_compare (rcompare_b m m' m1 m2 a1 a2 _ c1 _ c2 W (hok (.r (.slice a1 (wl m).length c1) (wl m)) (List.mem_cons_of_mem _ List.mem_cons_self)).1 (hok (.r (.slice a2 (wl m').length c2) (wl m')) List.mem_cons_self).1)
    rw [hZ] at this
    exact this) ?_
   repeat' (first | simp (disch:=omega) only [sxE,r02_Add.E,Nat.reduceAdd,Nat.reduceEqDiff,Nat.reduceMul,Nat.reduceSub,Int.reduceAdd,Int.reduceSub,Int.reduceMul,Int.reduceNeg,Int.reduceLT,Int.reduceLE,Int.reduceEq,Int.reduceToNat,↓reduceIte,Int.reducePow,Nat.reduceLeDiff,Nat.reduceLT,ne_eq,eq_self,List.length_cons,List.length_nil] | (with_reducible refine cregF ?_))
   refine asks_r (L:=[.r (.slice a2 (wl m').length c2) (wl m'),.r (.slice a1 (wl m).length c1) (wl m)]) (ws:=wl (m' - m)) en_r02_sub rfl (fun W hW hok=>rsub_any a2 a1 _ c2 _ c1 _ _ m1 (by omega) (by omega) W (hok (.r (.slice a2 (wl m').length c2) (wl m')) List.mem_cons_self).1 (hok (.r (.slice a1 (wl m).length c1) (wl m)) (List.mem_cons_of_mem _ List.mem_cons_self)).1) fun a3 c3 hs3 hn3=>?_
   clear hs3 hn3
   repeat' (first | simp (disch:=omega) only [sxE,r02_Add.E,Nat.reduceAdd,Nat.reduceEqDiff,Nat.reduceMul,Nat.reduceSub,Int.reduceAdd,Int.reduceSub,Int.reduceMul,Int.reduceNeg,Int.reduceLT,Int.reduceLE,Int.reduceEq,Int.reduceToNat,↓reduceIte,Int.reducePow,Nat.reduceLeDiff,Nat.reduceLT,ne_eq,eq_self,List.length_cons,List.length_nil] | (with_reducible refine cregF ?_))
   refine asks_ext (v:=.tuple #[WE Y,.bool B]) (fun W hW hok=>by
    have:=gives_known en_r02_wide (rwide_any (q) a3 (wl (m' - m)).length c3 (wl (m' - m)) W (hok (.r (.slice a3 (wl (m' - m)).length c3) (wl (m' - m))) List.mem_cons_self).1)
    rw [VL_wl mm,hY,hB] at this
    exact this) ?_
   repeat' (first | simp (disch:=omega) only [sxE,r02_Add.E,Nat.reduceAdd,Nat.reduceEqDiff,Nat.reduceMul,Nat.reduceSub,Int.reduceAdd,Int.reduceSub,Int.reduceMul,Int.reduceNeg,Int.reduceLT,Int.reduceLE,Int.reduceEq,Int.reduceToNat,↓reduceIte,Int.reducePow,Nat.reduceLeDiff,Nat.reduceLT,ne_eq,eq_self,List.length_cons,List.length_nil] | (with_reducible refine cregF ?_))
end Go.Proofs.Ytncmmbacoknefaa

/- CdY: MADE BY PROGRAM (sxgen.py): the small code of some functions, points of it and their equations. -/
namespace Go.Proofs.Ytncmmbacoknefaa
open Go Go.RowKit Sx Sx.Q
set_option linter.unusedVariables false
variable (C:Cx) (R L1 L2 L3 L4:St→Prop)
namespace r02_DivMod
abbrev q0:=[2,3,4,5]
abbrev r0:List G:=[e 2 (.box true 5 (t 0)),e 3 (.box true 5 (t 1)),e 4 (.new zW),e 5 (.new zW),Mb 6 false]
abbrev r1:List G:=[L 9 5 2,k1 10 72 9,L 11 5 3,k1 12 72 11]
abbrev t1:List G:=[V 5 2 10,V 5 3 12]
abbrev q1:=[2,3,4,5,15]
abbrev r2:List G:=[L 13 5 3,K1 14 65 13,bi 15 .eql 14 0]
abbrev q2:=[4,5,6]
abbrev r3:List G:=[e 16 (.bd zW []),e 17 (.bd zW []),V 5 4 16,V 5 5 17,Mb 6 false]
abbrev q3:=[2,3,4,5,7,8]
abbrev r4:List G:=[L 19 5 2,L 21 5 3,K1 20 73 19,K1 22 73 21,K2 23 78 20 22,m 18 23,x 24 18 0,x 25 18 1]
abbrev t4:List G:=[m 7 24,m 8 25]
abbrev q4:=[2,3,4,5,7,8,32]
abbrev r5:List G:=[a 26 0 2,l 27 26,m 28 27,ym 29 28 8,y 30 28 (.len false (t 29)),y 31 28 (.bin .gtr (t 30) (i 0)),w 32 28 31]
abbrev r6:List G:=[m 33 7,L 36 5 3,m 38 8,e 34 (.gen false (.bsl 113 1 [0]) [(u 1)]),K2 35 75 33 34,K1 37 73 36,K2 39 77 37 38]
abbrev t6:List G:=[m 7 35,m 8 39]
abbrev q5:=[4,5,6,8]
abbrev r7:List G:=[a 41 0 2,l 42 41,a 43 0 3,l 44 43,e 45 (.bq true (t 42) (t 44)),m 46 7,K2 47 74 45 46,m 40 47,x 48 40 0,x 49 40 1,V 5 4 48,m 6 49]
abbrev q6:=[4,5,8,51]
abbrev r8:List G:=[m 50 6,e 51 (.un .not (t 50))]
abbrev r9:List G:=[e 52 (.bd zW []),e 53 (.bd zW []),V 5 4 52,V 5 5 53,Mb 6 false]
abbrev q7:=[4,5]
abbrev r10:List G:=[m 55 8,e 56 (.call false 74 [bf,(t 55)]),m 54 56,x 57 54 0,x 58 54 1,V 5 5 57]
abbrev r11:List G:=[L 59 5 4,L 60 5 5]
abbrev t11:GT:=.br none none (.st true 5 (t 4) (t 59)) (.br none none (.st true 5 (t 5) (t 60)) (br 6 (.mv bt) .fin .no) .no) .no
abbrev c:MC:=sq [g r0 q0,gd r1 t1 q0,sq [g r2 q1,ci 15 (sq [g r3 q2,.ret]) .skip],gk true false r4 t4 q3,sq [g r5 q4,ci 32 (gk true false r6 t6 q3) .skip],g r7 q5,sq [g r8 q6,ci 51 (sq [g r9 q2,.ret]) .skip],g r10 q7,gh r11 t11 [4,5] q2,.ret]
theorem ok:compF Try.prog Try.f23 (an (rg 12) c [(1,4,[],(up 4),[]),(4,200008,[7],[(0,0),(2,0),(1,1),(3,1),(4,1),(5,0),(6,0),(7,2)],[]),(6,200007,[],[(0,0),(3,0),(5,0),(1,1),(2,1),(4,1),(6,1)],[]),(11,99998,[0,1],[],[4,5])]) = some (61,c,[(4,some (true,5)),(5,some (true,5)),(6,none)]):=by kernel_rfl
abbrev p1:=Ph C r11 t11 [4,5] q2 R
abbrev p2:=P C r10 q7 (p1 C R)
abbrev p4:=P C r9 q2 R
abbrev p3:=cd (t 51) (p4 C R) (p2 C R)
abbrev p5:=P C r8 q6 (p3 C R)
abbrev p6:=P C r7 q5 (p5 C R)
abbrev p8:=Pc C true false r6 t6 q3 (p6 C R)
abbrev p7:=cd (t 32) (p8 C R) (p6 C R)
abbrev p9:=P C r5 q4 (p7 C R)
abbrev p10:=Pc C true false r4 t4 q3 (p9 C R)
abbrev p12:=P C r3 q2 R
abbrev p11:=cd (t 15) (p12 C R) (p10 C R)
abbrev p13:=P C r2 q1 (p11 C R)
abbrev p14:=Pd C r1 t1 q0 (p13 C R)
abbrev p15:=P C r0 q0 (p14 C R)
theorem s (S:St):X C c (retK R) S = p15 C R S:=by kernel_rfl
theorem E:type_of% @s:=@s
end r02_DivMod
namespace r02_divmod
abbrev q0:=[0,1]
abbrev r0:List G:=[e 4 (.mv (.const (.slice none 0 0))),e 5 (.mv (.const (.slice none 0 0)))]
abbrev q1:=[0,1,6]
abbrev r1:List G:=[m 13 0,e 14 (.len false (t 13)),e 15 (.gen false (.mks 113) [(t 14),(t 14)]),m 6 15]
abbrev q2:=[0,1,6,18]
abbrev r2:List G:=[m 16 1,e 17 (.len false (t 16)),bi 18 .eql 17 1]
abbrev q3:=[0,1,6,7]
abbrev r3:List G:=[e 7 (.mv (u 0))]
abbrev q4:=[0,1,6,7,8]
abbrev r4:List G:=[m 19 0,e 20 (.len false (t 19)),bi 21 .sub 20 1,m 8 21]
abbrev q5:=[0,1,6,7,8,23]
abbrev r5:List G:=[m 22 8,bi 23 .geq 22 0]
abbrev r7:List G:=[m 27 6,m 28 8,m 29 7,m 30 0,m 31 8,j 32 1 30 31,l 33 32,m 34 1,e 35 (.is 1 (t 34) (i 0)),l 36 35,k3 37 130 29 33 36,m 26 37,x 38 26 0,x 39 26 1,j 40 1 27 28]
abbrev t7:List G:=[v 40 38,m 7 39]
abbrev r6:List G:=[m 24 8,bi 25 .sub 24 1,m 8 25]
abbrev q6:=[4,5]
abbrev r8:List G:=[m 41 6,K1 42 127 41,m 43 7,e 44 (.gen false (.bsl 113 1 [0]) [(t 43)]),K1 45 127 44,m 4 42,m 5 45]
abbrev q7:=[1,6,9]
abbrev r9:List G:=[e 46 (.gen false (.bsl 113 0 []) []),m 47 0,e 48 (.gen false (.bi .append [113,113] 113 [false,false]) [(t 46),(t 47)]),K1 49 127 48,m 9 49]
abbrev q8:=[1,6,9,10]
abbrev r10:List G:=[m 50 9,K1 51 131 50,m 52 1,K1 53 131 52,b 54 .sub 51 53,m 10 54]
abbrev q9:=[1,6,9,10,56]
abbrev r11:List G:=[m 55 10,bi 56 .lss 55 0]
abbrev r12:List G:=[m 57 9,e 4 (.mv (.const (.slice none 0 0))),m 5 57]
abbrev q10:=[6,9,10,11]
abbrev r13:List G:=[m 58 1,m 59 10,K2 60 132 58 59,m 11 60]
abbrev q11:=[6,9,11,12]
abbrev r14:List G:=[m 61 10,m 12 61]
abbrev q12:=[6,9,11,12,63]
abbrev r15:List G:=[m 62 12,bi 63 .geq 62 0]
abbrev q13:=[6,9,11,12,69]
abbrev r17:List G:=[m 66 9,m 67 11,K2 68 76 66 67,bi 69 .geq 68 0]
abbrev r18:List G:=[m 70 9,m 71 11,K2 72 77 70 71,m 9 72]
abbrev r19:List G:=[m 73 6,m 74 12,bi 75 .quo 74 64,j 76 1 73 75,l 77 76,m 78 12,bi 79 .rem 78 64,e 80 (.cv .u64 (t 79)),e 81 (.bin .shl (u 1) (t 80)),b 82 .or 77 81,j 83 1 73 75,v 83 82]
abbrev r20:List G:=[m 84 11,K1 85 133 84,m 11 85]
abbrev r16:List G:=[m 64 12,bi 65 .sub 64 1,m 12 65]
abbrev r21:List G:=[m 86 6,K1 87 127 86,m 88 9,m 4 87,m 5 88]
abbrev c:MC:=sq [g r0 q0,g r1 q1,sq [g r2 q2,ci 18 (sq [g r3 q3,sq [g r4 q4,.block 0 (.loop (sq [sq [g r5 q5,ci 23 .skip (.exit 0)],.block 1 (gd r7 t7 q4),g r6 q4]))],g r8 q6,.ret]) .skip],g r9 q7,g r10 q8,sq [g r11 q9,ci 56 (sq [g r12 q6,.ret]) .skip],g r13 q10,sq [g r14 q11,.block 2 (.loop (sq [sq [g r15 q12,ci 63 .skip (.exit 2)],.block 3 (sq [sq [g r17 q13,ci 69 (sq [g r18 q11,g r19 q11]) .skip],g r20 q11]),g r16 q11]))],g r21 q6,.ret]
theorem ok:compF Try.prog Try.f78 (an [0,1,2,3,4,5,7,6,8,9,10,11,12,13,14,15,17,18,19,20,16,21] c [(7,15,[13],(up 13 ++ [(13,2),(14,0)]),[])]) = some (89,c,[(4,none),(5,none)]):=by kernel_rfl
abbrev p1:=P C r21 q6 R
abbrev p3:=P C r16 q11 L1
abbrev p4:=P C r20 q11 (p3 C L1)
abbrev p6:=P C r19 q11 (p4 C L1)
abbrev p7:=P C r18 q11 (p6 C L1)
abbrev p5:=cd (t 69) (p7 C L1) (p4 C L1)
abbrev p8:=P C r17 q13 (p5 C L1)
abbrev p9:=cd (t 63) (p8 C L1) (p1 C R)
abbrev p10:=P C r15 q12 (p9 C R L1)
def p2 (S:St):Prop:=LX C (fun L1=>(p10 C R L1)) S
theorem p2_l (S:St):p2 C R S = LX C (fun L1=>(p10 C R L1)) S:=rfl
abbrev p11:=P C r14 q11 (p2 C R)
abbrev p12:=P C r13 q10 (p11 C R)
abbrev p14:=P C r12 q6 R
abbrev p13:=cd (t 56) (p14 C R) (p12 C R)
abbrev p15:=P C r11 q9 (p13 C R)
abbrev p16:=P C r10 q8 (p15 C R)
abbrev p17:=P C r9 q7 (p16 C R)
abbrev p19:=P C r8 q6 R
abbrev p21:=P C r6 q4 L1
abbrev p22:=Pd C r7 t7 q4 (p21 C L1)
abbrev p23:=cd (t 23) (p22 C L1) (p19 C R)
abbrev p24:=P C r5 q5 (p23 C R L1)
def p20 (S:St):Prop:=LX C (fun L1=>(p24 C R L1)) S
theorem p20_l (S:St):p20 C R S = LX C (fun L1=>(p24 C R L1)) S:=rfl
abbrev p25:=P C r4 q4 (p20 C R)
abbrev p26:=P C r3 q3 (p25 C R)
abbrev p18:=cd (t 18) (p26 C R) (p17 C R)
abbrev p27:=P C r2 q2 (p18 C R)
abbrev p28:=P C r1 q1 (p27 C R)
abbrev p29:=P C r0 q0 (p28 C R)
theorem s (S:St):X C c (retK R) S = p29 C R S:=by kernel_rfl
theorem E:type_of% @s:=@s
end r02_divmod
namespace r02_half
abbrev r0:List G:=[e 2 (.mv (.const (.slice none 0 0)))]
abbrev q0:=[0,3]
abbrev r1:List G:=[Mi 3 0]
abbrev q1:=[0,3,7]
abbrev r2:List G:=[m 4 3,m 5 0,e 6 (.len false (t 5)),b 7 .lss 4 6]
abbrev r4:List G:=[m 10 0,m 11 3,j 12 1 10 11,l 13 12,bu 14 .shr 13 1,j 15 1 10 11,v 15 14]
abbrev q2:=[0,3,20]
abbrev r5:List G:=[m 16 3,bi 17 .add 16 1,m 18 0,e 19 (.len false (t 18)),b 20 .lss 17 19]
abbrev r6:List G:=[m 21 0,m 22 3,j 23 1 21 22,l 24 23,m 25 0,m 26 3,bi 27 .add 26 1,j 28 1 25 27,l 29 28,bu 30 .shl 29 63,b 31 .or 24 30,j 32 1 21 22]
abbrev t6:List G:=[v 32 31]
abbrev r3:List G:=[m 8 3,bi 9 .add 8 1,m 3 9]
abbrev r7:List G:=[m 33 0,K1 34 127 33,m 2 34]
abbrev c:MC:=sq [g r0 [0],sq [g r1 q0,.block 0 (.loop (sq [sq [g r2 q1,ci 7 .skip (.exit 0)],.block 1 (sq [g r4 q0,g r5 q2,ci 20 (gd r6 t6 q0) .skip]),g r3 q0]))],g r7 [2],.ret]
theorem ok:compF Try.prog Try.f133 (an [0,1,2,4,5,6,3,7] c [(6,12,[],(up 12),[])]) = some (35,c,[(2,none)]):=by kernel_rfl
abbrev p1:=P C r7 [2] R
abbrev p3:=P C r3 q0 L1
abbrev p5:=Pd C r6 t6 q0 (p3 C L1)
abbrev p4:=cd (t 20) (p5 C L1) (p3 C L1)
abbrev p6:=P C r5 q2 (p4 C L1)
abbrev p7:=P C r4 q0 (p6 C L1)
abbrev p8:=cd (t 7) (p7 C L1) (p1 C R)
abbrev p9:=P C r2 q1 (p8 C R L1)
def p2 (S:St):Prop:=LX C (fun L1=>(p9 C R L1)) S
theorem p2_l (S:St):p2 C R S = LX C (fun L1=>(p9 C R L1)) S:=rfl
abbrev p10:=P C r1 q0 (p2 C R)
abbrev p11:=P C r0 [0] (p10 C R)
theorem s (S:St):X C c (retK R) S = p11 C R S:=by kernel_rfl
theorem E:type_of% @s:=@s
end r02_half
namespace r02_size
abbrev r0:List G:=[Mi 2 0]
abbrev q0:=[0,5]
abbrev r1:List G:=[m 3 0,e 4 (.len false (t 3)),bi 5 .eql 4 0]
abbrev r2:List G:=[Mi 2 0]
abbrev r3:List G:=[m 6 0,e 7 (.len false (t 6)),bi 8 .sub 7 1,e 9 (.bin .mul (i 64) (t 8)),m 10 0,m 11 0,e 12 (.len false (t 11)),bi 13 .sub 12 1,j 14 1 10 13,l 15 14,K1 16 169 15,b 17 .add 9 16,m 2 17]
abbrev c:MC:=sq [g r0 [0],sq [g r1 q0,ci 5 (sq [g r2 [2],.ret]) .skip],g r3 [2],.ret]
theorem ok:compF Try.prog Try.f131 (an (rg 4) c []) = some (18,c,[(2,none)]):=by kernel_rfl
abbrev p1:=P C r3 [2] R
abbrev p3:=P C r2 [2] R
abbrev p2:=cd (t 5) (p3 C R) (p1 C R)
abbrev p4:=P C r1 q0 (p2 C R)
abbrev p5:=P C r0 [0] (p4 C R)
theorem s (S:St):X C c (retK R) S = p5 C R S:=by kernel_rfl
theorem E:type_of% @s:=@s
end r02_size
namespace r02_up
abbrev q0:=[0,1]
abbrev r0:List G:=[e 4 (.mv (.const (.slice none 0 0)))]
abbrev q1:=[0,1,5]
abbrev r1:List G:=[m 7 0,e 8 (.len false (t 7)),m 9 1,bi 10 .quo 9 64,b 11 .add 8 10,bi 12 .add 11 1,e 13 (.gen false (.mks 113) [(t 12),(t 12)]),m 5 13]
abbrev q2:=[0,1,5,6]
abbrev r2:List G:=[Mi 6 0]
abbrev q3:=[0,1,5,6,17]
abbrev r3:List G:=[m 14 6,m 15 0,e 16 (.len false (t 15)),b 17 .lss 14 16]
abbrev r5:List G:=[m 20 5,m 21 6,m 22 1,bi 23 .quo 22 64,b 24 .add 21 23,j 25 1 20 24,l 26 25,m 27 0,m 28 6,j 29 1 27 28,l 30 29,m 31 1,bi 32 .rem 31 64,e 33 (.cv .u64 (t 32)),b 34 .shl 30 33,b 35 .or 26 34,j 36 1 20 24]
abbrev t5:List G:=[v 36 35]
abbrev q4:=[0,1,5,6,39]
abbrev r6:List G:=[m 37 1,bi 38 .rem 37 64,bi 39 .gtr 38 0]
abbrev r7:List G:=[m 40 5,m 41 6,m 42 1,bi 43 .quo 42 64,b 44 .add 41 43,bi 45 .add 44 1,j 46 1 40 45,l 47 46,m 48 0,m 49 6,j 50 1 48 49,l 51 50,m 52 1,bi 53 .rem 52 64,e 54 (.bin .sub (i 64) (t 53)),e 55 (.cv .u64 (t 54)),b 56 .shr 51 55,b 57 .or 47 56,j 58 1 40 45]
abbrev t7:List G:=[v 58 57]
abbrev r4:List G:=[m 18 6,bi 19 .add 18 1,m 6 19]
abbrev r8:List G:=[m 59 5,K1 60 127 59,m 4 60]
abbrev c:MC:=sq [g r0 q0,g r1 q1,sq [g r2 q2,.block 0 (.loop (sq [sq [g r3 q3,ci 17 .skip (.exit 0)],.block 1 (sq [gd r5 t5 q2,g r6 q4,ci 39 (gd r7 t7 q2) .skip]),g r4 q2]))],g r8 [4],.ret]
theorem ok:compF Try.prog Try.f132 (an [0,1,2,3,5,6,7,4,8] c [(5,17,[],(up 17),[]),(7,19,[],(up 19),[])]) = some (61,c,[(4,none)]):=by kernel_rfl
abbrev p1:=P C r8 [4] R
abbrev p3:=P C r4 q2 L1
abbrev p5:=Pd C r7 t7 q2 (p3 C L1)
abbrev p4:=cd (t 39) (p5 C L1) (p3 C L1)
abbrev p6:=P C r6 q4 (p4 C L1)
abbrev p7:=Pd C r5 t5 q2 (p6 C L1)
abbrev p8:=cd (t 17) (p7 C L1) (p1 C R)
abbrev p9:=P C r3 q3 (p8 C R L1)
def p2 (S:St):Prop:=LX C (fun L1=>(p9 C R L1)) S
theorem p2_l (S:St):p2 C R S = LX C (fun L1=>(p9 C R L1)) S:=rfl
abbrev p10:=P C r2 q2 (p2 C R)
abbrev p11:=P C r1 q1 (p10 C R)
abbrev p12:=P C r0 q0 (p11 C R)
theorem s (S:St):X C c (retK R) S = p12 C R S:=by kernel_rfl
theorem E:type_of% @s:=@s
end r02_up
namespace r02_Int64
abbrev r0:List G:=[e 1 (.box true 5 (t 0)),Mi 2 0,Mb 3 false]
abbrev r1:List G:=[L 5 5 1,K1 6 72 5,V 5 1 6]
abbrev q0:=[1,4]
abbrev r2:List G:=[L 7 5 1,K1 8 73 7,m 4 8]
abbrev q1:=[1,4,11]
abbrev r3:List G:=[m 9 4,e 10 (.len false (t 9)),bi 11 .eql 10 0]
abbrev q2:=[2,3]
abbrev r4:List G:=[Mi 2 0,Mb 3 true]
abbrev q3:=[1,4,35]
abbrev r5:List G:=[m 12 4,e 13 (.len false (t 12)),bi 14 .gtr 13 1,m 15 14,na 16 15 0 1,nl 17 15 16,nm 18 15 17,ym 19 18 4,y 20 18 (.is 1 (t 19) (i 0)),yl 21 18 20,y 22 18 (.bin .gtr (t 21) (u 9223372036854775808)),n 23 15 (.pick (t 18) (t 22) bf),o 24 15 23,m 25 24,na 26 25 0 1,nl 27 25 26,n 28 25 (.un .not (t 27)),nm 29 25 28,ym 30 29 4,y 31 29 (.is 1 (t 30) (i 0)),yl 32 29 31,y 33 29 (.bin .geq (t 32) (u 9223372036854775808)),n 34 25 (.pick (t 29) (t 33) bf),o 35 25 34]
abbrev r6:List G:=[Mi 2 0,Mb 3 false]
abbrev q4:=[4,37]
abbrev r7:List G:=[a 36 0 1,l 37 36]
abbrev r8:List G:=[m 38 4,e 39 (.is 1 (t 38) (i 0)),l 40 39,e 41 (.un .neg (t 40)),e 42 (.cv .i64 (t 41)),m 2 42,Mb 3 true]
abbrev r9:List G:=[m 43 4,e 44 (.is 1 (t 43) (i 0)),l 45 44,e 46 (.cv .i64 (t 45)),m 2 46,Mb 3 true]
abbrev c:MC:=sq [g r0 [1],g r1 [1],g r2 q0,sq [g r3 q1,ci 11 (sq [g r4 q2,.ret]) .skip],sq [g r5 q3,ci 35 (sq [g r6 q2,.ret]) .skip],sq [g r7 q4,ci 37 (sq [g r8 q2,.ret]) .skip],g r9 q2,.ret]
theorem ok:compF Try.prog Try.f25 (an (rg 10) c []) = some (47,c,[(2,none),(3,none)]):=by kernel_rfl
abbrev p1:=P C r9 q2 R
abbrev p3:=P C r8 q2 R
abbrev p2:=cd (t 37) (p3 C R) (p1 C R)
abbrev p4:=P C r7 q4 (p2 C R)
abbrev p6:=P C r6 q2 R
abbrev p5:=cd (t 35) (p6 C R) (p4 C R)
abbrev p7:=P C r5 q3 (p5 C R)
abbrev p9:=P C r4 q2 R
abbrev p8:=cd (t 11) (p9 C R) (p7 C R)
abbrev p10:=P C r3 q1 (p8 C R)
abbrev p11:=P C r2 q0 (p10 C R)
abbrev p12:=P C r1 [1] (p11 C R)
abbrev p13:=P C r0 [1] (p12 C R)
theorem s (S:St):X C c (retK R) S = p13 C R S:=by kernel_rfl
theorem E:type_of% @s:=@s
end r02_Int64
namespace r02_OfUnsigned
abbrev q0:=[0,2]
abbrev r0:List G:=[e 2 (.new zW)]
abbrev r1:List G:=[m 3 0,e 4 (.bd [.int .u64 0,.int .u64 0,.int .u64 0,.int .u64 0] [(0,1,(t 3))]),e 5 (.bd zW [(1,4,(t 4))]),V 5 2 5]
abbrev c:MC:=sq [g r0 q0,g r1 [2],.ret]
theorem ok:compF Try.prog Try.f58 (an (rg 2) c []) = some (6,c,[(2,some (true,5))]):=by kernel_rfl
abbrev p1:=P C r1 [2] R
abbrev p2:=P C r0 q0 (p1 C R)
theorem s (S:St):X C c (retK R) S = p2 C R S:=by kernel_rfl
theorem E:type_of% @s:=@s
end r02_OfUnsigned
namespace r02_Unsigned
abbrev r0:List G:=[e 1 (.box true 5 (t 0)),e 2 (.mv (u 0)),Mb 3 false]
abbrev r1:List G:=[L 5 5 1,K1 6 72 5,V 5 1 6]
abbrev q0:=[1,4]
abbrev r2:List G:=[L 7 5 1,K1 8 73 7,m 4 8]
abbrev q1:=[1,15]
abbrev r3:List G:=[a 9 0 1,l 10 9,m 11 10,nm 12 11 4,n 13 11 (.len false (t 12)),n 14 11 (.bin .gtr (t 13) (i 1)),o 15 11 14]
abbrev q2:=[2,3]
abbrev r4:List G:=[e 2 (.mv (u 0)),Mb 3 false]
abbrev r5:List G:=[a 16 1 1,e 17 (.ia 4 1 (t 16) (i 0)),l 18 17,m 2 18,Mb 3 true]
abbrev c:MC:=sq [g r0 [1],g r1 [1],g r2 q0,sq [g r3 q1,ci 15 (sq [g r4 q2,.ret]) .skip],g r5 q2,.ret]
theorem ok:compF Try.prog Try.f170 (an (rg 6) c []) = some (19,c,[(2,none),(3,none)]):=by kernel_rfl
abbrev p1:=P C r5 q2 R
abbrev p3:=P C r4 q2 R
abbrev p2:=cd (t 15) (p3 C R) (p1 C R)
abbrev p4:=P C r3 q1 (p2 C R)
abbrev p5:=P C r2 q0 (p4 C R)
abbrev p6:=P C r1 [1] (p5 C R)
abbrev p7:=P C r0 [1] (p6 C R)
theorem s (S:St):X C c (retK R) S = p7 C R S:=by kernel_rfl
theorem E:type_of% @s:=@s
end r02_Unsigned
namespace r02_Compare
abbrev q0:=[2,3]
abbrev r0:List G:=[e 2 (.box true 5 (t 0)),e 3 (.box true 5 (t 1)),Mi 4 0]
abbrev q1:=[2,3,5,6]
abbrev r1:List G:=[L 7 5 2,k1 8 65 7,L 9 5 3,k1 10 65 9]
abbrev t1:List G:=[m 5 8,m 6 10]
abbrev q2:=[2,3,5,6,13]
abbrev r2:List G:=[m 11 5,m 12 6,b 13 .neq 11 12]
abbrev r3:List G:=[m 14 5,m 15 6,b 16 .lss 14 15]
abbrev r4:List G:=[Mi 4 (-1)]
abbrev r5:List G:=[Mi 4 1]
abbrev r6:List G:=[m 17 5,L 18 5 2,L 20 5 3,K1 19 73 18,K1 21 73 20,K2 22 76 19 21,b 23 .mul 17 22]
abbrev t6:List G:=[m 4 23]
abbrev c:MC:=sq [g r0 q0,gd r1 t1 q1,sq [g r2 q2,ci 13 (sq [sq [g r3 [16],ci 16 (sq [g r4 [4],.ret]) .skip],g r5 [4],.ret]) .skip],gk true false r6 t6 [4],.ret]
theorem ok:compF Try.prog Try.f42 (an (rg 7) c [(1,4,[],(up 4),[]),(6,200007,[],[(0,0),(1,0),(3,0),(2,1),(4,1),(5,1),(6,0)],[])]) = some (24,c,[(4,none)]):=by kernel_rfl
abbrev p1:=Pc C true false r6 t6 [4] R
abbrev p3:=P C r5 [4] R
abbrev p5:=P C r4 [4] R
abbrev p4:=cd (t 16) (p5 C R) (p3 C R)
abbrev p6:=P C r3 [16] (p4 C R)
abbrev p2:=cd (t 13) (p6 C R) (p1 C R)
abbrev p7:=P C r2 q2 (p2 C R)
abbrev p8:=Pd C r1 t1 q1 (p7 C R)
abbrev p9:=P C r0 q0 (p8 C R)
theorem s (S:St):X C c (retK R) S = p9 C R S:=by kernel_rfl
theorem E:type_of% @s:=@s
end r02_Compare
end Go.Proofs.Ytncmmbacoknefaa

/- WideD: wide and its reference: differences. -/
namespace Go.Proofs.Ytncmmbacoknefaa
open Go Go.ChangeShapes Go.WideShapes Go.ChangeAt Go.RowKit Sx
set_option linter.unusedVariables false
set_option linter.unusedSimpArgs false
def IsW (v:Value) (z:Int):Prop:=∃ n a b c d,v = WV n a b c d∧z = wv n a b c d∧U64 a∧U64 b∧U64 c∧U64 d
theorem IsW.raw {n:Bool} {a b c d:Int} (ha:U64 a) (hb:U64 b) (hc:U64 c) (hd:U64 d):IsW (WV n a b c d) (wv n a b c d):=⟨n,a,b,c,d,rfl,rfl,ha,hb,hc,hd⟩
theorem IsW.we {z:Int} (h:Fits z):IsW (WE z) z:=⟨_,_,_,_,_,rfl,(wv_we h).symm,lb0_in _,lb1_in _,lb2_in _,lb3_in _⟩
theorem add_w {v v':Value} {z z':Int} (h:IsW v z) (h':IsW v' z') (w:World):Calls Try.prog 84 #[v,v'] w fun e w'=>e = .returned (.tuple #[WE (cl (z + z')),.bool (fb (z + z'))])∧Below w.heap.size w w':=by
 obtain ⟨n,a,b,c,d,rfl,rfl,ha,hb,hc,hd⟩:=h
 obtain ⟨n',a',b',c',d',rfl,rfl,ha',hb',hc',hd'⟩:=h'
 exact add_any n a b c d n' a' b' c' d' ha hb hc hd ha' hb' hc' hd' w
theorem mul_w {v v':Value} {z z':Int} (h:IsW v z) (h':IsW v' z') (w:World):Calls Try.prog 119 #[v,v'] w fun e w'=>e = .returned (.tuple #[WE (cl (z * z')),.bool (fb (z * z'))])∧Below w.heap.size w w':=by
 obtain ⟨n,a,b,c,d,rfl,rfl,ha,hb,hc,hd⟩:=h
 obtain ⟨n',a',b',c',d',rfl,rfl,ha',hb',hc',hd'⟩:=h'
 exact mul_any n a b c d n' a' b' c' d' ha hb hc hd ha' hb' hc' hd' w
theorem radd_w {v v':Value} {z z':Int} (h:IsW v z) (h':IsW v' z') (w:World):Calls Try.prog 22 #[v,v'] w fun e w'=>e = .returned (.tuple #[WE (cl (z + z')),.bool (fb (z + z'))])∧Below w.heap.size w w':=by
 obtain ⟨n,a,b,c,d,rfl,rfl,ha,hb,hc,hd⟩:=h
 obtain ⟨n',a',b',c',d',rfl,rfl,ha',hb',hc',hd'⟩:=h'
 exact radd2_any n a b c d n' a' b' c' d' ha hb hc hd ha' hb' hc' hd' w
theorem rmul_w {v v':Value} {z z':Int} (h:IsW v z) (h':IsW v' z') (w:World):Calls Try.prog 57 #[v,v'] w fun e w'=>e = .returned (.tuple #[WE (cl (z * z')),.bool (fb (z * z'))])∧Below w.heap.size w w':=by
 obtain ⟨n,a,b,c,d,rfl,rfl,ha,hb,hc,hd⟩:=h
 obtain ⟨n',a',b',c',d',rfl,rfl,ha',hb',hc',hd'⟩:=h'
 exact rmul2_any n a b c d n' a' b' c' d' ha hb hc hd ha' hb' hc' hd' w
end Go.Proofs.Ytncmmbacoknefaa

/- MadeW: The tape's Wide, and the walk among calls of a tape's methods. -/
namespace Go.Proofs.Ytncmmbacoknefaa
open Go.ChangeShapes Go.WideShapes Go.ChangeAt Go.RowKit
set_option linter.unusedVariables false
set_option linter.unusedSimpArgs false
theorem grown_drew {a w:World} {row:Option Nat} (h:a.grownBy w row):a.grownBy w.drew row:=⟨h.os,h.tape,h.output,h.size,h.block⟩
theorem TapeOk.setc {B Bm:Nat} {w:World} {b:Nat} {p:Addr} {v:Value} (hp:B≤p.block) (h:TapeOk B Bm w b):TapeOk B Bm (w.setCell p v) b:=h.below ((Below.refl B w).setCell hp v)
def AWs (B Bm b q:Nat) (w W:World):Prop:=TapeOk B Bm W b∧w.grownBy W (some b)∧HB W q #[.bool false,.int .u64 0,.int .u64 0,.int .u64 0,.int .u64 0]∧∃ (n:Bool) (c0 c1 c2 c3:Int),U64 c0∧U64 c1∧U64 c2∧U64 c3∧HB W (q + 1) #[.bool n,.int .u64 c0,.int .u64 c1,.int .u64 c2,.int .u64 c3]
theorem AWs.tape {B Bm b q:Nat} {w W:World} (h:AWs B Bm b q w W):TapeOk B Bm W b:=h.1
theorem AWs.drew {B Bm b q:Nat} {w W:World} (h:AWs B Bm b q w W):AWs B Bm b q w W.drew:=by
 obtain ⟨ht,hG,B1,n,c0,c1,c2,c3,u0,u1,u2,u3,B2⟩:=h
 exact ⟨ht.drew,grown_drew hG,B1.drew,n,c0,c1,c2,c3,u0,u1,u2,u3,B2.drew⟩
theorem AWs.alloc {B Bm b q:Nat} {w W:World} (h:AWs B Bm b q w W) (o:Obj):AWs B Bm b q w (W.alloc o):=by
 obtain ⟨ht,hG,B1,n,c0,c1,c2,c3,u0,u1,u2,u3,B2⟩:=h
 exact ⟨ht.alloc _,grown_alloc hG _,B1.old B1.lt,n,c0,c1,c2,c3,u0,u1,u2,u3,B2.old B2.lt⟩
theorem AWs.store {B Bm b q:Nat} {w W:World} {j:Nat} {u:Int} (hu:U64 u) (hj:1≤j∧j≤4) (hq:w.heap.size≤q) (hB:B≤q) (h:AWs B Bm b q w W):AWs B Bm b q w (W.setCell ⟨q + 1,j,none⟩ (.int .u64 u)):=by
 obtain ⟨ht,hG,B1,n,c0,c1,c2,c3,u0,u1,u2,u3,B2⟩:=h
 have t:=ht.setc (p:=⟨q + 1,j,none⟩) (v:=.int .u64 u) (by show B≤q + 1; omega)
 have g:=grown_setCell hG (p:=⟨q + 1,j,none⟩) (.inr (by show w.heap.size≤q + 1; omega)) (.int .u64 u)
 have b1:=B1.setne (a:=⟨q + 1,j,none⟩) (v:=.int .u64 u) (by show q≠q + 1; omega)
 obtain rfl | rfl | rfl | rfl:j = 1∨j = 2∨j = 3∨j = 4:=by omega
 ·exact ⟨t,g,b1,n,u,c1,c2,c3,hu,u1,u2,u3,B2.set rfl⟩
 ·exact ⟨t,g,b1,n,c0,u,c2,c3,u0,hu,u2,u3,B2.set rfl⟩
 ·exact ⟨t,g,b1,n,c0,c1,u,c3,u0,u1,hu,u3,B2.set rfl⟩
 ·exact ⟨t,g,b1,n,c0,c1,c2,u,u0,u1,u2,hu,B2.set rfl⟩
theorem AWs.at {B Bm b q m:Nat} {w W:World} (h:AWs B Bm b q w W) (hm:m≤3):∃ c,W.cell? ⟨q + 1,1 + m,none⟩ = some (.int .u64 c)∧W.frozen? ⟨q + 1,1 + m,none⟩ = false∧q + 1 < W.heap.size∧B≤W.heap.size:=by
 obtain ⟨ht,hG,B1,n,c0,c1,c2,c3,u0,u1,u2,u3,B2⟩:=h
 obtain ⟨B2,B2c,B2f,B2l⟩:=Bx.of B2
 obtain rfl | rfl | rfl | rfl:m = 0∨m = 1∨m = 2∨m = 3:=by omega
 all_goals exact ⟨_,B2c _,B2f _,B2l,ht.leB⟩
theorem AWs.over {B Bm b q:Nat} {w W:World} {n':Bool} {d0 d1 d2 d3:Int} (v0:U64 d0) (v1:U64 d1) (v2:U64 d2) (v3:U64 d3) (hq:w.heap.size≤q) (hB:B≤q) (h:AWs B Bm b q w W) :
  AWs B Bm b q w (((((W.setCell ⟨q + 1,0,none⟩ (.bool n')).setCell ⟨q + 1,1,none⟩ (.int .u64 d0)).setCell ⟨q + 1,2,none⟩ (.int .u64 d1)).setCell ⟨q + 1,3,none⟩ (.int .u64 d2)).setCell ⟨q + 1,4,none⟩ (.int .u64 d3)):=by
 obtain ⟨ht,hG,B1,n,c0,c1,c2,c3,u0,u1,u2,u3,B2⟩:=h
 have hp:∀ (j:Nat),w.heap.size≤(⟨q + 1,j,none⟩:Addr).block:=fun j=>by show w.heap.size≤q + 1; omega
 have hp':∀ (j:Nat),B≤(⟨q + 1,j,none⟩:Addr).block:=fun j=>by show B≤q + 1; omega
 have hn:∀ (j:Nat),q≠(⟨q + 1,j,none⟩:Addr).block:=fun j=>by show q≠q + 1; omega
 exact ⟨((((ht.setc (hp' _)).setc (hp' _)).setc (hp' _)).setc (hp' _)).setc (hp' _),
  grown_setCell (grown_setCell (grown_setCell (grown_setCell (grown_setCell hG (.inr (hp _)) _) (.inr (hp _)) _) (.inr (hp _)) _) (.inr (hp _)) _) (.inr (hp _)) _,
  ((((B1.setne (hn _)).setne (hn _)).setne (hn _)).setne (hn _)).setne (hn _),n',d0,d1,d2,d3,v0,v1,v2,v3,HB.over5 (HN.of5 B2)⟩
end Go.Proofs.Ytncmmbacoknefaa

/- LawT: A law's frame where a tape comes behind boxed arguments. -/
namespace Go.Proofs.Ytncmmbacoknefaa
open Go.ChangeShapes Go.WideShapes Go.ChangeAt Go.RowKit
set_option linter.unusedVariables false
set_option linter.unusedSimpArgs false
theorem SlZ.below {W W':World} {k:IntKind} {v:Value} {zs:List Int} (h:SlZ W k v zs) (hb:Below W.heap.size W W'):SlZ W' k v zs:=by
 obtain ⟨a,len,cap,rfl,h1,h2,h3,h4,h5⟩:=h
 refine ⟨a,len,cap,rfl,h1,h2,h3,h4,fun hl=>?_⟩
 obtain ⟨b,off,rfl,hlt,hc⟩:=h5 hl
 exact ⟨b,off,rfl,Nat.lt_of_lt_of_le hlt hb.size,fun i hi=>(hb.cell hlt).trans (hc i hi)⟩
theorem next_in {B Bm:Nat} (b:Nat) (n:Int) (h1:1≤n) (h2:n≤1000000) (w:World) (ht:TapeOk B Bm w b) :
  Calls Try.prog 31 #[.pointer (some ⟨b,0,none⟩),.int .i64 n] w (TPost B Bm .i64 b w fun r=>0≤r∧r < n) :=
 (next_any b n ⟨by omega,by omega⟩ w ht).mono fun e w' ⟨r,⟨r1,r2,r3⟩,he,h⟩=>⟨r,⟨r1,r2 h1⟩,he,h⟩
end Go.Proofs.Ytncmmbacoknefaa

/- SxV: A symbolic run: Wides and fractions as atoms; tapes; pairs of slices. -/
namespace Go.Proofs.Ytncmmbacoknefaa
open Go Go.RowKit
set_option linter.unusedVariables false
set_option linter.unusedSimpArgs false
def WX (z:Int):Value:=WE z
def RX (p q:Int):Value:=.agg #[.bool (sg p),.int .u64 (lb0 (ab p)),.int .u64 (lb1 (ab p)),.int .u64 (lb2 (ab p)),.int .u64 (lb3 (ab p)),.bool (sg q),.int .u64 (lb0 (ab q)),.int .u64 (lb1 (ab q)),.int .u64 (lb2 (ab q)),.int .u64 (lb3 (ab q))]
def NZ:Value:=WV true 0 0 0 0
theorem IsW.x {z:Int} (h:Fits z):IsW (WX z) z:=IsW.we h
theorem sgx_ab (z:Int):sg (ab z) = false:=by unfold sg; exact decide_eq_false (by have:=ab_nonneg z; omega)
namespace Sx
variable {C:Cx} {S:St} {K:St→Prop} {d:Option Nat}
abbrev wc (z:Int):List Value:=[.bool (sg z),.int .u64 (lb0 (ab z)),.int .u64 (lb1 (ab z)),.int .u64 (lb2 (ab z)),.int .u64 (lb3 (ab z))]
theorem x_foldR (p q:Int):Value.agg [.bool (sg p),.int .u64 (lb0 (ab p)),.int .u64 (lb1 (ab p)),.int .u64 (lb2 (ab p)),.int .u64 (lb3 (ab p)),.bool (sg q),.int .u64 (lb0 (ab q)),.int .u64 (lb1 (ab q)),.int .u64 (lb2 (ab q)),.int .u64 (lb3 (ab q))].toArray = RX p q:=rfl
theorem x_foldW (z:Int):Value.agg [.bool (sg z),.int .u64 (lb0 (ab z)),.int .u64 (lb1 (ab z)),.int .u64 (lb2 (ab z)),.int .u64 (lb3 (ab z))].toArray = WX z:=rfl
theorem x_foldA (z:Int):Value.agg [.bool false,.int .u64 (lb0 (ab z)),.int .u64 (lb1 (ab z)),.int .u64 (lb2 (ab z)),.int .u64 (lb3 (ab z))].toArray = WX (ab z):=by
 rw [← x_foldW,ab_ab,sgx_ab]
theorem x_fold0:Value.agg [.bool false,.int .u64 0,.int .u64 0,.int .u64 0,.int .u64 0].toArray = WX 0:=rfl
theorem x_foldR0:Value.agg [.bool false,.int .u64 0,.int .u64 0,.int .u64 0,.int .u64 0,.bool false,.int .u64 0,.int .u64 0,.int .u64 0,.int .u64 0].toArray = RX 0 0:=rfl
theorem x_foldN:Value.agg [.bool true,.int .u64 0,.int .u64 0,.int .u64 0,.int .u64 0].toArray = NZ:=rfl
theorem x_cN:cellsO true (some (.v NZ)) = some [.bool true,.int .u64 0,.int .u64 0,.int .u64 0,.int .u64 0]:=rfl
theorem x_vN:cellsV (some (.v NZ)) = some [.bool true,.int .u64 0,.int .u64 0,.int .u64 0,.int .u64 0]:=rfl
theorem x_fN0:fdS false 1 0 (some (.v NZ)) = some (True,.bool true):=rfl
theorem x_csg1 {z:Int} {p q:St→Prop} (h:z < 0):condT (sg z) p q S = p S:=by unfold sg; rw [decide_eq_true h]; rfl
theorem x_csg0 {z:Int} {p q:St→Prop} (h:¬ z < 0):condT (sg z) p q S = q S:=by unfold sg; rw [decide_eq_false h]; rfl
theorem x_gsg1 {z:Int} {m:M} {w:Bool} (h:z < 0):gdT (sg z) w C m d K S = gdT true w C m d K S:=by unfold sg; rw [decide_eq_true h]
theorem x_gsg0 {z:Int} {m:M} {w:Bool} (h:¬ z < 0):gdT (sg z) w C m d K S = gdT false w C m d K S:=by unfold sg; rw [decide_eq_false h]
theorem x_psg1 {z:Int} {f g:Option SV} (h:z < 0):pickS f g (some (.v (.bool (sg z)))) = sv1 f:=by unfold sg; rw [decide_eq_true h]; rfl
theorem x_psg0 {z:Int} {f g:Option SV} (h:¬ z < 0):pickS f g (some (.v (.bool (sg z)))) = sv1 g:=by unfold sg; rw [decide_eq_false h]; rfl
theorem x_cW (z:Int):cellsO true (some (.v (WX z))) = some [.bool (sg z),.int .u64 (lb0 (ab z)),.int .u64 (lb1 (ab z)),.int .u64 (lb2 (ab z)),.int .u64 (lb3 (ab z))]:=rfl
theorem x_cR (p q:Int):cellsO true (some (.v (RX p q))) = some [.bool (sg p),.int .u64 (lb0 (ab p)),.int .u64 (lb1 (ab p)),.int .u64 (lb2 (ab p)),.int .u64 (lb3 (ab p)),.bool (sg q),.int .u64 (lb0 (ab q)),.int .u64 (lb1 (ab q)),.int .u64 (lb2 (ab q)),.int .u64 (lb3 (ab q))]:=rfl
theorem x_vW (z:Int):cellsV (some (.v (WX z))) = some [.bool (sg z),.int .u64 (lb0 (ab z)),.int .u64 (lb1 (ab z)),.int .u64 (lb2 (ab z)),.int .u64 (lb3 (ab z))]:=rfl
theorem x_vR (p q:Int):cellsV (some (.v (RX p q))) = some [.bool (sg p),.int .u64 (lb0 (ab p)),.int .u64 (lb1 (ab p)),.int .u64 (lb2 (ab p)),.int .u64 (lb3 (ab p)),.bool (sg q),.int .u64 (lb0 (ab q)),.int .u64 (lb1 (ab q)),.int .u64 (lb2 (ab q)),.int .u64 (lb3 (ab q))]:=rfl
theorem x_fW0 (z:Int):fdS false 1 0 (some (.v (WX z))) = some (True,.bool (sg z)):=rfl
theorem x_fR0 (p q:Int):fdS true 5 0 (some (.v (RX p q))) = some (True,WX p):=rfl
theorem x_fR5 (p q:Int):fdS true 5 5 (some (.v (RX p q))) = some (True,WX q):=rfl
theorem qxE:type_of% @x_foldR∧type_of% @x_foldW∧type_of% @x_foldA∧type_of% @x_fold0∧type_of% @x_foldR0∧type_of% @x_foldN∧type_of% @x_cN∧type_of% @x_vN∧type_of% @x_fN0∧type_of% @x_csg1∧type_of% @x_csg0∧type_of% @x_gsg1∧type_of% @x_gsg0∧type_of% @x_psg1∧type_of% @x_psg0∧type_of% @x_cW∧type_of% @x_cR∧type_of% @x_vW∧type_of% @x_vR∧type_of% @x_fW0∧type_of% @x_fR0∧type_of% @x_fR5 :=
 ⟨@x_foldR,@x_foldW,@x_foldA,@x_fold0,@x_foldR0,@x_foldN,@x_cN,@x_vN,@x_fN0,@x_csg1,@x_csg0,@x_gsg1,@x_gsg0,@x_psg1,@x_psg0,@x_cW,@x_cR,@x_vW,@x_vR,@x_fW0,@x_fR0,@x_fR5⟩
theorem asks_r2 {f:FuncId} {l:List Value} {L:List Kn} {ws vs:List Int} (he:∀ (l:Array Value) W,(callFunc f l).run C.P W = .ok (.enter f l) W) (hT:S.T = kX C.w0.heap.size L)
  (h:∀ W,Below C.w0.heap.size C.w0 W→(∀ k∈L,k.ok C.w0.heap.size W)→Calls C.P f l.toArray W fun e w'=>∃ u v,e = .returned (.tuple #[u,v])∧SlF w' W.heap.size u ws∧SlF w' W.heap.size v vs∧Below W.heap.size W w')
  (hk:∀ a cap b cbp,Shp a ws.length cap→Shp b vs.length cbp→K (St.put ⟨S.n,S.E,S.H,kX C.w0.heap.size (.r (.slice a ws.length cap) ws :: .r (.slice b vs.length cbp) vs :: L)⟩ d (.v (.tuple #[.slice a ws.length cap,.slice b vs.length cbp])))):asks C f l d K S:=by
 refine asks_T (ι:={x:(Option Addr × Nat) × (Option Addr × Nat) // Shp x.1.1 ws.length x.1.2∧Shp x.2.1 vs.length x.2.2}) (fun x=>.tuple #[.slice x.1.1.1 ws.length x.1.1.2,.slice x.1.2.1 vs.length x.1.2.2]) (fun x=>kX C.w0.heap.size (.r (.slice x.1.1.1 ws.length x.1.1.2) ws :: .r (.slice x.1.2.1 vs.length x.1.2.2) vs :: L)) (fun W hW hok hbs=>givesT_calls he (fun i=>kX_stab C _) ?_) (fun x=>hk _ _ _ _ x.2.1 x.2.2)
 rw [hT] at hok
 refine (h W hW hok).mono fun e w' ⟨u,v,h1,h2,h3,h4⟩=>?_
 obtain ⟨a,cap,rfl,hs⟩:=h2.1.shp
 obtain ⟨b,cbp,rfl,hs'⟩:=h3.1.shp
 have hok2:(Kn.r (.slice a ws.length cap) ws).ok C.w0.heap.size w':=Kn.ok.base (k:=.r _ ws) h2 hW.size (fun _ h=>by cases h)
 have hok3:(Kn.r (.slice b vs.length cbp) vs).ok C.w0.heap.size w':=Kn.ok.base (k:=.r _ vs) h3 hW.size (fun _ h=>by cases h)
 have hge:∀ c∈rbs (.slice a ws.length cap),W.heap.size≤c:=fun c hc=>(Kn.ok.lt (k:=.r (.slice a ws.length cap) ws) h2 c hc).1
 have hge':∀ c∈rbs (.slice b vs.length cbp),W.heap.size≤c:=fun c hc=>(Kn.ok.lt (k:=.r (.slice b vs.length cbp) vs) h3 c hc).1
 refine ⟨⟨((a,cap),(b,cbp)),hs,hs'⟩,h1,⟨h4.os,h4.tape,h4.output,h4.size,fun i hi _=>h4.block i hi⟩,?_,?_⟩
 ·intro k hk
  rcases List.mem_cons.1 hk with rfl | hk
  ·exact hok2
  ·rcases List.mem_cons.1 hk with rfl | hk
   ·exact hok3
   ·exact (hok k hk).below h4
 ·intro c hc
  obtain ⟨k,hk,hc⟩:=kX_bs.1 hc
  rcases List.mem_cons.1 hk with rfl | hk
  ·exact ⟨.inr (hge c hc),(hok2.lt c hc).2⟩
  ·rcases List.mem_cons.1 hk with rfl | hk
   ·exact ⟨.inr (hge' c hc),(hok3.lt c hc).2⟩
   ·exact ⟨.inl (by rw [hT]; exact kX_bs.2 ⟨k,hk,hc⟩),Nat.lt_of_lt_of_le ((hok k hk).lt c hc).2 h4.size⟩
def tK (tb:Nat):KnG where
 bs:=[tb]
 ok n W:=n≤tb∧TapeOk (tb + 1) n W tb
 lt:=fun {n W} h b hb=>by
  rw [List.mem_singleton.1 hb]
  exact ⟨h.1,h.2.lt⟩
 keep:=fun {n W W'} h hs hb ho=>by
  obtain ⟨h0,a,len,cap,k,h1,h2,h3,h4,h5,h6,h7,h8⟩:=h
  have ht:=hb tb (List.mem_singleton.2 rfl)
  refine ⟨h0,a,len,cap,k,h1,Nat.le_trans h2 hs,(World.cell?_of_block (a:=⟨tb,0,none⟩) ht).trans h3,(World.cell?_of_block (a:=⟨tb,1,none⟩) ht).trans h4,(World.frozen?_of_block (a:=⟨tb,1,none⟩) ht).trans h5,h6,h7,fun hl=>?_⟩
  obtain ⟨bb,off,e,hne,hlt,hlm,hc⟩:=h8 hl
  refine ⟨bb,off,e,hne,hlt,hlm,fun i hi=>?_⟩
  obtain ⟨x,hx,hix⟩:=hc i hi
  exact ⟨x,(World.cell?_of_block (a:=⟨bb,off + i,none⟩) (ho bb hlm (by omega))).trans hx,hix⟩
theorem asks_new {L:List Kn} {zs:List Int} {a:Option Addr} {len cap:Nat} (hP:C.P = Try.prog) (hT:S.T = kX C.w0.heap.size L) (h0:SlZ C.w0 .i64 (.slice a len cap) zs) (he:∀ (l:Array Value) W,(callFunc 16 l).run Try.prog W = .ok (.enter 16 l) W)
  (hk:∀ tb,tb ∉ S.T.bs→K (St.put ⟨S.n,S.E,S.H,kX C.w0.heap.size (.g (tK tb) :: L)⟩ d (.v (.pointer (some ⟨tb,0,none⟩))))):asks C 16 [.slice a len cap] d K S:=by
 refine asks_T (ι:={x:Nat // x ∉ S.T.bs}) (fun x=>.pointer (some ⟨x.1,0,none⟩)) (fun x=>kX C.w0.heap.size (.g (tK x.1) :: L)) (fun W hW hok hbs=>givesT_calls (by rw [hP]; exact he) (fun i=>kX_stab C _) ?_) (fun x=>hk _ x.2)
 rw [hT] at hok
 rw [hP]
 refine (new_any a len cap W).mono fun e w' ⟨he,hw⟩=>?_
 subst hw
 have hb:Below W.heap.size W (W.alloc (.cells #[.slice a len cap,.int .i64 0] 98)):=(Below.refl _ _).alloc (Nat.le_refl _) _
 have ht:TapeOk (W.heap.size + 1) C.w0.heap.size (W.alloc (.cells #[.slice a len cap,.int .i64 0] 98)) W.heap.size:=by
  obtain ⟨a',len',cap',e,hl,hlc,hcm,hwf,hc⟩:=h0
  cases e
  have hm:cap≤9223372036854775807:=by simpa [maxLen] using hcm
  refine ⟨a,len,cap,0,by omega,by simp,World.cell?_alloc_new _ _ _ _,World.cell?_alloc_new _ _ _ _,by simp [go_sem],by omega,by omega,fun hpos=>?_⟩
  obtain ⟨b,off,rfl,hlt,hcell⟩:=hc hpos
  have hsz:=hW.size
  refine ⟨b,off,rfl,by omega,by omega,hlt,fun i hi=>⟨zs.getD i 0,(hb.cell (p:=⟨b,off + i,none⟩) (show b < _ by omega)).trans ((hW.cell (p:=⟨b,off + i,none⟩) hlt).trans (hcell i hi)),?_⟩⟩
  refine I64.of_wf (hwf _ ?_)
  rw [List.getD_eq_getElem?_getD,List.getElem?_eq_getElem (by omega)]
  exact List.getElem_mem _
 refine ⟨⟨W.heap.size,fun hT2=>by have:=(hbs _ hT2).2; omega⟩,he,⟨hb.os,hb.tape,hb.output,hb.size,fun i hi _=>hb.block i hi⟩,?_,?_⟩
 ·intro k hk
  rcases List.mem_cons.1 hk with rfl | hk
  ·exact ⟨hW.size,ht⟩
  ·exact (hok k hk).below hb
 ·intro b hbb
  obtain ⟨k,hk,hbb⟩:=kX_bs.1 hbb
  rcases List.mem_cons.1 hk with rfl | hk
  ·have:b = W.heap.size:=List.mem_singleton.1 hbb
   subst this
   exact ⟨.inr (Nat.le_refl _),ht.lt⟩
  ·exact ⟨.inl (by rw [hT]; exact kX_bs.2 ⟨k,hk,hbb⟩),Nat.lt_of_lt_of_le ((hok k hk).lt b hbb).2 hb.size⟩
end Sx
end Go.Proofs.Ytncmmbacoknefaa

/- Tp: A symbolic run: calls that move a tape. -/
namespace Go.Proofs.Ytncmmbacoknefaa
open Go Go.RowKit Sx
set_option linter.unusedVariables false
set_option linter.unusedSimpArgs false
namespace Sx
variable {C:Cx} {S:St} {K:St→Prop} {d:Option Nat}
def hK (w:World) (tb B Bm:Nat):KnG where
 bs:=List.range' tb (w.heap.size - tb)
 ok n W:=n = tb∧(tb < w.heap.size∧B≤w.heap.size)∧TapeOk B Bm W tb∧w.heap.size≤W.heap.size∧∀ i,i < w.heap.size→i≠tb→W.heap[i]? = w.heap[i]?
 lt:=fun {n W} h b hb=>by
  obtain ⟨h0,⟨h1,h1b⟩,h2,h3,-⟩:=h
  rw [List.mem_range'] at hb
  obtain ⟨i,hi,rfl⟩:=hb
  omega
 keep:=fun {n W W'} h hs hb ho=>by
  obtain ⟨h0,⟨hw,hB⟩,⟨a,len,cap,k,h1,h2,h3,h4,h5,h6,h7,h8⟩,hsz,hg⟩:=h
  have all:∀ i,i < w.heap.size→W'.heap[i]? = W.heap[i]? := fun i hi=>by
   rcases Nat.lt_or_ge i tb with h | h
   ·exact ho i (by omega) (by omega)
   ·exact hb i (List.mem_range'.2 ⟨i - tb,by omega,by omega⟩)
  have ht:=all tb hw
  refine ⟨h0,⟨hw,hB⟩,⟨a,len,cap,k,h1,Nat.le_trans h2 hs,(World.cell?_of_block (a:=⟨tb,0,none⟩) ht).trans h3,(World.cell?_of_block (a:=⟨tb,1,none⟩) ht).trans h4,(World.frozen?_of_block (a:=⟨tb,1,none⟩) ht).trans h5,h6,h7,fun hl=>?_⟩,Nat.le_trans hsz hs,fun i hi hn=>(all i hi).trans (hg i hi hn)⟩
  obtain ⟨bb,off,e,hne,hlt,hlm,hc⟩:=h8 hl
  refine ⟨bb,off,e,hne,hlt,hlm,fun i hi=>?_⟩
  obtain ⟨x,hx,hix⟩:=hc i hi
  exact ⟨x,(World.cell?_of_block (a:=⟨bb,off + i,none⟩) (all bb (by omega))).trans hx,hix⟩
structure TpK (k:KnG) (n tb B Bm:Nat):Prop where
 tape:∀ {W},k.ok n W→TapeOk B Bm W tb
 go:∀ {W W'},k.ok n W→TapeOk B Bm W' tb→W.grownBy W' (some tb)→k.ok n W'
 ge:∀ {W},k.ok n W→n≤tb
 mem:∀ {W},k.ok n W→tb∈k.bs
theorem tpk_t (n tb:Nat):TpK (tK tb) n tb (tb + 1) n where
 tape h:=h.2
 go h ht hg:=⟨h.1,ht⟩
 ge h:=h.1
 mem h:=List.mem_singleton.2 rfl
theorem tpk_h (w:World) (tb B Bm:Nat):TpK (hK w tb B Bm) tb tb B Bm where
 tape h:=h.2.2.1
 go h ht hg:=⟨h.1,h.2.1,ht,Nat.le_trans h.2.2.2.1 hg.size,fun i hi hn=>(hg.block i (Nat.lt_of_lt_of_le hi h.2.2.2.1) (fun e=>hn (Option.some.inj e))).trans (h.2.2.2.2 i hi hn)⟩
 ge h:=Nat.le_of_eq h.1
 mem h:=List.mem_range'.2 ⟨0,by have:=h.2.1; omega,by omega⟩
theorem asks_tp {f:FuncId} {l:List Value} {L:List Kn} {ι:Type} {P:ι→Prop} {k:KnG} {tb B Bm:Nat} (v:ι→Value) (hk:TpK k C.w0.heap.size tb B Bm) (he:∀ (l:Array Value) W,(callFunc f l).run C.P W = .ok (.enter f l) W) (hT:S.T = kX C.w0.heap.size L) (hm:.g k∈L) (hmv:C.mv S = S.T.bs)
  (hL:∀ j∈L,j = .g k∨tb ∉ j.bs)
  (h:∀ W,TapeOk B Bm W tb→Calls C.P f l.toArray W fun e w'=>∃ i,P i∧e = .returned (v i)∧TapeOk B Bm w' tb∧W.grownBy w' (some tb))
  (hK:∀ i,P i→K (St.put S d (.v (v i)))):asks C f l d K S:=by
 refine asks_T (ι:={i // P i}) (fun i=>v i.1) (fun _=>S.T) (fun W hW hok hbs=>givesT_calls he (fun i=>by rw [hT]; exact kX_stab C L) ?_) (fun i=>hK i.1 i.2)
 rw [hT] at hok
 have ho:k.ok C.w0.heap.size W:=hok _ hm
 refine (h W (hk.tape ho)).mono fun e w' ⟨i,hi,he,h1,h2⟩=>⟨⟨i,hi⟩,he,⟨h2.os,h2.tape,h2.output,h2.size,fun j hj hn=>h2.block j hj fun e=>hn (by cases e; rw [hmv,hT]; exact kX_bs.2 ⟨_,hm,hk.mem ho⟩)⟩,?_,fun b hb=>⟨.inl hb,?_⟩⟩
 ·rw [hT]
  intro j hj
  rcases hL j hj with rfl | hb
  ·exact hk.go ho h1 h2
  ·refine (hok j hj).keep h2.size (fun b hbb=>h2.block b ((hok j hj).lt b hbb).2 fun e=>hb (by cases e; exact hbb)) fun b hbn hbl=>h2.block b hbl fun e=>?_
   have:=hk.ge ho
   have e2:b = tb:=Option.some.inj e
   omega
 ·rw [hT] at hb
  exact Nat.lt_of_lt_of_le (kX_lt hok b hb).2 h2.size
theorem hK_start {w:World} {tb B Bm:Nat} (h:TapeOk B Bm w tb):(kX (cut w tb).heap.size [.g (hK w tb B Bm)]).ok w∧∀ b∈(kX (cut w tb).heap.size [.g (hK w tb B Bm)]).bs,(cut w tb).heap.size≤b∧b < w.heap.size:=by
 have hc:=cut_size (Nat.le_of_lt h.lt)
 have h1:(kX (cut w tb).heap.size [.g (hK w tb B Bm)]).ok w:=fun k hk=>by
  rw [List.mem_singleton.1 hk]
  exact ⟨hc,⟨h.lt,h.leB⟩,h,Nat.le_refl _,fun _ _ _=>rfl⟩
 exact ⟨h1,kX_lt h1⟩
theorem hK_end {w w':World} {tb B Bm:Nat} {L:List Kn} (h:(kX (cut w tb).heap.size L).ok w') (hm:.g (hK w tb B Bm)∈L) (hb:Below (cut w tb).heap.size (cut w tb) w'):TapeOk B Bm w' tb∧w.grownBy w' (some tb):=by
 have hk:(hK w tb B Bm).ok (cut w tb).heap.size w':=h _ hm
 exact ⟨hk.2.2.1,hb.os,hb.tape,hb.output,hk.2.2.2.1,fun i hi hn=>hk.2.2.2.2 i hi fun e=>hn (by rw [e])⟩
theorem tpk_h' {w:World} {tb B Bm:Nat} (h:TapeOk B Bm w tb):TpK (hK w tb B Bm) (cut w tb).heap.size tb B Bm:=by
 rw [cut_size (Nat.le_of_lt h.lt)]; exact tpk_h w tb B Bm
end Sx
def TpC (f:FuncId) (l:List Value) (tb:Nat) {ι:Type} (P:ι→Prop) (v:ι→Value):Prop:=∀ {B Bm:Nat} (W:World),TapeOk B Bm W tb→Calls Try.prog f l.toArray W fun e w'=>∃ i,P i∧e = .returned (v i)∧TapeOk B Bm w' tb∧W.grownBy w' (some tb)
theorem t_next (tb:Nat) {n:Int} (h1:1≤n) (h2:n≤1000000):TpC 31 [.pointer (some ⟨tb,0,none⟩),.int .i64 n] tb (fun r:Int=>0≤r∧r < n) (fun r=>.int .i64 r) :=
 fun W h=>(next_in tb n h1 h2 W h).mono fun e w' ⟨r,a,b,c,d⟩=>⟨r,a,b,c,d⟩
theorem t_int (tb:Nat):TpC 32 [.pointer (some ⟨tb,0,none⟩)] tb I64 (fun r=>.int .i64 r) :=
 fun W h=>(int_any tb W h).mono fun e w' ⟨r,a,b,c,d⟩=>⟨r,a,b,c,d⟩
theorem t_tol (tb:Nat):TpC 17 [.pointer (some ⟨tb,0,none⟩)] tb Tol (fun r=>.int .i64 r) :=
 fun W h=>(tol_any tb W h).mono fun e w' ⟨r,a,b,c,d⟩=>⟨r,a,b,c,d⟩
theorem asks_tc {C:Cx} {S:St} {K:St→Prop} {d:Option Nat} {f:FuncId} {l:List Value} {L:List Kn} {ι:Type} {P:ι→Prop} {v:ι→Value} {k:KnG} {tb B Bm:Nat} (hP:C.P = Try.prog) (hk:TpK k C.w0.heap.size tb B Bm) (h:TpC f l tb P v) (he:∀ (l:Array Value) W,(callFunc f l).run Try.prog W = .ok (.enter f l) W) (hT:S.T = kX C.w0.heap.size L) (hm:.g k∈L) (hmv:C.mv S = S.T.bs)
  (hL:∀ j∈L,j = .g k∨tb ∉ j.bs) (hK:∀ i,P i→K (St.put S d (.v (v i)))):asks C f l d K S :=
 asks_tp v hk (by rw [hP]; exact he) hT hm hmv hL (fun W hW=>by rw [hP]; exact h W hW) hK
end Go.Proofs.Ytncmmbacoknefaa

/- Ck: A symbolic run: blocks of the call's own that are known cell by cell. -/
namespace Go.Proofs.Ytncmmbacoknefaa
open Go Go.RowKit Sx
set_option linter.unusedVariables false
set_option linter.unusedSimpArgs false
namespace Sx
variable {C:Cx} {S:St} {K:St→Prop} {d:Option Nat}
def cK (b:Nat) (cs:List Value):KnG where
 bs:=[b]
 ok n W:=n≤b∧HB W b cs.toArray
 lt:=fun {n W} h c hc=>by
  rw [List.mem_singleton.1 hc]
  exact ⟨h.1,h.2.lt⟩
 keep:=fun {n W W'} h hs hb ho=>by
  obtain ⟨T,hT⟩:=h.2
  exact ⟨h.1,T,(hb b (List.mem_singleton.2 rfl)).trans hT⟩
theorem cK_cell {b:Nat} {cs:List Value} {n:Nat} {W:World} (h:(cK b cs).ok n W) {i:Nat} {v:Value} (hv:cs[i]? = some v):W.cell? ⟨b,i,none⟩ = some v:=by
 have hc:=(Bx.of h.2).2.1 i
 rw [hc]
 simpa using hv
theorem genA_c {q:GK} {l:List Value} {L:List Kn} {cs:List Value} {T:TypeId} (v:Nat→Value) (hT:S.T = kX C.w0.heap.size L)
  (h:∀ W,(genRun q l).run C.P W = .ok (.value (v W.heap.size)) (W.alloc (.cells cs.toArray T (0,0))))
  (hk:∀ b,b ∉ S.T.bs→K (St.put ⟨S.n,S.E,S.H,kX C.w0.heap.size (.g (cK b cs) :: L)⟩ d (.v (v b)))):genA C q l d K S:=by
 refine genA_T (ι:={x:Nat // x ∉ S.T.bs}) (fun x=>v x.1) (fun x=>kX C.w0.heap.size (.g (cK x.1 cs) :: L)) (fun W hW hok hbs=>⟨?_⟩) (fun x=>hk _ x.2)
 rw [hT] at hok
 rw [h W]
 have hb:Below W.heap.size W (W.alloc (.cells cs.toArray T (0,0))):=(Below.refl _ _).alloc (Nat.le_refl _) _
 have hc:(cK W.heap.size cs).ok C.w0.heap.size (W.alloc (.cells cs.toArray T (0,0))):=⟨hW.size,HB.new W _ T rfl⟩
 refine ⟨⟨W.heap.size,fun hT2=>by have:=(hbs _ hT2).2; omega⟩,rfl,⟨hb.os,hb.tape,hb.output,hb.size,fun i hi _=>hb.block i hi⟩,?_,kX_stab C _,?_⟩
 ·intro k hk
  rcases List.mem_cons.1 hk with rfl | hk
  ·exact hc
  ·exact (hok k hk).below hb
 ·intro b hbb
  obtain ⟨k,hk,hbb⟩:=kX_bs.1 hbb
  rcases List.mem_cons.1 hk with rfl | hk
  ·have:b = W.heap.size:=List.mem_singleton.1 hbb
   subst this
   exact ⟨.inr (Nat.le_refl _),hc.2.lt⟩
  ·exact ⟨.inl (by rw [hT]; exact kX_bs.2 ⟨k,hk,hbb⟩),Nat.lt_of_lt_of_le ((hok k hk).lt b hbb).2 hb.size⟩
theorem ldP_c {L:List Kn} {b o m:Nat} {g:Bool} {cs l:List Value} (hT:(C.kn S).T = kX C.w0.heap.size L) (hm:.g (cK b cs)∈L) (hl:l.length = m) (hs:∀ j v,l[j]? = some v→cs[o + j]? = some v) (hk:K (S.put d (.v (mk g l)))):ldP C g m ⟨b,o,none⟩ d K S :=
 ldP_ext l hl (fun W hW hok j v hj=>by
  rw [hT] at hok
  have ho:(cK b cs).ok C.w0.heap.size W:=hok _ hm
  rw [Addr.add_lit]
  exact cK_cell ho (hs j v hj)) hk
theorem ldP_k {L:List Kn} {b o m:Nat} {g:Bool} {cs l:List Value} (hT:(C.kn S).T = kX C.w0.heap.size L) (hm:.g (cK b cs)∈L) (hl:sub cs o m = some l) (hk:K (S.put d (.v (mk g l)))):ldP C g m ⟨b,o,none⟩ d K S :=
 ldP_c hT hm (sub_get hl).1 (fun j v hj=>by
  have hlt:j < m:=by
   have:=(List.getElem?_eq_some_iff.1 hj).1
   rw [(sub_get hl).1] at this
   exact this
  rw [← (sub_get hl).2 j hlt]
  exact hj) hk
theorem run_storeK {P:Program} {b o0:Nat}:∀ {vs cs cs':List Value} {i:Nat} {W:World},HB W b cs.toArray→ovrO cs (o0 + i) vs = some cs'→all1 vs = true →
  ∃ W',(storeCells ⟨b,o0,none⟩ vs i).run P W = .ok () W'∧Moves [b] W W'∧W'.heap.size = W.heap.size∧HB W' b cs'.toArray
 | [],cs,cs',i,W,h,ho,h1=>⟨W,by unfold storeCells; rfl,⟨rfl,rfl,rfl,Nat.le_refl _,fun _ _ _=>rfl⟩,rfl,by rw [ovrO_nil ho]; exact h⟩
 | v :: vs,cs,cs',i,W,h,ho,h1=>by
  unfold all1 at h1
  rw [Bool.and_eq_true] at h1
  obtain ⟨o1,o2⟩:=ovrO_cons ho
  have hB:=Bx.of h
  have hc:W.cell? ⟨b,o0 + i,none⟩ = some cs[o0 + i]:=by
   rw [hB.2.1,List.getElem?_toArray,List.getElem?_eq_getElem o1]
  have hs:HB (W.setCell ⟨b,o0 + i,none⟩ v) b (cs.set (o0 + i) v).toArray:=h.set (by simp)
  obtain ⟨W',e,⟨m1,m2,m3,m4,m5⟩,hz,hB'⟩:=run_storeK (P:=P) (o0:=o0) (i:=i + 1) hs o2 h1.2
  have hsz:(W.setCell ⟨b,o0 + i,none⟩ v).heap.size = W.heap.size:=World.size_setCell _ _ _
  refine ⟨W',?_,⟨m1,m2,m3,by rw [hz,hsz]; exact Nat.le_refl _,fun j hj hn=>?_⟩,by rw [hz,hsz],hB'⟩
  ·unfold storeCells
   rw [Addr.add_lit]
   exact (run_bind_ok (run_store1 h1.1 hc (hB.2.2.1 _))).trans e
  ·exact (m5 j (by rw [hsz]; exact hj) hn).trans (Below.heap_setCell W _ _ j fun e=>hn (by rw [show j = b from e]; exact List.mem_singleton.2 rfl))
end Sx
end Go.Proofs.Ytncmmbacoknefaa

/- Wk: A symbolic run: rows of the call's own that grow by append. -/
namespace Go.Proofs.Ytncmmbacoknefaa
open Go Go.RowKit Sx
set_option linter.unusedVariables false
set_option linter.unusedSimpArgs false
namespace Sx
variable {C:Cx} {S:St} {K:St→Prop} {d:Option Nat}
def wK (e:TypeId) (s:Nat) (v:Value) (n:Nat) (xs:List Value):KnG where
 bs:=v.ownBlock.toList
 ok m W:=W.ownsRow m e s v n xs
 lt:=fun {m W} h b hb=>h.lt b (by simpa using hb)
 keep:=fun {m W W'} h hs hb ho=>by
  refine ⟨h.1,?_⟩
  rcases h.2 with hn | ⟨g,cap,cur,rfl,hbg,hg,hnc,hcm,hcs,htake⟩
  ·exact .inl hn
  ·exact .inr ⟨g,cap,cur,rfl,hbg,(hb g (by simp [Value.ownBlock])).trans hg,hnc,hcm,hcs,htake⟩
end Sx
end Go.Proofs.Ytncmmbacoknefaa

/- Ro: A symbolic run: calls that leave rows of the call's own. -/
namespace Go.Proofs.Ytncmmbacoknefaa
open Go Go.RowKit Sx
set_option linter.unusedVariables false
set_option linter.unusedSimpArgs false
namespace Sx
variable {C:Cx} {S:St} {K:St→Prop} {d:Option Nat}
theorem asks_row {f:FuncId} {l:List Value} {L:List Kn} {e:TypeId} {s:Nat} {ι:Type} (P:ι→Prop) (n:ι→Nat) (xs:ι→List Value) (ret:ι→Value→Value) (gs:List Nat) (L2:List Kn)
  (he:∀ (l:Array Value) W,(callFunc f l).run C.P W = .ok (.enter f l) W) (hT:S.T = kX C.w0.heap.size L) (hgs:∀ g∈gs,g∈C.mv S) (hgo:∀ W,(∀ k∈L,k.ok C.w0.heap.size W)→∀ g∈gs,C.w0.heap.size≤g)
  (h:∀ W,Below C.w0.heap.size C.w0 W→(∀ k∈L,k.ok C.w0.heap.size W)→Calls C.P f l.toArray W fun e' w'=>∃ i v,P i∧e' = .returned (ret i v)∧w'.ownsRow W.heap.size e s v (n i) (xs i)∧Moves gs W w'∧∀ k∈L2,(k∈L∧∀ b∈k.bs,b ∉ gs)∨(k.ok C.w0.heap.size w'∧∀ b∈k.bs,b∈S.T.bs))
  (hk:∀ i a cap,P i→n i≤cap→cap≤maxLen→(0 < n i→∃ g,a = some ⟨g,0,none⟩)→(∀ b∈(Value.slice a (n i) cap).ownBlock.toList,b ∉ S.T.bs) →
   K (St.put ⟨S.n,S.E,S.H,kX C.w0.heap.size (.g (wK e s (.slice a (n i) cap) (n i) (xs i)) :: L2)⟩ d (.v (ret i (.slice a (n i) cap))))):asks C f l d K S:=by
 refine asks_kn (ι:={x:ι × (Option Addr × Nat) // P x.1∧n x.1≤x.2.2∧x.2.2≤maxLen∧(0 < n x.1→∃ g,x.2.1 = some ⟨g,0,none⟩)∧∀ b∈(Value.slice x.2.1 (n x.1) x.2.2).ownBlock.toList,b ∉ S.T.bs}) (L:=L) (gs:=gs) (fun x=>ret x.1.1 (.slice x.1.2.1 (n x.1.1) x.1.2.2)) (fun x=>.g (wK e s (.slice x.1.2.1 (n x.1.1) x.1.2.2) (n x.1.1) (xs x.1.1)) :: L2) he hT hgs hgo (fun W hW hok=>?_) (fun x=>hk _ _ _ x.2.1 x.2.2.1 x.2.2.2.1 x.2.2.2.2.1 x.2.2.2.2.2)
 refine (h W hW hok).mono fun e' w' ⟨i,v,hP,he',ho,hm,hL2⟩=>?_
 obtain ⟨a,cap,rfl,h1,h2,h3,h4⟩:∃ a cap,v = .slice a (n i) cap∧n i≤cap∧cap≤maxLen∧(0 < n i→∃ g,a = some ⟨g,0,none⟩)∧∀ b∈v.ownBlock.toList,W.heap.size≤b:=by
  rcases ho.2 with ⟨rfl,h0⟩ | ⟨g,cap,cur,rfl,hbg,hg,hnc,hcm,-⟩
  ·exact ⟨none,0,by rw [h0],by omega,Nat.zero_le _,fun h=>by omega,fun b hb=>by simp [Value.ownBlock] at hb⟩
  ·exact ⟨_,cap,rfl,hnc,hcm,fun _=>⟨g,rfl⟩,fun b hb=>by simp [Value.ownBlock] at hb; omega⟩
 refine ⟨⟨(i,a,cap),hP,h1,h2,h3,fun b hb hT2=>?_⟩,he',hm,fun k hk=>?_⟩
 ·rw [hT] at hT2
  obtain ⟨k,hk,hbk⟩:=kX_bs.1 hT2
  have:=((hok k hk).lt b hbk).2
  have:=h4 b hb
  omega
 ·rcases List.mem_cons.1 hk with rfl | hk
  ·exact .inr ⟨ho.mono hW.size,fun b hb=>.inr (h4 b hb)⟩
  ·rcases hL2 k hk with h | ⟨h,hb⟩
   ·exact .inl h
   ·exact .inr ⟨h,fun b hbb=>.inl (hb b hbb)⟩
theorem asks_rowB {f:FuncId} {l:List Value} {L:List Kn} {e:TypeId} {s:Nat} {ι:Type} (P:ι→Prop) (n:ι→Nat) (xs:ι→List Value) (ret:ι→Value→Value)
  (he:∀ (l:Array Value) W,(callFunc f l).run C.P W = .ok (.enter f l) W) (hT:S.T = kX C.w0.heap.size L)
  (h:∀ W,Below C.w0.heap.size C.w0 W→(∀ k∈L,k.ok C.w0.heap.size W)→Calls C.P f l.toArray W fun e' w'=>∃ i v,P i∧e' = .returned (ret i v)∧w'.ownsRow W.heap.size e s v (n i) (xs i)∧Below W.heap.size W w')
  (hk:∀ i a cap,P i→n i≤cap→cap≤maxLen→(0 < n i→∃ g,a = some ⟨g,0,none⟩)→(∀ b∈(Value.slice a (n i) cap).ownBlock.toList,b ∉ S.T.bs) →
   K (St.put ⟨S.n,S.E,S.H,kX C.w0.heap.size (.g (wK e s (.slice a (n i) cap) (n i) (xs i)) :: L)⟩ d (.v (ret i (.slice a (n i) cap))))):asks C f l d K S :=
 asks_row P n xs ret [] L he hT (fun g hg=>by cases hg) (fun W hok g hg=>by cases hg) (fun W hW hok=>(h W hW hok).mono fun e' w' ⟨i,v,h1,h2,h3,h4⟩=>⟨i,v,h1,h2,h3,⟨h4.os,h4.tape,h4.output,h4.size,fun j hj _=>h4.block j hj⟩,fun k hk=>.inl ⟨hk,fun b hb hg=>by cases hg⟩⟩) hk
theorem asks_rowT {f:FuncId} {l:List Value} {L:List Kn} {e:TypeId} {s:Nat} {ι:Type} {k:KnG} {tb B Bm:Nat} (P:ι→Prop) (n:ι→Nat) (xs:ι→List Value) (ret:ι→Value→Value)
  (hkn:TpK k C.w0.heap.size tb B Bm) (he:∀ (l:Array Value) W,(callFunc f l).run C.P W = .ok (.enter f l) W) (hT:S.T = kX C.w0.heap.size L) (hm:.g k∈L) (hin:tb∈k.bs) (hmv:C.mv S = S.T.bs) (hL:∀ j∈L,j = .g k∨tb ∉ j.bs)
  (h:∀ W,TapeOk B Bm W tb→Calls C.P f l.toArray W fun e' w'=>∃ i v,P i∧e' = .returned (ret i v)∧w'.ownsRow W.heap.size e s v (n i) (xs i)∧TapeOk B Bm w' tb∧W.grownBy w' (some tb))
  (hk:∀ i a cap,P i→n i≤cap→cap≤maxLen→(0 < n i→∃ g,a = some ⟨g,0,none⟩)→(∀ b∈(Value.slice a (n i) cap).ownBlock.toList,b ∉ S.T.bs) →
   K (St.put ⟨S.n,S.E,S.H,kX C.w0.heap.size (.g (wK e s (.slice a (n i) cap) (n i) (xs i)) :: L)⟩ d (.v (ret i (.slice a (n i) cap))))):asks C f l d K S:=by
 refine asks_row P n xs ret [tb] L he hT (fun g hg=>?_) (fun W hok g hg=>?_) (fun W hW hok=>(h W (hkn.tape (hok _ hm))).mono fun e' w' ⟨i,v,h1,h2,h3,h4,h5⟩=>⟨i,v,h1,h2,h3,⟨h5.os,h5.tape,h5.output,h5.size,fun j hj hn=>h5.block j hj fun e=>hn (by cases e; exact List.mem_singleton.2 rfl)⟩,fun j hj=>?_⟩) hk
 ·rw [List.mem_singleton.1 hg,hmv,hT]
  exact kX_bs.2 ⟨_,hm,hin⟩
 ·rw [List.mem_singleton.1 hg]
  exact hkn.ge (hok _ hm)
 ·rcases hL j hj with rfl | hne
  ·exact .inr ⟨hkn.go (hok _ hm) h4 h5,fun b hb=>by rw [hT]; exact kX_bs.2 ⟨_,hm,hb⟩⟩
  ·exact .inl ⟨hj,fun b hb hg=>hne (by rw [← List.mem_singleton.1 hg]; exact hb)⟩
theorem ldP_row {L:List Kn} {e:TypeId} {s g n cap o m:Nat} {b:Bool} {xs l:List Value} (hT:(C.kn S).T = kX C.w0.heap.size L) (hm:.g (wK e s (.slice (some ⟨g,0,none⟩) n cap) n xs)∈L) (hl:l.length = m) (hs:∀ j v,l[j]? = some v→xs[o + j]? = some v) (hk:K (S.put d (.v (mk b l)))):ldP C b m ⟨g,o,none⟩ d K S :=
 ldP_ext l hl (fun W hW hok j v hj=>by
  rw [hT] at hok
  have ho:W.ownsRow C.w0.heap.size e s (.slice (some ⟨g,0,none⟩) n cap) n xs:=hok _ hm
  have:=ho.cells (g:=g) rfl (o + j) v (hs j v hj)
  rw [Addr.add_lit,Nat.zero_add] at this
  rw [Addr.add_lit]
  exact this) hk
theorem ldP_old {g o:Nat} {m:Nat} {b:Bool} {l:List Value} (hl:l.length = m) (hlt:g < C.w0.heap.size) (hs:∀ j v,l[j]? = some v→C.w0.cell? ⟨g,o + j,none⟩ = some v) (hk:K (S.put d (.v (mk b l)))):ldP C b m ⟨g,o,none⟩ d K S :=
 ldP_ext l hl (fun W hW hok j v hj=>by
  rw [Addr.add_lit]
  exact (hW.cell (p:=⟨g,o + j,none⟩) hlt).trans (hs j v hj)) hk
end Sx
end Go.Proofs.Ytncmmbacoknefaa

/- Rg: A symbolic run: rows of the call's own that grow, of whatever source; what is left of what is known. -/
namespace Go.Proofs.Ytncmmbacoknefaa
open Go Go.RowKit Sx
set_option linter.unusedVariables false
set_option linter.unusedSimpArgs false
structure ElT (P:Program) (t e:TypeId) (size bytes:Nat):Prop where
 sl:P.underlying t = some (.slice e)
 el:∃ i z,P.info? e = some i∧i.zero = some z∧i.size = size∧i.bytes = bytes∧z.cells.size = size
 pos:0 < size
theorem elT {P:Program} {t e:TypeId} {z:Value} {size bytes:Nat} (h:P.underlying t = some (.slice e)) (h2:(P.info? e).map (fun i=>(i.zero,i.size,i.bytes)) = some (some z,size,bytes)) (h3:z.cells.size = size) (h4:0 < size):ElT P t e size bytes:=by
 refine ⟨h,?_,h4⟩
 cases hi:P.info? e with
 | none=>rw [hi] at h2; cases h2
 | some i =>
  rw [hi] at h2
  have h2:=Option.some.inj h2
  exact ⟨i,z,rfl,congrArg (fun x=>x.1) h2,congrArg (fun x=>x.2.1) h2,congrArg (fun x=>x.2.2) h2,h3⟩
theorem cell1_of_one {v:Value} (h:one v = true):v.oneCell' = true:=by
 cases v <;> first | rfl | cases h
theorem cells1_of_all {l:List Value} (h:all1 l = true):∀ u∈l,u.oneCell' = true:=by
 induction l with
 | nil=>intro u hu; cases hu
 | cons v l ih =>
  unfold all1 at h
  rw [Bool.and_eq_true] at h
  intro u hu
  rcases List.mem_cons.1 hu with rfl | hu
  ·exact cell1_of_one h.1
  ·exact ih h.2 u hu
theorem append_any {P:Program} {W:World} (base:Nat) {t ty e:TypeId} {size bytes:Nat} (hE:ElT P t e size bytes) (v:Value) (n:Nat) (xs:List Value) (hown:W.ownsRow base e size v n xs)
  (b so m c:Nat) (news:List Value) (hl:news.length = m * size) (hm:0 < m) (hnews:∀ (j:Nat) u,news[j]? = some u→W.cell? ⟨b,so + j,none⟩ = some u) (h1:∀ u∈news,u.oneCell' = true)
  (h63:n + m≤maxLen) (hbytes:(n + m) * bytes≤140737488355328) (hbase:base≤W.heap.size) :
  ∃ g cap w',(Builtin.append_ #[t,t] ty #[v,.slice (some ⟨b,so,none⟩) m c]).run P W = .ok (.slice (some ⟨g,0,none⟩) (n + m) cap) w'∧w'.ownsRow base e size (.slice (some ⟨g,0,none⟩) (n + m) cap) (n + m) (xs ++ news)∧W.grownBy w' v.ownBlock∧(v.ownBlock = some g∨W.heap.size≤g):=by
 obtain ⟨ht,⟨i,z,hi,hz,hsize,hby,hzs⟩,hsz⟩:=hE
 have hadd:∀ (j:Nat) u,news[j]? = some u→W.cell? ((⟨b,so,none⟩:Addr).add j) = some u:=fun j u hj=>by
  rw [Addr.add_lit]
  exact hnews j u hj
 obtain ⟨v',w',hr,ho,hg,-⟩:=run_append_own (P:=P) (w:=W) base t ty e i z size bytes ht hi hz hsize hby hzs hsz v n xs hown ⟨b,so,none⟩ m c news hl hadd h1 h63 hbytes hbase
 have key:∃ g cap,v' = .slice (some ⟨g,0,none⟩) (n + m) cap∧(v.ownBlock = some g∨W.heap.size≤g):=by
  subst hsize; subst hby
  rcases hown.2 with ⟨rfl,rfl⟩ | ⟨g,cap,cur,rfl,hbg,hg2,hnc,hcm,hcs,htake⟩
  ·have:=run_append_nil (P:=P) W t ty e i z ht hi hz ⟨b,so,none⟩ m c news hl hadd hm (by simp only [maxLen] at h63; omega) (by rw [Nat.zero_add] at hbytes; omega)
   rw [hr] at this
   cases this
   exact ⟨_,_,by rw [Nat.zero_add],.inr (Nat.le_refl _)⟩
  ·by_cases hroom:n + m≤cap
   ·have hfit:n * i.size + news.length≤cur.size:=by rw [hl,hcs,← Nat.add_mul]; exact Nat.mul_le_mul_right _ hroom
    have:=run_append_room (P:=P) W t ty e i ht hi g n cap cur hg2 ⟨b,so,none⟩ m c news hl hadd h1 hroom hfit
    rw [hr] at this
    cases this
    exact ⟨_,_,rfl,.inl rfl⟩
   ·have holds:∀ j u,xs[j]? = some u→W.cell? ((⟨g,0,none⟩:Addr).add j) = some u:=hown.cells (g:=g) rfl
    have:=run_append_grow (P:=P) W t ty e i z ht hi hz ⟨g,0,none⟩ n cap xs hown.1 holds ⟨b,so,none⟩ m c news hl hadd (by omega) (by simp only [maxLen] at h63; omega) (growslice_fits (by omega) hbytes)
    rw [hr] at this
    cases this
    exact ⟨_,_,rfl,.inr (Nat.le_refl _)⟩
 obtain ⟨g,cap,rfl,hgg⟩:=key
 exact ⟨g,cap,w',hr,ho,hg,hgg⟩
theorem row_caps {W:World} {base n g cap size:Nat} {e:TypeId} {xs:List Value} (h:W.ownsRow base e size (.slice (some ⟨g,0,none⟩) n cap) n xs):n≤cap∧cap≤maxLen:=by
 rcases h.2 with ⟨h,_⟩ | ⟨g',cap',cur,h,_,_,hnc,hcm,_⟩
 ·cases h
 ·cases h
  exact ⟨hnc,hcm⟩
theorem row_form {W:World} {base size n:Nat} {e:TypeId} {v:Value} {xs:List Value} (h:W.ownsRow base e size v n xs):∃ a cap,v = .slice a n cap∧n≤cap∧cap≤maxLen∧(0 < n→∃ g,a = some ⟨g,0,none⟩):=by
 rcases h.2 with ⟨rfl,h0⟩ | ⟨g,cap,cur,rfl,hbg,hg,hnc,hcm,-⟩
 ·exact ⟨none,0,by rw [h0],by omega,Nat.zero_le _,fun h=>by omega⟩
 ·exact ⟨_,cap,rfl,hnc,hcm,fun _=>⟨g,rfl⟩⟩
theorem append_row {P:Program} {W:World} (base:Nat) {t e:TypeId} {size bytes:Nat} (hE:ElT P t e size bytes) {v:Value} {n:Nat} {xs:List Value} (hown:W.ownsRow base e size v n xs)
  {v2:Value} {m:Nat} {ys:List Value} (h2:W.ownsRow base e size v2 m ys) (h1:all1 ys = true) (h63:n + m≤maxLen) (hbytes:(n + m) * bytes≤140737488355328) (hbase:base≤W.heap.size) :
  ∃ a cap w',(Builtin.append_ #[t,t] t #[v,v2]).run P W = .ok (.slice a (n + m) cap) w'∧w'.ownsRow base e size (.slice a (n + m) cap) (n + m) (xs ++ ys)∧W.grownBy w' v.ownBlock∧∀ g,(Value.slice a (n + m) cap).ownBlock = some g→v.ownBlock = some g∨W.heap.size≤g:=by
 obtain ⟨a2,c2,e2,-,-,hp2⟩:=row_form h2
 rcases Nat.eq_zero_or_pos m with h0 | hpos
 ·obtain ⟨a,cap,e1,hc,-,-⟩:=row_form hown
  have hys:ys = []:=List.eq_nil_of_length_eq_zero (by rw [h2.1,h0,Nat.zero_mul])
  obtain ⟨ht,⟨i,z,hi,hz,hsize,hby,hzs⟩,hsz⟩:=hE
  have hsrc:Src P i.size t v2 0 [] W:=by
   rw [e2,h0]
   cases a2 with
   | none =>
    refine ⟨.inl ⟨e,ht⟩,fun _=>?_,rfl,rfl,by simp,by simp⟩
    rfl
   | some a2=>exact Src.ofSlice W ht a2 0 c2 [] (by simp) (fun j u hj=>by simp at hj) (fun u hu=>by cases hu)
  refine ⟨a,cap,W,?_,?_,gt_refl _ _,fun g hg=>.inl ?_⟩
  ·rw [e1,h0]
   exact run_append_nothing W t t t e i ht hi a n cap hc _ hsrc
  ·rw [hys,List.append_nil,h0,Nat.add_zero,← e1]
   exact hown
  ·rw [h0,Nat.add_zero] at hg
   rw [e1]; exact hg
 ·obtain ⟨g2,rfl⟩:=hp2 hpos
  subst e2
  obtain ⟨g,cap,w',hr,ho,hg,hgg⟩:=append_any (ty:=t) base hE v n xs hown g2 0 m c2 ys h2.1 hpos (fun j u hj=>by
   have:=h2.cells (g:=g2) rfl j u hj
   rwa [Addr.add_lit] at this) (cells1_of_all h1) h63 hbytes hbase
  exact ⟨_,cap,w',hr,ho,hg,fun g' hg'=>by cases hg'; exact hgg⟩
namespace Sx
variable {C:Cx} {S:St} {K:St→Prop} {d:Option Nat}
def rowOf (L:List Kn) (e:TypeId) (size:Nat) (v:Value) (n:Nat) (xs:List Value):Prop:=(v = .slice none 0 0∧n = 0∧xs = [])∨.g (wK e size v n xs)∈L
theorem rowOf.own {L:List Kn} {e:TypeId} {size n base:Nat} {v:Value} {xs:List Value} {W:World} (h:rowOf L e size v n xs) (hok:∀ k∈L,k.ok base W):W.ownsRow base e size v n xs:=by
 rcases h with ⟨rfl,rfl,rfl⟩ | h
 ·exact World.ownsRow_nil _ _ _ _
 ·exact hok _ h
theorem rowOf.blk {L:List Kn} {e:TypeId} {size n g:Nat} {v:Value} {xs:List Value} (h:rowOf L e size v n xs) (hg:v.ownBlock = some g):∃ k∈L,g∈k.bs:=by
 rcases h with ⟨rfl,rfl,rfl⟩ | h
 ·cases hg
 ·exact ⟨_,h,by show g∈v.ownBlock.toList; rw [hg]; exact List.mem_singleton.2 rfl⟩
theorem genA_app {P:Program} (hP:C.P = P) {L:List Kn} (R:List Kn) {t e:TypeId} {size bytes:Nat} (hE:ElT P t e size bytes) {v:Value} {n:Nat} {xs:List Value} {sb so m c:Nat} {news:List Value} {cs:List Bool}
  (hT:S.T = kX C.w0.heap.size L) (hv:rowOf L e size v n xs) (hmv:(∀ x∈S.T.bs,x∈C.mv S)∨∀ g,v.ownBlock = some g→g∈C.mv S)
  (hsrc:∀ W,Below C.w0.heap.size C.w0 W→(∀ k∈L,k.ok C.w0.heap.size W)→∀ (j:Nat) u,news[j]? = some u→W.cell? ⟨sb,so + j,none⟩ = some u) (hl:news.length = m * size) (hm0:0 < m) (h1:all1 news = true) (h63:n + m≤maxLen) (hbytes:(n + m) * bytes≤140737488355328)
  (hR:∀ k∈R,k∈L∧∀ x∈k.bs,v.ownBlock≠some x)
  (hk:∀ g cap,n + m≤cap→cap≤maxLen→C.w0.heap.size≤g→(∀ k∈R,g ∉ k.bs)→K (St.put ⟨S.n,S.E,S.H,kX C.w0.heap.size (.g (wK e size (.slice (some ⟨g,0,none⟩) (n + m) cap) (n + m) (xs ++ news)) :: R)⟩ d (.v (.slice (some ⟨g,0,none⟩) (n + m) cap)))):genA C (.bi .append [t,t] t cs) [v,.slice (some ⟨sb,so,none⟩) m c] d K S:=by
 subst hP
 refine genA_T (ι:={x:Nat × Nat // n + m≤x.2∧x.2≤maxLen∧C.w0.heap.size≤x.1∧∀ k∈R,x.1 ∉ k.bs}) (fun x=>.slice (some ⟨x.1.1,0,none⟩) (n + m) x.1.2) (fun x=>kX C.w0.heap.size (.g (wK e size (.slice (some ⟨x.1.1,0,none⟩) (n + m) x.1.2) (n + m) (xs ++ news)) :: R)) (fun W hW hok hbs=>⟨?_⟩) (fun x=>hk _ _ x.2.1 x.2.2.1 x.2.2.2.1 x.2.2.2.2)
 rw [hT] at hok
 obtain ⟨g,cap,w',hr,ho,hg,hgg⟩:=append_any (P:=C.P) (ty:=t) C.w0.heap.size hE v n xs (hv.own hok) sb so m c news hl hm0 (hsrc W hW hok) (cells1_of_all h1) h63 hbytes hW.size
 have hr':(genRun (.bi .append [t,t] t cs) [v,.slice (some ⟨sb,so,none⟩) m c]).run C.P W = .ok (.value (.slice (some ⟨g,0,none⟩) (n + m) cap)) w':=by
  show (do let x ← Builtin.append_ #[t,t] t #[v,.slice (some ⟨sb,so,none⟩) m c]; pure (Next.value x)).run C.P W = _
  rw [run_bind_ok hr]; rfl
 rw [hr']
 have hmem:∀ g,v.ownBlock = some g→g∈S.T.bs:=fun g hg=>by
  obtain ⟨k,hk,hx⟩:=hv.blk hg
  rw [hT]
  exact kX_bs.2 ⟨k,hk,hx⟩
 refine ⟨⟨(g,cap),(row_caps ho).1,(row_caps ho).2,(ho.lt g rfl).1,fun k hk hgk=>?_⟩,rfl,⟨hg.os,hg.tape,hg.output,hg.size,fun j hj hn=>hg.block j hj fun e=>hn (hmv.elim (fun h=>h _ (hmem j e.symm)) fun h=>h _ e.symm)⟩,?_,kX_stab C _,?_⟩
 ·obtain ⟨hkL,hkb⟩:=hR k hk
  rcases hgg with h | h
  ·exact hkb g hgk h
  ·have:=((hok k hkL).lt g hgk).2
   omega
 ·intro k hk
  rcases List.mem_cons.1 hk with rfl | hk
  ·exact ho
  ·obtain ⟨hkL,hb⟩:=hR k hk
   exact (hok k hkL).keep hg.size (fun b hbb=>hg.block b ((hok k hkL).lt b hbb).2 fun e=>hb b hbb e.symm) fun b hbn hbl=>hg.block b hbl fun e=>by have:=(hbs b (hmem b e.symm)).1; omega
 ·intro x hx
  obtain ⟨k,hk,hx⟩:=kX_bs.1 hx
  rcases List.mem_cons.1 hk with rfl | hk
  ·have hxg:x = g:=by
    have:x∈[g]:=hx
    simpa using this
   subst hxg
   refine ⟨hgg.elim (fun e=>.inl (hmem x e)) .inr,?_⟩
   exact (ho.lt x rfl).2
  ·obtain ⟨hkL,hb⟩:=hR k hk
   exact ⟨.inl (by rw [hT]; exact kX_bs.2 ⟨k,hkL,hx⟩),Nat.lt_of_lt_of_le ((hok k hkL).lt x hx).2 hg.size⟩
theorem genA_appR {P:Program} (hP:C.P = P) {L:List Kn} (R:List Kn) {t e:TypeId} {size bytes:Nat} (hE:ElT P t e size bytes) {v v2:Value} {n m:Nat} {xs ys:List Value} {cs:List Bool}
  (hT:S.T = kX C.w0.heap.size L) (hv:rowOf L e size v n xs) (h2:rowOf L e size v2 m ys) (hmv:(∀ x∈S.T.bs,x∈C.mv S)∨∀ g,v.ownBlock = some g→g∈C.mv S) (h1:all1 ys = true) (h63:n + m≤maxLen) (hbytes:(n + m) * bytes≤140737488355328)
  (hR:∀ k∈R,k∈L∧∀ x∈k.bs,v.ownBlock≠some x)
  (hk:∀ a cap,n + m≤cap→cap≤maxLen→(0 < n + m→∃ g,a = some ⟨g,0,none⟩)→(∀ g,(Value.slice a (n + m) cap).ownBlock = some g→C.w0.heap.size≤g∧∀ k∈R,g ∉ k.bs) →
   K (St.put ⟨S.n,S.E,S.H,kX C.w0.heap.size (.g (wK e size (.slice a (n + m) cap) (n + m) (xs ++ ys)) :: R)⟩ d (.v (.slice a (n + m) cap)))):genA C (.bi .append [t,t] t cs) [v,v2] d K S:=by
 subst hP
 refine genA_T (ι:={x:Option Addr × Nat // n + m≤x.2∧x.2≤maxLen∧(0 < n + m→∃ g,x.1 = some ⟨g,0,none⟩)∧∀ g,(Value.slice x.1 (n + m) x.2).ownBlock = some g→C.w0.heap.size≤g∧∀ k∈R,g ∉ k.bs}) (fun x=>.slice x.1.1 (n + m) x.1.2) (fun x=>kX C.w0.heap.size (.g (wK e size (.slice x.1.1 (n + m) x.1.2) (n + m) (xs ++ ys)) :: R)) (fun W hW hok hbs=>⟨?_⟩) (fun x=>hk _ _ x.2.1 x.2.2.1 x.2.2.2.1 x.2.2.2.2)
 rw [hT] at hok
 obtain ⟨a,cap,w',hr,ho,hg,hgg⟩:=append_row (P:=C.P) C.w0.heap.size hE (hv.own hok) (h2.own hok) h1 h63 hbytes hW.size
 have hr':(genRun (.bi .append [t,t] t cs) [v,v2]).run C.P W = .ok (.value (.slice a (n + m) cap)) w':=by
  show (do let x ← Builtin.append_ #[t,t] t #[v,v2]; pure (Next.value x)).run C.P W = _
  rw [run_bind_ok hr]; rfl
 rw [hr']
 obtain ⟨a',cap',e',q1,q2,q3⟩:=row_form ho
 cases e'
 have hmem:∀ g,v.ownBlock = some g→g∈S.T.bs:=fun g hg=>by
  obtain ⟨k,hk,hx⟩:=hv.blk hg
  rw [hT]
  exact kX_bs.2 ⟨k,hk,hx⟩
 refine ⟨⟨(a,cap),q1,q2,q3,fun g hgo=>⟨(ho.lt g hgo).1,fun k hk hgk=>?_⟩⟩,rfl,⟨hg.os,hg.tape,hg.output,hg.size,fun j hj hn=>hg.block j hj fun e=>hn (hmv.elim (fun h=>h _ (hmem j e.symm)) fun h=>h _ e.symm)⟩,?_,kX_stab C _,?_⟩
 ·obtain ⟨hkL,hkb⟩:=hR k hk
  rcases hgg g hgo with h | h
  ·exact hkb g hgk h
  ·have:=((hok k hkL).lt g hgk).2
   omega
 ·intro k hk
  rcases List.mem_cons.1 hk with rfl | hk
  ·exact ho
  ·obtain ⟨hkL,hb⟩:=hR k hk
   exact (hok k hkL).keep hg.size (fun b hbb=>hg.block b ((hok k hkL).lt b hbb).2 fun e=>hb b hbb e.symm) fun b hbn hbl=>hg.block b hbl fun e=>by have:=(hbs b (hmem b e.symm)).1; omega
 ·intro x hx
  obtain ⟨k,hk,hx⟩:=kX_bs.1 hx
  rcases List.mem_cons.1 hk with rfl | hk
  ·have hxg:(Value.slice a (n + m) cap).ownBlock = some x:=by
    have:x∈(Value.slice a (n + m) cap).ownBlock.toList:=hx
    simpa using this
   exact ⟨(hgg x hxg).elim (fun e=>.inl (hmem x e)) .inr,(ho.lt x hxg).2⟩
  ·obtain ⟨hkL,hb⟩:=hR k hk
   exact ⟨.inl (by rw [hT]; exact kX_bs.2 ⟨k,hkL,hx⟩),Nat.lt_of_lt_of_le ((hok k hkL).lt x hx).2 hg.size⟩
theorem genA_w {q:GK} {l:List Value} {L:List Kn} {cs:List Value} {e:TypeId} {s n:Nat} (hT:S.T = kX C.w0.heap.size L) (hn:n≤maxLen) (hs:cs.length = n * s)
  (h:∀ W,(genRun q l).run C.P W = .ok (.value (.slice (some ⟨W.heap.size,0,none⟩) n n)) (W.alloc (.cells cs.toArray e (0,0))))
  (hk:∀ b,b ∉ S.T.bs→K (St.put ⟨S.n,S.E,S.H,kX C.w0.heap.size (.g (wK e s (.slice (some ⟨b,0,none⟩) n n) n cs) :: L)⟩ d (.v (.slice (some ⟨b,0,none⟩) n n)))):genA C q l d K S:=by
 refine genA_T (ι:={x:Nat // x ∉ S.T.bs}) (fun x=>.slice (some ⟨x.1,0,none⟩) n n) (fun x=>kX C.w0.heap.size (.g (wK e s (.slice (some ⟨x.1,0,none⟩) n n) n cs) :: L)) (fun W hW hok hbs=>⟨?_⟩) (fun x=>hk _ x.2)
 rw [hT] at hok
 rw [h W]
 have hb:Below W.heap.size W (W.alloc (.cells cs.toArray e (0,0))):=(Below.refl _ _).alloc (Nat.le_refl _) _
 have hc:(W.alloc (.cells cs.toArray e (0,0))).ownsRow C.w0.heap.size e s (.slice (some ⟨W.heap.size,0,none⟩) n n) n cs:=by
  have:=World.ownsRow_lit (base:=C.w0.heap.size) (e:=e) (size:=s) W cs.toArray n hW.size hn (by simpa using hs)
  simpa using this
 refine ⟨⟨W.heap.size,fun hT2=>by have:=(hbs _ hT2).2; omega⟩,rfl,⟨hb.os,hb.tape,hb.output,hb.size,fun i hi _=>hb.block i hi⟩,?_,kX_stab C _,?_⟩
 ·intro k hk
  rcases List.mem_cons.1 hk with rfl | hk
  ·exact hc
  ·exact (hok k hk).below hb
 ·intro b hbb
  obtain ⟨k,hk,hbb⟩:=kX_bs.1 hbb
  rcases List.mem_cons.1 hk with rfl | hk
  ·have hx:(Value.slice (some ⟨W.heap.size,0,none⟩) n n).ownBlock = some b:=by
    have:b∈(Value.slice (some ⟨W.heap.size,0,none⟩) n n).ownBlock.toList:=hbb
    simpa using this
   have e:W.heap.size = b:=by cases hx; rfl
   exact ⟨.inr (by omega),(hc.lt b hx).2⟩
  ·exact ⟨.inl (by rw [hT]; exact kX_bs.2 ⟨k,hk,hbb⟩),Nat.lt_of_lt_of_le ((hok k hk).lt b hbb).2 hb.size⟩
theorem ldP_own {e:TypeId} {s n base cap g o m:Nat} {b:Bool} {xs l:List Value} (h:C.w0.ownsRow base e s (.slice (some ⟨g,0,none⟩) n cap) n xs) (hl:l.length = m) (hs:∀ j v,l[j]? = some v→xs[o + j]? = some v) (hk:K (S.put d (.v (mk b l)))):ldP C b m ⟨g,o,none⟩ d K S :=
 ldP_old hl (h.lt g rfl).2 (fun j v hj=>by
  have:=h.cells (g:=g) rfl (o + j) v (hs j v hj)
  rwa [Addr.add_lit,Nat.zero_add] at this) hk
theorem extS_of {C:Cx} {L L':List Kn} (h:∀ k∈L',k∈L∨(k.bs = []∧∀ W,k.ok C.w0.heap.size W)):extS C (kX C.w0.heap.size L) (kX C.w0.heap.size L'):=by
 refine .inr ⟨kX_stab C L',fun W hW k hk=>?_,fun b hb=>?_⟩
 ·rcases h k hk with h | ⟨-,h⟩
  ·exact hW k h
  ·exact h W
 ·obtain ⟨k,hk,hb⟩:=kX_bs.1 hb
  rcases h k hk with h | ⟨h,-⟩
  ·exact kX_bs.2 ⟨k,h,hb⟩
  ·rw [h] at hb; cases hb
theorem wK_nil (e:TypeId) (s n:Nat) (W:World):(Kn.g (wK e s (.slice none 0 0) 0 [])).ok n W:=World.ownsRow_nil _ _ _ _
end Sx
end Go.Proofs.Ytncmmbacoknefaa

/- Eb: A symbolic run: functions that are given blocks of the caller's and change them. -/
namespace Go.Proofs.Ytncmmbacoknefaa
open Go Go.RowKit Sx
set_option linter.unusedVariables false
set_option linter.unusedSimpArgs false
namespace Sx
def xW (w:World) (n:Nat) (ex:List Nat):KnG where
 bs:=(List.range' n (w.heap.size - n)).filter fun i => !ex.contains i
 ok m W:=m = n∧n≤w.heap.size∧w.heap.size≤W.heap.size∧∀ i,i < w.heap.size→i ∉ ex→W.heap[i]? = w.heap[i]?
 lt:=fun {m W} h b hb=>by
  obtain ⟨h0,h1,h2,-⟩:=h
  rw [List.mem_filter,List.mem_range'] at hb
  obtain ⟨⟨i,hi,rfl⟩,-⟩:=hb
  omega
 keep:=fun {m W W'} h hs hb ho=>by
  obtain ⟨h0,hn,hsz,hg⟩:=h
  refine ⟨h0,hn,Nat.le_trans hsz hs,fun i hi hx=>?_⟩
  rcases Nat.lt_or_ge i n with h | h
  ·exact (ho i (by omega) (by omega)).trans (hg i hi hx)
  ·refine (hb i ?_).trans (hg i hi hx)
   rw [List.mem_filter,List.mem_range']
   exact ⟨⟨i - n,by omega,by omega⟩,by simpa using hx⟩
theorem xW_bs {w:World} {n g:Nat} {ex:List Nat}:g∈(Kn.g (xW w n ex)).bs↔(n≤g∧g < w.heap.size)∧g ∉ ex:=by
 show g∈(List.range' n (w.heap.size - n)).filter _↔_
 rw [List.mem_filter,List.mem_range']
 constructor
 ·rintro ⟨⟨i,hi,rfl⟩,h⟩
  exact ⟨by omega,by simpa using h⟩
 ·rintro ⟨h,h2⟩
  exact ⟨⟨g - n,by omega,by omega⟩,by simpa using h2⟩
theorem wK_bs {e:TypeId} {s n g:Nat} {v:Value} {xs:List Value}:g∈(Kn.g (wK e s v n xs)).bs↔v.ownBlock = some g:=by
 show g∈v.ownBlock.toList↔_
 simp
theorem cK_bs {b g:Nat} {cs:List Value}:g∈(Kn.g (cK b cs)).bs↔g = b:=by
 show g∈[b]↔_
 simp
theorem xW_start {w:World} {n0:Nat} {ex:List Nat} (hle:n0≤w.heap.size):(Kn.g (xW w n0 ex)).ok n0 w:=⟨rfl,hle,Nat.le_refl _,fun _ _ _=>rfl⟩
variable {C:Cx} {S:St} {K:St→Prop} {d:Option Nat}
theorem x_cSl (a:Option Addr) (l c:Nat):cellsO false (some (.v (.slice a l c))) = some [.slice a l c]:=rfl
theorem x_stq (a:Addr) (m:Nat) (vs:List Value):stX C (m + 2) (some (.v (.pointer (some a)))) (some vs) K S = (lenB vs (m + 2) = true∧stL C a vs K S):=rfl
theorem ldP_blk (b:Nat) {t:Bool} {m o:Nat} (h:ldP C t m ⟨b,o,none⟩ d K S):ldP C t m ⟨b,o,none⟩ d K S:=h
theorem stP_blk (b:Nat) {o:Nat} {v:Value} (h:stP C ⟨b,o,none⟩ v K S):stP C ⟨b,o,none⟩ v K S:=h
theorem stL_blk (b:Nat) {o:Nat} {vs:List Value} (h:stL C ⟨b,o,none⟩ vs K S):stL C ⟨b,o,none⟩ vs K S:=h
theorem stL_c {L R:List Kn} {b o:Nat} {cs cs' vs:List Value} (hT:S.T = kX C.w0.heap.size L) (hm:.g (cK b cs)∈L) (hR:∀ k∈R,k∈L∧b ∉ k.bs) (ho:ovrO cs o vs = some cs') (h1:all1 vs = true)
  (hk:K ⟨S.n,S.E,S.H,kX C.w0.heap.size (.g (cK b cs') :: R)⟩):stL C ⟨b,o,none⟩ vs K S:=by
 refine ⟨kX C.w0.heap.size (.g (cK b cs') :: R),fun A W hW=>?_,kX_stab C _,fun c hc=>?_,hk⟩
 ·have hok:=hW.tk
  rw [hT] at hok
  have hc:(cK b cs).ok C.w0.heap.size W:=hok _ hm
  obtain ⟨W',e,hmv,hz,hB⟩:=run_storeK (P:=C.P) (i:=0) hc.2 ho h1
  refine ⟨by rw [hT]; exact kX_bs.2 ⟨_,hm,List.mem_singleton.2 rfl⟩,W',e,hmv,fun k hk=>?_⟩
  rcases List.mem_cons.1 hk with rfl | hk
  ·exact ⟨hc.1,hB⟩
  ·obtain ⟨hkL,hkb⟩:=hR k hk
   exact (hok k hkL).keep hmv.2.2.2.1 (fun c hcc=>hmv.2.2.2.2 c ((hok k hkL).lt c hcc).2 fun e=>hkb (by rw [← List.mem_singleton.1 e]; exact hcc)) fun c hcn hcl=>hmv.2.2.2.2 c hcl fun e=>by
    have h0:=hc.1
    rw [List.mem_singleton.1 e] at hcn
    omega
 ·rw [hT]
  obtain ⟨k,hk,hc⟩:=kX_bs.1 hc
  rcases List.mem_cons.1 hk with rfl | hk
  ·exact kX_bs.2 ⟨_,hm,hc⟩
  ·exact kX_bs.2 ⟨k,(hR k hk).1,hc⟩
theorem stP_c {L R:List Kn} {b o:Nat} {cs cs':List Value} {v:Value} (hT:S.T = kX C.w0.heap.size L) (hm:.g (cK b cs)∈L) (hR:∀ k∈R,k∈L∧b ∉ k.bs) (ho:ovrO cs o [v] = some cs') (h1:one v = true)
  (hk:K ⟨S.n,S.E,S.H,kX C.w0.heap.size (.g (cK b cs') :: R)⟩):stP C ⟨b,o,none⟩ v K S:=by
 refine stP_is (kX C.w0.heap.size (.g (cK b cs') :: R)) (fun W hW hok=>?_) (kX_stab C _) (fun c hc=>?_) h1 hk
 ·rw [hT] at hok
  have hc:(cK b cs).ok C.w0.heap.size W:=hok _ hm
  obtain ⟨o1,o2⟩:=ovrO_cons ho
  have e:=ovrO_nil o2
  have hB:=Bx.of hc.2
  refine ⟨by rw [hT]; exact kX_bs.2 ⟨_,hm,List.mem_singleton.2 rfl⟩,⟨cs[o],by rw [hB.2.1,List.getElem?_toArray,List.getElem?_eq_getElem o1]⟩,hB.2.2.1 _,fun k hk=>?_⟩
  rcases List.mem_cons.1 hk with rfl | hk
  ·refine ⟨hc.1,?_⟩
   rw [e]
   exact hc.2.set (by simp)
  ·obtain ⟨hkL,hkb⟩:=hR k hk
   exact (hok k hkL).keep (by rw [World.size_setCell]; exact Nat.le_refl _) (fun c hcc=>Below.heap_setCell W _ _ c fun e=>hkb (by rw [← show c = b from e]; exact hcc)) fun c hcn hcl=>Below.heap_setCell W _ _ c fun e=>by
    have h0:=hc.1
    rw [show c = b from e] at hcn
    omega
 ·rw [hT]
  obtain ⟨k,hk,hc⟩:=kX_bs.1 hc
  rcases List.mem_cons.1 hk with rfl | hk
  ·exact kX_bs.2 ⟨_,hm,hc⟩
  ·exact kX_bs.2 ⟨k,(hR k hk).1,hc⟩
end Sx
end Go.Proofs.Ytncmmbacoknefaa

/- DvP: Plain facts for the division of absolute values: shifts of words, lengths, the loop's step. -/
namespace Go.Proofs.Ytncmmbacoknefaa
open Go
set_option linter.unusedVariables false
set_option linter.unusedSimpArgs false
abbrev ME (z:Int):Value:=MG (lb0 z) (lb1 z) (lb2 z) (lb3 z)
def A4 (z:Int):Prop:=0≤z∧z < 115792089237316195423570985008687907853269984665640564039457584007913129639936
theorem mg_me {a b c d:Int} (h:U64 a) (h1:U64 b) (h2:U64 c) (h3:U64 d):MG a b c d = ME (MV a b c d):=by
 rw [ME,lb0_mv _ _ _ h,lb1_mv _ _ h h1,lb2_mv _ h h1 h2,lb3_mv h h1 h2 h3]
theorem mv_me {z:Int} (h:A4 z):MV (lb0 z) (lb1 z) (lb2 z) (lb3 z) = z:=mv_lb4 ((up4_lt h.1).2 h.2)
theorem a4_mv {a b c d:Int} (h:U64 a) (h1:U64 b) (h2:U64 c) (h3:U64 d):A4 (MV a b c d):=⟨mv_nonneg h h1 h2 h3,(up4_lt (mv_nonneg h h1 h2 h3)).1 (up4_mv h h1 h2 h3)⟩
theorem up4_a4 {z:Int} (h:A4 z):up4 z = 0:=(up4_lt h.1).2 h.2
theorem toNat_ofInt {x:Int} (h:U64 x):(BitVec.ofInt IntKind.u64.bits x).toNat = x.toNat:=by
 obtain ⟨h0,h1⟩:=h
 have e:(BitVec.ofInt 64 x).toNat = x.toNat:=by
  rw [BitVec.toNat_ofInt]
  have:(x % ((2 ^ 64:Nat):Int)) = x:=Int.emod_eq_of_lt h0 (by show x < 18446744073709551616; omega)
  rw [this]
 exact e
theorem or_add {x y:Int} (k:Nat) (hx:U64 x) (hy:U64 y) (hxk:x < 2 ^ k) (hd:(2 ^ k:Int) ∣ y) :
  IntKind.u64.wrap ((BitVec.ofInt IntKind.u64.bits x ||| BitVec.ofInt IntKind.u64.bits y).toNat:Int) = x + y∧IntKind.u64.wrap ((BitVec.ofInt IntKind.u64.bits y ||| BitVec.ofInt IntKind.u64.bits x).toNat:Int) = x + y∧U64 (x + y):=by
 obtain ⟨q,hq⟩:=hd
 obtain ⟨a,rfl⟩:=Int.eq_ofNat_of_zero_le hx.1
 obtain ⟨b,rfl⟩:=Int.eq_ofNat_of_zero_le hy.1
 have hpos:(0:Int) < 2 ^ k:=Int.pow_pos (by decide)
 have hq0:0≤q:=by
  by_cases h:0≤q
  ·exact h
  ·have h2:(2 ^ k:Int) * q < 0:=Int.mul_neg_of_pos_of_neg hpos (by omega)
   have:=hy.1
   omega
 obtain ⟨c,rfl⟩:=Int.eq_ofNat_of_zero_le hq0
 have hb:b = 2 ^ k * c:=by
  have:((b:Int)) = ((2 ^ k * c:Nat):Int):=by rw [hq]; push_cast; rfl
  exact_mod_cast this
 have ha:a < 2 ^ k:=by
  have:((a:Int)) < ((2 ^ k:Nat):Int):=by push_cast; exact hxk
  exact_mod_cast this
 have hor:b ||| a = b + a:=by rw [hb]; exact (Nat.two_pow_add_eq_or_of_lt ha c).symm
 have e1:=toNat_ofInt hx
 have e2:=toNat_ofInt hy
 rw [Int.toNat_natCast] at e1 e2
 have hlt:b + a < 18446744073709551616:=by
  rw [← hor]
  exact Nat.or_lt_two_pow (n:=64) (by have:=hy.2; omega) (by have:=hx.2; omega)
 have hw:IntKind.u64.wrap ((b + a:Nat):Int) = (a:Int) + b:=by
  rw [IntWalk.u64_in _ ⟨by omega,by omega⟩]; omega
 refine ⟨?_,?_,⟨by omega,by omega⟩⟩
 ·rw [BitVec.toNat_or,e1,e2,Nat.or_comm,hor]; exact hw
 ·rw [BitVec.toNat_or,e1,e2,hor]; exact hw
theorem half_words {a b c d:Int} (ha:U64 a) (hb:U64 b) (hc:U64 c) (hd:U64 d) :
  U64 (a / 2 + 9223372036854775808 * (b % 2))∧U64 (b / 2 + 9223372036854775808 * (c % 2))∧U64 (c / 2 + 9223372036854775808 * (d % 2))∧U64 (d / 2) ∧
  MV (a / 2 + 9223372036854775808 * (b % 2)) (b / 2 + 9223372036854775808 * (c % 2)) (c / 2 + 9223372036854775808 * (d % 2)) (d / 2) = MV a b c d / 2:=by
 obtain ⟨a0,a1⟩:=ha
 obtain ⟨b0,b1⟩:=hb
 obtain ⟨c0,c1⟩:=hc
 obtain ⟨d0,d1⟩:=hd
 refine ⟨⟨by omega,by omega⟩,⟨by omega,by omega⟩,⟨by omega,by omega⟩,⟨by omega,by omega⟩,?_⟩
 have ea:a = 2 * (a / 2) + a % 2:=by omega
 have eb:b = 2 * (b / 2) + b % 2:=by omega
 have ec:c = 2 * (c / 2) + c % 2:=by omega
 have ed:d = 2 * (d / 2) + d % 2:=by omega
 have p:0≤a % 2∧a % 2 < 2:=by omega
 have q:0≤d % 2:=by omega
 generalize a / 2 = ua at *
 generalize b / 2 = ub at *
 generalize c / 2 = uc at *
 generalize d / 2 = ud at *
 generalize a % 2 = pa at *
 generalize b % 2 = pb at *
 generalize c % 2 = pc at *
 generalize d % 2 = pd at *
 subst ea eb ec ed
 unfold MV
 omega
theorem half_word {x y:Int} (hx:U64 x) (hy:U64 y) :
  IntKind.u64.wrap ((BitVec.ofInt IntKind.u64.bits (x.fdiv 2) ||| BitVec.ofInt IntKind.u64.bits (IntKind.u64.wrap (y * 9223372036854775808))).toNat:Int) = x / 2 + 9223372036854775808 * (y % 2):=by
 obtain ⟨x0,x1⟩:=hx
 obtain ⟨y0,y1⟩:=hy
 have e1:x.fdiv 2 = x / 2:=Int.fdiv_eq_ediv_of_nonneg _ (by decide)
 have e2:IntKind.u64.wrap (y * 9223372036854775808) = 9223372036854775808 * (y % 2):=by
  show (y * 9223372036854775808) % 18446744073709551616 = _
  omega
 rw [e1,e2]
 exact (or_add 63 ⟨by omega,by omega⟩ ⟨by omega,by omega⟩ (by show x / 2 < 9223372036854775808; omega) ⟨y % 2,rfl⟩).1
end Go.Proofs.Ytncmmbacoknefaa

/- DvQ: Plain facts for the division of absolute values: the shift to the left, lengths. -/
namespace Go.Proofs.Ytncmmbacoknefaa
open Go
set_option linter.unusedVariables false
set_option linter.unusedSimpArgs false
theorem pow63 {r:Nat} (h:r < 64):(2:Int) ^ r≤9223372036854775808:=by
 obtain ⟨d,hd⟩:∃ d,r + d = 63:=⟨63 - r,by omega⟩
 have e:(9223372036854775808:Int) = 2 ^ r * 2 ^ d:=by rw [← Int.pow_add,hd]; rfl
 have p1:(0:Int) < 2 ^ r:=Int.pow_pos (by decide)
 have p2:(0:Int) < 2 ^ d:=Int.pow_pos (by decide)
 have p3:=Int.mul_le_mul_of_nonneg_left (show (1:Int)≤2 ^ d by omega) (Int.le_of_lt p1)
 rw [e]
 omega
theorem shl_word {x:Int} {r:Nat} (hx:U64 x) (hr:r < 64):∃ t u:Int,IntKind.u64.wrap (x * 2 ^ r) = t∧x.fdiv (2 ^ (64 - r)) = u∧U64 t∧0≤u∧u < 2 ^ r∧(2 ^ r:Int) ∣ t∧x * 2 ^ r = 18446744073709551616 * u + t:=by
 obtain ⟨x0,x1⟩:=hx
 have hB:(2 ^ r:Int) * 2 ^ (64 - r) = 18446744073709551616:=by rw [← Int.pow_add,show r + (64 - r) = 64 by omega]; rfl
 have p0:(0:Int) < 2 ^ r:=Int.pow_pos (by decide)
 have q0:(0:Int) < 2 ^ (64 - r):=Int.pow_pos (by decide)
 generalize (2 ^ r:Int) = p at *
 generalize (2 ^ (64 - r):Int) = q at *
 have ed:=Int.mul_ediv_add_emod x q
 have m0:=Int.emod_nonneg x (Int.ne_of_gt q0)
 have m1:=Int.emod_lt_of_pos x q0
 have hu:0≤x / q:=Int.ediv_nonneg x0 (Int.le_of_lt q0)
 have hv:x % q * p < 18446744073709551616:=by
  rw [← hB,Int.mul_comm p q]
  exact Int.mul_lt_mul_of_pos_right m1 p0
 have hv0:0≤x % q * p:=Int.mul_nonneg m0 (Int.le_of_lt p0)
 have hx2:x * p = 18446744073709551616 * (x / q) + x % q * p:=by
  have e1:x * p = (q * (x / q) + x % q) * p:=by rw [ed]
  rw [e1,← hB,Int.add_mul]
  congr 1
  rw [Int.mul_comm q,Int.mul_assoc,Int.mul_comm q p,Int.mul_comm (x / q)]
 have hup:x / q < p:=by
  have:x < q * p:=by rw [Int.mul_comm,hB]; omega
  exact Int.ediv_lt_of_lt_mul q0 (by rw [Int.mul_comm]; exact this)
 refine ⟨x % q * p,x / q,?_,Int.fdiv_eq_ediv_of_nonneg _ (Int.le_of_lt q0),⟨hv0,by omega⟩,hu,hup,⟨x % q,by rw [Int.mul_comm]⟩,hx2⟩
 show x * p % 18446744073709551616 = _
 rw [hx2]
 generalize x % q * p = v at *
 generalize x / q = u at *
 omega
theorem shl_words {x0 x1 x2 x3 t0 t1 t2 t3 u0 u1 u2 u3 p:Int} (e0:x0 * p = 18446744073709551616 * u0 + t0) (e1:x1 * p = 18446744073709551616 * u1 + t1) (e2:x2 * p = 18446744073709551616 * u2 + t2) (e3:x3 * p = 18446744073709551616 * u3 + t3) :
  MV x0 x1 x2 x3 * p = MV t0 (t1 + u0) (t2 + u1) (t3 + u2) + 115792089237316195423570985008687907853269984665640564039457584007913129639936 * u3:=by
 unfold MV
 simp only [Int.add_mul,Int.mul_assoc]
 rw [e0,e1,e2,e3]
 omega
theorem shl0 {Z a b c d e:Int} (h:Z = MV a b c d + 115792089237316195423570985008687907853269984665640564039457584007913129639936 * e) (he:0≤e) (h0:U64 a∧U64 b∧U64 c∧U64 d) (hf:Z < 115792089237316195423570985008687907853269984665640564039457584007913129639936):MV a b c d = Z:=by
 have:=mv_nonneg h0.1 h0.2.1 h0.2.2.1 h0.2.2.2
 omega
theorem shl1 {Z a b c d e:Int} (h:Z = MV a b c d + 115792089237316195423570985008687907853269984665640564039457584007913129639936 * e) (he:0≤e) (h0:U64 a∧U64 b∧U64 c∧U64 d) (hf:Z * 18446744073709551616 < 115792089237316195423570985008687907853269984665640564039457584007913129639936):MV 0 a b c = Z * 18446744073709551616:=by
 obtain ⟨⟨a0,a1⟩,⟨b0,b1⟩,⟨c0,c1⟩,⟨d0,d1⟩⟩:=h0
 unfold MV at *
 omega
theorem shl2 {Z a b c d e:Int} (h:Z = MV a b c d + 115792089237316195423570985008687907853269984665640564039457584007913129639936 * e) (he:0≤e) (h0:U64 a∧U64 b∧U64 c∧U64 d) (hf:Z * 340282366920938463463374607431768211456 < 115792089237316195423570985008687907853269984665640564039457584007913129639936):MV 0 0 a b = Z * 340282366920938463463374607431768211456:=by
 obtain ⟨⟨a0,a1⟩,⟨b0,b1⟩,⟨c0,c1⟩,⟨d0,d1⟩⟩:=h0
 unfold MV at *
 omega
theorem shl3 {Z a b c d e:Int} (h:Z = MV a b c d + 115792089237316195423570985008687907853269984665640564039457584007913129639936 * e) (he:0≤e) (h0:U64 a∧U64 b∧U64 c∧U64 d) (hf:Z * 6277101735386680763835789423207666416102355444464034512896 < 115792089237316195423570985008687907853269984665640564039457584007913129639936):MV 0 0 0 a = Z * 6277101735386680763835789423207666416102355444464034512896:=by
 obtain ⟨⟨a0,a1⟩,⟨b0,b1⟩,⟨c0,c1⟩,⟨d0,d1⟩⟩:=h0
 unfold MV at *
 omega
theorem pow_split (q r:Nat):(2 ^ (64 * q + r):Int) = 2 ^ r * 18446744073709551616 ^ q:=by
 rw [Int.pow_add,Int.pow_mul,Int.mul_comm]
 rfl
def bl (z:Int):Nat:=if z≤0 then 0 else z.toNat.log2 + 1
theorem bl_zero:bl 0 = 0:=rfl
theorem bl_pos {z:Int} (h:0 < z):0 < bl z:=by unfold bl; rw [if_neg (by omega)]; omega
theorem bl_lt {z:Int} (h:0≤z):z < 2 ^ bl z:=by
 unfold bl
 split
 ·have:z = 0:=by omega
  subst this; decide
 ·obtain ⟨n,rfl⟩:=Int.eq_ofNat_of_zero_le h
  rw [Int.toNat_natCast]
  have:=Nat.lt_log2_self (n:=n)
  exact_mod_cast this
theorem bl_le {z:Int} (h:0 < z):2 ^ (bl z - 1)≤z:=by
 unfold bl
 rw [if_neg (by omega)]
 obtain ⟨n,rfl⟩:=Int.eq_ofNat_of_zero_le (Int.le_of_lt h)
 rw [Int.toNat_natCast,Nat.add_sub_cancel]
 have:=Nat.log2_self_le (n:=n) (by omega)
 exact_mod_cast this
theorem bl_unique {z:Int} {k:Nat} (h1:2 ^ k≤z) (h2:z < 2 ^ (k + 1)):bl z = k + 1:=by
 have hp:(0:Int) < 2 ^ k:=Int.pow_pos (by decide)
 unfold bl
 rw [if_neg (by omega)]
 obtain ⟨n,rfl⟩:=Int.eq_ofNat_of_zero_le (a:=z) (by omega)
 rw [Int.toNat_natCast]
 congr 1
 have a1:2 ^ k≤n:=by exact_mod_cast h1
 have a2:n < 2 ^ (k + 1):=by exact_mod_cast h2
 exact (Nat.log2_eq_iff (by have:=Nat.pos_of_ne_zero (n:=2 ^ k) (by simp); omega)).2 ⟨a1,a2⟩
theorem bl_word {z x lo:Int} {i:Nat} (hx:U64 x) (hx0:x≠0) (hl:0≤lo) (hlo:lo < 2 ^ (64 * i)) (hz:z = lo + 2 ^ (64 * i) * x):bl z = 64 * i + Go.Lib.bitLen x.toNat:=by
 obtain ⟨n,rfl⟩:=Int.eq_ofNat_of_zero_le hx.1
 rw [Int.toNat_natCast]
 obtain ⟨b1,b2,b3⟩:=Go.Lib.bitLenAux_bounds 64 n (by have:=hx.2; omega) (by omega)
 have e:Go.Lib.bitLen n = Go.Lib.bitLenAux 64 n:=rfl
 rw [← e] at b1 b2 b3
 generalize Go.Lib.bitLen n = L at *
 obtain ⟨K,rfl⟩:∃ K,L = K + 1:=⟨L - 1,by omega⟩
 rw [Nat.add_sub_cancel] at b2
 have c2:(2 ^ K:Int)≤(n:Int):=by exact_mod_cast b2
 have c3:(n:Int) + 1≤2 ^ (K + 1):=by exact_mod_cast b3
 have hp:(0:Int) < 2 ^ (64 * i):=Int.pow_pos (by decide)
 have d2:(2 ^ (64 * i):Int) * 2 ^ K≤2 ^ (64 * i) * (n:Int):=Int.mul_le_mul_of_nonneg_left c2 (Int.le_of_lt hp)
 have d3:(2 ^ (64 * i):Int) * ((n:Int) + 1)≤2 ^ (64 * i) * 2 ^ (K + 1):=Int.mul_le_mul_of_nonneg_left c3 (Int.le_of_lt hp)
 rw [← Int.pow_add] at d2 d3
 rw [Int.mul_add,Int.mul_one] at d3
 rw [show 64 * i + (K + 1) = (64 * i + K) + 1 by omega]
 refine bl_unique (by omega) ?_
 rw [show (64 * i + K) + 1 = 64 * i + (K + 1) by omega]
 omega
theorem pow256 {k:Nat} {b:Int} (hb:0 < b) (h:A4 (b * 2 ^ k)):k < 256:=by
 by_cases hk:k < 256
 ·exact hk
 ·exfalso
  obtain ⟨d,hd⟩:∃ d,k = 256 + d:=⟨k - 256,by omega⟩
  have h1:=h.2
  have p2:(0:Int) < 2 ^ d:=Int.pow_pos (by decide)
  have p3:=Int.mul_le_mul_of_nonneg_left (show (1:Int)≤2 ^ d by omega) (show (0:Int)≤2 ^ 256 by decide)
  have p4:=Int.mul_le_mul_of_nonneg_right (show (1:Int)≤b by omega) (show (0:Int)≤2 ^ k from Int.le_of_lt (Int.pow_pos (by decide)))
  have e:(2:Int) ^ k = 2 ^ 256 * 2 ^ d:=by rw [hd,Int.pow_add]
  have e2:(2:Int) ^ 256 = 115792089237316195423570985008687907853269984665640564039457584007913129639936:=rfl
  rw [e2] at e p3
  omega
theorem bl_256 {z:Int} (h:A4 z):bl z≤256:=by
 by_cases h0:0 < z
 ·have h1:=bl_le h0
  have h2:=bl_pos h0
  have:=pow256 (b:=1) (k:=bl z - 1) (by decide) ⟨by rw [Int.one_mul]; exact Int.le_of_lt (Int.pow_pos (by decide)),by have:=h.2; rw [Int.one_mul]; omega⟩
  omega
 ·have e:z = 0:=by have:=h.1; omega
  subst e; decide
structure DvI (a b:Int) (r q:Int) (k:Nat):Prop where
 r0:0≤r
 rl:r < b * 2 ^ k
 eq:q * b + r = a
 q0:0≤q
 dv:(2 ^ k:Int) ∣ q
theorem dv_start {a b:Int} (ha:0≤a) (hb:0 < b) (h:bl b≤bl a):DvI a b a 0 (bl a - bl b + 1):=by
 refine ⟨ha,?_,by omega,Int.le_refl _,⟨0,by simp⟩⟩
 have h1:=bl_lt ha
 have h2:=bl_le hb
 have h3:=bl_pos hb
 have h4:(2:Int) ^ bl a = 2 ^ (bl b - 1) * 2 ^ (bl a - bl b + 1):=by rw [← Int.pow_add]; congr 1; omega
 have hp:(0:Int)≤2 ^ (bl a - bl b + 1):=Int.le_of_lt (Int.pow_pos (by decide))
 have:=Int.mul_le_mul_of_nonneg_right h2 hp
 omega
theorem dv_fit {a b:Int} {m:Nat} (ha:A4 a) (hb:A4 b) (hb0:0 < b) (h:bl b≤bl a):A4 (b * 2 ^ (bl a - bl b)):=by
 refine ⟨Int.mul_nonneg hb.1 (Int.le_of_lt (Int.pow_pos (by decide))),?_⟩
 have h1:=bl_lt hb.1
 have h2:bl a≤256:=by
  by_cases h0:0 < a
  ·have:=bl_le h0
   have h3:=ha.2
   by_cases hc:bl a≤256
   ·exact hc
   ·exfalso
    have h4:(2:Int) ^ 256≤2 ^ (bl a - 1):=by
     have:(2:Nat) ^ 256≤2 ^ (bl a - 1):=Nat.pow_le_pow_right (by decide) (by omega)
     exact_mod_cast this
    have h5:(2:Int) ^ 256 = 115792089237316195423570985008687907853269984665640564039457584007913129639936:=by decide
    omega
  ·have:=ha.1
   have e:a = 0:=by omega
   subst e; decide
 have h5:(2:Int) ^ bl a≤115792089237316195423570985008687907853269984665640564039457584007913129639936:=by
  obtain ⟨d,hd⟩:∃ d,bl a + d = 256:=⟨256 - bl a,by omega⟩
  have e:(115792089237316195423570985008687907853269984665640564039457584007913129639936:Int) = 2 ^ bl a * 2 ^ d:=by rw [← Int.pow_add,hd]; rfl
  have p1:(0:Int) < 2 ^ bl a:=Int.pow_pos (by decide)
  have p2:(0:Int) < 2 ^ d:=Int.pow_pos (by decide)
  have p3:=Int.mul_le_mul_of_nonneg_left (show (1:Int)≤2 ^ d by omega) (Int.le_of_lt p1)
  rw [e]
  omega
 have hp:(0:Int) < 2 ^ (bl a - bl b):=Int.pow_pos (by decide)
 have h6:b * 2 ^ (bl a - bl b) < 2 ^ bl b * 2 ^ (bl a - bl b):=Int.mul_lt_mul_of_pos_right h1 hp
 rw [← Int.pow_add,show bl b + (bl a - bl b) = bl a by omega] at h6
 omega
theorem dv_step {a b r q:Int} {k:Nat} (h:DvI a b r q (k + 1)) (hb:0 < b):(b * 2 ^ k≤r→DvI a b (r - b * 2 ^ k) (q + 2 ^ k) k)∧(¬ b * 2 ^ k≤r→DvI a b r q k):=by
 obtain ⟨r0,rl,eq,q0,⟨c,hc⟩⟩:=h
 have hp:(0:Int) < 2 ^ k:=Int.pow_pos (by decide)
 have e2:b * 2 ^ (k + 1) = b * 2 ^ k + b * 2 ^ k:=by rw [Int.pow_succ,← Int.mul_assoc]; omega
 have e3:(2:Int) ^ (k + 1) * c = 2 ^ k * (2 * c):=by rw [Int.pow_succ,Int.mul_assoc]
 rw [e2] at rl
 refine ⟨fun hle=>⟨by omega,by omega,?_,by omega,⟨2 * c + 1,?_⟩⟩,fun hle=>⟨r0,by omega,eq,q0,⟨2 * c,by rw [hc,e3]⟩⟩⟩
 ·rw [Int.add_mul,Int.mul_comm (2 ^ k) b]; omega
 ·rw [hc,e3,Int.mul_add,Int.mul_one]
theorem dv_end {a b r q:Int} (h:DvI a b r q 0) (hb:0 < b):q = a / b∧r = a % b:=by
 obtain ⟨r0,rl,eq,q0,-⟩:=h
 rw [Int.pow_zero,Int.mul_one] at rl
 have e1:a / b = q:=by
  rw [← eq,Int.mul_comm,Int.add_comm,Int.add_mul_ediv_left _ _ (Int.ne_of_gt hb),Int.ediv_eq_zero_of_lt r0 rl]; omega
 have e2:a % b = r:=by
  rw [← eq,Int.mul_comm,Int.add_comm,Int.add_mul_emod_self_left,Int.emod_eq_of_lt r0 rl]
 exact ⟨e1.symm,e2.symm⟩
theorem dv_small {a b:Int} (ha:0≤a) (hb:0 < b) (h:bl a < bl b):a / b = 0∧a % b = a:=by
 have h1:=bl_lt ha
 have h2:=bl_le hb
 have h3:(2:Int) ^ bl a≤2 ^ (bl b - 1):=by
  have:(2:Nat) ^ bl a≤2 ^ (bl b - 1):=Nat.pow_le_pow_right (by decide) (by omega)
  exact_mod_cast this
 have hlt:a < b:=by omega
 exact ⟨Int.ediv_eq_zero_of_lt ha hlt,Int.emod_eq_of_lt ha hlt⟩
theorem word_dvd {q x lo hi:Int} {w k:Nat} (hk:k < 64) (hq:q = lo + 2 ^ (64 * w) * (x + 18446744073709551616 * hi)) (hl:0≤lo) (hlo:lo < 2 ^ (64 * w)) (h:(2 ^ (64 * w + k + 1):Int) ∣ q):(2 ^ (k + 1):Int) ∣ x:=by
 obtain ⟨c,hc⟩:=h
 have hp:(0:Int) < 2 ^ (64 * w):=Int.pow_pos (by decide)
 have e1:(2 ^ (64 * w + k + 1):Int) = 2 ^ (64 * w) * 2 ^ (k + 1):=by rw [← Int.pow_add]; congr 1
 have e2:(18446744073709551616:Int) = 2 ^ (k + 1) * 2 ^ (63 - k):=by rw [← Int.pow_add,show k + 1 + (63 - k) = 64 by omega]; rfl
 rw [e1,Int.mul_assoc] at hc
 have e3:lo = 2 ^ (64 * w) * (2 ^ (k + 1) * c - (x + 18446744073709551616 * hi)):=by rw [Int.mul_sub,← hc,hq]; omega
 have e4:2 ^ (k + 1) * c - (x + 18446744073709551616 * hi) = 0:=by
  generalize 2 ^ (k + 1) * c - (x + 18446744073709551616 * hi) = d at *
  rcases Int.lt_trichotomy d 0 with h | h | h
  ·have:=Int.mul_neg_of_pos_of_neg hp h; omega
  ·exact h
  ·have:2 ^ (64 * w) * 1≤2 ^ (64 * w) * d:=Int.mul_le_mul_of_nonneg_left (by omega) (Int.le_of_lt hp)
   omega
 rw [e2] at e4
 refine ⟨c - 2 ^ (63 - k) * hi,?_⟩
 rw [Int.mul_sub,← Int.mul_assoc]
 omega
end Go.Proofs.Ytncmmbacoknefaa

/- DvR: Plain facts for the division of lists of words. -/
namespace Go.Proofs.Ytncmmbacoknefaa
open Go
set_option linter.unusedVariables false
set_option linter.unusedSimpArgs false
theorem pw_two (k:Nat):pw k = 2 ^ (64 * k):=by
 induction k with
 | zero=>rfl
 | succ k ih=>rw [pw_succ,ih,Nat.mul_succ,Int.pow_add,Int.mul_comm]; rfl
theorem getD_set_eq (l:List Int) (k:Nat) (x:Int) (h:k < l.length):(l.set k x).getD k 0 = x:=by
 rw [List.getD_eq_getElem?_getD,List.getElem?_set_self (by simpa using h)]; rfl
theorem getD_set_ne' (l:List Int) (k j:Nat) (x:Int) (h:k≠j):(l.set k x).getD j 0 = l.getD j 0:=by
 rw [List.getD_eq_getElem?_getD,List.getD_eq_getElem?_getD,List.getElem?_set_ne h]
theorem set_self_D (l:List Int) (k:Nat) (h:k < l.length):l.set k (l.getD k 0) = l:=by
 refine VL_same (by rw [List.length_set]) fun j=>?_
 by_cases e:k = j
 ·subst e; rw [getD_set_eq _ _ _ h]
 ·rw [getD_set_ne' _ _ _ _ e]
theorem drop_D (l:List Int) (k:Nat) (h:k < l.length):l.drop k = l.getD k 0 :: l.drop (k + 1):=by
 rw [List.drop_eq_getElem_cons h,List.getD_eq_getElem?_getD,List.getElem?_eq_getElem h]; rfl
theorem VL_at (l:List Int) (k:Nat) (h:k < l.length):VL l = TV l k + pw k * (l.getD k 0 + 18446744073709551616 * VL (l.drop (k + 1))):=by
 have e:=VL_split l k
 rw [Nat.min_eq_left (Nat.le_of_lt h),drop_D l k h] at e
 exact e
theorem TV_bound {l:List Int} (h:Ws l) (k:Nat) (hk:k≤l.length):0≤TV l k∧TV l k < pw k:=by
 have h1:=VL_nonneg (h.take k)
 have h2:=VL_lt (h.take k)
 rw [List.length_take,Nat.min_eq_left hk] at h2
 exact ⟨h1,h2⟩
theorem size_wl {m:Int} (h:0 < m):64 * ((wl m).length - 1) + Go.Lib.bitLen ((wl m).getD ((wl m).length - 1) 0).toNat = bl m:=by
 obtain ⟨k,hk,e,hz,hl⟩:=wl_VL (wl_words m)
 rw [VL_wl (Int.le_of_lt h)] at e
 have hne:=wl_ne h
 have hpos:0 < (wl m).length:=List.length_pos_iff.2 hne
 have hlen:(wl m).length = k:=by
  have:=congrArg List.length e
  rw [List.length_take] at this
  omega
 have hx:=hl (by omega)
 rw [← hlen] at hx
 have hw:U64 ((wl m).getD ((wl m).length - 1) 0):=(wl_words m).getD _
 have ha:=VL_at (wl m) ((wl m).length - 1) (by omega)
 have hb:=TV_bound (wl_words m) ((wl m).length - 1) (by omega)
 rw [Nat.sub_add_cancel hpos,List.drop_length,VL_wl (Int.le_of_lt h)] at ha
 have hv:VL ([]:List Int) = 0:=rfl
 rw [hv,pw_two,Int.mul_zero,Int.add_zero] at ha
 rw [pw_two] at hb
 exact (bl_word hw hx hb.1 hb.2 (by omega)).symm
def hl:List Int→List Int
 | []=>[]
 | x :: xs=>(x / 2 + 9223372036854775808 * (xs.headD 0 % 2)) :: hl xs
theorem hl_len:∀ l:List Int,(hl l).length = l.length
 | []=>rfl
 | x :: xs=>by unfold hl; rw [List.length_cons,List.length_cons,hl_len xs]
theorem hl_ws:∀ {l:List Int},Ws l→Ws (hl l)
 | [],_=>Ws.nil
 | x :: xs,h=>by
  obtain ⟨h1,h2⟩:=h.cons
  intro y hy
  unfold hl at hy
  rcases List.mem_cons.1 hy with rfl | hy
  ·obtain ⟨a,b⟩:=h1
   exact ⟨by omega,by omega⟩
  ·exact hl_ws h2 y hy
theorem VL_odd (l:List Int):VL l % 2 = l.headD 0 % 2:=by
 cases l with
 | nil=>rfl
 | cons x xs =>
  show (x + 18446744073709551616 * VL xs) % 2 = x % 2
  omega
theorem VL_hl:∀ l:List Int,VL (hl l) = VL l / 2
 | []=>rfl
 | x :: xs=>by
  have h1:=VL_hl xs
  have h2:=VL_odd xs
  show x / 2 + 9223372036854775808 * (xs.headD 0 % 2) + 18446744073709551616 * VL (hl xs) = (x + 18446744073709551616 * VL xs) / 2
  rw [h1]
  omega
theorem hl_get:∀ (l:List Int) (i:Nat),(hl l).getD i 0 = l.getD i 0 / 2 + 9223372036854775808 * (l.getD (i + 1) 0 % 2)
 | [],i=>by simp [hl]
 | x :: xs,0=>by
  unfold hl
  cases xs <;> simp
 | x :: xs,i + 1=>by
  unfold hl
  simpa using hl_get xs i
def hc (l:List Int) (i:Nat):List Int:=(hl l).take i ++ l.drop i
theorem hc_zero (l:List Int):hc l 0 = l:=by simp [hc]
theorem hc_all (l:List Int):hc l l.length = hl l:=by
 unfold hc
 rw [List.drop_length,List.append_nil,List.take_of_length_le (by rw [hl_len]; exact Nat.le_refl _)]
theorem hc_len (l:List Int) (i:Nat) (h:i≤l.length):(hc l i).length = l.length:=by
 unfold hc
 rw [List.length_append,List.length_take,List.length_drop,hl_len]; omega
theorem hc_get (l:List Int) (i j:Nat) (hi:i≤l.length) (h:i≤j):(hc l i).getD j 0 = l.getD j 0:=by
 unfold hc
 have hlen:((hl l).take i).length = i:=by rw [List.length_take,hl_len]; omega
 rw [List.getD_eq_getElem?_getD,List.getD_eq_getElem?_getD,List.getElem?_append_right (by omega),hlen,List.getElem?_drop]
 congr 2
 omega
theorem hc_low (l:List Int) (i j:Nat) (hi:i≤l.length) (h:j < i):(hc l i).getD j 0 = (hl l).getD j 0:=by
 unfold hc
 have hlen:((hl l).take i).length = i:=by rw [List.length_take,hl_len]; omega
 rw [List.getD_eq_getElem?_getD,List.getD_eq_getElem?_getD,List.getElem?_append_left (by omega),List.getElem?_take,if_pos h]
theorem hc_set (l:List Int) (i:Nat) (hi:i < l.length):(hc l i).set i ((hl l).getD i 0) = hc l (i + 1):=by
 have h1:=hc_len l i (Nat.le_of_lt hi)
 have h2:=hc_len l (i + 1) hi
 refine VL_same (by rw [List.length_set,h1,h2]) fun j=>?_
 by_cases e:i = j
 ·subst e
  rw [getD_set_eq _ _ _ (by omega),hc_low l (i + 1) i hi (Nat.lt_succ_self _)]
 ·rw [getD_set_ne' _ _ _ _ e]
  rcases Nat.lt_or_gt_of_ne e with h | h
  ·rw [hc_get l i j (Nat.le_of_lt hi) (Nat.le_of_lt h),hc_get l (i + 1) j hi h]
  ·rw [hc_low l i j (Nat.le_of_lt hi) h,hc_low l (i + 1) j hi (by omega)]
structure UpI (ws out:List Int) (k s i:Nat):Prop where
 len:out.length = ws.length + k + 1
 wd:Ws out
 vl:VL out = TV ws i * (pw k * 2 ^ s)
 hi:∀ j,i + k < j→out.getD j 0 = 0
 at_:out.getD (i + k) 0 < 2 ^ s
theorem up_start (ws:List Int) (k s:Nat):UpI ws (List.replicate (ws.length + k + 1) 0) k s 0:=by
 have hz:∀ j,(List.replicate (ws.length + k + 1) (0:Int)).getD j 0 = 0:=fun j=>by
  rw [List.getD_eq_getElem?_getD,List.getElem?_replicate]
  split <;> rfl
 refine ⟨by simp,Ws.zeros _,by rw [VL_zeros,TV_zero,Int.zero_mul],fun j _=>hz j,?_⟩
 rw [hz]; exact Int.pow_pos (by decide)
theorem up_step {ws out:List Int} {k s i:Nat} {t u:Int} (h:UpI ws out k s i) (hi:i < ws.length) (hs:s < 64) (ht:U64 t) (hd:(2 ^ s:Int) ∣ t) (u0:0≤u) (us:u < 2 ^ s) (hx:ws.getD i 0 * 2 ^ s = 18446744073709551616 * u + t) :
  IntKind.u64.wrap ((BitVec.ofInt IntKind.u64.bits (out.getD (i + k) 0) ||| BitVec.ofInt IntKind.u64.bits t).toNat:Int) = out.getD (i + k) 0 + t∧U64 (out.getD (i + k) 0 + t)∧U64 u ∧
  (out.set (i + k) (out.getD (i + k) 0 + t)).getD (i + k + 1) 0 = 0∧UpI ws ((out.set (i + k) (out.getD (i + k) 0 + t)).set (i + k + 1) u) k s (i + 1):=by
 obtain ⟨len,wd,vl,hz,ha⟩:=h
 have hw:=wd.getD (i + k)
 obtain ⟨e1,-,e2⟩:=or_add s hw ht ha hd
 have hp:=pow63 hs
 have hu:U64 u:=⟨u0,by omega⟩
 have hlt:i + k < out.length:=by omega
 have hn:(out.set (i + k) (out.getD (i + k) 0 + t)).getD (i + k + 1) 0 = 0:=by rw [getD_set_ne' _ _ _ _ (by omega)]; exact hz _ (by omega)
 refine ⟨e1,e2,hu,hn,⟨by simp [len],(wd.set e2 _).set hu _,?_,fun j hj=>?_,?_⟩⟩
 ·rw [VL_set _ _ (by rw [List.length_set]; omega),VL_set _ _ hlt,hn,vl,TV_succ,Int.add_mul,pw_succ,pw_add]
  have e3:pw i * ws.getD i 0 * (pw k * 2 ^ s) = (pw i * pw k) * (ws.getD i 0 * 2 ^ s):=by
   rw [Int.mul_assoc,Int.mul_assoc,Int.mul_left_comm (ws.getD i 0)]
  rw [e3,hx,Int.mul_add]
  have e4:pw i * pw k * (18446744073709551616 * u) = 18446744073709551616 * (pw i * pw k) * (u - 0):=by rw [Int.sub_zero,Int.mul_left_comm,Int.mul_assoc,Int.mul_assoc,Int.mul_assoc]
  have e5:pw i * pw k * (out.getD (i + k) 0 + t - out.getD (i + k) 0) = pw i * pw k * t:=by congr 1; omega
  rw [e4,e5]
  omega
 ·rw [getD_set_ne' _ _ _ _ (by omega),getD_set_ne' _ _ _ _ (by omega)]
  exact hz j (by omega)
 ·rw [show i + 1 + k = i + k + 1 by omega,getD_set_eq _ _ _ (by rw [List.length_set]; omega)]
  exact us
theorem up_end {ws out:List Int} {k s:Nat} (h:UpI ws out k s ws.length):VL out = VL ws * 2 ^ (64 * k + s):=by
 rw [h.vl,TV_all _ _ (Nat.le_refl _),pw_two,← Int.pow_add]
theorem q_bit {q:List Int} {m w j:Nat} (hw:Ws q) (hm:m = 64 * w + j) (hj:j < 64) (hl:w < q.length) (hd:(2 ^ (m + 1):Int) ∣ VL q) :
  IntKind.u64.wrap ((BitVec.ofInt IntKind.u64.bits (q.getD w 0) ||| BitVec.ofInt IntKind.u64.bits (2 ^ j)).toNat:Int) = q.getD w 0 + 2 ^ j∧U64 (q.getD w 0 + 2 ^ j)∧VL (q.set w (q.getD w 0 + 2 ^ j)) = VL q + 2 ^ m:=by
 have hp:=pow63 hj
 have h0:(0:Int) < 2 ^ j:=Int.pow_pos (by decide)
 have hb:=TV_bound hw w (Nat.le_of_lt hl)
 have ha:=VL_at q w hl
 rw [pw_two] at ha hb
 have hx:=word_dvd hj ha hb.1 hb.2 (by rw [← hm]; exact hd)
 obtain ⟨a,b,c⟩:=or_add (j + 1) (⟨by omega,by omega⟩:U64 ((2:Int) ^ j)) (hw.getD w) (by rw [Int.pow_succ]; omega) hx
 refine ⟨by rw [b]; omega,by rw [Int.add_comm]; exact c,?_⟩
 rw [VL_set _ _ hl,pw_two,hm,Int.pow_add]
 congr 1
 congr 1
 omega
structure D1I (ws qs:List Int) (y:Int) (r:Int) (i:Nat):Prop where
 len:qs.length = ws.length
 wd:Ws qs
 eq:VL (ws.drop i) = VL (qs.drop i) * y + r
 r0:0≤r
 rl:r < y
theorem d1_start (ws:List Int) {y:Int} (hy:0 < y):D1I ws (List.replicate ws.length 0) y 0 ws.length:=by
 refine ⟨by simp,Ws.zeros _,?_,Int.le_refl _,hy⟩
 rw [List.drop_length,List.drop_of_length_le (by simp)]
 show (0:Int) = 0 * y + 0
 omega
theorem d1_step {ws qs:List Int} {y r:Int} {m:Nat} (h:D1I ws qs y r (m + 1)) (hw:Ws ws) (hy:U64 y) (hm:m < ws.length) :
  U64 ((r * 18446744073709551616 + ws.getD m 0) / y)∧D1I ws (qs.set m ((r * 18446744073709551616 + ws.getD m 0) / y)) y ((r * 18446744073709551616 + ws.getD m 0) % y) m:=by
 obtain ⟨len,wd,eq,r0,rl⟩:=h
 obtain ⟨x0,x1⟩:=hw.getD m
 have hy0:0 < y:=by omega
 have e1:=Int.mul_ediv_add_emod (r * 18446744073709551616 + ws.getD m 0) y
 have e2:=Int.emod_nonneg (r * 18446744073709551616 + ws.getD m 0) (Int.ne_of_gt hy0)
 have e3:=Int.emod_lt_of_pos (r * 18446744073709551616 + ws.getD m 0) hy0
 have q0:0≤(r * 18446744073709551616 + ws.getD m 0) / y:=Int.ediv_nonneg (by omega) (by omega)
 have q1:(r * 18446744073709551616 + ws.getD m 0) / y < 18446744073709551616:=by
  refine Int.ediv_lt_of_lt_mul hy0 ?_
  have:r * 18446744073709551616≤(y - 1) * 18446744073709551616:=Int.mul_le_mul_of_nonneg_right (by omega) (by decide)
  omega
 generalize (r * 18446744073709551616 + ws.getD m 0) / y = q at *
 generalize (r * 18446744073709551616 + ws.getD m 0) % y = r' at *
 have hu:U64 q:=⟨q0,by omega⟩
 refine ⟨hu,⟨by rw [List.length_set]; exact len,wd.set hu m,?_,e2,e3⟩⟩
 rw [drop_D ws m hm,drop_D (qs.set m q) m (by rw [List.length_set]; omega),getD_set_eq _ _ _ (by omega),List.drop_set_of_lt (by omega)]
 show ws.getD m 0 + 18446744073709551616 * VL (ws.drop (m + 1)) = (q + 18446744073709551616 * VL (qs.drop (m + 1))) * y + r'
 rw [eq,Int.add_mul,Int.mul_add,Int.mul_assoc]
 have:q * y = y * q:=Int.mul_comm _ _
 omega
theorem d1_end {ws qs:List Int} {y r:Int} (h:D1I ws qs y r 0) (hy:0 < y):VL qs = VL ws / y∧r = VL ws % y:=by
 obtain ⟨len,wd,eq,r0,rl⟩:=h
 rw [List.drop_zero,List.drop_zero] at eq
 have:=(Int.ediv_emod_unique hy (a:=VL ws) (q:=VL qs) (r:=r)).2 ⟨by rw [eq,Int.mul_comm]; omega,r0,rl⟩
 exact ⟨this.1.symm,this.2.symm⟩
end Go.Proofs.Ytncmmbacoknefaa

/- CdW: MADE BY PROGRAM (sxgen.py): the small code of some functions, points of it and their equations. -/
namespace Go.Proofs.Ytncmmbacoknefaa
open Go Go.RowKit Sx Sx.Q
set_option linter.unusedVariables false
variable (C:Cx) (R L1 L2 L3 L4:St→Prop)
namespace wide_length
abbrev r0:List G:=[e 1 (.box true 4 (t 0)),Mi 2 0]
abbrev q0:=[1,3]
abbrev r1:List G:=[Mi 3 3]
abbrev q1:=[1,3,5]
abbrev r2:List G:=[m 4 3,bi 5 .geq 4 0]
abbrev q2:=[1,3,11]
abbrev r4:List G:=[m 8 3,J 9 4 1 1 8,l 10 9,bu 11 .neq 10 0]
abbrev r5:List G:=[m 12 3,e 13 (.bin .mul (i 64) (t 12)),m 14 3,J 15 4 1 1 14,l 16 15,K1 17 169 16,b 18 .add 13 17,m 2 18]
abbrev r3:List G:=[m 6 3,bi 7 .sub 6 1,m 3 7]
abbrev r6:List G:=[Mi 2 0]
abbrev c:MC:=sq [g r0 [1],sq [g r1 q0,.block 0 (.loop (sq [sq [g r2 q1,ci 5 .skip (.exit 0)],.block 1 (sq [g r4 q2,ci 11 (sq [g r5 [2],.ret]) .skip]),g r3 q0]))],g r6 [2],.ret]
theorem ok:compF Try.prog Try.f183 (an [0,1,2,4,5,3,6] c []) = some (19,c,[(2,none)]):=by kernel_rfl
abbrev p1:=P C r6 [2] R
abbrev p3:=P C r3 q0 L1
abbrev p5:=P C r5 [2] R
abbrev p4:=cd (t 11) (p5 C R) (p3 C L1)
abbrev p6:=P C r4 q2 (p4 C R L1)
abbrev p7:=cd (t 5) (p6 C R L1) (p1 C R)
abbrev p8:=P C r2 q1 (p7 C R L1)
def p2 (S:St):Prop:=LX C (fun L1=>(p8 C R L1)) S
theorem p2_l (S:St):p2 C R S = LX C (fun L1=>(p8 C R L1)) S:=rfl
abbrev p9:=P C r1 q0 (p2 C R)
abbrev p10:=P C r0 [1] (p9 C R)
theorem s (S:St):X C c (retK R) S = p10 C R S:=by kernel_rfl
theorem E:type_of% @s:=@s
end wide_length
namespace wide_left
abbrev q0:=[1,2,4]
abbrev r0:List G:=[e 2 (.box true 4 (t 0)),e 4 (.new [.int .u64 0,.int .u64 0,.int .u64 0,.int .u64 0])]
abbrev q1:=[2,4,5,6]
abbrev r1:List G:=[m 8 1,bi 9 .quo 8 64,m 10 1,bi 11 .rem 10 64,m 5 9,m 6 11]
abbrev q2:=[2,4,5,6,7]
abbrev r2:List G:=[m 12 5,m 7 12]
abbrev q3:=[2,4,5,6,7,14]
abbrev r3:List G:=[m 13 7,bi 14 .lss 13 4]
abbrev r5:List G:=[m 17 7,m 18 7,m 19 5,b 20 .sub 18 19,J 21 4 1 2 20,l 22 21,m 23 6,b 24 .shl 22 23,J 25 4 1 4 17,v 25 24]
abbrev q4:=[2,4,5,6,7,32]
abbrev r6:List G:=[m 26 6,bi 27 .gtr 26 0,m 28 27,ym 29 28 7,ym 30 28 5,y 31 28 (.bin .gtr (t 29) (t 30)),w 32 28 31]
abbrev r7:List G:=[m 33 7,J 34 4 1 4 33,l 35 34,m 36 7,m 37 5,b 38 .sub 36 37,bi 39 .sub 38 1,J 40 4 1 2 39,l 41 40,m 42 6,e 43 (.bin .sub (i 64) (t 42)),b 44 .shr 41 43,b 45 .or 35 44,J 46 4 1 4 33]
abbrev t7:List G:=[v 46 45]
abbrev r4:List G:=[m 15 7,bi 16 .add 15 1,m 7 16]
abbrev r8:List G:=[L 47 4 4,V 4 4 47]
abbrev c:MC:=sq [g r0 q0,g r1 q1,sq [g r2 q2,.block 0 (.loop (sq [sq [g r3 q3,ci 14 .skip (.exit 0)],.block 1 (sq [g r5 q2,g r6 q4,ci 32 (gd r7 t7 q2) .skip]),g r4 q2]))],g r8 [4],.ret]
theorem ok:compF Try.prog Try.f184 (an [0,1,2,3,5,6,7,4,8] c [(7,14,[],(up 14),[])]) = some (48,c,[(4,some (true,4))]):=by kernel_rfl
abbrev p1:=P C r8 [4] R
abbrev p3:=P C r4 q2 L1
abbrev p5:=Pd C r7 t7 q2 (p3 C L1)
abbrev p4:=cd (t 32) (p5 C L1) (p3 C L1)
abbrev p6:=P C r6 q4 (p4 C L1)
abbrev p7:=P C r5 q2 (p6 C L1)
abbrev p8:=cd (t 14) (p7 C L1) (p1 C R)
abbrev p9:=P C r3 q3 (p8 C R L1)
def p2 (S:St):Prop:=LX C (fun L1=>(p9 C R L1)) S
theorem p2_l (S:St):p2 C R S = LX C (fun L1=>(p9 C R L1)) S:=rfl
abbrev p10:=P C r2 q2 (p2 C R)
abbrev p11:=P C r1 q1 (p10 C R)
abbrev p12:=P C r0 q0 (p11 C R)
theorem s (S:St):X C c (retK R) S = p12 C R S:=by kernel_rfl
theorem E:type_of% @s:=@s
end wide_left
namespace wide_halved
abbrev q0:=[1,2]
abbrev r0:List G:=[e 1 (.box true 4 (t 0)),e 2 (.new [.int .u64 0,.int .u64 0,.int .u64 0,.int .u64 0])]
abbrev q1:=[1,2,4]
abbrev r1:List G:=[Mi 4 0]
abbrev q2:=[1,2,4,5]
abbrev r2:List G:=[bi 5 .lss 4 4]
abbrev q3:=[1,2,3,4]
abbrev r3:List G:=[m 6 4,m 3 6]
abbrev r4:List G:=[m 7 3,m 8 3,J 9 4 1 1 8,l 10 9,bu 11 .shr 10 1,J 12 4 1 2 7,v 12 11]
abbrev q4:=[1,2,3,4,14]
abbrev r5:List G:=[m 13 3,bi 14 .lss 13 3]
abbrev r6:List G:=[m 15 3,J 16 4 1 2 15,l 17 16,m 18 3,bi 19 .add 18 1,J 20 4 1 1 19,l 21 20,bu 22 .shl 21 63,b 23 .or 17 22,J 24 4 1 2 15]
abbrev t6:List G:=[v 24 23]
abbrev r7:List G:=[bi 25 .add 4 1,m 4 25]
abbrev r8:List G:=[L 26 4 2,V 4 2 26]
abbrev c:MC:=sq [g r0 q0,sq [g r1 q1,.block 0 (.loop (sq [g r2 q2,ci 5 .skip (.exit 0),.block 1 (sq [g r3 q3,g r4 q3,g r5 q4,ci 14 (gd r6 t6 q1) .skip]),g r7 q1]))],g r8 [2],.ret]
theorem ok:compF Try.prog Try.f185 (an (rg 9) c [(6,10,[],(up 10),[])]) = some (27,c,[(2,some (true,4))]):=by kernel_rfl
abbrev p1:=P C r8 [2] R
abbrev p3:=P C r7 q1 L1
abbrev p5:=Pd C r6 t6 q1 (p3 C L1)
abbrev p4:=cd (t 14) (p5 C L1) (p3 C L1)
abbrev p6:=P C r5 q4 (p4 C L1)
abbrev p7:=P C r4 q3 (p6 C L1)
abbrev p8:=P C r3 q3 (p7 C L1)
abbrev p9:=cd (t 5) (p8 C L1) (p1 C R)
abbrev p10:=P C r2 q2 (p9 C R L1)
def p2 (S:St):Prop:=LX C (fun L1=>(p10 C R L1)) S
theorem p2_l (S:St):p2 C R S = LX C (fun L1=>(p10 C R L1)) S:=rfl
abbrev p11:=P C r1 q1 (p2 C R)
abbrev p12:=P C r0 q0 (p11 C R)
theorem s (S:St):X C c (retK R) S = p12 C R S:=by kernel_rfl
theorem E:type_of% @s:=@s
end wide_halved
namespace wide_div
abbrev q0:=[2,3,4,5]
abbrev r0:List G:=[e 2 (.box true 4 (t 0)),e 3 (.box true 4 (t 1)),e 4 (.new [.int .u64 0,.int .u64 0,.int .u64 0,.int .u64 0]),e 5 (.new [.int .u64 0,.int .u64 0,.int .u64 0,.int .u64 0])]
abbrev q1:=[2,3,4,5,6]
abbrev r1:List G:=[L 8 4 2,k1 9 183 8,L 10 4 3,k1 11 183 10,b 12 .sub 9 11]
abbrev t1:List G:=[m 6 12]
abbrev q2:=[2,3,4,5,6,14]
abbrev r2:List G:=[m 13 6,bi 14 .lss 13 0]
abbrev q3:=[4,5]
abbrev o3:List (List G):=[[L 15 4 4,L 16 4 2,V 4 4 15,V 4 5 16],[L 15 4 4,V 4 4 15,L 16 4 2,V 4 5 16],[L 16 4 2,L 15 4 4,V 4 4 15,V 4 5 16]]
abbrev q4:=[2,4,5,6,7]
abbrev r4:List G:=[L 17 4 3,m 18 6,K2 19 184 17 18,e 7 (.new [.int .u64 0,.int .u64 0,.int .u64 0,.int .u64 0]),V 4 7 19]
abbrev q5:=[2,4,5,6,7,21]
abbrev r5:List G:=[m 20 6,bi 21 .geq 20 0]
abbrev q6:=[2,4,5,6,7,27]
abbrev r7:List G:=[L 24 4 2,L 25 4 7,K2 26 141 24 25,bi 27 .geq 26 0]
abbrev r8:List G:=[L 28 4 2,L 29 4 7,K2 30 142 28 29,V 4 2 30]
abbrev r9:List G:=[m 31 6,bi 32 .quo 31 64,J 33 4 1 4 32,l 34 33,m 35 6,bi 36 .rem 35 64,e 37 (.bin .shl (u 1) (t 36)),b 38 .or 34 37,J 39 4 1 4 32]
abbrev t9:List G:=[v 39 38]
abbrev r10:List G:=[L 40 4 7,K1 41 185 40,V 4 7 41]
abbrev r6:List G:=[m 22 6,bi 23 .sub 22 1,m 6 23]
abbrev o11:List (List G):=[[L 42 4 4,L 43 4 2,V 4 4 42,V 4 5 43],[L 42 4 4,V 4 4 42,L 43 4 2,V 4 5 43],[L 43 4 2,L 42 4 4,V 4 4 42,V 4 5 43]]
abbrev c:MC:=sq [g r0 q0,gd r1 t1 q1,sq [g r2 q2,ci 14 (sq [ga [] o3 q3,.ret]) .skip],g r4 q4,.block 0 (.loop (sq [sq [g r5 q5,ci 21 .skip (.exit 0)],.block 1 (sq [sq [g r7 q6,ci 27 (sq [g r8 q4,gd r9 t9 q4]) .skip],g r10 q4]),g r6 q4])),ga [] o11 q3,.ret]
theorem ok:compF Try.prog Try.f173 (an [0,1,2,3,4,5,7,8,9,10,6,11] c [(1,5,[],(up 5),[]),(3,99999,[],[],[]),(9,9,[],(up 9),[]),(11,99999,[],[],[])]) = some (44,c,[(4,some (true,4)),(5,some (true,4))]):=by kernel_rfl
abbrev p1:=Pa C [] o11 q3 R
abbrev p3:=P C r6 q4 L1
abbrev p4:=P C r10 q4 (p3 C L1)
abbrev p6:=Pd C r9 t9 q4 (p4 C L1)
abbrev p7:=P C r8 q4 (p6 C L1)
abbrev p5:=cd (t 27) (p7 C L1) (p4 C L1)
abbrev p8:=P C r7 q6 (p5 C L1)
abbrev p9:=cd (t 21) (p8 C L1) (p1 C R)
abbrev p10:=P C r5 q5 (p9 C R L1)
def p2 (S:St):Prop:=LX C (fun L1=>(p10 C R L1)) S
theorem p2_l (S:St):p2 C R S = LX C (fun L1=>(p10 C R L1)) S:=rfl
abbrev p11:=P C r4 q4 (p2 C R)
abbrev p13:=Pa C [] o3 q3 R
abbrev p12:=cd (t 14) (p13 C R) (p11 C R)
abbrev p14:=P C r2 q2 (p12 C R)
abbrev p15:=Pd C r1 t1 q1 (p14 C R)
abbrev p16:=P C r0 q0 (p15 C R)
theorem s (S:St):X C c (retK R) S = p16 C R S:=by kernel_rfl
theorem E:type_of% @s:=@s
end wide_div
namespace wide_DivMod
abbrev q0:=[2,3,4,5]
abbrev r0:List G:=[e 2 (.box true 5 (t 0)),e 3 (.box true 5 (t 1)),e 4 (.new zW),e 5 (.new zW),Mb 6 false]
abbrev r1:List G:=[L 9 5 2,k1 10 138 9,L 11 5 3,k1 12 138 11]
abbrev t1:List G:=[V 5 2 10,V 5 3 12]
abbrev q1:=[2,3,4,5,15]
abbrev r2:List G:=[L 13 5 3,K1 14 87 13,bi 15 .eql 14 0]
abbrev q2:=[4,5,6]
abbrev r3:List G:=[L 16 5 4,L 17 5 5]
abbrev t3:GT:=.br none none (.st true 5 (t 4) (t 16)) (.br none none (.st true 5 (t 5) (t 17)) (br 6 (.mv bf) .fin .no) .no) .no
abbrev q3:=[2,3,4,5,7,8]
abbrev r4:List G:=[a 19 1 2,L 20 4 19,a 21 1 3,L 22 4 21,K2 23 173 20 22,m 18 23,x 24 18 0,x 25 18 1,e 7 (.new [.int .u64 0,.int .u64 0,.int .u64 0,.int .u64 0]),e 8 (.new [.int .u64 0,.int .u64 0,.int .u64 0,.int .u64 0]),V 4 7 24,V 4 8 25]
abbrev q4:=[2,3,4,5,7,8,32]
abbrev r5:List G:=[a 26 0 2,l 27 26,m 28 27,y 29 28 (.ld true 4 (t 8)),y 30 28 (.bd [.int .u64 0,.int .u64 0,.int .u64 0,.int .u64 0] []),y 31 28 (.eqg true 36 (t 29) (t 30)),w 32 28 31]
abbrev r6:List G:=[L 34 4 7,e 35 (.bd [.int .u64 0,.int .u64 0,.int .u64 0,.int .u64 0] [(0,1,(u 1))]),K2 36 139 34 35,m 33 36,x 37 33 0,x 38 33 1,V 4 7 37]
abbrev r7:List G:=[a 39 1 3,L 40 4 39,L 41 4 8,K2 42 142 40 41,V 4 8 42]
abbrev r8:List G:=[a 43 0 2,l 44 43,a 45 0 3,l 46 45,e 47 (.bq true (t 44) (t 46)),L 48 4 7,k2 49 140 47 48,L 50 4 8,e 51 (.call true 140 [bf,(t 50)])]
abbrev t8:List G:=[V 5 4 49,V 5 5 51,Mb 6 true]
abbrev c:MC:=sq [g r0 q0,gd r1 t1 q0,sq [g r2 q1,ci 15 (sq [gh r3 t3 [4,5] q2,.ret]) .skip],g r4 q3,sq [g r5 q4,ci 32 (sq [g r6 q3,g r7 q3]) .skip],gd r8 t8 q2,.ret]
theorem ok:compF Try.prog Try.f145 (an (rg 9) c [(1,4,[],(up 4),[]),(3,99998,[0,1],[],[4,5]),(8,9,[],(up 9),[])]) = some (52,c,[(4,some (true,5)),(5,some (true,5)),(6,none)]):=by kernel_rfl
abbrev p1:=Pd C r8 t8 q2 R
abbrev p3:=P C r7 q3 (p1 C R)
abbrev p4:=P C r6 q3 (p3 C R)
abbrev p2:=cd (t 32) (p4 C R) (p1 C R)
abbrev p5:=P C r5 q4 (p2 C R)
abbrev p6:=P C r4 q3 (p5 C R)
abbrev p8:=Ph C r3 t3 [4,5] q2 R
abbrev p7:=cd (t 15) (p8 C R) (p6 C R)
abbrev p9:=P C r2 q1 (p7 C R)
abbrev p10:=Pd C r1 t1 q0 (p9 C R)
abbrev p11:=P C r0 q0 (p10 C R)
theorem s (S:St):X C c (retK R) S = p11 C R S:=by kernel_rfl
theorem E:type_of% @s:=@s
end wide_DivMod
namespace wide_Sign
abbrev r0:List G:=[e 1 (.box true 5 (t 0)),Mi 2 0]
abbrev r1:List G:=[L 3 5 1,K1 4 138 3,V 5 1 4]
abbrev q0:=[1,5]
abbrev r2:List G:=[a 6 0 1,l 7 6,m 5 7]
abbrev r3:List G:=[Mi 2 (-1)]
abbrev r4:List G:=[a 9 1 1,L 10 4 9,e 11 (.bd [.int .u64 0,.int .u64 0,.int .u64 0,.int .u64 0] []),e 12 (.eqg false 36 (t 10) (t 11)),m 8 12]
abbrev r5:List G:=[Mi 2 0]
abbrev r6:List G:=[Mi 2 1]
abbrev c:MC:=sq [g r0 [1],g r1 [1],.block 0 (sq [g r2 q0,ci 5 (sq [g r3 [2],.ret]) (sq [g r4 [8],ci 8 (sq [g r5 [2],.ret]) .skip])]),g r6 [2],.ret]
theorem ok:compF Try.prog Try.f87 (an (rg 7) c []) = some (13,c,[(2,none)]):=by kernel_rfl
abbrev p1:=P C r6 [2] R
abbrev p3:=P C r3 [2] R
abbrev p5:=P C r5 [2] R
abbrev p4:=cd (t 8) (p5 C R) (p1 C R)
abbrev p6:=P C r4 [8] (p4 C R)
abbrev p2:=cd (t 5) (p3 C R) (p6 C R)
abbrev p7:=P C r2 q0 (p2 C R)
abbrev p8:=P C r1 [1] (p7 C R)
abbrev p9:=P C r0 [1] (p8 C R)
theorem s (S:St):X C c (retK R) S = p9 C R S:=by kernel_rfl
theorem E:type_of% @s:=@s
end wide_Sign
namespace wide_Compare
abbrev q0:=[2,3]
abbrev r0:List G:=[e 2 (.box true 5 (t 0)),e 3 (.box true 5 (t 1)),Mi 4 0]
abbrev r1:List G:=[L 5 5 2,k1 6 138 5,L 7 5 3,k1 8 138 7]
abbrev t1:List G:=[V 5 2 6,V 5 3 8]
abbrev q1:=[2,3,9]
abbrev r2:List G:=[a 10 0 2,l 11 10,m 12 11,ya 13 12 0 3,yl 14 12 13,w 15 12 14,m 9 15]
abbrev r3:List G:=[a 16 1 3,L 17 4 16,a 18 1 2,L 19 4 18,K2 20 141 17 19,m 4 20]
abbrev q2:=[2,3,21]
abbrev r4:List G:=[a 22 0 2,l 23 22,m 21 23]
abbrev r5:List G:=[Mi 4 (-1)]
abbrev q3:=[2,3,24]
abbrev r6:List G:=[a 25 0 3,l 26 25,m 24 26]
abbrev r7:List G:=[Mi 4 1]
abbrev r8:List G:=[a 27 1 2,L 28 4 27,a 29 1 3,L 30 4 29,K2 31 141 28 30,m 4 31]
abbrev c:MC:=sq [g r0 q0,gd r1 t1 q0,.block 0 (sq [g r2 q1,ci 9 (sq [g r3 [4],.ret]) (sq [g r4 q2,ci 21 (sq [g r5 [4],.ret]) (sq [g r6 q3,ci 24 (sq [g r7 [4],.ret]) .skip])])]),g r8 [4],.ret]
theorem ok:compF Try.prog Try.f159 (an (rg 9) c [(1,4,[],(up 4),[])]) = some (32,c,[(4,none)]):=by kernel_rfl
abbrev p1:=P C r8 [4] R
abbrev p3:=P C r3 [4] R
abbrev p5:=P C r5 [4] R
abbrev p7:=P C r7 [4] R
abbrev p6:=cd (t 24) (p7 C R) (p1 C R)
abbrev p8:=P C r6 q3 (p6 C R)
abbrev p4:=cd (t 21) (p5 C R) (p8 C R)
abbrev p9:=P C r4 q2 (p4 C R)
abbrev p2:=cd (t 9) (p3 C R) (p9 C R)
abbrev p10:=P C r2 q1 (p2 C R)
abbrev p11:=Pd C r1 t1 q0 (p10 C R)
abbrev p12:=P C r0 q0 (p11 C R)
theorem s (S:St):X C c (retK R) S = p12 C R S:=by kernel_rfl
theorem E:type_of% @s:=@s
end wide_Compare
namespace math_bits_Div64
abbrev q0:=[0,1,2]
abbrev r0:List G:=[e 6 (.mv (u 0)),e 7 (.mv (u 0))]
abbrev q1:=[0,1,2,20]
abbrev r1:List G:=[m 19 2,bu 20 .eql 19 0]
abbrev r2:List G:=[e 21 (.ld false 1 (.global 0)),z .trap]
abbrev q2:=[0,1,2,24]
abbrev r3:List G:=[m 22 2,m 23 0,b 24 .leq 22 23]
abbrev r4:List G:=[e 25 (.ld false 1 (.global 1)),z .trap]
abbrev q3:=[0,1,2,27]
abbrev r5:List G:=[m 26 0,bu 27 .eql 26 0]
abbrev q4:=[6,7]
abbrev r6:List G:=[m 28 1,m 29 2,b 30 .quo 28 29,m 31 1,m 32 2,b 33 .rem 31 32]
abbrev t6:List G:=[m 6 30,m 7 33]
abbrev q5:=[0,1,2,8]
abbrev r7:List G:=[m 34 2,K1 35 168 34,e 36 (.cv .u64 (t 35)),m 8 36]
abbrev r8:List G:=[m 37 2,m 38 8,b 39 .shl 37 38,m 2 39]
abbrev q6:=[0,1,2,8,9]
abbrev r9:List G:=[m 40 2,bu 41 .shr 40 32,m 9 41]
abbrev q7:=[0,1,2,8,9,10]
abbrev r10:List G:=[m 42 2,bu 43 .and 42 4294967295,m 10 43]
abbrev q8:=[1,2,8,9,10,11]
abbrev r11:List G:=[m 44 0,m 45 8,b 46 .shl 44 45,m 47 1,m 48 8,e 49 (.bin .sub (u 64) (t 48)),b 50 .shr 47 49,b 51 .or 46 50,m 11 51]
abbrev q9:=[2,8,9,10,11,12]
abbrev r12:List G:=[m 52 1,m 53 8,b 54 .shl 52 53,m 12 54]
abbrev q10:=[2,8,9,10,11,12,13]
abbrev r13:List G:=[m 55 12,bu 56 .shr 55 32,m 13 56]
abbrev q11:=[2,8,9,10,11,13,14]
abbrev r14:List G:=[m 57 12,bu 58 .and 57 4294967295,m 14 58]
abbrev q12:=[2,8,9,10,11,13,14,15]
abbrev r15:List G:=[m 59 11,m 60 9,b 61 .quo 59 60,m 15 61]
abbrev q13:=[2,8,9,10,11,13,14,15,16]
abbrev r16:List G:=[m 62 11,m 63 15,m 64 9,b 65 .mul 63 64,b 66 .sub 62 65,m 16 66]
abbrev q14:=[2,8,9,10,11,13,14,15,16,78]
abbrev r17:List G:=[m 67 15,bu 68 .geq 67 4294967296,m 69 68,nm 70 69 15,nm 71 69 10,n 72 69 (.bin .mul (t 70) (t 71)),nm 73 69 16,n 74 69 (.bin .mul (u 4294967296) (t 73)),nm 75 69 13,n 76 69 (.bin .add (t 74) (t 75)),n 77 69 (.bin .gtr (t 72) (t 76)),o 78 69 77]
abbrev r18:List G:=[m 79 15,bu 80 .sub 79 1,m 15 80]
abbrev r19:List G:=[m 81 16,m 82 9,b 83 .add 81 82,m 16 83]
abbrev q15:=[2,8,9,10,11,13,14,15,16,85]
abbrev r20:List G:=[m 84 16,bu 85 .geq 84 4294967296]
abbrev q16:=[2,8,9,10,14,15,17]
abbrev r21:List G:=[m 86 11,bu 87 .mul 86 4294967296,m 88 13,b 89 .add 87 88,m 90 15,m 91 2,b 92 .mul 90 91,b 93 .sub 89 92,m 17 93]
abbrev q17:=[2,8,9,10,14,15,17,18]
abbrev r22:List G:=[m 94 17,m 95 9,b 96 .quo 94 95,m 18 96]
abbrev q18:=[2,8,9,10,14,15,16,17,18]
abbrev r23:List G:=[m 97 17,m 98 18,m 99 9,b 100 .mul 98 99,b 101 .sub 97 100,m 16 101]
abbrev q19:=[2,8,9,10,14,15,16,17,18,113]
abbrev r24:List G:=[m 102 18,bu 103 .geq 102 4294967296,m 104 103,nm 105 104 18,nm 106 104 10,n 107 104 (.bin .mul (t 105) (t 106)),nm 108 104 16,n 109 104 (.bin .mul (u 4294967296) (t 108)),nm 110 104 14,n 111 104 (.bin .add (t 109) (t 110)),n 112 104 (.bin .gtr (t 107) (t 111)),o 113 104 112]
abbrev r25:List G:=[m 114 18,bu 115 .sub 114 1,m 18 115]
abbrev r26:List G:=[m 116 16,m 117 9,b 118 .add 116 117,m 16 118]
abbrev q20:=[2,8,9,10,14,15,16,17,18,120]
abbrev r27:List G:=[m 119 16,bu 120 .geq 119 4294967296]
abbrev r28:List G:=[m 121 15,bu 122 .mul 121 4294967296,m 123 18,b 124 .add 122 123,m 125 17,bu 126 .mul 125 4294967296,m 127 14,b 128 .add 126 127,m 129 18,m 130 2,b 131 .mul 129 130,b 132 .sub 128 131,m 133 8,b 134 .shr 132 133,m 6 124,m 7 134]
abbrev c:MC:=sq [g r0 q0,sq [g r1 q1,ci 20 (g r2 q0) .skip],sq [g r3 q2,ci 24 (g r4 q0) .skip],sq [g r5 q3,ci 27 (sq [gd r6 t6 q4,.ret]) .skip],g r7 q5,g r8 q5,g r9 q6,g r10 q7,g r11 q8,g r12 q9,g r13 q10,g r14 q11,g r15 q12,g r16 q13,.block 0 (.loop (sq [sq [g r17 q14,ci 78 .skip (.exit 0)],.block 1 (sq [g r18 q13,g r19 q13,g r20 q15,ci 85 (.exit 0) .skip])])),g r21 q16,g r22 q17,g r23 q18,.block 2 (.loop (sq [sq [g r24 q19,ci 113 .skip (.exit 2)],.block 3 (sq [g r25 q18,g r26 q18,g r27 q20,ci 120 (.exit 2) .skip])])),g r28 q4,.ret]
theorem ok:compF Try.prog Try.f130 (an (rg 29) c [(6,6,[3,4,5],(up 3 ++ [(3,2),(4,2),(5,2)]),[])]) = some (135,c,[(6,none),(7,none)]):=by kernel_rfl
abbrev p1:=P C r28 q4 R
abbrev p3:=cd (t 120) (p1 C R) L1
abbrev p4:=P C r27 q20 (p3 C R L1)
abbrev p5:=P C r26 q18 (p4 C R L1)
abbrev p6:=P C r25 q18 (p5 C R L1)
abbrev p7:=cd (t 113) (p6 C R L1) (p1 C R)
abbrev p8:=P C r24 q19 (p7 C R L1)
def p2 (S:St):Prop:=LX C (fun L1=>(p8 C R L1)) S
theorem p2_l (S:St):p2 C R S = LX C (fun L1=>(p8 C R L1)) S:=rfl
abbrev p9:=P C r23 q18 (p2 C R)
abbrev p10:=P C r22 q17 (p9 C R)
abbrev p11:=P C r21 q16 (p10 C R)
abbrev p13:=cd (t 85) (p11 C R) L1
abbrev p14:=P C r20 q15 (p13 C R L1)
abbrev p15:=P C r19 q13 (p14 C R L1)
abbrev p16:=P C r18 q13 (p15 C R L1)
abbrev p17:=cd (t 78) (p16 C R L1) (p11 C R)
abbrev p18:=P C r17 q14 (p17 C R L1)
def p12 (S:St):Prop:=LX C (fun L1=>(p18 C R L1)) S
theorem p12_l (S:St):p12 C R S = LX C (fun L1=>(p18 C R L1)) S:=rfl
abbrev p19:=P C r16 q13 (p12 C R)
abbrev p20:=P C r15 q12 (p19 C R)
abbrev p21:=P C r14 q11 (p20 C R)
abbrev p22:=P C r13 q10 (p21 C R)
abbrev p23:=P C r12 q9 (p22 C R)
abbrev p24:=P C r11 q8 (p23 C R)
abbrev p25:=P C r10 q7 (p24 C R)
abbrev p26:=P C r9 q6 (p25 C R)
abbrev p27:=P C r8 q5 (p26 C R)
abbrev p28:=P C r7 q5 (p27 C R)
abbrev p30:=Pd C r6 t6 q4 R
abbrev p29:=cd (t 27) (p30 C R) (p28 C R)
abbrev p31:=P C r5 q3 (p29 C R)
abbrev p33:=P C r4 q0 (p31 C R)
abbrev p32:=cd (t 24) (p33 C R) (p31 C R)
abbrev p34:=P C r3 q2 (p32 C R)
abbrev p36:=P C r2 q0 (p34 C R)
abbrev p35:=cd (t 20) (p36 C R) (p34 C R)
abbrev p37:=P C r1 q1 (p35 C R)
abbrev p38:=P C r0 q0 (p37 C R)
theorem s (S:St):X C c (retK R) S = p38 C R S:=by kernel_rfl
theorem E:type_of% @s:=@s
end math_bits_Div64
end Go.Proofs.Ytncmmbacoknefaa

/- LtC: wide.Compare and its reference: the order of the integers. -/
namespace Go.Proofs.Ytncmmbacoknefaa
open Go Go.ChangeShapes Go.WideShapes Go.ChangeAt Go.RowKit Sx
set_option linter.unusedVariables false
set_option linter.unusedSimpArgs false
theorem cmp_sv {p q:Bool} {m k:Int} (hm:0≤m) (hk:0≤k) (hp:p = true→0 < m) (hq:q = true→0 < k):cm (sv p m) (sv q k) = if p then (if q then cm k m else -1) else if q then 1 else cm m k:=by
 cases p <;> cases q <;> simp [sv,cm] at * <;> (repeat' split) <;> omega
theorem cn_gt {n:Bool} {a b c d:Int} (ha:U64 a) (hb:U64 b) (hc:U64 c) (hd:U64 d):cn n a b c d = true→0 < MV a b c d:=by
 intro h
 have h1:=mv_nonneg ha hb hc hd
 have h2:¬ MV a b c d = 0:=fun h0=>by
  have:=(mz_iff ha hb hc hd).2 h0
  unfold cn at h
  rw [this] at h
  simp at h
 omega
theorem cmp_wv {n n':Bool} {a b c d a' b' c' d':Int} (ha:U64 a) (hb:U64 b) (hc:U64 c) (hd:U64 d) (ha':U64 a') (hb':U64 b') (hc':U64 c') (hd':U64 d') :
  cm (wv n a b c d) (wv n' a' b' c' d') = if cn n a b c d then (if cn n' a' b' c' d' then cm4 a' b' c' d' a b c d else -1) else if cn n' a' b' c' d' then 1 else cm4 a b c d a' b' c' d':=by
 rw [wv_sv n a b c d,wv_sv n' a' b' c' d',cmp_sv (mv_nonneg ha hb hc hd) (mv_nonneg ha' hb' hc' hd') (cn_gt ha hb hc hd) (cn_gt ha' hb' hc' hd'),cm4_mv ha hb hc ha' hb' hc',cm4_mv ha' hb' hc' ha hb hc]
set_option maxHeartbeats 3000000 in
theorem compare_any (n:Bool) (a b c d:Int) (n':Bool) (a' b' c' d':Int) (ha:U64 a) (hb:U64 b) (hc:U64 c) (hd:U64 d) (ha':U64 a') (hb':U64 b') (hc':U64 c') (hd':U64 d') (w:World) :
  Calls Try.prog 159 #[WV n a b c d,WV n' a' b' c' d'] w fun e w'=>e = .returned (.int .i64 (cm (wv n a b c d) (wv n' a' b' c' d')))∧Below w.heap.size w w':=by
 have E:=cmp_wv (n:=n) (n':=n') ha hb hc hd ha' hb' hc' hd'
 generalize hR:cm (wv n a b c d) (wv n' a' b' c' d') = R at E
 clear hR
 have cA:=fun W=>gives_known en_wide_clean (clean_any n a b c d W)
 have cB:=fun W=>gives_known en_wide_clean (clean_any n' a' b' c' d' W)
 have k1:=fun W=>gives_known en_wide_compare (wcompare_any a b c d a' b' c' d' W)
 have k2:=fun W=>gives_known en_wide_compare (wcompare_any a' b' c' d' a b c d W)
 generalize cn n a b c d = p at *
 generalize cn n' a' b' c' d' = q at *
 generalize cm4 a b c d a' b' c' d' = Z1 at *
 generalize cm4 a' b' c' d' a b c d = Z2 at *
 clear ha hb hc hd ha' hb' hc' hd'
 cases p <;> cases q <;> (first | simp only [Bool.false_eq_true,if_false,if_true] at E) <;> subst E
 ·refine known_of (enter Try.func159 wide_Compare.ok (args:=[_,_]) (by simp) ?_)
  repeat' (first | simp (disch:=omega) only [sxE,wide_Compare.E,Nat.reduceAdd,Nat.reduceEqDiff,Nat.reduceMul,Nat.reduceSub,Int.reduceAdd,Int.reduceSub,Int.reduceMul,Int.reduceNeg,Int.reduceLT,Int.reduceLE,Int.reduceEq,Int.reduceToNat,↓reduceIte,Int.reducePow,Nat.reduceLeDiff,Nat.reduceLT,ne_eq,eq_self,List.length_cons,List.length_nil] | (with_reducible refine Sx.call_at (f:=138) (fun W hW=>cA W) ?_) | (with_reducible refine Sx.call_at (f:=138) (fun W hW=>cB W) ?_) | (with_reducible refine Sx.call_at (f:=141) (fun W hW=>k1 W) ?_) | (with_reducible refine cregF ?_))
 ·refine known_of (enter Try.func159 wide_Compare.ok (args:=[_,_]) (by simp) ?_)
  repeat' (first | simp (disch:=omega) only [sxE,wide_Compare.E,Nat.reduceAdd,Nat.reduceEqDiff,Nat.reduceMul,Nat.reduceSub,Int.reduceAdd,Int.reduceSub,Int.reduceMul,Int.reduceNeg,Int.reduceLT,Int.reduceLE,Int.reduceEq,Int.reduceToNat,↓reduceIte,Int.reducePow,Nat.reduceLeDiff,Nat.reduceLT,ne_eq,eq_self,List.length_cons,List.length_nil] | (with_reducible refine Sx.call_at (f:=138) (fun W hW=>cA W) ?_) | (with_reducible refine Sx.call_at (f:=138) (fun W hW=>cB W) ?_) | (with_reducible refine cregF ?_))
 ·refine known_of (enter Try.func159 wide_Compare.ok (args:=[_,_]) (by simp) ?_)
  repeat' (first | simp (disch:=omega) only [sxE,wide_Compare.E,Nat.reduceAdd,Nat.reduceEqDiff,Nat.reduceMul,Nat.reduceSub,Int.reduceAdd,Int.reduceSub,Int.reduceMul,Int.reduceNeg,Int.reduceLT,Int.reduceLE,Int.reduceEq,Int.reduceToNat,↓reduceIte,Int.reducePow,Nat.reduceLeDiff,Nat.reduceLT,ne_eq,eq_self,List.length_cons,List.length_nil] | (with_reducible refine Sx.call_at (f:=138) (fun W hW=>cA W) ?_) | (with_reducible refine Sx.call_at (f:=138) (fun W hW=>cB W) ?_) | (with_reducible refine cregF ?_))
 ·refine known_of (enter Try.func159 wide_Compare.ok (args:=[_,_]) (by simp) ?_)
  repeat' (first | simp (disch:=omega) only [sxE,wide_Compare.E,Nat.reduceAdd,Nat.reduceEqDiff,Nat.reduceMul,Nat.reduceSub,Int.reduceAdd,Int.reduceSub,Int.reduceMul,Int.reduceNeg,Int.reduceLT,Int.reduceLE,Int.reduceEq,Int.reduceToNat,↓reduceIte,Int.reducePow,Nat.reduceLeDiff,Nat.reduceLT,ne_eq,eq_self,List.length_cons,List.length_nil] | (with_reducible refine Sx.call_at (f:=138) (fun W hW=>cA W) ?_) | (with_reducible refine Sx.call_at (f:=138) (fun W hW=>cB W) ?_) | (with_reducible refine Sx.call_at (f:=141) (fun W hW=>k2 W) ?_) | (with_reducible refine cregF ?_))
theorem wl_zero {m:Int} (h:0≤m):(wl m).length = 0↔m = 0:=by
 constructor
 ·intro e
  have:=VL_wl h
  rw [List.length_eq_zero_iff.1 e] at this
  simpa [VL] using this.symm
 ·rintro rfl
  rw [wl_nil (Int.le_refl 0)]; rfl
set_option maxHeartbeats 3000000 in
theorem rsign_any (n:Bool) (a b c d:Int) (ha:U64 a) (hb:U64 b) (hc:U64 c) (hd:U64 d) (w:World) :
  Calls Try.prog 65 #[WV n a b c d] w fun e w'=>e = .returned (.int .i64 (cm (wv n a b c d) 0))∧Below w.heap.size w w':=by
 have O:=fun W=>rof_any n a b c d ha hb hc hd W
 have m1:=mv_nonneg ha hb hc hd
 have HZ:=wl_zero m1
 unfold wv
 generalize MV a b c d = m at *
 by_cases hz:m = 0
 ·have hR:cm (if n = true then -m else m) 0 = 0:=by subst hz; cases n <;> rfl
  rw [hR]
  have hlen:=HZ.2 hz
  clear hR HZ hz m1
  go_enter Try.func65,Try.ntmps65
  go_wp2_with fail
  refine (O _).mono ?_
  intro e w' h
  obtain ⟨a0,len,cap,rfl,hl,hs,hb⟩:=h.open
  obtain rfl:len = 0:=by omega
  go_wp2
  go_ret
  exact ⟨rfl,by (repeat' (first | (with_reducible assumption) | (with_reducible exact Below.refl _ _) | (with_reducible refine Below.alloc ?_ ?_ _) | (with_reducible refine Below.setCell ?_ ?_ _) | (with_reducible refine Below.drew ?_) | (with_reducible refine below_more ?_ (by with_reducible assumption)) | go_size | omega | (with_reducible refine below_drewN ?_)))⟩
 ·have hlen:¬ (wl m).length = 0:=fun h=>hz (HZ.1 h)
  have hR:cm (if n = true then -m else m) 0 = if n then -1 else 1:=by
   unfold cm; cases n <;> simp <;> (repeat' split) <;> omega
  rw [hR]
  clear hR HZ
  cases n
  all_goals
   go_enter Try.func65,Try.ntmps65
   go_wp2_with fail
   refine (O _).mono ?_
   intro e w' h
   obtain ⟨a0,len,cap,rfl,hl,hs,hb⟩:=h.open
   have hl0:¬ (len:Int) = 0:=by omega
   have hcl:=HB.below (b:=w.heap.size) (HB.new w _ _ rfl) hb
   obtain ⟨B1,B1c,B1f,B1l⟩:=Bx.of hcl
   go_wp2
   go_ret
   exact ⟨rfl,by (repeat' (first | (with_reducible assumption) | (with_reducible exact Below.refl _ _) | (with_reducible refine Below.alloc ?_ ?_ _) | (with_reducible refine Below.setCell ?_ ?_ _) | (with_reducible refine Below.drew ?_) | (with_reducible refine below_more ?_ (by with_reducible assumption)) | go_size | omega | (with_reducible refine below_drewN ?_)))⟩
end Go.Proofs.Ytncmmbacoknefaa

/- Gw: What calls of the program's wide give, for the symbolic run. -/
namespace Go.Proofs.Ytncmmbacoknefaa
open Go Go.RowKit Sx
set_option linter.unusedVariables false
set_option linter.unusedSimpArgs false
theorem guardT_mag:Try.prog.eqGuardType Try.prog.depth 36 = false:=by kernel_rfl
theorem guardT_wide:Try.prog.eqGuardType Try.prog.depth 38 = false:=by kernel_rfl
theorem guard_agg {op:BinOp} {t:TypeId} {xo yo:Operand} {x y:Array Value} {P:Program} (h:P.eqGuardType P.depth t = false) (W:World):(eqGuard op t xo yo (.agg x) (.agg y)).run P W = .ok () W:=by
 unfold eqGuard
 cases op <;> first | rfl | (simp [go_sem,h])
theorem eqb_run {ng:Bool} {t:TypeId} {xo yo:Operand} {x y:Array Value} {P:Program} {b:Bool} {W:World} (h:P.eqGuardType P.depth t = false) (he:(Op.equalIn 10000 t (.agg x) (.agg y)).run P W = .ok b W) :
  ((do eqGuard (if ng then .neq else .eql) t xo yo (.agg x) (.agg y); binOp (if ng then .neq else .eql) t (.agg x) (.agg y)):Sem Value).run P W = .ok (.bool (if ng then !b else b)) W:=by
 rw [run_bind_ok (guard_agg h W)]
 cases ng
 ·exact run_bind_ok he
 ·exact run_bind_ok he
theorem eqm_run {ng:Bool} {xo yo:Operand} (a b c d a' b' c' d':Int) (W:World) :
  ((do eqGuard (if ng then .neq else .eql) 36 xo yo (MG a b c d) (MG a' b' c' d'); binOp (if ng then .neq else .eql) 36 (MG a b c d) (MG a' b' c' d')):Sem Value).run Try.prog W = .ok (.bool (if ng then !meq a b c d a' b' c' d' else meq a b c d a' b' c' d')) W :=
 eqb_run guardT_mag (eq_mag a b c d a' b' c' d' 9998 W)
theorem eqw_run {ng:Bool} {xo yo:Operand} (n:Bool) (a b c d:Int) (n':Bool) (a' b' c' d':Int) (W:World) :
  ((do eqGuard (if ng then .neq else .eql) 38 xo yo (WV n a b c d) (WV n' a' b' c' d'); binOp (if ng then .neq else .eql) 38 (WV n a b c d) (WV n' a' b' c' d')):Sem Value).run Try.prog W = .ok (.bool (if ng then !weq n a b c d n' a' b' c' d' else weq n a b c d n' a' b' c' d')) W :=
 eqb_run guardT_wide (eq_wide n a b c d n' a' b' c' d' 9997 W)
theorem g_valid (n:Bool) (a b c d:Int) (W:World):Gives Try.prog 107 [WV n a b c d] W (· = (.bool (!n || !mz a b c d))):=gives_known en_wide_Valid (valid_any n a b c d W)
theorem g_clean (n:Bool) (a b c d:Int) (W:World):Gives Try.prog 138 [WV n a b c d] W (· = (WV (cn n a b c d) a b c d)):=gives_known en_wide_clean (clean_any n a b c d W)
theorem g_signed (n:Bool) (a b c d:Int) (W:World):Gives Try.prog 140 [.bool n,MG a b c d] W (· = (WV (cn n a b c d) a b c d)):=gives_known en_wide_signed (signed_any n a b c d W)
theorem g_wcompare (a0 a1 a2 a3 b0 b1 b2 b3:Int) (W:World):Gives Try.prog 141 [MG a0 a1 a2 a3,MG b0 b1 b2 b3] W (· = (.int .i64 (cm4 a0 a1 a2 a3 b0 b1 b2 b3))):=gives_known en_wide_compare (wcompare_any _ _ _ _ _ _ _ _ W)
theorem g_add {v v':Value} {z z':Int} (h:IsW v z) (h':IsW v' z') (W:World):Gives Try.prog 84 [v,v'] W (· = .tuple #[WE (cl (z + z')),.bool (fb (z + z'))]):=gives_known en_wide_Add (add_w h h' W)
theorem g_mul {v v':Value} {z z':Int} (h:IsW v z) (h':IsW v' z') (W:World):Gives Try.prog 119 [v,v'] W (· = .tuple #[WE (cl (z * z')),.bool (fb (z * z'))]):=gives_known en_wide_Mul (mul_w h h' W)
theorem g_of {v:Int} (h:I64 v) (W:World):Gives Try.prog 109 [.int .i64 v] W (· = WE v):=gives_known en_wide_Of (of_any v h W)
theorem cm_zero (z:Int):cm z 0 = if z < 0 then -1 else if z = 0 then 0 else 1:=by
 unfold cm
 split
 ·rfl
 ·split <;> split <;> first | rfl | omega
theorem vi {k:IntKind} {a b:Int} (h:a = b):Value.int k a = Value.int k b:=by rw [h]
theorem vb {a b:Bool} (h:a = b):Value.bool a = Value.bool b:=by rw [h]
theorem sign_any (n:Bool) (a b c d:Int) (ha:U64 a) (hb:U64 b) (hc:U64 c) (hd:U64 d) (w:World) :
  Calls Try.prog 87 #[WV n a b c d] w fun e w'=>e = .returned (.int .i64 (cm (wv n a b c d) 0))∧Below w.heap.size w w':=by
 have h0:=mz_iff ha hb hc hd
 have h1:=sg_wv (n:=n) ha hb hc hd
 have h2:=ab_wv (n:=n) ha hb hc hd
 rw [cm_zero]
 generalize wv n a b c d = z at *
 have k1:cn n a b c d = decide (z < 0):=by rw [← h1]; rfl
 have k2:meq a b c d 0 0 0 0 = decide (z = 0):=by
  have:meq a b c d 0 0 0 0 = mz a b c d:=rfl
  rw [this,Bool.eq_iff_iff,h0,← h2,decide_eq_true_iff]
  unfold ab; split <;> omega
 clear h0 h1 h2 ha hb hc hd
 refine known_of (enter Try.func87 wide_Sign.ok (args:=[WV n a b c d]) (by simp) ?_)
 repeat' (first | simp (disch:=omega) only [sxE,wide_Sign.E,Nat.reduceAdd,Nat.reduceEqDiff,Nat.reduceMul,Nat.reduceSub,Int.reduceAdd,Int.reduceSub,Int.reduceMul,Int.reduceNeg,Int.reduceLT,Int.reduceLE,Int.reduceEq,Int.reduceToNat,↓reduceIte,Int.reducePow,Nat.reduceLeDiff,Nat.reduceLT,ne_eq,eq_self,List.length_cons,List.length_nil] | (with_reducible refine Sx.call_at (f:=138) (fun W hW=>g_clean _ _ _ _ _ W) ?_) | (with_reducible refine eq_is (fun W=>by exact eqm_run _ _ _ _ _ _ _ _ W) ?_) | ((with_reducible first | apply cond_beq | apply gd_beq) <;> (intro hc; first | simp only [beq_iff_eq.2 hc] | simp only [beq_eq_false_iff_ne.2 hc] | skip)) | ((with_reducible first | apply cond_dec | apply gd_dec) <;> (intro hc; first | simp only [decide_eq_true hc] | simp only [decide_eq_false hc] | skip)) | ((with_reducible first | apply cond_of | apply gd_of) <;> (intro hc; try simp only [hc])) | (with_reducible refine cregF ?_))
 all_goals
  simp only [k1,k2,decide_eq_true_eq,decide_eq_false_iff_not] at *
  refine vi ?_
  simp_all
theorem g_sign {v:Value} {z:Int} (h:IsW v z) (W:World):Gives Try.prog 87 [v] W (· = .int .i64 (cm z 0)):=by
 obtain ⟨n,a,b,c,d,rfl,rfl,ha,hb,hc,hd⟩:=h
 exact gives_known en_wide_Sign (sign_any n a b c d ha hb hc hd W)
theorem g_compare {v v':Value} {z z':Int} (h:IsW v z) (h':IsW v' z') (W:World):Gives Try.prog 159 [v,v'] W (· = .int .i64 (cm z z')):=by
 obtain ⟨n,a,b,c,d,rfl,rfl,ha,hb,hc,hd⟩:=h
 obtain ⟨n',a',b',c',d',rfl,rfl,ha',hb',hc',hd'⟩:=h'
 exact gives_known en_wide_Compare (compare_any n a b c d n' a' b' c' d' ha hb hc hd ha' hb' hc' hd' W)
end Go.Proofs.Ytncmmbacoknefaa

/- Gd: What calls of the program's division of absolute values give. -/
namespace Go.Proofs.Ytncmmbacoknefaa
open Go Go.RowKit Sx
set_option linter.unusedVariables false
set_option linter.unusedSimpArgs false
set_option maxRecDepth 100000 in
theorem g_halved {z:Int} (h:A4 z) (W:World):Gives Try.prog 185 [ME z] W (· = ME (z / 2)):=by
 refine gives_known en_wide_halved ?_
 show Calls _ _ #[MG (lb0 z) (lb1 z) (lb2 z) (lb3 z)] _ _
 have ha:=lb0_in z
 have hb:=lb1_in z
 have hc:=lb2_in z
 have hd:=lb3_in z
 have e:=mv_me h
 obtain ⟨w0,w1,w2,w3,hv⟩:=half_words ha hb hc hd
 have hR:MG _ _ _ _ = ME (z / 2):=(mg_me w0 w1 w2 w3).trans (by rw [hv,e])
 have o1:=half_word ha hb
 have o2:=half_word hb hc
 have o3:=half_word hc hd
 have o4:(lb3 z).fdiv 2 = lb3 z / 2:=Int.fdiv_eq_ediv_of_nonneg _ (by decide)
 rw [← hR]
 generalize lb0 z = a at *
 generalize lb1 z = b at *
 generalize lb2 z = c at *
 generalize lb3 z = d at *
 clear hR hv w0 w1 w2 w3 e ha hb hc hd
 refine known_of (enter Try.func185 wide_halved.ok (args:=[MG a b c d]) (by simp) ?_)
 repeat' (first | simp (disch:=omega) only [sxE,wide_halved.E,Nat.reduceAdd,Nat.reduceEqDiff,Nat.reduceMul,Nat.reduceSub,Int.reduceAdd,Int.reduceSub,Int.reduceMul,Int.reduceNeg,Int.reduceLT,Int.reduceLE,Int.reduceEq,Int.reduceToNat,↓reduceIte,Int.reducePow,Nat.reduceLeDiff,Nat.reduceLT,ne_eq,eq_self,List.length_cons,List.length_nil,o1,o2,o3,o4] | (rw [wide_halved.p2_l]) | (with_reducible apply LX_round) | (with_reducible refine cregF ?_))
theorem g_len64 {x:Int} (h:U64 x) (W:World):Gives Try.prog 169 [.int .u64 x] W (· = .int .i64 (Go.Lib.bitLen x.toNat)) :=
 gives_known (Sx.en_of Try.func169 (by kernel_rfl) (by kernel_rfl)) ((Try.bits_Len64 x W h.1 h.2).mono fun _ _ ⟨h1,h2⟩=>⟨h1,by subst h2; exact Below.refl _ _⟩)
theorem bitLen64 {x:Int} (h:U64 x):Go.Lib.bitLen x.toNat≤64:=by
 by_cases h0:x.toNat = 0
 ·rw [h0]; decide
 ·obtain ⟨b1,b2,b3⟩:=Go.Lib.bitLenAux_bounds 64 x.toNat (by have:=h.2; omega) h0
  have e:Go.Lib.bitLen x.toNat = Go.Lib.bitLenAux 64 x.toNat:=rfl
  rw [e]
  generalize Go.Lib.bitLenAux 64 x.toNat = L at *
  by_cases hL:L≤64
  ·exact hL
  ·have:2 ^ 64≤2 ^ (L - 1):=Nat.pow_le_pow_right (by decide) (by omega)
   have:=h.2
   omega
theorem len_words {a b c d:Int} (ha:U64 a) (hb:U64 b) (hc:U64 c) (hd:U64 d) :
  (d≠0→192 + (Go.Lib.bitLen d.toNat:Int) = bl (MV a b c d))∧(d = 0→c≠0→128 + (Go.Lib.bitLen c.toNat:Int) = bl (MV a b c d))∧(d = 0→c = 0→b≠0→64 + (Go.Lib.bitLen b.toNat:Int) = bl (MV a b c d)) ∧
  (d = 0→c = 0→b = 0→a≠0→0 + (Go.Lib.bitLen a.toNat:Int) = bl (MV a b c d))∧(d = 0→c = 0→b = 0→a = 0→0 = (bl (MV a b c d):Int)):=by
 have hm:MV a b c d = a + 18446744073709551616 * (b + 18446744073709551616 * (c + 18446744073709551616 * d)):=rfl
 have p3:(2 ^ (64 * 3):Int) = 6277101735386680763835789423207666416102355444464034512896:=rfl
 have p2:(2 ^ (64 * 2):Int) = 340282366920938463463374607431768211456:=rfl
 have p1:(2 ^ (64 * 1):Int) = 18446744073709551616:=rfl
 have p0:(2 ^ (64 * 0):Int) = 1:=rfl
 obtain ⟨a0,a1⟩:=id ha
 obtain ⟨b0,b1⟩:=id hb
 obtain ⟨c0,c1⟩:=id hc
 refine ⟨fun h=>?_,fun h h2=>?_,fun h h2 h3=>?_,fun h h2 h3 h4=>?_,fun h h2 h3 h4=>?_⟩
 ·have:=bl_word (z:=MV a b c d) (lo:=a + 18446744073709551616 * (b + 18446744073709551616 * c)) (i:=3) hd h (by omega) (by rw [p3]; omega) (by rw [p3,hm]; omega)
  omega
 ·subst h
  have:=bl_word (z:=MV a b c 0) (lo:=a + 18446744073709551616 * b) (i:=2) hc h2 (by omega) (by rw [p2]; omega) (by rw [p2]; unfold MV; omega)
  omega
 ·subst h h2
  have:=bl_word (z:=MV a b 0 0) (lo:=a) (i:=1) hb h3 (by omega) (by rw [p1]; omega) (by rw [p1]; unfold MV; omega)
  omega
 ·subst h h2 h3
  have:=bl_word (z:=MV a 0 0 0) (lo:=0) (i:=0) ha h4 (by omega) (by rw [p0]; omega) (by rw [p0]; unfold MV; omega)
  omega
 ·subst h h2 h3 h4
  rfl
set_option maxRecDepth 100000 in
theorem g_length {z:Int} (h:A4 z) (W:World):Gives Try.prog 183 [ME z] W (· = .int .i64 (bl z)):=by
 refine gives_known en_wide_length ?_
 show Calls _ _ #[MG (lb0 z) (lb1 z) (lb2 z) (lb3 z)] _ _
 have ha:=lb0_in z
 have hb:=lb1_in z
 have hc:=lb2_in z
 have hd:=lb3_in z
 have e:=mv_me h
 have k:=len_words ha hb hc hd
 have l0:=bitLen64 ha
 have l1:=bitLen64 hb
 have l2:=bitLen64 hc
 have l3:=bitLen64 hd
 rw [e] at k
 obtain ⟨k0,k1,k2,k3,k4⟩:=k
 generalize lb0 z = a at *
 generalize lb1 z = b at *
 generalize lb2 z = c at *
 generalize lb3 z = d at *
 clear e
 refine known_of (enter Try.func183 wide_length.ok (args:=[MG a b c d]) (by simp) ?_)
 repeat' (first | simp (disch:=omega) only [sxE,wide_length.E,Nat.reduceAdd,Nat.reduceEqDiff,Nat.reduceMul,Nat.reduceSub,Int.reduceAdd,Int.reduceSub,Int.reduceMul,Int.reduceNeg,Int.reduceLT,Int.reduceLE,Int.reduceEq,Int.reduceToNat,↓reduceIte,Int.reducePow,Nat.reduceLeDiff,Nat.reduceLT,ne_eq,eq_self,List.length_cons,List.length_nil] | (with_reducible refine Sx.call_at (f:=169) (fun W hW=>g_len64 (by assumption) W) ?_) | (rw [wide_length.p2_l]) | (with_reducible apply LX_round) | ((with_reducible first | apply cond_beq | apply gd_beq) <;> (intro hc; first | simp only [beq_iff_eq.2 hc] | simp only [beq_eq_false_iff_ne.2 hc] | skip)) | ((with_reducible first | apply cond_dec | apply gd_dec) <;> (intro hc; first | simp only [decide_eq_true hc] | simp only [decide_eq_false hc] | skip)) | ((with_reducible first | apply cond_of | apply gd_of) <;> (intro hc; try simp only [hc])) | (with_reducible refine cregF ?_))
 all_goals (refine vi ?_; first | exact k0 (by assumption) | exact k1 (by assumption) (by assumption) | exact k2 (by assumption) (by assumption) (by assumption) | exact k4 (by assumption) (by assumption) (by assumption) (by assumption) | (have:=k3 (by assumption) (by assumption) (by assumption) (by assumption); omega))
end Go.Proofs.Ytncmmbacoknefaa

/- Ha: What calls of the reference's size and half give. -/
namespace Go.Proofs.Ytncmmbacoknefaa
open Go Go.RowKit Sx
set_option linter.unusedVariables false
set_option linter.unusedSimpArgs false
theorem bl_pos_wl {m:Int} (h:0 < m):0 < (wl m).length:=List.length_pos_iff.2 (wl_ne h)
set_option maxRecDepth 100000 in
theorem rsize_any {a:Option Addr} {cap:Nat} {m:Int} {w:World} (h0:0≤m) (hl:(wl m).length≤64) (h:SlU w (.slice a (wl m).length cap) (wl m)) :
  Calls Try.prog 131 #[.slice a (wl m).length cap] w fun e w'=>e = .returned (.int .i64 (bl m))∧Below w.heap.size w w':=by
 by_cases hm:m = 0
 ·subst hm
  rw [wl_nil (Int.le_refl _)]
  refine known_of (enter Try.func131 r02_size.ok (args:=[.slice a ([]:List Int).length cap]) (by simp) ?_)
  repeat' (first | simp (disch:=omega) only [sxE,r02_size.E,Nat.reduceAdd,Nat.reduceEqDiff,Nat.reduceMul,Nat.reduceSub,Int.reduceAdd,Int.reduceSub,Int.reduceMul,Int.reduceNeg,Int.reduceLT,Int.reduceLE,Int.reduceEq,Int.reduceToNat,↓reduceIte,Int.reducePow,Nat.reduceLeDiff,Nat.reduceLT,ne_eq,eq_self,List.length_cons,List.length_nil,beq_self_eq_true,Int.ofNat_zero] | (with_reducible refine cregF ?_))
  rfl
 ·have hpos:0 < m:=by omega
  have hp:=bl_pos_wl hpos
  have hs:=size_wl hpos
  obtain ⟨k,hk⟩:∃ k,(wl m).length = k + 1:=⟨(wl m).length - 1,by omega⟩
  obtain ⟨a',cap',e,hsh⟩:=h.shp
  cases e
  obtain ⟨b,off,rfl⟩:=hsh.some hp
  have hw:U64 ((wl m).getD k 0):=(wl_words m).getD k
  have hbl:=bitLen64 hw
  have hkl:k < (wl m).length:=by omega
  rw [hk] at hs h ⊢
  rw [Nat.add_sub_cancel] at hs
  have hk1:((k + 1:Nat):Int) - 1 = (k:Int):=by omega
  have hk2:(((k + 1:Nat):Int) == 0) = false:=beq_eq_false_iff_ne.2 (by omega)
  have hk3:IntKind.i64.wrap (((k + 1:Nat):Int) - 1) = (k:Int):=by rw [hk1]; exact s_wi _ (by omega) (by omega)
  have hk4:IntKind.i64.wrap (64 * (k:Int)) = 64 * (k:Int):=s_wi _ (by omega) (by omega)
  have hk5:IntKind.i64.wrap (64 * (k:Int) + (Go.Lib.bitLen ((wl m).getD k 0).toNat:Int)) = (bl m:Int):=by rw [s_wi _ (by omega) (by omega)]; omega
  have hkp:(0:Int)≤(k:Int)∧(k:Int) < ((k + 1:Nat):Int):=by omega
  refine known_of (enter Try.func131 r02_size.ok (args:=[.slice (some ⟨b,off,none⟩) (k + 1) cap]) (by simp) ?_)
  repeat' (first | simp (disch:=omega) only [sxE,r02_size.E,Nat.reduceAdd,Nat.reduceEqDiff,Nat.reduceMul,Nat.reduceSub,Int.reduceAdd,Int.reduceSub,Int.reduceMul,Int.reduceNeg,Int.reduceLT,Int.reduceLE,Int.reduceEq,Int.reduceToNat,↓reduceIte,Int.reducePow,Nat.reduceLeDiff,Nat.reduceLT,ne_eq,eq_self,List.length_cons,List.length_nil,hk2,hk3,hk4,hk5,Nat.mul_one,hkp] | (with_reducible refine Sx.call_at (f:=169) (fun W hW=>g_len64 hw W) ?_) | (refine ldP_w k rfl h hkl ?_) | (with_reducible refine cregF ?_))
namespace Sx
def hX (w:World) (g len cap:Nat) (ws:List Int):Ext:=⟨List.range' g (w.heap.size - g),fun W=>OwnU W g (.slice (some ⟨g,0,none⟩) len cap) ws∧w.heap.size≤W.heap.size∧∀ i,i < w.heap.size→i≠g→W.heap[i]? = w.heap[i]?⟩
theorem hX_bs {w:World} {g len cap b:Nat} {ws:List Int}:b∈(hX w g len cap ws).bs↔g≤b∧b < w.heap.size:=by
 show b∈List.range' g (w.heap.size - g)↔_
 rw [List.mem_range']
 constructor
 ·rintro ⟨i,hi,rfl⟩; omega
 ·intro h; exact ⟨b - g,by omega,by omega⟩
theorem hX_stab {C:Cx} {w:World} {g len cap:Nat} {ws:List Int} (hg:g < w.heap.size) (hC:C.w0.heap.size = g):Stab C (hX w g len cap ws):=fun W W' h1 h2 h3 h4 h5 ⟨a,b,c⟩=>by
 have key:∀ i,i < w.heap.size→W'.heap[i]? = W.heap[i]? := fun i hi=>h5 i (Nat.lt_of_lt_of_le hi b) (by
  rcases Nat.lt_or_ge i g with h | h
  ·right; omega
  ·left; exact hX_bs.2 ⟨h,hi⟩)
 refine ⟨?_,Nat.le_trans b h4,fun i hi hne=>(key i hi).trans (c i hi hne)⟩
 exact Kn.ok.keep (k:=.o (.slice (some ⟨g,0,none⟩) len cap) ws) a h4 (fun b hb=>by rw [List.mem_singleton.1 hb]; exact key g hg) fun b hb _=>key b (by omega)
variable {C:Cx} {S:St} {K:St→Prop} {d:Option Nat}
theorem ldP_h {w:World} {g len cap:Nat} {ws:List Int} (i:Nat) (hT:(C.kn S).T = hX w g len cap ws) (hi:i < ws.length) (hk:K (S.put d (.v (.int .u64 (ws.getD i 0))))):ldP C false 1 ⟨g,i,none⟩ d K S :=
 ldP_ext [.int .u64 (ws.getD i 0)] rfl (fun W hW hok j v hj=>by
  rw [hT] at hok
  rcases j with _ | j
  ·cases hj
   rw [Addr.add_zero']
   exact OwnU.cell hok.1 hi
  ·cases hj) hk
theorem stP_h {w:World} {g len cap:Nat} {ws:List Int} {x:Int} (i:Nat) (hT:S.T = hX w g len cap ws) (hC:C.w0.heap.size = g) (hg:g < w.heap.size) (hi:i < ws.length) (hx:U64 x) (hk:K ⟨S.n,S.E,S.H,hX w g len cap (ws.set i x)⟩):stP C ⟨g,i,none⟩ (.int .u64 x) K S:=by
 refine stP_is (hX w g len cap (ws.set i x)) (fun W hW hok=>?_) (hX_stab hg hC) (fun b hb=>by rw [hT]; exact hb) rfl hk
 rw [hT] at hok
 obtain ⟨ho,h2,h3⟩:=hok
 refine ⟨by rw [hT]; exact hX_bs.2 ⟨Nat.le_refl _,hg⟩,⟨_,ho.cell hi⟩,?_,ho.stored ho.len i hi hx,by rw [World.size_setCell]; exact h2,fun j hj hne=>?_⟩
 ·rcases ho.form with ⟨e,-⟩ | ⟨g',cap',e,-,-,-,-,-,hf⟩
  ·cases e
  ·cases e; exact hf i
 ·exact (Below.heap_setCell W _ _ j fun e=>hne e).trans (h3 j hj hne)
end Sx
theorem OwnU.atg {w:World} {n g len cap:Nat} {ws:List Int} (h:OwnU w n (.slice (some ⟨g,0,none⟩) len cap) ws):OwnU w g (.slice (some ⟨g,0,none⟩) len cap) ws:=by
 obtain ⟨⟨h1,h2⟩,h3⟩:=h
 refine ⟨⟨h1,?_⟩,h3⟩
 rcases h2 with h | ⟨g',cap',cur,e,hb,rest⟩
 ·exact .inl h
 ·cases e; exact .inr ⟨g,cap,cur,rfl,Nat.le_refl _,rest⟩
def hlF (w:World) (g len cap:Nat) (ws:List Int) (i:Nat):St:=⟨0,[(0,.v (.slice (some ⟨g,0,none⟩) len cap)),(3,.v (.int .i64 (i:Int)))],[],hX w g len cap (hc ws i)⟩
set_option maxRecDepth 100000 in
theorem rhalf_any {n g len cap:Nat} {ws:List Int} {w:World} (hlen:len≤1000000) (h:OwnU w n (.slice (some ⟨g,0,none⟩) len cap) ws) :
  Calls Try.prog 133 #[.slice (some ⟨g,0,none⟩) len cap] w fun e w'=>e = .returned (.slice (some ⟨g,0,none⟩) (wl (VL ws / 2)).length cap)∧OwnU w' n (.slice (some ⟨g,0,none⟩) (wl (VL ws / 2)).length cap) (wl (VL ws / 2))∧Moves [g] w w':=by
 have hln:=h.len
 have hwd:Ws ws:=h.2
 have hg:n≤g∧g < w.heap.size:=Kn.ok.lt (k:=.o (.slice (some ⟨g,0,none⟩) len cap) ws) h g (List.mem_singleton.2 rfl)
 have hcs:=cut_size (Nat.le_of_lt hg.2)
 refine Calls.mono (enterG Try.func133 r02_half.ok (args:=[.slice (some ⟨g,0,none⟩) len cap]) (w0:=cut w g) (T:=hX w g len cap ws) (R:=fun v X=>v = .slice (some ⟨g,0,none⟩) (wl (VL ws / 2)).length cap∧X = hX w g (wl (VL ws / 2)).length cap (wl (VL ws / 2))) (by simp) (below_cut (Nat.le_of_lt hg.2)) ⟨h.atg,Nat.le_refl _,fun i _ _=>rfl⟩ (hX_stab hg.2 hcs) (fun b hb=>by rw [hcs]; exact hX_bs.1 hb) ?run) ?fin
 case fin =>
  rintro e w' ⟨v,Y,rfl,⟨rfl,rfl⟩,⟨o1,o2,o3⟩,hb,-⟩
  refine ⟨rfl,o1.base hg.1,hb.os,hb.tape,hb.output,o2,fun i hi hne=>o3 i hi fun e=>hne (by rw [e]; exact List.mem_singleton.2 rfl)⟩
 case run =>
  have hcs':(cx Try.prog (cut w g) 35).w0.heap.size = g:=hcs
  clear h
  simp (disch:=omega) only [sxE,r02_half.E,Nat.reduceAdd,Nat.reduceEqDiff,Nat.reduceMul,Nat.reduceSub,Int.reduceAdd,Int.reduceSub,Int.reduceMul,Int.reduceNeg,Int.reduceLT,Int.reduceLE,Int.reduceEq,Int.reduceToNat,↓reduceIte,Int.reducePow,Nat.reduceLeDiff,Nat.reduceLT,ne_eq,eq_self,List.length_cons,List.length_nil,Int.ofNat_zero]
  rw [r02_half.p2_l]
  refine LX_inv (hlF w g len cap ws) (fun i=>i≤len) (fun i=>len - i) ?round 0 (Nat.zero_le _) ?start
  case start =>
   simp (disch:=omega) only [sxE,r02_half.E,Nat.reduceAdd,Nat.reduceEqDiff,Nat.reduceMul,Nat.reduceSub,Int.reduceAdd,Int.reduceSub,Int.reduceMul,Int.reduceNeg,Int.reduceLT,Int.reduceLE,Int.reduceEq,Int.reduceToNat,↓reduceIte,Int.reducePow,Nat.reduceLeDiff,Nat.reduceLT,ne_eq,eq_self,List.length_cons,List.length_nil,hlF,hc_zero,Int.ofNat_zero]
  case round =>
   intro i hi
   have hcl:=hc_len ws i (by omega)
   rcases Nat.lt_or_ge i len with hil | hil
   ·have c1:(i:Int) < (len:Int):=by omega
    have c2:(0:Int)≤(i:Int)∧(i:Int) < (len:Int):=by omega
    have k1:IntKind.i64.wrap ((i:Int) + 1) = ((i + 1:Nat):Int):=by rw [s_wi _ (by omega) (by omega)]; omega
    have v1:=hc_get ws i i (by omega) (Nat.le_refl _)
    have v2:(ws.getD i 0).fdiv 2 = ws.getD i 0 / 2:=Int.fdiv_eq_ediv_of_nonneg _ (by decide)
    have hx:=hwd.getD i
    have hy:=hwd.getD (i + 1)
    have hh:=half_word hx hy
    rw [← hl_get ws i] at hh
    have hu:U64 ((hl ws).getD i 0):=(hl_ws hwd).getD i
    have hu2:U64 (ws.getD i 0 / 2):=⟨by have:=hx.1; omega,by have:=hx.1; have:=hx.2; omega⟩
    have hst:=hc_set ws i (by omega)
    unfold hlF
    rcases Nat.lt_or_ge (i + 1) len with hj | hj
    ·have c3:((i + 1:Nat):Int) < (len:Int):=by omega
     have c4:(0:Int)≤((i + 1:Nat):Int)∧((i + 1:Nat):Int) < (len:Int):=by omega
     have v3:((hc ws i).set i (ws.getD i 0 / 2)).getD i 0 = ws.getD i 0 / 2:=getD_set_eq _ _ _ (by omega)
     have v4:((hc ws i).set i (ws.getD i 0 / 2)).getD (i + 1) 0 = ws.getD (i + 1) 0:=by rw [getD_set_ne' _ _ _ _ (by omega)]; exact hc_get ws i (i + 1) (by omega) (by omega)
     rw [v2] at hh
     repeat' (first | simp (disch:=omega) only [sxE,r02_half.E,Nat.reduceAdd,Nat.reduceEqDiff,Nat.reduceMul,Nat.reduceSub,Int.reduceAdd,Int.reduceSub,Int.reduceMul,Int.reduceNeg,Int.reduceLT,Int.reduceLE,Int.reduceEq,Int.reduceToNat,↓reduceIte,Int.reducePow,Nat.reduceLeDiff,Nat.reduceLT,ne_eq,eq_self,List.length_cons,List.length_nil,Nat.mul_one,Nat.zero_add,c1,c2,c3,c4,k1,v1,v2,v3,v4,hh] | (refine ldP_h i rfl (by first | omega | (rw [List.length_set]; omega)) ?_) | (refine ldP_h (i + 1) rfl (by rw [List.length_set]; omega) ?_) | (refine stP_h i rfl hcs' hg.2 (by first | omega | (rw [List.length_set]; omega)) (by assumption) ?_) | (with_reducible refine cregF ?_))
     refine ⟨i + 1,Nat.le_of_lt hj,by omega,?_⟩
     rw [List.set_set,hst]
     exact ⟨rfl,.inl rfl⟩
    ·have c3:¬ ((i + 1:Nat):Int) < (len:Int):=by omega
     have hz:ws.getD (i + 1) 0 = 0:=by rw [List.getD_eq_getElem?_getD,List.getElem?_eq_none (by omega)]; rfl
     have he:(hl ws).getD i 0 = ws.getD i 0 / 2:=by rw [hl_get,hz]; omega
     repeat' (first | simp (disch:=omega) only [sxE,r02_half.E,Nat.reduceAdd,Nat.reduceEqDiff,Nat.reduceMul,Nat.reduceSub,Int.reduceAdd,Int.reduceSub,Int.reduceMul,Int.reduceNeg,Int.reduceLT,Int.reduceLE,Int.reduceEq,Int.reduceToNat,↓reduceIte,Int.reducePow,Nat.reduceLeDiff,Nat.reduceLT,ne_eq,eq_self,List.length_cons,List.length_nil,Nat.mul_one,Nat.zero_add,c1,c2,c3,k1,v1,v2] | (refine ldP_h i rfl (by omega) ?_) | (refine stP_h i rfl hcs' hg.2 (by omega) (by assumption) ?_) | (with_reducible refine cregF ?_))
     refine ⟨i + 1,by omega,by omega,?_⟩
     rw [← he,hst]
     exact ⟨rfl,.inl rfl⟩
   ·have he:i = ws.length:=by omega
    have c1:¬ (i:Int) < (len:Int):=by omega
    have hv:VL (hc ws i) = VL ws / 2:=by rw [he,hc_all,VL_hl]
    unfold hlF
    simp (disch:=omega) only [sxE,r02_half.E,Nat.reduceAdd,Nat.reduceEqDiff,Nat.reduceMul,Nat.reduceSub,Int.reduceAdd,Int.reduceSub,Int.reduceMul,Int.reduceNeg,Int.reduceLT,Int.reduceLE,Int.reduceEq,Int.reduceToNat,↓reduceIte,Int.reducePow,Nat.reduceLeDiff,Nat.reduceLT,ne_eq,eq_self,List.length_cons,List.length_nil,c1]
    refine asks_T (ι:=Unit) (fun _=>.slice (some ⟨g,0,none⟩) (wl (VL ws / 2)).length cap) (fun _=>hX w g (wl (VL ws / 2)).length cap (wl (VL ws / 2))) (fun W hW hok hbs=>givesT_calls en_r02_trim (fun _=>hX_stab hg.2 hcs') ?_) fun _=>?_
    ·obtain ⟨o1,o2,o3⟩:=hok
     have o4:=o1.canon
     have o5:=rtrim_any _ _ _ _ W o1.sl
     rw [hv] at o4 o5
     exact o5.mono fun e w' ⟨h1,h2⟩=>⟨(),h1,by subst h2; exact ⟨rfl,rfl,rfl,Nat.le_refl _,fun _ _ _=>rfl⟩,by subst h2; exact ⟨o4,o2,o3⟩,fun b hb=>⟨.inl hb,by subst h2; have:=(hX_bs.1 hb).2; omega⟩⟩
    simp (disch:=omega) only [sxE,r02_half.E,Nat.reduceAdd,Nat.reduceEqDiff,Nat.reduceMul,Nat.reduceSub,Int.reduceAdd,Int.reduceSub,Int.reduceMul,Int.reduceNeg,Int.reduceLT,Int.reduceLE,Int.reduceEq,Int.reduceToNat,↓reduceIte,Int.reducePow,Nat.reduceLeDiff,Nat.reduceLT,ne_eq,eq_self,List.length_cons,List.length_nil]
end Go.Proofs.Ytncmmbacoknefaa

/- Hb: What a call of the reference's up gives; slices that are made. -/
namespace Go.Proofs.Ytncmmbacoknefaa
open Go Go.RowKit Sx
set_option linter.unusedVariables false
set_option linter.unusedSimpArgs false
theorem gen_mk {n:Nat} (hn:n≤4294967296) (W:World):∃ g cap W',(genRun (.mks 113) [.int .i64 (n:Int),.int .i64 (n:Int)]).run Try.prog W = .ok (.value (.slice (some ⟨g,0,none⟩) (List.replicate n (0:Int)).length cap)) W'∧OwnU W' W.heap.size (.slice (some ⟨g,0,none⟩) (List.replicate n (0:Int)).length cap) (List.replicate n 0)∧Below W.heap.size W W':=by
 obtain ⟨i0,hi,hz0,hz1,hz2⟩:=info_u
 obtain ⟨w1,hmk,hown,hg1⟩:=run_make_full (P:=Try.prog) W W.heap.size 113 35 i0 (.int .u64 0) 1 Try.underlying113 hi hz0 hz1 .i64 .i64 n (by rw [hz2]; omega) (by simp only [maxLen]; omega) (Nat.le_refl _)
 refine ⟨W.heap.size,n,w1,?_,?_,below_gt hg1⟩
 ·rw [List.length_replicate]
  show Sem.run _ (do pure (Next.value (← Instr.makeSlice _ _ _))) W = _
  rw [run_bind_ok hmk]
  rfl
 ·rw [List.length_replicate]
  exact OwnU.zeros hown
theorem asks_trim {C:Cx} {S:St} {K:St→Prop} {d:Option Nat} {L:List Kn} (L':List Kn) {g len cap:Nat} {ws:List Int} (hP:C.P = Try.prog) (hT:S.T = kX C.w0.heap.size L) (hm:.o (.slice (some ⟨g,0,none⟩) len cap) ws∈L)
  (hL:∀ k∈L',k = .o (.slice (some ⟨g,0,none⟩) (wl (VL ws)).length cap) (wl (VL ws))∨k∈L)
  (hk:K (St.put ⟨S.n,S.E,S.H,kX C.w0.heap.size L'⟩ d (.v (.slice (some ⟨g,0,none⟩) (wl (VL ws)).length cap)))):asks C 127 [.slice (some ⟨g,0,none⟩) len cap] d K S:=by
 refine asks_kn (ι:=Unit) (L:=L) (gs:=[]) (fun _=>.slice (some ⟨g,0,none⟩) (wl (VL ws)).length cap) (fun _=>L') (by rw [hP]; exact en_r02_trim) hT (fun g hg=>by cases hg) (fun _ _ g hg=>by cases hg) (fun W hW hok=>?_) fun _=>hk
 rw [hP]
 have ho:OwnU W C.w0.heap.size (.slice (some ⟨g,0,none⟩) len cap) ws:=hok _ hm
 refine (rtrim_any _ _ _ _ W ho.sl).mono fun e w' ⟨h1,h2⟩=>⟨(),h1,by subst h2; exact moves_below (Below.refl _ _),fun k hk=>?_⟩
 subst h2
 rcases hL k hk with rfl | hk
 ·exact .inr ⟨ho.canon,fun b hb=>.inl (by rw [hT]; exact kX_bs.2 ⟨_,hm,hb⟩)⟩
 ·exact .inl ⟨hk,fun b hb h=>by cases h⟩
theorem asks_trim_r {C:Cx} {S:St} {K:St→Prop} {d:Option Nat} {L:List Kn} (L':List Kn) {a:Option Addr} {len cap:Nat} {ws:List Int} (hP:C.P = Try.prog) (hT:S.T = kX C.w0.heap.size L) (hm:.r (.slice a len cap) ws∈L)
  (hL:∀ k∈L',k = .r (.slice a (wl (VL ws)).length cap) (wl (VL ws))∨k∈L)
  (hk:K (St.put ⟨S.n,S.E,S.H,kX C.w0.heap.size L'⟩ d (.v (.slice a (wl (VL ws)).length cap)))):asks C 127 [.slice a len cap] d K S:=by
 refine asks_kn (ι:=Unit) (L:=L) (gs:=[]) (fun _=>.slice a (wl (VL ws)).length cap) (fun _=>L') (by rw [hP]; exact en_r02_trim) hT (fun g hg=>by cases hg) (fun _ _ g hg=>by cases hg) (fun W hW hok=>?_) fun _=>hk
 rw [hP]
 have ho:SlF W C.w0.heap.size (.slice a len cap) ws:=hok _ hm
 refine (rtrim_any _ _ _ _ W ho.1).mono fun e w' ⟨h1,h2⟩=>⟨(),h1,by subst h2; exact moves_below (Below.refl _ _),fun k hk=>?_⟩
 subst h2
 rcases hL k hk with rfl | hk
 ·exact .inr ⟨ho.canon,fun b hb=>.inl (by
   rw [hT]
   refine kX_bs.2 ⟨_,hm,?_⟩
   cases a with
   | none=>cases hb
   | some a=>exact hb)⟩
 ·exact .inl ⟨hk,fun b hb h=>by cases h⟩
def upF (w:World) (a:Option Addr) (n len lo cap g cap':Nat) (x:Nat × List Int):St:=⟨0,[(0,.v (.slice a len cap)),(1,.v (.int .i64 (n:Int))),(5,.v (.slice (some ⟨g,0,none⟩) lo cap')),(6,.v (.int .i64 (x.1:Int)))],[],kX w.heap.size [.o (.slice (some ⟨g,0,none⟩) lo cap') x.2]⟩
set_option maxRecDepth 100000 in
theorem rup_any {a:Option Addr} {cap:Nat} {ws:List Int} {w:World} {n k s:Nat} (hn:n = 64 * k + s) (hs:s < 64) (hk:k≤1000) (hlen:ws.length≤1000) (h:SlU w (.slice a ws.length cap) ws) :
  Calls Try.prog 132 #[.slice a ws.length cap,.int .i64 (n:Int)] w fun e w'=>∃ g cap',e = .returned (.slice (some ⟨g,0,none⟩) (wl (VL ws * 2 ^ n)).length cap')∧OwnU w' w.heap.size (.slice (some ⟨g,0,none⟩) (wl (VL ws * 2 ^ n)).length cap') (wl (VL ws * 2 ^ n))∧Below w.heap.size w w':=by
 refine Calls.mono (enterX Try.func132 r02_up.ok (args:=[.slice a ws.length cap,.int .i64 (n:Int)]) (R:=fun v X=>∃ g cap',v = .slice (some ⟨g,0,none⟩) (wl (VL ws * 2 ^ n)).length cap'∧X = kX w.heap.size [.o (.slice (some ⟨g,0,none⟩) (wl (VL ws * 2 ^ n)).length cap') (wl (VL ws * 2 ^ n))]) (by simp) ?run) ?fin
 case fin =>
  rintro e w' ⟨v,Y,rfl,⟨g,cap',rfl,rfl⟩,hok,hb,-⟩
  exact ⟨g,cap',rfl,hok _ (List.mem_singleton.2 rfl),hb⟩
 case run =>
  have q1:(n:Int) / 64 = (k:Int):=by omega
  have q2:(n:Int) % 64 = (s:Int):=by omega
  obtain ⟨lo,hlo⟩:∃ lo,lo = ws.length + k + 1:=⟨_,rfl⟩
  have L1:(ws.length:Int) + (k:Int) + 1 = (lo:Int):=by omega
  have hst:=up_start ws k s
  rw [← hlo] at hst
  simp (disch:=omega) only [sxE,r02_up.E,Nat.reduceAdd,Nat.reduceEqDiff,Nat.reduceMul,Nat.reduceSub,Int.reduceAdd,Int.reduceSub,Int.reduceMul,Int.reduceNeg,Int.reduceLT,Int.reduceLE,Int.reduceEq,Int.reduceToNat,↓reduceIte,Int.reducePow,Nat.reduceLeDiff,Nat.reduceLT,ne_eq,eq_self,List.length_cons,List.length_nil,q1,q2,L1]
  refine genA_o (L:=[]) (ws:=List.replicate lo 0) (kX_nil _) (fun W hW _=>gen_mk (by omega) W) fun g cap' _=>?_
  rw [List.length_replicate]
  simp (disch:=omega) only [sxE,r02_up.E,Nat.reduceAdd,Nat.reduceEqDiff,Nat.reduceMul,Nat.reduceSub,Int.reduceAdd,Int.reduceSub,Int.reduceMul,Int.reduceNeg,Int.reduceLT,Int.reduceLE,Int.reduceEq,Int.reduceToNat,↓reduceIte,Int.reducePow,Nat.reduceLeDiff,Nat.reduceLT,ne_eq,eq_self,List.length_cons,List.length_nil,Int.ofNat_zero]
  rw [r02_up.p2_l]
  refine LX_inv (upF w a n ws.length lo cap g cap') (fun x=>x.1≤ws.length∧UpI ws x.2 k s x.1) (fun x=>ws.length - x.1) ?round (0,List.replicate lo 0) ⟨Nat.zero_le _,hst⟩ ?start
  case start =>
   simp (disch:=omega) only [sxE,r02_up.E,Nat.reduceAdd,Nat.reduceEqDiff,Nat.reduceMul,Nat.reduceSub,Int.reduceAdd,Int.reduceSub,Int.reduceMul,Int.reduceNeg,Int.reduceLT,Int.reduceLE,Int.reduceEq,Int.reduceToNat,↓reduceIte,Int.reducePow,Nat.reduceLeDiff,Nat.reduceLT,ne_eq,eq_self,List.length_cons,List.length_nil,upF,Int.ofNat_zero]
  case round =>
   rintro ⟨i,out⟩ ⟨hi,hI⟩
   dsimp only at hi hI ⊢
   have hol:=hI.len
   rcases Nat.lt_or_ge i ws.length with hil | hil
   ·have c1:(i:Int) < (ws.length:Int):=by omega
    have c2:(0:Int)≤(i:Int)∧(i:Int) < (ws.length:Int):=by omega
    have c3:(0:Int)≤((i + k:Nat):Int)∧((i + k:Nat):Int) < (lo:Int):=by omega
    have c4:(0:Int)≤((i + k + 1:Nat):Int)∧((i + k + 1:Nat):Int) < (lo:Int):=by omega
    have k1:(i:Int) + 1 = ((i + 1:Nat):Int):=by omega
    have k2:(i:Int) + (k:Int) = ((i + k:Nat):Int):=by omega
    have k3:((i + k:Nat):Int) + 1 = ((i + k + 1:Nat):Int):=by omega
    have hx:=h.ws.getD i
    obtain ⟨t,u,t1,t2,t3,u0,us,td,e⟩:=shl_word hx hs
    obtain ⟨e1,e2,e3,e4,e5⟩:=up_step hI hil hs t3 td u0 us e
    obtain ⟨b,off,rfl⟩:∃ b off,a = some ⟨b,off,none⟩:=by
     obtain ⟨a',cap2,e',hsh⟩:=h.shp
     cases e'
     exact hsh.some (by omega)
    unfold upF
    by_cases hs0:s = 0
    ·have hu:u = 0:=by rw [hs0,Int.pow_zero] at us; omega
     have hnn:¬ (0:Int) < (s:Int):=by omega
     have hl1:(out.set (i + k) (out.getD (i + k) 0 + t)).length = lo:=by rw [List.length_set]; omega
     have hset:=set_self_D (out.set (i + k) (out.getD (i + k) 0 + t)) (i + k + 1) (by omega)
     rw [e4] at hset
     rw [hu,hset] at e5
     repeat' (first | simp (disch:=omega) only [sxE,r02_up.E,Nat.reduceAdd,Nat.reduceEqDiff,Nat.reduceMul,Nat.reduceSub,Int.reduceAdd,Int.reduceSub,Int.reduceMul,Int.reduceNeg,Int.reduceLT,Int.reduceLE,Int.reduceEq,Int.reduceToNat,↓reduceIte,Int.reducePow,Nat.reduceLeDiff,Nat.reduceLT,ne_eq,eq_self,List.length_cons,List.length_nil,Nat.mul_one,Nat.zero_add,c1,c2,c3,k1,k2,q1,q2,t1,e1,hnn] | (refine ldP_w i rfl h hil ?_) | (refine ldP_o (i + k) rfl (List.mem_singleton.2 rfl) (by omega) ?_) | (refine stP_o [.o (.slice (some ⟨g,0,none⟩) lo cap') (out.set (i + k) (out.getD (i + k) 0 + t))] (i + k) rfl (List.mem_singleton.2 rfl) (by omega) e2 (fun k1 hk1=>.inl (List.mem_singleton.1 hk1)) ?_) | (with_reducible refine cregF ?_))
     exact ⟨(i + 1,_),⟨hil,e5⟩,by dsimp only; omega,rfl,.inl rfl⟩
    ·have hnn:(0:Int) < (s:Int):=by omega
     have k5:64 - (s:Int) = ((64 - s:Nat):Int):=by omega
     have hz:=(or_add 0 U64.zero e3 (by decide) ⟨u,by omega⟩).1
     rw [Int.zero_add] at hz
     have hl1:(out.set (i + k) (out.getD (i + k) 0 + t)).length = lo:=by rw [List.length_set]; omega
     repeat' (first | simp (disch:=omega) only [sxE,r02_up.E,Nat.reduceAdd,Nat.reduceEqDiff,Nat.reduceMul,Nat.reduceSub,Int.reduceAdd,Int.reduceSub,Int.reduceMul,Int.reduceNeg,Int.reduceLT,Int.reduceLE,Int.reduceEq,Int.reduceToNat,↓reduceIte,Int.reducePow,Nat.reduceLeDiff,Nat.reduceLT,ne_eq,eq_self,List.length_cons,List.length_nil,Nat.mul_one,Nat.zero_add,c1,c2,c3,c4,k1,k2,k3,k5,q1,q2,t1,t2,e1,e4,hz,hnn] | (refine ldP_w i rfl h hil ?_) | (refine ldP_o (i + k) rfl (List.mem_singleton.2 rfl) (by omega) ?_) | (refine ldP_o (i + k + 1) rfl (List.mem_singleton.2 rfl) (by omega) ?_) | (refine stP_o [.o (.slice (some ⟨g,0,none⟩) lo cap') (out.set (i + k) (out.getD (i + k) 0 + t))] (i + k) rfl (List.mem_singleton.2 rfl) (by omega) e2 (fun k1 hk1=>.inl (List.mem_singleton.1 hk1)) ?_) | (refine stP_o [.o (.slice (some ⟨g,0,none⟩) lo cap') ((out.set (i + k) (out.getD (i + k) 0 + t)).set (i + k + 1) u)] (i + k + 1) rfl (List.mem_singleton.2 rfl) (by omega) e3 (fun k1 hk1=>.inl (List.mem_singleton.1 hk1)) ?_) | (with_reducible refine cregF ?_))
     exact ⟨(i + 1,_),⟨hil,e5⟩,by dsimp only; omega,rfl,.inl rfl⟩
   ·have hie:i = ws.length:=by omega
    have c1:¬ (i:Int) < (ws.length:Int):=by omega
    have hv:VL out = VL ws * 2 ^ n:=by rw [hie] at hI; rw [up_end hI,hn]
    unfold upF
    simp (disch:=omega) only [sxE,r02_up.E,Nat.reduceAdd,Nat.reduceEqDiff,Nat.reduceMul,Nat.reduceSub,Int.reduceAdd,Int.reduceSub,Int.reduceMul,Int.reduceNeg,Int.reduceLT,Int.reduceLE,Int.reduceEq,Int.reduceToNat,↓reduceIte,Int.reducePow,Nat.reduceLeDiff,Nat.reduceLT,ne_eq,eq_self,List.length_cons,List.length_nil,c1]
    refine asks_trim (L:=[.o (.slice (some ⟨g,0,none⟩) lo cap') out]) [.o (.slice (some ⟨g,0,none⟩) (wl (VL out)).length cap') (wl (VL out))] rfl rfl (List.mem_singleton.2 rfl) (fun k hk=>.inl (List.mem_singleton.1 hk)) ?_
    rw [hv]
    simp (disch:=omega) only [sxE,r02_up.E,Nat.reduceAdd,Nat.reduceEqDiff,Nat.reduceMul,Nat.reduceSub,Int.reduceAdd,Int.reduceSub,Int.reduceMul,Int.reduceNeg,Int.reduceLT,Int.reduceLE,Int.reduceEq,Int.reduceToNat,↓reduceIte,Int.reducePow,Nat.reduceLeDiff,Nat.reduceLT,ne_eq,eq_self,List.length_cons,List.length_nil]
    exact ⟨g,cap',rfl,rfl⟩
end Go.Proofs.Ytncmmbacoknefaa

/- DvK: Plain facts for bits.Div64: two words by one. -/
namespace Go.Proofs.Ytncmmbacoknefaa
open Go
set_option linter.unusedVariables false
set_option linter.unusedSimpArgs false
structure KI (v1 v0 u1 u32 q r:Int):Prop where
 eq:q * v1 + r = u32
 ge:(u32 * 4294967296 + u1) / (v1 * 4294967296 + v0)≤q
 r0:0≤r
 rb:r < 4294967296
 q0:0≤q
 qb:q≤4294967297
structure KC (v1 v0 u1 u32:Int):Prop where
 a1:2147483648≤v1
 a2:v1 < 4294967296
 b1:0≤v0
 b2:v0 < 4294967296
 c1:0≤u1
 c2:u1 < 4294967296
 d1:0≤u32
 d2:u32 < v1 * 4294967296 + v0
section
variable {v1 v0 u1 u32 q r:Int}
theorem KC.vpos (h:KC v1 v0 u1 u32):0 < v1 * 4294967296 + v0:=by have:=h.a1; have:=h.b1; omega
theorem KC.qlt (h:KC v1 v0 u1 u32):(u32 * 4294967296 + u1) / (v1 * 4294967296 + v0) < 4294967296:=by
 refine Int.ediv_lt_of_lt_mul h.vpos ?_
 have:=h.d2; have:=h.c2
 omega
theorem KC.q0 (h:KC v1 v0 u1 u32):0≤(u32 * 4294967296 + u1) / (v1 * 4294967296 + v0):=Int.ediv_nonneg (by have:=h.d1; have:=h.c1; omega) (Int.le_of_lt h.vpos)
theorem KC.start (h:KC v1 v0 u1 u32):KI v1 v0 u1 u32 (u32 / v1) (u32 - u32 / v1 * v1):=by
 have hv:0 < v1:=by have:=h.a1; omega
 have e1:=Int.mul_ediv_add_emod u32 v1
 have e2:=Int.emod_nonneg u32 (Int.ne_of_gt hv)
 have e3:=Int.emod_lt_of_pos u32 hv
 have e4:u32 / v1 * v1 = v1 * (u32 / v1):=Int.mul_comm _ _
 have hQ:=Int.ediv_mul_le (u32 * 4294967296 + u1) (Int.ne_of_gt h.vpos)
 have hQ0:=h.q0
 have hQ1:=h.qlt
 generalize hQe:(u32 * 4294967296 + u1) / (v1 * 4294967296 + v0) = Q at *
 have d1:=h.d1
 refine ⟨by omega,?_,by omega,by have:=h.a2; omega,Int.ediv_nonneg d1 (Int.le_of_lt hv),?_⟩
 ·have m1:Q * (v1 * 4294967296 + v0) = (Q * v1) * 4294967296 + Q * v0:=by rw [Int.mul_add,Int.mul_assoc]
  have m2:0≤Q * v0:=Int.mul_nonneg hQ0 h.b1
  have m3:Q * v1≤u32:=by have:=h.c2; omega
  rw [hQe]
  exact (Int.le_ediv_iff_mul_le hv).2 m3
 ·have:u32 / v1 < 4294967298:=by
   refine Int.ediv_lt_of_lt_mul hv ?_
   have:=h.d2; have:=h.b2; have:=h.a1
   omega
  omega
theorem KI.more (h:KC v1 v0 u1 u32) (k:KI v1 v0 u1 u32 q r) (ht:4294967296≤q∨4294967296 * r + u1 < q * v0):(u32 * 4294967296 + u1) / (v1 * 4294967296 + v0)≤q - 1:=by
 have hQ1:=h.qlt
 rcases ht with ht | ht
 ·omega
 ·have:(u32 * 4294967296 + u1) / (v1 * 4294967296 + v0) < q:=by
   refine Int.ediv_lt_of_lt_mul h.vpos ?_
   have m1:q * (v1 * 4294967296 + v0) = (q * v1) * 4294967296 + q * v0:=by rw [Int.mul_add,Int.mul_assoc]
   have:=k.eq
   omega
  omega
theorem KC.is (h:KC v1 v0 u1 u32) (he:q * v1 + r = u32) (hge:(u32 * 4294967296 + u1) / (v1 * 4294967296 + v0)≤q) (ht:q * v0≤4294967296 * r + u1):q = (u32 * 4294967296 + u1) / (v1 * 4294967296 + v0):=by
 refine Int.le_antisymm ((Int.le_ediv_iff_mul_le h.vpos).2 ?_) hge
 have m1:q * (v1 * 4294967296 + v0) = (q * v1) * 4294967296 + q * v0:=by rw [Int.mul_add,Int.mul_assoc]
 omega
theorem KI.step (h:KC v1 v0 u1 u32) (k:KI v1 v0 u1 u32 q r) (ht:(u32 * 4294967296 + u1) / (v1 * 4294967296 + v0)≤q - 1):(r + v1 < 4294967296→KI v1 v0 u1 u32 (q - 1) (r + v1))∧(4294967296≤r + v1→q - 1 = (u32 * 4294967296 + u1) / (v1 * 4294967296 + v0)):=by
 have hQ0:=h.q0
 have e:(q - 1) * v1 + (r + v1) = u32:=by
  have:=k.eq
  rw [Int.sub_mul,Int.one_mul]
  omega
 refine ⟨fun hr=>⟨e,ht,by have:=k.r0; have:=h.a1; omega,hr,by omega,by have:=k.qb; omega⟩,fun hr=>?_⟩
 refine h.is e ht ?_
 have q0:0≤q - 1:=by omega
 have hlt:(q - 1) * v1 < 4294967296 * v1:=by have:=h.d2; have:=h.b2; omega
 have hq:q - 1 < 4294967296:=by
  by_cases hc:q - 1 < 4294967296
  ·exact hc
  ·have:4294967296 * v1≤(q - 1) * v1:=Int.mul_le_mul_of_nonneg_right (by omega) (by have:=h.a1; omega)
   omega
 have m2:(q - 1) * v0≤4294967296 * v0:=Int.mul_le_mul_of_nonneg_right (by omega) h.b1
 have:=h.b2
 have:=h.c1
 omega
theorem KC.rest (h:KC v1 v0 u1 u32):∃ R,(u32 * 4294967296 + u1) - (u32 * 4294967296 + u1) / (v1 * 4294967296 + v0) * (v1 * 4294967296 + v0) = R∧0≤R∧R < v1 * 4294967296 + v0∧R = (u32 * 4294967296 + u1) % (v1 * 4294967296 + v0):=by
 have e1:=Int.mul_ediv_add_emod (u32 * 4294967296 + u1) (v1 * 4294967296 + v0)
 have e2:=Int.emod_nonneg (u32 * 4294967296 + u1) (Int.ne_of_gt h.vpos)
 have e3:=Int.emod_lt_of_pos (u32 * 4294967296 + u1) h.vpos
 refine ⟨(u32 * 4294967296 + u1) % (v1 * 4294967296 + v0),?_,e2,e3,rfl⟩
 rw [Int.mul_comm ((u32 * 4294967296 + u1) / (v1 * 4294967296 + v0))]
 omega
end
theorem two_digits {V U u32 u1 u0:Int} (hV:0 < V) (hU:U = (u32 * 4294967296 + u1) * 4294967296 + u0) :
  U / V = (u32 * 4294967296 + u1) / V * 4294967296 + ((u32 * 4294967296 + u1) % V * 4294967296 + u0) / V∧U % V = ((u32 * 4294967296 + u1) % V * 4294967296 + u0) % V:=by
 have e1:=Int.mul_ediv_add_emod (u32 * 4294967296 + u1) V
 generalize (u32 * 4294967296 + u1) / V = Q at *
 generalize (u32 * 4294967296 + u1) % V = R at *
 have e2:U = (R * 4294967296 + u0) + V * (Q * 4294967296):=by
  rw [hU,← e1,Int.add_mul,Int.mul_assoc]; omega
 rw [e2]
 refine ⟨?_,?_⟩
 ·rw [Int.add_mul_ediv_left _ _ (Int.ne_of_gt hV)]; omega
 ·rw [Int.add_mul_emod_self_left]
theorem and_mask {x:Int} (h:U64 x):IntKind.u64.wrap ((BitVec.ofInt IntKind.u64.bits x &&& BitVec.ofInt IntKind.u64.bits 4294967295).toNat:Int) = x % 4294967296:=by
 have e1:=toNat_ofInt h
 have e2:(BitVec.ofInt IntKind.u64.bits 4294967295).toNat = 2 ^ 32 - 1:=by decide
 rw [BitVec.toNat_and,e1,e2,Nat.and_two_pow_sub_one_eq_mod]
 obtain ⟨n,rfl⟩:=Int.eq_ofNat_of_zero_le h.1
 rw [Int.toNat_natCast]
 have:(n % 2 ^ 32:Nat) < 4294967296:=Nat.mod_lt _ (by decide)
 rw [IntWalk.u64_in _ ⟨by omega,by omega⟩]
 omega
theorem norm_y {y:Int} (h:U64 y) (h0:y≠0):∃ s:Nat,s = 64 - Go.Lib.bitLen y.toNat∧s < 64∧Go.Lib.bitLen y.toNat≤64∧9223372036854775808≤y * 2 ^ s∧y * 2 ^ s < 18446744073709551616:=by
 obtain ⟨n,rfl⟩:=Int.eq_ofNat_of_zero_le h.1
 rw [Int.toNat_natCast]
 obtain ⟨b1,b2,b3⟩:=Go.Lib.bitLenAux_bounds 64 n (by have:=h.2; omega) (by omega)
 have e:Go.Lib.bitLen n = Go.Lib.bitLenAux 64 n:=rfl
 rw [e]
 generalize Go.Lib.bitLenAux 64 n = L at *
 have hL:L≤64:=by
  by_cases hL:L≤64
  ·exact hL
  ·have:2 ^ 64≤2 ^ (L - 1):=Nat.pow_le_pow_right (by decide) (by omega)
   have:=h.2
   omega
 have p1:(2:Nat) ^ (L - 1) * 2 ^ (64 - L) = 9223372036854775808:=by rw [← Nat.pow_add,show L - 1 + (64 - L) = 63 by omega]
 have p2:(2:Nat) ^ L * 2 ^ (64 - L) = 18446744073709551616:=by rw [← Nat.pow_add,show L + (64 - L) = 64 by omega]
 refine ⟨64 - L,rfl,by omega,hL,?_,?_⟩
 ·have:=Nat.mul_le_mul_right (2 ^ (64 - L)) b2
  rw [p1] at this
  have h:=Int.ofNat_le.2 this
  rw [Int.natCast_mul,Int.natCast_pow] at h
  exact h
 ·have:=Nat.mul_lt_mul_of_pos_right b3 (Nat.two_pow_pos (64 - L))
  rw [p2] at this
  have h:=Int.ofNat_lt.2 this
  rw [Int.natCast_mul,Int.natCast_pow] at h
  exact h
end Go.Proofs.Ytncmmbacoknefaa

/- Hc: What a call of bits.Div64 gives. -/
namespace Go.Proofs.Ytncmmbacoknefaa
open Go Go.RowKit Sx
set_option linter.unusedVariables false
set_option linter.unusedSimpArgs false
def d2F (V v1 v0 u0 Q1 u21:Int) (s:Nat) (x:Int × Int):St:=⟨0,[(2,.v (.int .u64 V)),(8,.v (.int .u64 (s:Int))),(9,.v (.int .u64 v1)),(10,.v (.int .u64 v0)),(14,.v (.int .u64 u0)),(15,.v (.int .u64 Q1)),(16,.v (.int .u64 x.2)),(17,.v (.int .u64 u21)),(18,.v (.int .u64 x.1))],[],ext0⟩
def d1F (V v1 v0 u32 u1 u0:Int) (s:Nat) (x:Int × Int):St:=⟨0,[(2,.v (.int .u64 V)),(8,.v (.int .u64 (s:Int))),(9,.v (.int .u64 v1)),(10,.v (.int .u64 v0)),(11,.v (.int .u64 u32)),(13,.v (.int .u64 u1)),(14,.v (.int .u64 u0)),(15,.v (.int .u64 x.1)),(16,.v (.int .u64 x.2))],[],ext0⟩
theorem mul_bnd {q v:Int} (h0:0≤q) (h1:q < 4294967296) (h2:0≤v) (h3:v < 4294967296):0≤q * v∧q * v≤18446744069414584320:=by
 refine ⟨Int.mul_nonneg h0 h2,?_⟩
 have:=Int.mul_le_mul_of_nonneg_right (show q≤4294967295 by omega) h2
 omega
theorem div64_two {V v1 v0 u0 Q1 u21:Int} {s:Nat} {w:World} {R:Value→Prop} (hV:V = v1 * 4294967296 + v0) (kc:KC v1 v0 u0 u21) (hQ:0≤Q1∧Q1 < 4294967296) (hs:s < 64)
  (hR:R (.tuple #[.int .u64 (Q1 * 4294967296 + (u21 * 4294967296 + u0) / V),.int .u64 (((u21 * 4294967296 + u0) % V).fdiv (2 ^ s))])) {q r:Int} (hI:KI v1 v0 u0 u21 q r) :
  math_bits_Div64.p2 (cx Try.prog w 135) (fin [(6,none),(7,none)] R) (d2F V v1 v0 u0 Q1 u21 s (q,r)):=by
 have hA1:=kc.a1
 have hA2:=kc.a2
 have hB1:=kc.b1
 have hB2:=kc.b2
 have hC1:=kc.c1
 have hC2:=kc.c2
 obtain ⟨rr,r1,r2,r3,r4⟩:=kc.rest
 rw [← hV] at r1 r3 r4
 have hq0:=kc.q0
 have hq1:=kc.qlt
 rw [← hV] at hq0 hq1
 have last:IntKind.u64.wrap (IntKind.u64.wrap (IntKind.u64.wrap (u21 * 4294967296) + u0) - IntKind.u64.wrap ((u21 * 4294967296 + u0) / V * V)) = rr:=by
  show (((u21 * 4294967296) % 18446744073709551616 + u0) % 18446744073709551616 - ((u21 * 4294967296 + u0) / V * V) % 18446744073709551616) % 18446744073709551616 = rr
  generalize (u21 * 4294967296 + u0) / V * V = z at *
  omega
 have last1:IntKind.u64.wrap (IntKind.u64.wrap (Q1 * 4294967296) + (u21 * 4294967296 + u0) / V) = Q1 * 4294967296 + (u21 * 4294967296 + u0) / V:=by
  show ((Q1 * 4294967296) % 18446744073709551616 + (u21 * 4294967296 + u0) / V) % 18446744073709551616 = _
  omega
 rw [← r4] at hR
 rw [math_bits_Div64.p2_l]
 refine LX_inv (d2F V v1 v0 u0 Q1 u21 s) (fun x=>KI v1 v0 u0 u21 x.1 x.2) (fun x=>x.1.toNat) ?round (q,r) hI ?start
 case start=>simp (disch:=omega) only [sxE,math_bits_Div64.E,Nat.reduceAdd,Nat.reduceEqDiff,Nat.reduceMul,Nat.reduceSub,Int.reduceAdd,Int.reduceSub,Int.reduceMul,Int.reduceNeg,Int.reduceLT,Int.reduceLE,Int.reduceEq,Int.reduceToNat,↓reduceIte,Int.reducePow,Nat.reduceLeDiff,Nat.reduceLT,ne_eq,eq_self,List.length_cons,List.length_nil,d2F]
 case round =>
  clear hI
  rintro ⟨q,r⟩ hI
  dsimp only at hI ⊢
  have g1:=hI.r0
  have g2:=hI.rb
  have g3:=hI.q0
  have g4:=hI.qb
  have more:4294967296≤q∨4294967296 * r + u0 < q * v0→(u21 * 4294967296 + u0) / V≤q - 1:=fun ht=>by have:=hI.more kc ht; rwa [← hV] at this
  have step:=hI.step kc
  rw [← hV] at step
  have done:¬ (4294967296≤q∨4294967296 * r + u0 < q * v0)→q = (u21 * 4294967296 + u0) / V:=fun ht=>by
   have:=kc.is hI.eq hI.ge (by omega)
   rwa [← hV] at this
  unfold d2F
  by_cases t1:4294967296≤q
  ·have hge:=more (.inl t1)
   obtain ⟨s1,s2⟩:=step hge
   by_cases t2:4294967296≤r + v1
   ·have e:=s2 t2
    repeat' (first | simp (disch:=omega) only [sxE,math_bits_Div64.E,Nat.reduceAdd,Nat.reduceEqDiff,Nat.reduceMul,Nat.reduceSub,Int.reduceAdd,Int.reduceSub,Int.reduceMul,Int.reduceNeg,Int.reduceLT,Int.reduceLE,Int.reduceEq,Int.reduceToNat,↓reduceIte,Int.reducePow,Nat.reduceLeDiff,Nat.reduceLT,ne_eq,eq_self,List.length_cons,List.length_nil,e,last,last1] | (with_reducible refine cregF ?_))
    exact hR
   ·repeat' (first | simp (disch:=omega) only [sxE,math_bits_Div64.E,Nat.reduceAdd,Nat.reduceEqDiff,Nat.reduceMul,Nat.reduceSub,Int.reduceAdd,Int.reduceSub,Int.reduceMul,Int.reduceNeg,Int.reduceLT,Int.reduceLE,Int.reduceEq,Int.reduceToNat,↓reduceIte,Int.reducePow,Nat.reduceLeDiff,Nat.reduceLT,ne_eq,eq_self,List.length_cons,List.length_nil] | (with_reducible refine cregF ?_))
    exact ⟨(q - 1,r + v1),s1 (by omega),by dsimp only; omega,rfl,rfl⟩
  ·obtain ⟨m1,m2⟩:=mul_bnd g3 (by omega) hB1 hB2
   generalize hz:q * v0 = z at *
   by_cases t3:4294967296 * r + u0 < z
   ·have hge:=more (.inr t3)
    obtain ⟨s1,s2⟩:=step hge
    by_cases t2:4294967296≤r + v1
    ·have e:=s2 t2
     repeat' (first | simp (disch:=omega) only [sxE,math_bits_Div64.E,Nat.reduceAdd,Nat.reduceEqDiff,Nat.reduceMul,Nat.reduceSub,Int.reduceAdd,Int.reduceSub,Int.reduceMul,Int.reduceNeg,Int.reduceLT,Int.reduceLE,Int.reduceEq,Int.reduceToNat,↓reduceIte,Int.reducePow,Nat.reduceLeDiff,Nat.reduceLT,ne_eq,eq_self,List.length_cons,List.length_nil,hz,e,last,last1] | (with_reducible refine cregF ?_))
     exact hR
    ·repeat' (first | simp (disch:=omega) only [sxE,math_bits_Div64.E,Nat.reduceAdd,Nat.reduceEqDiff,Nat.reduceMul,Nat.reduceSub,Int.reduceAdd,Int.reduceSub,Int.reduceMul,Int.reduceNeg,Int.reduceLT,Int.reduceLE,Int.reduceEq,Int.reduceToNat,↓reduceIte,Int.reducePow,Nat.reduceLeDiff,Nat.reduceLT,ne_eq,eq_self,List.length_cons,List.length_nil,hz] | (with_reducible refine cregF ?_))
     exact ⟨(q - 1,r + v1),s1 (by omega),by dsimp only; omega,rfl,rfl⟩
   ·have e:=done (by omega)
    repeat' (first | simp (disch:=omega) only [sxE,math_bits_Div64.E,Nat.reduceAdd,Nat.reduceEqDiff,Nat.reduceMul,Nat.reduceSub,Int.reduceAdd,Int.reduceSub,Int.reduceMul,Int.reduceNeg,Int.reduceLT,Int.reduceLE,Int.reduceEq,Int.reduceToNat,↓reduceIte,Int.reducePow,Nat.reduceLeDiff,Nat.reduceLT,ne_eq,eq_self,List.length_cons,List.length_nil,hz] | (with_reducible refine cregF ?_))
    rw [e]
    simp only [last,last1]
    exact hR
theorem div64_one {V v1 v0 u1 u0 u32:Int} {s:Nat} {w:World} {R:Value→Prop} (hV:V = v1 * 4294967296 + v0) (kc:KC v1 v0 u1 u32) (hu0:0≤u0∧u0 < 4294967296) (hs:s < 64)
  (hR:R (.tuple #[.int .u64 ((u32 * 4294967296 + u1) / V * 4294967296 + ((u32 * 4294967296 + u1) % V * 4294967296 + u0) / V),.int .u64 ((((u32 * 4294967296 + u1) % V * 4294967296 + u0) % V).fdiv (2 ^ s))])) {q r:Int} (hI:KI v1 v0 u1 u32 q r) :
  math_bits_Div64.p12 (cx Try.prog w 135) (fin [(6,none),(7,none)] R) (d1F V v1 v0 u32 u1 u0 s (q,r)):=by
 have hA1:=kc.a1
 have hA2:=kc.a2
 have hB1:=kc.b1
 have hB2:=kc.b2
 have hC1:=kc.c1
 have hC2:=kc.c2
 have hD1:=kc.d1
 have hD2:=kc.d2
 obtain ⟨rr,r1,r2,r3,r4⟩:=kc.rest
 rw [← hV] at r1 r3 r4
 have hq0:=kc.q0
 have hq1:=kc.qlt
 rw [← hV] at hq0 hq1
 rw [← r4] at hR
 have kc2:KC v1 v0 u0 rr:=⟨hA1,hA2,hB1,hB2,hu0.1,hu0.2,r2,by omega⟩
 have st2:=kc2.start
 have last:IntKind.u64.wrap (IntKind.u64.wrap (IntKind.u64.wrap (u32 * 4294967296) + u1) - IntKind.u64.wrap ((u32 * 4294967296 + u1) / V * V)) = rr:=by
  show (((u32 * 4294967296) % 18446744073709551616 + u1) % 18446744073709551616 - ((u32 * 4294967296 + u1) / V * V) % 18446744073709551616) % 18446744073709551616 = rr
  generalize (u32 * 4294967296 + u1) / V * V = z at *
  omega
 have dv0:v1≠0:=by omega
 have w1:IntKind.u64.wrap (rr / v1) = rr / v1:=s_wu _ (by have:=st2.q0; omega) (by have:=st2.qb; omega)
 have w2:IntKind.u64.wrap (rr / v1 * v1) = rr / v1 * v1:=s_wu _ (Int.mul_nonneg st2.q0 (by omega)) (by have:=st2.eq; have:=st2.r0; omega)
 have w3:IntKind.u64.wrap (rr - rr / v1 * v1) = rr - rr / v1 * v1:=s_wu _ st2.r0 (by have:=st2.rb; omega)
 have two:=div64_two (w:=w) (Q1:=(u32 * 4294967296 + u1) / V) hV kc2 ⟨hq0,hq1⟩ hs hR st2
 unfold d2F at two
 rw [math_bits_Div64.p12_l]
 refine LX_inv (d1F V v1 v0 u32 u1 u0 s) (fun x=>KI v1 v0 u1 u32 x.1 x.2) (fun x=>x.1.toNat) ?round (q,r) hI ?start
 case start=>simp (disch:=omega) only [sxE,math_bits_Div64.E,Nat.reduceAdd,Nat.reduceEqDiff,Nat.reduceMul,Nat.reduceSub,Int.reduceAdd,Int.reduceSub,Int.reduceMul,Int.reduceNeg,Int.reduceLT,Int.reduceLE,Int.reduceEq,Int.reduceToNat,↓reduceIte,Int.reducePow,Nat.reduceLeDiff,Nat.reduceLT,ne_eq,eq_self,List.length_cons,List.length_nil,d1F]
 case round =>
  clear hI
  rintro ⟨q,r⟩ hI
  dsimp only at hI ⊢
  have g1:=hI.r0
  have g2:=hI.rb
  have g3:=hI.q0
  have g4:=hI.qb
  have more:4294967296≤q∨4294967296 * r + u1 < q * v0→(u32 * 4294967296 + u1) / V≤q - 1:=fun ht=>by have:=hI.more kc ht; rwa [← hV] at this
  have step:=hI.step kc
  rw [← hV] at step
  have done:¬ (4294967296≤q∨4294967296 * r + u1 < q * v0)→q = (u32 * 4294967296 + u1) / V:=fun ht=>by
   have:=kc.is hI.eq hI.ge (by omega)
   rwa [← hV] at this
  unfold d1F
  by_cases t1:4294967296≤q
  ·have hge:=more (.inl t1)
   obtain ⟨s1,s2⟩:=step hge
   by_cases t2:4294967296≤r + v1
   ·have e:=s2 t2
    repeat' (first | simp (disch:=omega) only [sxE,math_bits_Div64.E,Nat.reduceAdd,Nat.reduceEqDiff,Nat.reduceMul,Nat.reduceSub,Int.reduceAdd,Int.reduceSub,Int.reduceMul,Int.reduceNeg,Int.reduceLT,Int.reduceLE,Int.reduceEq,Int.reduceToNat,↓reduceIte,Int.reducePow,Nat.reduceLeDiff,Nat.reduceLT,ne_eq,eq_self,List.length_cons,List.length_nil,e,last,dv0,w1,w2,w3] | (with_reducible refine cregF ?_))
    exact two
   ·repeat' (first | simp (disch:=omega) only [sxE,math_bits_Div64.E,Nat.reduceAdd,Nat.reduceEqDiff,Nat.reduceMul,Nat.reduceSub,Int.reduceAdd,Int.reduceSub,Int.reduceMul,Int.reduceNeg,Int.reduceLT,Int.reduceLE,Int.reduceEq,Int.reduceToNat,↓reduceIte,Int.reducePow,Nat.reduceLeDiff,Nat.reduceLT,ne_eq,eq_self,List.length_cons,List.length_nil] | (with_reducible refine cregF ?_))
    exact ⟨(q - 1,r + v1),s1 (by omega),by dsimp only; omega,rfl,rfl⟩
  ·obtain ⟨m1,m2⟩:=mul_bnd g3 (by omega) hB1 hB2
   generalize hz:q * v0 = z at *
   by_cases t3:4294967296 * r + u1 < z
   ·have hge:=more (.inr t3)
    obtain ⟨s1,s2⟩:=step hge
    by_cases t2:4294967296≤r + v1
    ·have e:=s2 t2
     repeat' (first | simp (disch:=omega) only [sxE,math_bits_Div64.E,Nat.reduceAdd,Nat.reduceEqDiff,Nat.reduceMul,Nat.reduceSub,Int.reduceAdd,Int.reduceSub,Int.reduceMul,Int.reduceNeg,Int.reduceLT,Int.reduceLE,Int.reduceEq,Int.reduceToNat,↓reduceIte,Int.reducePow,Nat.reduceLeDiff,Nat.reduceLT,ne_eq,eq_self,List.length_cons,List.length_nil,hz,e,last,dv0,w1,w2,w3] | (with_reducible refine cregF ?_))
     exact two
    ·repeat' (first | simp (disch:=omega) only [sxE,math_bits_Div64.E,Nat.reduceAdd,Nat.reduceEqDiff,Nat.reduceMul,Nat.reduceSub,Int.reduceAdd,Int.reduceSub,Int.reduceMul,Int.reduceNeg,Int.reduceLT,Int.reduceLE,Int.reduceEq,Int.reduceToNat,↓reduceIte,Int.reducePow,Nat.reduceLeDiff,Nat.reduceLT,ne_eq,eq_self,List.length_cons,List.length_nil,hz] | (with_reducible refine cregF ?_))
     exact ⟨(q - 1,r + v1),s1 (by omega),by dsimp only; omega,rfl,rfl⟩
   ·have e:=done (by omega)
    subst e
    repeat' (first | simp (disch:=omega) only [sxE,math_bits_Div64.E,Nat.reduceAdd,Nat.reduceEqDiff,Nat.reduceMul,Nat.reduceSub,Int.reduceAdd,Int.reduceSub,Int.reduceMul,Int.reduceNeg,Int.reduceLT,Int.reduceLE,Int.reduceEq,Int.reduceToNat,↓reduceIte,Int.reducePow,Nat.reduceLeDiff,Nat.reduceLT,ne_eq,eq_self,List.length_cons,List.length_nil,hz,last,dv0,w1,w2,w3] | (with_reducible refine cregF ?_))
    exact two
theorem en_div64 (l:Array Value) (W:World):(callFunc 130 l).run Try.prog W = .ok (.enter 130 l) W:=Sx.en_of Try.func130 (by kernel_rfl) (by kernel_rfl) l W
theorem g_lz64 {x:Int} (h:U64 x) (W:World):Gives Try.prog 168 [.int .u64 x] W (· = .int .i64 (64 - (Go.Lib.bitLen x.toNat:Int))) :=
 gives_known (Sx.en_of Try.func168 (by kernel_rfl) (by kernel_rfl)) ((Try.bits_LeadingZeros64 x W h.1 h.2).mono fun _ _ ⟨h1,h2⟩=>⟨h1,by subst h2; exact Below.refl _ _⟩)
set_option maxRecDepth 100000 in
theorem g_div64 {hi lo y:Int} (hh:U64 hi) (hl:U64 lo) (hy:U64 y) (hlt:hi < y) (W:World):Gives Try.prog 130 [.int .u64 hi,.int .u64 lo,.int .u64 y] W (· = .tuple #[.int .u64 ((hi * 18446744073709551616 + lo) / y),.int .u64 ((hi * 18446744073709551616 + lo) % y)]):=by
 refine gives_known en_div64 ?_
 obtain ⟨hh0,hh1⟩:=id hh
 obtain ⟨hl0,hl1⟩:=id hl
 obtain ⟨hy0,hy1⟩:=id hy
 have hyp:0 < y:=by omega
 by_cases h0:hi = 0
 ·have d0:0≤lo / y:=Int.ediv_nonneg hl0 (by omega)
  have d1:lo / y≤lo:=Int.ediv_le_self y hl0
  have dn:y≠0:=by omega
  subst h0
  rw [Int.zero_mul,Int.zero_add]
  refine known_of (enter Try.func130 math_bits_Div64.ok (args:=[.int .u64 0,.int .u64 lo,.int .u64 y]) (by simp) ?_)
  repeat' (first | simp (disch:=omega) only [sxE,math_bits_Div64.E,Nat.reduceAdd,Nat.reduceEqDiff,Nat.reduceMul,Nat.reduceSub,Int.reduceAdd,Int.reduceSub,Int.reduceMul,Int.reduceNeg,Int.reduceLT,Int.reduceLE,Int.reduceEq,Int.reduceToNat,↓reduceIte,Int.reducePow,Nat.reduceLeDiff,Nat.reduceLT,ne_eq,eq_self,List.length_cons,List.length_nil,dn] | (with_reducible refine cregF ?_))
 ·obtain ⟨s,hs1,hs,hL,hv1,hv2⟩:=norm_y hy (by omega)
  have hs2:IntKind.u64.wrap (64 - (Go.Lib.bitLen y.toNat:Int)) = (s:Int):=by rw [s_wu _ (by omega) (by omega)]; omega
  have hs3:64 - (s:Int) = ((64 - s:Nat):Int):=by omega
  obtain ⟨t,u,t1,t2,t3,u0,us,td,e⟩:=shl_word hl hs
  have p0:(0:Int) < 2 ^ s:=Int.pow_pos (by decide)
  have hV:IntKind.u64.wrap (y * 2 ^ s) = y * 2 ^ s:=s_wu _ (by omega) (by omega)
  have hle:(hi + 1) * 2 ^ s≤y * 2 ^ s:=Int.mul_le_mul_of_nonneg_right (by omega) (Int.le_of_lt p0)
  rw [Int.add_mul,Int.one_mul] at hle
  have hhp:0≤hi * 2 ^ s:=Int.mul_nonneg hh0 (Int.le_of_lt p0)
  have hH:IntKind.u64.wrap (hi * 2 ^ s) = hi * 2 ^ s:=s_wu _ hhp (by omega)
  obtain ⟨o1,o2,o3⟩:=or_add s ⟨u0,by omega⟩ ⟨hhp,by omega⟩ us ⟨hi,Int.mul_comm _ _⟩
  have hU:(hi * 18446744073709551616 + lo) * 2 ^ s = ((u + hi * 2 ^ s) * 4294967296 + t / 4294967296) * 4294967296 + t % 4294967296:=by
   rw [Int.add_mul,e,show hi * 18446744073709551616 * 2 ^ s = 18446744073709551616 * (hi * 2 ^ s) by rw [Int.mul_right_comm,Int.mul_comm]]
   generalize hi * 2 ^ s = H at *
   omega
  have hVp:0 < y * 2 ^ s:=by omega
  obtain ⟨f1,f2⟩:=two_digits hVp hU
  rw [Int.mul_ediv_mul_of_pos_left _ _ p0] at f1
  have f0:((hi * 18446744073709551616 + lo) * 2 ^ s) % (y * 2 ^ s) = ((hi * 18446744073709551616 + lo) % y) * 2 ^ s:=by
   rw [Int.mul_comm _ (2 ^ s),Int.mul_comm y,Int.mul_emod_mul_of_pos _ _ p0,Int.mul_comm]
  rw [f0] at f2
  have f3:(((hi * 18446744073709551616 + lo) % y) * 2 ^ s).fdiv (2 ^ s) = (hi * 18446744073709551616 + lo) % y:=by
   rw [Int.fdiv_eq_ediv_of_nonneg _ (Int.le_of_lt p0),Int.mul_ediv_cancel _ (Int.ne_of_gt p0)]
  have hVs:y * 2 ^ s = (y * 2 ^ s) / 4294967296 * 4294967296 + (y * 2 ^ s) % 4294967296:=by omega
  have kc:KC ((y * 2 ^ s) / 4294967296) ((y * 2 ^ s) % 4294967296) (t / 4294967296) (u + hi * 2 ^ s):=by
   obtain ⟨t30,t31⟩:=t3
   generalize y * 2 ^ s = V at *
   generalize hi * 2 ^ s = H at *
   exact ⟨by omega,by omega,by omega,by omega,by omega,by omega,by omega,by omega⟩
  have st:=kc.start
  have w1:IntKind.u64.wrap ((u + hi * 2 ^ s) / ((y * 2 ^ s) / 4294967296)) = (u + hi * 2 ^ s) / ((y * 2 ^ s) / 4294967296):=s_wu _ (by have:=st.q0; omega) (by have:=st.qb; omega)
  have w2:IntKind.u64.wrap ((u + hi * 2 ^ s) / ((y * 2 ^ s) / 4294967296) * ((y * 2 ^ s) / 4294967296)) = (u + hi * 2 ^ s) / ((y * 2 ^ s) / 4294967296) * ((y * 2 ^ s) / 4294967296):=s_wu _ (Int.mul_nonneg st.q0 (by have:=kc.a1; omega)) (by have:=st.eq; have:=st.r0; have:=o3.2; omega)
  have w3:IntKind.u64.wrap ((u + hi * 2 ^ s) - (u + hi * 2 ^ s) / ((y * 2 ^ s) / 4294967296) * ((y * 2 ^ s) / 4294967296)) = (u + hi * 2 ^ s) - (u + hi * 2 ^ s) / ((y * 2 ^ s) / 4294967296) * ((y * 2 ^ s) / 4294967296):=s_wu _ st.r0 (by have:=st.rb; omega)
  have dv0:(y * 2 ^ s) / 4294967296≠0:=by have:=kc.a1; omega
  have one:=div64_one (w:=W) (R:=fun v=>v = .tuple #[.int .u64 ((hi * 18446744073709551616 + lo) / y),.int .u64 ((hi * 18446744073709551616 + lo) % y)]) hVs kc (u0:=t % 4294967296) ⟨by omega,by omega⟩ hs (by rw [← f1,← f2,f3]) st
  have am1:=and_mask (x:=y * 2 ^ s) ⟨by omega,by omega⟩
  have am2:=and_mask t3
  have fd1:(y * 2 ^ s).fdiv 4294967296 = (y * 2 ^ s) / 4294967296:=Int.fdiv_eq_ediv_of_nonneg _ (by decide)
  have fd2:t.fdiv 4294967296 = t / 4294967296:=Int.fdiv_eq_ediv_of_nonneg _ (by decide)
  have hun:0≤u + hi * 2 ^ s:=o3.1
  have o1':=o1
  unfold d1F at one
  dsimp only at one
  clear f1 f2 f3 hU hL hs1
  refine known_of (enter Try.func130 math_bits_Div64.ok (args:=[.int .u64 hi,.int .u64 lo,.int .u64 y]) (by simp) ?_)
  repeat' (first | simp (disch:=omega) only [sxE,math_bits_Div64.E,Nat.reduceAdd,Nat.reduceEqDiff,Nat.reduceMul,Nat.reduceSub,Int.reduceAdd,Int.reduceSub,Int.reduceMul,Int.reduceNeg,Int.reduceLT,Int.reduceLE,Int.reduceEq,Int.reduceToNat,↓reduceIte,Int.reducePow,Nat.reduceLeDiff,Nat.reduceLT,ne_eq,eq_self,List.length_cons,List.length_nil,hs2,hs3,hV,hH,t1,t2,o2,am1,am2,fd1,fd2,dv0,w1,w2,w3] | (with_reducible refine Sx.call_at (f:=168) (fun W hW=>g_lz64 hy W) ?_) | (with_reducible refine cregF ?_))
  exact one
end Go.Proofs.Ytncmmbacoknefaa

/- Hd: What a call of the reference's divmod gives. -/
namespace Go.Proofs.Ytncmmbacoknefaa
open Go Go.RowKit Sx
set_option linter.unusedVariables false
set_option linter.unusedSimpArgs false
theorem gen_one {r:Int} (hr:U64 r) (W:World):∃ g cap W',(genRun (.bsl 113 1 [0]) [.int .u64 r]).run Try.prog W = .ok (.value (.slice (some ⟨g,0,none⟩) [r].length cap)) W'∧OwnU W' W.heap.size (.slice (some ⟨g,0,none⟩) [r].length cap) [r]∧Below W.heap.size W W' :=
 ⟨W.heap.size,1,W.alloc (.cells #[.int .u64 r] 35 (0,0)),by kernel_rfl,OwnU.lit W [r] (Ws.one hr) 35 rfl (show 1≤maxLen by decide),(Below.refl _ _).alloc (Nat.le_refl _) _⟩
theorem gen_none (W:World):∃ g cap W',(genRun (.bsl 113 0 []) []).run Try.prog W = .ok (.value (.slice (some ⟨g,0,none⟩) ([]:List Int).length cap)) W'∧OwnU W' W.heap.size (.slice (some ⟨g,0,none⟩) ([]:List Int).length cap) []∧Below W.heap.size W W' :=
 ⟨W.heap.size,0,W.alloc (.cells #[] 35 (0,0)),by kernel_rfl,OwnU.lit W [] Ws.nil 35 rfl (by decide),(Below.refl _ _).alloc (Nat.le_refl _) _⟩
theorem genA_app {C:Cx} {S:St} {K:St→Prop} {d:Option Nat} {L L0:List Kn} {t2:TypeId} {g cap:Nat} {src:Value} {ms:List Int} (hP:C.P = Try.prog) (ht2:∃ e2,Try.prog.underlying t2 = some (.slice e2)) (hT:S.T = kX C.w0.heap.size L) (hm:.o (.slice (some ⟨g,0,none⟩) 0 cap) []∈L)
  (hC:C.fr = none) (hL:∀ k∈L0,k∈L∧g ∉ k.bs) (hsrc:∀ W,Below C.w0.heap.size C.w0 W→(∀ k∈L,k.ok C.w0.heap.size W)→SlU W src ms) (hlen:ms.length≤1000000)
  (hk:∀ a c,Shp a ms.length c→(∀ b∈rbs (.slice a ms.length c),b = g∨b ∉ S.T.bs)→K (St.put ⟨S.n,S.E,S.H,kX C.w0.heap.size (.r (.slice a ms.length c) ms :: L0)⟩ d (.v (.slice a ms.length c)))) :
  genA C (.bi .append [113,t2] 113 [false,false]) [.slice (some ⟨g,0,none⟩) 0 cap,src] d K S:=by
 obtain ⟨e2,ht2⟩:=ht2
 obtain ⟨i0,hi,hz0,hz1,hz2⟩:=info_u
 refine genA_T (ι:={x:Option Addr × Nat // Shp x.1 ms.length x.2∧∀ b∈rbs (.slice x.1 ms.length x.2),b = g∨b ∉ S.T.bs}) (fun x=>.slice x.1.1 ms.length x.1.2) (fun x=>kX C.w0.heap.size (.r (.slice x.1.1 ms.length x.1.2) ms :: L0)) (fun W hW hok hbs=>⟨?_⟩) (fun x=>hk _ _ x.2.1 x.2.2)
 rw [hT] at hok
 have ho:OwnU W C.w0.heap.size (.slice (some ⟨g,0,none⟩) 0 cap) []:=hok _ hm
 obtain ⟨v',w',hrun,hown,hg,hat⟩:=run_append_u (P:=Try.prog) (ty:=113) W C.w0.heap.size Try.underlying113 ht2 hi hz0 hz1 hz2 ho (hsrc W hW hok) (by simp; omega) hW.size
 rw [List.nil_append] at hown
 obtain ⟨a,c,rfl,hs⟩:=hown.sl.shp
 have hr:(Kn.r (.slice a ms.length c) ms).ok C.w0.heap.size w':=⟨hown.sl,hown.fr (Nat.le_refl _)⟩
 have hb':∀ b∈rbs (.slice a ms.length c),b = g∨b = W.heap.size:=fun b hb=>by
  cases a with
  | none=>cases hb
  | some a =>
   have hb2:b∈(if c = 0 then [] else [a.block]):=hb
   have:b = a.block:=by split at hb2; cases hb2; exact List.mem_singleton.1 hb2
   subst this
   rcases hat with h | h
   ·left; exact Option.some.inj h
   ·right; exact Option.some.inj h
 have he:(genRun (.bi .append [113,t2] 113 [false,false]) [.slice (some ⟨g,0,none⟩) 0 cap,src]).run Try.prog W = .ok (.value (.slice a ms.length c)) w':=by
  show Sem.run _ (builtin .append [_,_].toArray _ [false,false].toArray [_,_].toArray) W = _
  unfold builtin
  rw [run_bind_ok hrun]
  rfl
 rw [hP,he]
 have hgb:g∈(kX C.w0.heap.size L).bs:=kX_bs.2 ⟨_,hm,List.mem_singleton.2 rfl⟩
 refine ⟨⟨(a,c),hs,fun b hb=>?_⟩,rfl,?_,?_,kX_stab C _,?_⟩
 ·rcases hb' b hb with h | h
  ·exact .inl h
  ·right; intro hT2; have:=(hbs b hT2).2; omega
 ·rw [mv_none hC,hT]
  exact ⟨hg.os,hg.tape,hg.output,hg.size,fun j hj hn=>hg.block j hj fun e=>hn (by cases e; exact hgb)⟩
 ·intro k hk
  rcases List.mem_cons.1 hk with rfl | hk
  ·exact hr
  ·obtain ⟨h1,h2⟩:=hL k hk
   exact (hok k h1).keep hg.size (fun b hb=>hg.block b ((hok k h1).lt b hb).2 fun e=>h2 (by cases e; exact hb)) fun b hbn hbl=>hg.block b hbl fun e=>by
    have:=(Kn.ok.lt (k:=.o (.slice (some ⟨g,0,none⟩) 0 cap) []) ho g (List.mem_singleton.2 rfl)).1
    have e2:b = g:=Option.some.inj e
    omega
 ·intro b hb
  rw [hT]
  obtain ⟨k,hk,hb⟩:=kX_bs.1 hb
  rcases List.mem_cons.1 hk with rfl | hk
  ·refine ⟨?_,(hr.lt b hb).2⟩
   rcases hb' b hb with h | h
   ·left; rw [h]; exact hgb
   ·right; omega
  ·exact ⟨.inl (kX_bs.2 ⟨k,(hL k hk).1,hb⟩),Nat.lt_of_lt_of_le ((hok k (hL k hk).1).lt b hb).2 hg.size⟩
theorem asks_half {C:Cx} {S:St} {K:St→Prop} {d:Option Nat} {L:List Kn} (L':List Kn) {g len cap:Nat} {ws:List Int} (hP:C.P = Try.prog) (hC:C.fr = none) (hT:S.T = kX C.w0.heap.size L) (hm:.o (.slice (some ⟨g,0,none⟩) len cap) ws∈L) (hlen:len≤1000000)
  (hL:∀ k∈L',k = .o (.slice (some ⟨g,0,none⟩) (wl (VL ws / 2)).length cap) (wl (VL ws / 2))∨(k∈L∧g ∉ k.bs))
  (hk:K (St.put ⟨S.n,S.E,S.H,kX C.w0.heap.size L'⟩ d (.v (.slice (some ⟨g,0,none⟩) (wl (VL ws / 2)).length cap)))):asks C 133 [.slice (some ⟨g,0,none⟩) len cap] d K S:=by
 refine asks_kn (ι:=Unit) (L:=L) (gs:=[g]) (fun _=>.slice (some ⟨g,0,none⟩) (wl (VL ws / 2)).length cap) (fun _=>L') (by rw [hP]; exact en_r02_half) hT (fun b hb=>by rw [List.mem_singleton.1 hb,mv_none hC,hT]; exact kX_bs.2 ⟨_,hm,List.mem_singleton.2 rfl⟩) (fun W hok b hb=>by rw [List.mem_singleton.1 hb]; exact (Kn.ok.lt (k:=.o (.slice (some ⟨g,0,none⟩) len cap) ws) (hok _ hm) g (List.mem_singleton.2 rfl)).1) (fun W hW hok=>?_) fun _=>hk
 rw [hP]
 have ho:OwnU W C.w0.heap.size (.slice (some ⟨g,0,none⟩) len cap) ws:=hok _ hm
 refine (rhalf_any hlen ho).mono fun e w' ⟨h1,h2,h3⟩=>⟨(),h1,h3,fun k hk=>?_⟩
 rcases hL k hk with rfl | ⟨hk,hg⟩
 ·exact .inr ⟨h2,fun b hb=>.inl (by rw [hT]; exact kX_bs.2 ⟨_,hm,hb⟩)⟩
 ·exact .inl ⟨hk,fun b hb h=>hg (by rw [← List.mem_singleton.1 h]; exact hb)⟩
theorem pw4b {z:Int} (h:A4 z):(wl z).length≤4:=(wl_len_lt h.1 4).2 (by rw [pw4]; exact h.2)
theorem SlU.nil (W:World):SlU W (.slice none 0 0) []:=⟨none,0,0,rfl,rfl,Nat.le_refl _,by decide,Ws.nil,fun h=>by omega⟩
theorem SlF.nil (W:World) (n:Nat):SlF W n (.slice none 0 0) []:=⟨SlU.nil W,fun b off e=>by cases e⟩
theorem wl_one {y:Int} (h:0≤y) (hl:(wl y).length = 1):wl y = [y]∧U64 y:=by
 have hp:0 < y:=by
  rcases Int.lt_or_eq_of_le h with h | h
  ·exact h
  ·subst h; rw [wl_nil (Int.le_refl _)] at hl; cases hl
 have hlt:=(wl_len_lt h 1).1 (by omega)
 have h1:y < 18446744073709551616:=hlt
 rw [wl_cons hp,wl_nil (by omega),Int.emod_eq_of_lt h h1]
 exact ⟨rfl,h,by omega⟩
def DmR (n:Nat) (x y:Int) (v:Value) (X:Ext):Prop:=∃ u1 u2,v = .tuple #[u1,u2]∧∀ W,X.ok W→SlF W n u1 (wl (x / y))∧SlF W n u2 (wl (x % y))
def dm1F (w:World) (a b:Option Addr) (lx cx' ly cy' g cap:Nat) (x:Nat × List Int × Int):St:=⟨0,[(0,.v (.slice a lx cx')),(1,.v (.slice b ly cy')),(6,.v (.slice (some ⟨g,0,none⟩) lx cap)),(7,.v (.int .u64 x.2.2)),(8,.v (.int .i64 ((x.1:Int) - 1)))],[],kX w.heap.size [.o (.slice (some ⟨g,0,none⟩) lx cap) x.2.1]⟩
set_option maxRecDepth 100000 in
theorem rdivmod_one {a b:Option Addr} {cx' cy':Nat} {x y:Int} {w:World} (hx:A4 x) (hy:0 < y) (hly:(wl y).length = 1) (h:SlU w (.slice a (wl x).length cx') (wl x)) (h':SlU w (.slice b (wl y).length cy') (wl y)) :
  Calls Try.prog 78 #[.slice a (wl x).length cx',.slice b (wl y).length cy'] w fun e w'=>∃ v Y,e = .returned v∧DmR w.heap.size x y v Y∧Y.ok w'∧Below w.heap.size w w'∧∀ b∈Y.bs,w.heap.size≤b∧b < w'.heap.size:=by
 refine enterX Try.func78 r02_divmod.ok (args:=[.slice a (wl x).length cx',.slice b (wl y).length cy']) (R:=DmR w.heap.size x y) (by simp) ?_
 obtain ⟨e1,hu⟩:=wl_one (Int.le_of_lt hy) hly
 have hb:∃ b' off,b = some ⟨b',off,none⟩:=by
  obtain ⟨a',c',e,hs⟩:=h'.shp
  cases e
  exact hs.some (by omega)
 obtain ⟨b',off',rfl⟩:=hb
 rw [e1] at h' ⊢
 have h'1:SlU w (.slice (some ⟨b',off',none⟩) 1 cy') [y]:=h'
 have hl4:=pw4b hx
 have hst:=d1_start (wl x) hy
 have hwx:=wl_words x
 have hvx:=VL_wl hx.1
 obtain ⟨lx,hlx⟩:∃ lx,lx = (wl x).length:=⟨_,rfl⟩
 rw [← hlx] at h hst hl4 ⊢
 have c0:((1:Nat):Int) == 1:=rfl
 simp (disch:=omega) only [sxE,r02_divmod.E,Nat.reduceAdd,Nat.reduceEqDiff,Nat.reduceMul,Nat.reduceSub,Int.reduceAdd,Int.reduceSub,Int.reduceMul,Int.reduceNeg,Int.reduceLT,Int.reduceLE,Int.reduceEq,Int.reduceToNat,↓reduceIte,Int.reducePow,Nat.reduceLeDiff,Nat.reduceLT,ne_eq,eq_self,List.length_cons,List.length_nil]
 refine genA_o (L:=[]) (ws:=List.replicate lx 0) (kX_nil _) (fun W hW _=>gen_mk (by omega) W) fun g cap' _=>?_
 rw [List.length_replicate]
 simp (disch:=omega) only [sxE,r02_divmod.E,Nat.reduceAdd,Nat.reduceEqDiff,Nat.reduceMul,Nat.reduceSub,Int.reduceAdd,Int.reduceSub,Int.reduceMul,Int.reduceNeg,Int.reduceLT,Int.reduceLE,Int.reduceEq,Int.reduceToNat,↓reduceIte,Int.reducePow,Nat.reduceLeDiff,Nat.reduceLT,ne_eq,eq_self,List.length_cons,List.length_nil,Int.ofNat_one,beq_self_eq_true]
 rw [r02_divmod.p20_l]
 refine LX_inv (dm1F w a (some ⟨b',off',none⟩) lx cx' 1 cy' g cap') (fun q=>q.1≤lx∧D1I (wl x) q.2.1 y q.2.2 q.1) (fun q=>q.1) ?round (lx,List.replicate lx 0,0) ⟨Nat.le_refl _,hst⟩ ?start
 case start=>simp (disch:=omega) only [sxE,r02_divmod.E,Nat.reduceAdd,Nat.reduceEqDiff,Nat.reduceMul,Nat.reduceSub,Int.reduceAdd,Int.reduceSub,Int.reduceMul,Int.reduceNeg,Int.reduceLT,Int.reduceLE,Int.reduceEq,Int.reduceToNat,↓reduceIte,Int.reducePow,Nat.reduceLeDiff,Nat.reduceLT,ne_eq,eq_self,List.length_cons,List.length_nil,dm1F]
 case round =>
  rintro ⟨i,qs,r⟩ ⟨hi,hI⟩
  dsimp only at hi hI ⊢
  have hql:=hI.len
  rw [← hlx] at hql
  have hru:U64 r:=⟨hI.r0,by have:=hI.rl; have:=hu.2; omega⟩
  unfold dm1F
  rcases i with _ | m
  ·obtain ⟨d1,d2⟩:=d1_end hI hy
   rw [hvx] at d1 d2
   have hr1:VL [r] = r:=by show r + 18446744073709551616 * 0 = r; omega
   have c1:¬ (0:Int)≤((0:Nat):Int) - 1:=by omega
   simp (disch:=omega) only [sxE,r02_divmod.E,Nat.reduceAdd,Nat.reduceEqDiff,Nat.reduceMul,Nat.reduceSub,Int.reduceAdd,Int.reduceSub,Int.reduceMul,Int.reduceNeg,Int.reduceLT,Int.reduceLE,Int.reduceEq,Int.reduceToNat,↓reduceIte,Int.reducePow,Nat.reduceLeDiff,Nat.reduceLT,ne_eq,eq_self,List.length_cons,List.length_nil,c1]
   refine asks_trim (L:=[.o (.slice (some ⟨g,0,none⟩) lx cap') qs]) [.o (.slice (some ⟨g,0,none⟩) (wl (VL qs)).length cap') (wl (VL qs))] rfl rfl (List.mem_singleton.2 rfl) (fun k hk=>.inl (List.mem_singleton.1 hk)) ?_
   simp (disch:=omega) only [sxE,r02_divmod.E,Nat.reduceAdd,Nat.reduceEqDiff,Nat.reduceMul,Nat.reduceSub,Int.reduceAdd,Int.reduceSub,Int.reduceMul,Int.reduceNeg,Int.reduceLT,Int.reduceLE,Int.reduceEq,Int.reduceToNat,↓reduceIte,Int.reducePow,Nat.reduceLeDiff,Nat.reduceLT,ne_eq,eq_self,List.length_cons,List.length_nil]
   refine genA_o (L:=[.o (.slice (some ⟨g,0,none⟩) (wl (VL qs)).length cap') (wl (VL qs))]) (ws:=[r]) rfl (fun W hW _=>gen_one hru W) fun g2 cap2 _=>?_
   simp (disch:=omega) only [sxE,r02_divmod.E,Nat.reduceAdd,Nat.reduceEqDiff,Nat.reduceMul,Nat.reduceSub,Int.reduceAdd,Int.reduceSub,Int.reduceMul,Int.reduceNeg,Int.reduceLT,Int.reduceLE,Int.reduceEq,Int.reduceToNat,↓reduceIte,Int.reducePow,Nat.reduceLeDiff,Nat.reduceLT,ne_eq,eq_self,List.length_cons,List.length_nil]
   refine asks_trim (L:=[.o (.slice (some ⟨g2,0,none⟩) 1 cap2) [r],.o (.slice (some ⟨g,0,none⟩) (wl (VL qs)).length cap') (wl (VL qs))]) [.o (.slice (some ⟨g2,0,none⟩) (wl (VL [r])).length cap2) (wl (VL [r])),.o (.slice (some ⟨g,0,none⟩) (wl (VL qs)).length cap') (wl (VL qs))] rfl rfl List.mem_cons_self (fun k hk=>?_) ?_
   ·rcases List.mem_cons.1 hk with rfl | hk
    ·exact .inl rfl
    ·exact .inr (List.mem_cons_of_mem _ hk)
   simp (disch:=omega) only [sxE,r02_divmod.E,Nat.reduceAdd,Nat.reduceEqDiff,Nat.reduceMul,Nat.reduceSub,Int.reduceAdd,Int.reduceSub,Int.reduceMul,Int.reduceNeg,Int.reduceLT,Int.reduceLE,Int.reduceEq,Int.reduceToNat,↓reduceIte,Int.reducePow,Nat.reduceLeDiff,Nat.reduceLT,ne_eq,eq_self,List.length_cons,List.length_nil]
   refine ⟨_,_,rfl,fun W hW=>?_⟩
   have h1:=hW _ List.mem_cons_self
   have h2:=hW _ (List.mem_cons_of_mem _ List.mem_cons_self)
   rw [hr1,d2] at h1
   rw [d1] at h2
   rw [hr1,d1,d2]
   exact ⟨⟨OwnU.sl h2,OwnU.fr h2 (Nat.le_refl _)⟩,⟨OwnU.sl h1,OwnU.fr h1 (Nat.le_refl _)⟩⟩
  ·have hm:m < lx:=hi
   obtain ⟨s1,s2⟩:=d1_step hI hwx hu (by omega)
   obtain ⟨b2,off2,rfl⟩:∃ b off,a = some ⟨b,off,none⟩:=by
    obtain ⟨a',c',e,hs⟩:=h.shp
    cases e
    exact hs.some (by omega)
   have c1:((m + 1:Nat):Int) - 1 = (m:Int):=by omega
   have c2:(0:Int)≤(m:Int)∧(m:Int) < (lx:Int):=by omega
   have y0:([y]:List Int).getD 0 0 = y:=rfl
   have hwm:=hwx.getD m
   have hrl:=hI.rl
   repeat' (first | simp (disch:=omega) only [sxE,r02_divmod.E,Nat.reduceAdd,Nat.reduceEqDiff,Nat.reduceMul,Nat.reduceSub,Int.reduceAdd,Int.reduceSub,Int.reduceMul,Int.reduceNeg,Int.reduceLT,Int.reduceLE,Int.reduceEq,Int.reduceToNat,↓reduceIte,Int.reducePow,Nat.reduceLeDiff,Nat.reduceLT,ne_eq,eq_self,List.length_cons,List.length_nil,Nat.mul_one,Nat.zero_add,c1,c2,y0] | (with_reducible refine Sx.call_at (f:=130) (fun W hW=>g_div64 hru hwm hu hrl W) ?_) | (refine ldP_w m rfl h (by omega) ?_) | (refine ldP_w 0 rfl h'1 Nat.zero_lt_one ?_) | (refine stP_o [.o (.slice (some ⟨g,0,none⟩) lx cap') (qs.set m ((r * 18446744073709551616 + (wl x).getD m 0) / y))] m rfl (List.mem_singleton.2 rfl) (by omega) s1 (fun k1 hk1=>.inl (List.mem_singleton.1 hk1)) ?_) | (with_reducible refine cregF ?_))
   exact ⟨(m,_,_),⟨Nat.le_of_lt hm,s2⟩,Nat.lt_succ_self _,⟨rfl,rfl⟩,.inl rfl⟩
structure DmS where
 k:Nat
 qs:List Int
 a:Option Addr
 c:Nat
 R:Int
 D:Int
def dmL (n g1 lx c1 g2 c2:Nat) (x:DmS):List Kn:=[.o (.slice (some ⟨g1,0,none⟩) lx c1) x.qs,.r (.slice x.a (wl x.R).length x.c) (wl x.R),.o (.slice (some ⟨g2,0,none⟩) (wl x.D).length c2) (wl x.D)]
def dm2F (w:World) (g1 lx c1 g2 c2:Nat) (x:DmS):St:=⟨0,[(6,.v (.slice (some ⟨g1,0,none⟩) lx c1)),(9,.v (.slice x.a (wl x.R).length x.c)),(11,.v (.slice (some ⟨g2,0,none⟩) (wl x.D).length c2)),(12,.v (.int .i64 ((x.k:Int) - 1)))],[],kX w.heap.size (dmL w.heap.size g1 lx c1 g2 c2 x)⟩
structure DmI (x y:Int) (lx g1 g2:Nat) (s:DmS):Prop where
 dv:DvI x y s.R (VL s.qs) s.k
 dd:0 < s.k→s.D = y * 2 ^ (s.k - 1)
 aD:A4 s.D
 aR:A4 s.R
 ql:s.qs.length = lx
 qw:Ws s.qs
 kl:s.k≤64 * lx
 sh:Shp s.a (wl s.R).length s.c
 n1:∀ b∈rbs (.slice s.a (wl s.R).length s.c),b≠g1∧b≠g2
theorem dm_compare {n g1 lx c1 g2 c2:Nat} {s:DmS} {W:World} (hR:A4 s.R) (hD:A4 s.D) (hok:∀ k∈dmL n g1 lx c1 g2 c2 s,k.ok n W):Gives Try.prog 76 [.slice s.a (wl s.R).length s.c,.slice (some ⟨g2,0,none⟩) (wl s.D).length c2] W (· = .int .i64 (cm s.R s.D)):=by
 have h1:SlF W n _ _:=hok (.r (.slice s.a (wl s.R).length s.c) (wl s.R)) (List.mem_cons_of_mem _ List.mem_cons_self)
 have h2:OwnU W n (.slice (some ⟨g2,0,none⟩) (wl s.D).length c2) (wl s.D):=hok (.o (.slice (some ⟨g2,0,none⟩) (wl s.D).length c2) (wl s.D)) (List.mem_cons_of_mem _ (List.mem_cons_of_mem _ List.mem_cons_self))
 exact gives_known en_r02_compare ((rcompare_any _ _ _ _ _ _ _ _ hR.1 hD.1 W h1.1 h2.sl).mono fun e w' ⟨he,d,hd⟩=>⟨he,by subst hd; exact below_drewN (Below.refl _ _)⟩)
theorem dm_sub {n g1 lx c1 g2 c2:Nat} {s:DmS} {W:World} (hR:A4 s.R) (hD:A4 s.D) (hle:s.D≤s.R) (hok:∀ k∈dmL n g1 lx c1 g2 c2 s,k.ok n W):Calls Try.prog 77 #[.slice s.a (wl s.R).length s.c,.slice (some ⟨g2,0,none⟩) (wl s.D).length c2] W fun e w'=>∃ v,e = .returned v∧SlF w' W.heap.size v (wl (s.R - s.D))∧Below W.heap.size W w':=by
 have h1:SlF W n _ _:=hok (.r (.slice s.a (wl s.R).length s.c) (wl s.R)) (List.mem_cons_of_mem _ List.mem_cons_self)
 have h2:OwnU W n (.slice (some ⟨g2,0,none⟩) (wl s.D).length c2) (wl s.D):=hok (.o (.slice (some ⟨g2,0,none⟩) (wl s.D).length c2) (wl s.D)) (List.mem_cons_of_mem _ (List.mem_cons_of_mem _ List.mem_cons_self))
 exact rsub_any _ _ _ _ _ _ _ _ hD.1 hle (by have:=pw4b hR; omega) W h1.1 h2.sl
set_option maxRecDepth 100000 in
theorem rdivmod_loop {x y:Int} {w:World} (hx:A4 x) (hy:0 < y) {g1 lx c1 g2 c2:Nat} (hg:g1≠g2) {s:DmS} (hI:DmI x y lx g1 g2 s) {S0:St} (hS:subS (cx Try.prog w 89) S0 (dm2F w g1 lx c1 g2 c2 s)) :
  r02_divmod.p2 (cx Try.prog w 89) (finT [(4,none),(5,none)] (DmR w.heap.size x y)) S0:=by
 rw [r02_divmod.p2_l]
 refine LX_inv (dm2F w g1 lx c1 g2 c2) (DmI x y lx g1 g2) (fun s=>s.k) ?round s hI hS
 case round =>
  clear hI hS
  rintro ⟨k,qs,a,c,R,D⟩ hI
  obtain ⟨dv,dd,aD,aR,ql,qw,kl,sh,n1⟩:=hI
  dsimp only at dv dd aD aR ql qw kl sh n1 ⊢
  unfold dm2F
  rcases k with _ | k
  ·obtain ⟨e1,e2⟩:=dv_end dv hy
   have c1':¬ (0:Int)≤((0:Nat):Int) - 1:=by omega
   simp (disch:=omega) only [sxE,r02_divmod.E,Nat.reduceAdd,Nat.reduceEqDiff,Nat.reduceMul,Nat.reduceSub,Int.reduceAdd,Int.reduceSub,Int.reduceMul,Int.reduceNeg,Int.reduceLT,Int.reduceLE,Int.reduceEq,Int.reduceToNat,↓reduceIte,Int.reducePow,Nat.reduceLeDiff,Nat.reduceLT,ne_eq,eq_self,List.length_cons,List.length_nil,c1']
   unfold dmL
   dsimp only
   refine asks_trim [.o (.slice (some ⟨g1,0,none⟩) (wl (VL qs)).length c1) (wl (VL qs)),.r (.slice a (wl R).length c) (wl R)] rfl rfl List.mem_cons_self (fun k hk=>?_) ?_
   ·rcases List.mem_cons.1 hk with rfl | hk
    ·exact .inl rfl
    ·exact .inr (List.mem_cons_of_mem _ (by rw [List.mem_singleton.1 hk]; exact List.mem_cons_self))
   simp (disch:=omega) only [sxE,r02_divmod.E,Nat.reduceAdd,Nat.reduceEqDiff,Nat.reduceMul,Nat.reduceSub,Int.reduceAdd,Int.reduceSub,Int.reduceMul,Int.reduceNeg,Int.reduceLT,Int.reduceLE,Int.reduceEq,Int.reduceToNat,↓reduceIte,Int.reducePow,Nat.reduceLeDiff,Nat.reduceLT,ne_eq,eq_self,List.length_cons,List.length_nil]
   refine ⟨_,_,rfl,fun W hW=>?_⟩
   have h1:=hW _ List.mem_cons_self
   have h2:=hW _ (List.mem_cons_of_mem _ List.mem_cons_self)
   rw [← e1,← e2]
   exact ⟨⟨OwnU.sl h1,OwnU.fr h1 (Nat.le_refl _)⟩,h2⟩
  ·have hD':D = y * 2 ^ k:=dd (Nat.succ_pos _)
   have hk:((k + 1:Nat):Int) - 1 = (k:Int):=by omega
   have hk2:k < 256:=pow256 hy (hD' ▸ aD)
   obtain ⟨st1,st2⟩:=dv_step dv hy
   have aH:A4 (D / 2):=⟨by have:=aD.1; omega,by have:=aD.1; have:=aD.2; omega⟩
   have hH:0 < k→D / 2 = y * 2 ^ (k - 1):=fun h=>by
    obtain ⟨m,rfl⟩:∃ m,k = m + 1:=⟨k - 1,by omega⟩
    rw [hD',Int.pow_succ,← Int.mul_assoc,Nat.add_sub_cancel]; omega
   rw [← hD'] at st1 st2
   have hcm:=cm_ge R D
   have hvD:VL (wl D) = D:=VL_wl aD.1
   have hl4:=pw4b aD
   by_cases hle:D≤R
   ·have hI2:=st1 hle
    have hc0:0≤cm R D:=hcm.2 hle
    have aR2:A4 (R - D):=⟨by omega,by have:=aR.2; have:=aD.1; omega⟩
    obtain ⟨w',j,hj,e⟩:∃ w' j:Nat,j < 64∧k = 64 * w' + j:=⟨k / 64,k % 64,by omega,by omega⟩
    have hw':w' < lx:=by omega
    have hm:(k:Int) % 64 = (j:Nat):=by omega
    have hq:(k:Int) / 64 = (w':Nat):=by omega
    have hwb:(0:Int)≤(w':Int)∧(w':Int) < (lx:Int):=by omega
    obtain ⟨b1,b2,b3⟩:=q_bit qw e hj (by omega) dv.dv
    have p0:(0:Int) < 2 ^ j:=Int.pow_pos (by decide)
    have p1:=pow63 hj
    have hp2:IntKind.u64.wrap (2 ^ j) = 2 ^ j:=s_wu _ (by omega) (by omega)
    repeat' (first | simp (disch:=omega) only [sxE,r02_divmod.E,Nat.reduceAdd,Nat.reduceEqDiff,Nat.reduceMul,Nat.reduceSub,Int.reduceAdd,Int.reduceSub,Int.reduceMul,Int.reduceNeg,Int.reduceLT,Int.reduceLE,Int.reduceEq,Int.reduceToNat,↓reduceIte,Int.reducePow,Nat.reduceLeDiff,Nat.reduceLT,ne_eq,eq_self,List.length_cons,List.length_nil,hk,hc0] | ((with_reducible apply asks_ext (f:=76)); (case h=>exact fun W hW hok=>dm_compare aR aD hok); (case' hk=>skip)) | (with_reducible refine cregF ?_))
    refine asks_r (L:=dmL w.heap.size g1 lx c1 g2 c2 ⟨k + 1,qs,a,c,R,D⟩) (ws:=wl (R - D)) en_r02_sub rfl (fun W hW hok=>dm_sub aR aD hle hok) fun a2 c2' hs2 hn2=>?_
    have hne:∀ b∈rbs (.slice a2 (wl (R - D)).length c2'),b≠g1∧b≠g2:=fun b hb=>by
     have:=hn2 b hb
     refine ⟨fun e=>this ?_,fun e=>this ?_⟩
     ·rw [e]; exact kX_bs.2 ⟨_,List.mem_cons_self,List.mem_singleton.2 rfl⟩
     ·rw [e]; exact kX_bs.2 ⟨_,List.mem_cons_of_mem _ (List.mem_cons_of_mem _ List.mem_cons_self),List.mem_singleton.2 rfl⟩
    clear hn2
    unfold dmL
    dsimp only
    simp (disch:=omega) only [sxE,r02_divmod.E,Nat.reduceAdd,Nat.reduceEqDiff,Nat.reduceMul,Nat.reduceSub,Int.reduceAdd,Int.reduceSub,Int.reduceMul,Int.reduceNeg,Int.reduceLT,Int.reduceLE,Int.reduceEq,Int.reduceToNat,↓reduceIte,Int.reducePow,Nat.reduceLeDiff,Nat.reduceLT,ne_eq,eq_self,List.length_cons,List.length_nil,hq]
    repeat' (first | simp (disch:=omega) only [sxE,r02_divmod.E,Nat.reduceAdd,Nat.reduceEqDiff,Nat.reduceMul,Nat.reduceSub,Int.reduceAdd,Int.reduceSub,Int.reduceMul,Int.reduceNeg,Int.reduceLT,Int.reduceLE,Int.reduceEq,Int.reduceToNat,↓reduceIte,Int.reducePow,Nat.reduceLeDiff,Nat.reduceLT,ne_eq,eq_self,List.length_cons,List.length_nil,Nat.mul_one,Nat.zero_add,hq,hm,hwb,Int.one_mul,hp2,b1] | (refine ldP_o w' rfl (List.mem_cons_of_mem _ List.mem_cons_self) (by omega) ?_) | (refine stP_o [.o (.slice (some ⟨g1,0,none⟩) lx c1) (qs.set w' (qs.getD w' 0 + 2 ^ j)),.r (.slice a2 (wl (R - D)).length c2') (wl (R - D)),.o (.slice (some ⟨g2,0,none⟩) (wl D).length c2) (wl D)] w' rfl (List.mem_cons_of_mem _ List.mem_cons_self) (by omega) b2 (fun q1 hq1=>?mem) ?_) | (with_reducible refine cregF ?_))
    case mem =>
     rcases List.mem_cons.1 hq1 with rfl | hq1
     ·exact .inl rfl
     ·rcases List.mem_cons.1 hq1 with rfl | hq1
      ·exact .inr ⟨List.mem_cons_self,fun h=>(hne _ h).1 rfl⟩
      ·exact .inr ⟨by rw [List.mem_singleton.1 hq1]; exact List.mem_cons_of_mem _ (List.mem_cons_of_mem _ (List.mem_cons_of_mem _ List.mem_cons_self)),fun h=>by rw [List.mem_singleton.1 hq1] at h; exact hg (List.mem_singleton.1 h)⟩
    refine asks_half (dmL w.heap.size g1 lx c1 g2 c2 ⟨k,qs.set w' (qs.getD w' 0 + 2 ^ j),a2,c2',R - D,D / 2⟩) rfl rfl rfl (List.mem_cons_of_mem _ (List.mem_cons_of_mem _ List.mem_cons_self)) (by omega) (fun q hq=>?_) ?_
    ·rw [hvD]
     rcases List.mem_cons.1 hq with rfl | hq
     ·exact .inr ⟨List.mem_cons_self,fun h=>hg (List.mem_singleton.1 h).symm⟩
     ·rcases List.mem_cons.1 hq with rfl | hq
      ·exact .inr ⟨List.mem_cons_of_mem _ List.mem_cons_self,fun h=>(hne _ h).2 rfl⟩
      ·exact .inl (List.mem_singleton.1 hq)
    rw [hvD]
    simp (disch:=omega) only [sxE,r02_divmod.E,Nat.reduceAdd,Nat.reduceEqDiff,Nat.reduceMul,Nat.reduceSub,Int.reduceAdd,Int.reduceSub,Int.reduceMul,Int.reduceNeg,Int.reduceLT,Int.reduceLE,Int.reduceEq,Int.reduceToNat,↓reduceIte,Int.reducePow,Nat.reduceLeDiff,Nat.reduceLT,ne_eq,eq_self,List.length_cons,List.length_nil,hk]
    exact ⟨⟨k,qs.set w' (qs.getD w' 0 + 2 ^ j),a2,c2',R - D,D / 2⟩,⟨by dsimp only; rw [b3]; exact hI2,hH,aH,aR2,by dsimp only; rw [List.length_set]; exact ql,qw.set b2 _,by dsimp only; omega,hs2,hne⟩,Nat.lt_succ_self _,by repeat' (first | (with_reducible rfl) | (exact Or.inl rfl) | apply And.intro)⟩
   ·have hI2:=st2 hle
    have hc0:¬ 0≤cm R D:=fun h=>hle (hcm.1 h)
    repeat' (first | simp (disch:=omega) only [sxE,r02_divmod.E,Nat.reduceAdd,Nat.reduceEqDiff,Nat.reduceMul,Nat.reduceSub,Int.reduceAdd,Int.reduceSub,Int.reduceMul,Int.reduceNeg,Int.reduceLT,Int.reduceLE,Int.reduceEq,Int.reduceToNat,↓reduceIte,Int.reducePow,Nat.reduceLeDiff,Nat.reduceLT,ne_eq,eq_self,List.length_cons,List.length_nil,hk,hc0] | ((with_reducible apply asks_ext (f:=76)); (case h=>exact fun W hW hok=>dm_compare aR aD hok); (case' hk=>skip)) | (with_reducible refine cregF ?_))
    refine asks_half (L:=dmL w.heap.size g1 lx c1 g2 c2 ⟨k + 1,qs,a,c,R,D⟩) (dmL w.heap.size g1 lx c1 g2 c2 ⟨k,qs,a,c,R,D / 2⟩) rfl rfl rfl (List.mem_cons_of_mem _ (List.mem_cons_of_mem _ List.mem_cons_self)) (by omega) (fun q hq=>?_) ?_
    ·rw [hvD]
     rcases List.mem_cons.1 hq with rfl | hq
     ·exact .inr ⟨List.mem_cons_self,fun h=>hg (List.mem_singleton.1 h).symm⟩
     ·rcases List.mem_cons.1 hq with rfl | hq
      ·exact .inr ⟨List.mem_cons_of_mem _ List.mem_cons_self,fun h=>(n1 _ h).2 rfl⟩
      ·exact .inl (List.mem_singleton.1 hq)
    rw [hvD]
    simp (disch:=omega) only [sxE,r02_divmod.E,Nat.reduceAdd,Nat.reduceEqDiff,Nat.reduceMul,Nat.reduceSub,Int.reduceAdd,Int.reduceSub,Int.reduceMul,Int.reduceNeg,Int.reduceLT,Int.reduceLE,Int.reduceEq,Int.reduceToNat,↓reduceIte,Int.reducePow,Nat.reduceLeDiff,Nat.reduceLT,ne_eq,eq_self,List.length_cons,List.length_nil,hk]
    exact ⟨⟨k,qs,a,c,R,D / 2⟩,⟨hI2,hH,aH,aR,ql,qw,by dsimp only; omega,sh,n1⟩,Nat.lt_succ_self _,by repeat' (first | (with_reducible rfl) | (exact Or.inl rfl) | apply And.intro)⟩
set_option maxRecDepth 100000 in
theorem rdivmod_more {a b:Option Addr} {cx' cy':Nat} {x y:Int} {w:World} (hx:A4 x) (hay:A4 y) (hy:0 < y) (hly:(wl y).length≠1) (h:SlU w (.slice a (wl x).length cx') (wl x)) (h':SlU w (.slice b (wl y).length cy') (wl y)) :
  Calls Try.prog 78 #[.slice a (wl x).length cx',.slice b (wl y).length cy'] w fun e w'=>∃ v Y,e = .returned v∧DmR w.heap.size x y v Y∧Y.ok w'∧Below w.heap.size w w'∧∀ b∈Y.bs,w.heap.size≤b∧b < w'.heap.size:=by
 refine enterX Try.func78 r02_divmod.ok (args:=[.slice a (wl x).length cx',.slice b (wl y).length cy']) (R:=DmR w.heap.size x y) (by simp) ?_
 have hl4:=pw4b hx
 have hl4':=pw4b hay
 have hwx:=wl_words x
 have hvx:=VL_wl hx.1
 have hvy:=VL_wl (Int.le_of_lt hy)
 have b1:=bl_256 hx
 have b2:=bl_256 hay
 have hck:(((wl y).length:Int) == 1) = false:=beq_eq_false_iff_ne.2 (by omega)
 simp (disch:=omega) only [sxE,r02_divmod.E,Nat.reduceAdd,Nat.reduceEqDiff,Nat.reduceMul,Nat.reduceSub,Int.reduceAdd,Int.reduceSub,Int.reduceMul,Int.reduceNeg,Int.reduceLT,Int.reduceLE,Int.reduceEq,Int.reduceToNat,↓reduceIte,Int.reducePow,Nat.reduceLeDiff,Nat.reduceLT,ne_eq,eq_self,List.length_cons,List.length_nil]
 refine genA_o (L:=[]) (ws:=List.replicate (wl x).length 0) (kX_nil _) (fun W hW _=>gen_mk (by omega) W) fun g1 c1 _=>?_
 rw [List.length_replicate]
 simp (disch:=omega) only [sxE,r02_divmod.E,Nat.reduceAdd,Nat.reduceEqDiff,Nat.reduceMul,Nat.reduceSub,Int.reduceAdd,Int.reduceSub,Int.reduceMul,Int.reduceNeg,Int.reduceLT,Int.reduceLE,Int.reduceEq,Int.reduceToNat,↓reduceIte,Int.reducePow,Nat.reduceLeDiff,Nat.reduceLT,ne_eq,eq_self,List.length_cons,List.length_nil,hck]
 refine genA_o (L:=[.o (.slice (some ⟨g1,0,none⟩) (wl x).length c1) (List.replicate (wl x).length 0)]) (ws:=[]) rfl (fun W hW _=>gen_none W) fun g2 c2 hn2=>?_
 have hg12:g1≠g2:=fun e=>hn2 (by rw [← e]; exact kX_bs.2 ⟨_,List.mem_cons_self,List.mem_singleton.2 rfl⟩)
 clear hn2
 simp (disch:=omega) only [sxE,r02_divmod.E,Nat.reduceAdd,Nat.reduceEqDiff,Nat.reduceMul,Nat.reduceSub,Int.reduceAdd,Int.reduceSub,Int.reduceMul,Int.reduceNeg,Int.reduceLT,Int.reduceLE,Int.reduceEq,Int.reduceToNat,↓reduceIte,Int.reducePow,Nat.reduceLeDiff,Nat.reduceLT,ne_eq,eq_self,List.length_cons,List.length_nil]
 refine genA_app (L:=[.o (.slice (some ⟨g2,0,none⟩) 0 c2) [],.o (.slice (some ⟨g1,0,none⟩) (wl x).length c1) (List.replicate (wl x).length 0)]) (L0:=[.o (.slice (some ⟨g1,0,none⟩) (wl x).length c1) (List.replicate (wl x).length 0)]) (ms:=wl x) rfl ⟨_,Try.underlying113⟩ rfl List.mem_cons_self rfl (fun k hk=>?_) (fun W hW _=>h.below hW) (by omega) fun a2 c3 hs3 hn3=>?_
 ·rw [List.mem_singleton.1 hk]
  exact ⟨List.mem_cons_of_mem _ List.mem_cons_self,fun h=>hg12 (List.mem_singleton.1 h).symm⟩
 have hn4:∀ b∈rbs (.slice a2 (wl x).length c3),b≠g1:=fun b hb e=>by
  rcases hn3 b hb with h | h
  ·exact hg12 (e.symm.trans h)
  ·exact h (by rw [e]; exact kX_bs.2 ⟨_,List.mem_cons_of_mem _ List.mem_cons_self,List.mem_singleton.2 rfl⟩)
 clear hn3
 simp (disch:=omega) only [sxE,r02_divmod.E,Nat.reduceAdd,Nat.reduceEqDiff,Nat.reduceMul,Nat.reduceSub,Int.reduceAdd,Int.reduceSub,Int.reduceMul,Int.reduceNeg,Int.reduceLT,Int.reduceLE,Int.reduceEq,Int.reduceToNat,↓reduceIte,Int.reducePow,Nat.reduceLeDiff,Nat.reduceLT,ne_eq,eq_self,List.length_cons,List.length_nil]
 refine asks_trim_r [.r (.slice a2 (wl x).length c3) (wl x),.o (.slice (some ⟨g1,0,none⟩) (wl x).length c1) (List.replicate (wl x).length 0)] rfl rfl List.mem_cons_self (fun k hk=>?_) ?_
 ·exact .inr hk
 rw [hvx]
 have size1:∀ W,(∀ k∈[Kn.r (.slice a2 (wl x).length c3) (wl x),.o (.slice (some ⟨g1,0,none⟩) (wl x).length c1) (List.replicate (wl x).length 0)],k.ok w.heap.size W)→Gives Try.prog 131 [.slice a2 (wl x).length c3] W (· = .int .i64 (bl x)):=fun W hok =>
  gives_known en_r02_size (rsize_any hx.1 (by omega) (hok (.r (.slice a2 (wl x).length c3) (wl x)) List.mem_cons_self).1)
 have size2:∀ W,Below w.heap.size w W→Gives Try.prog 131 [.slice b (wl y).length cy'] W (· = .int .i64 (bl y)):=fun W hW =>
  gives_known en_r02_size (rsize_any (Int.le_of_lt hy) (by omega) (h'.below hW))
 repeat' (first | simp (disch:=omega) only [sxE,r02_divmod.E,Nat.reduceAdd,Nat.reduceEqDiff,Nat.reduceMul,Nat.reduceSub,Int.reduceAdd,Int.reduceSub,Int.reduceMul,Int.reduceNeg,Int.reduceLT,Int.reduceLE,Int.reduceEq,Int.reduceToNat,↓reduceIte,Int.reducePow,Nat.reduceLeDiff,Nat.reduceLT,ne_eq,eq_self,List.length_cons,List.length_nil] | ((with_reducible apply asks_ext (f:=131)); (case h=>first | exact fun W hW hok=>size1 W hok | exact fun W hW hok=>size2 W hW); (case' hk=>skip)) | (with_reducible refine cregF ?_))
 clear size1 size2
 by_cases hlen:bl x < bl y
 ·obtain ⟨e1,e2⟩:=dv_small hx.1 hy hlen
  repeat' (first | simp (disch:=omega) only [sxE,r02_divmod.E,Nat.reduceAdd,Nat.reduceEqDiff,Nat.reduceMul,Nat.reduceSub,Int.reduceAdd,Int.reduceSub,Int.reduceMul,Int.reduceNeg,Int.reduceLT,Int.reduceLE,Int.reduceEq,Int.reduceToNat,↓reduceIte,Int.reducePow,Nat.reduceLeDiff,Nat.reduceLT,ne_eq,eq_self,List.length_cons,List.length_nil] | (with_reducible refine cregF ?_))
  refine ⟨_,_,rfl,fun W hW=>?_⟩
  rw [e1,e2,wl_nil (Int.le_refl _)]
  exact ⟨SlF.nil W _,hW _ List.mem_cons_self⟩
 ·have hst:=dv_start hx.1 hy (by omega)
  have hfit:=dv_fit (m:=0) hx hay hy (by omega)
  have hpos:=bl_pos hy
  have hbl:bl x≤64 * (wl x).length:=by
   rcases Nat.lt_or_ge (64 * (wl x).length) (bl x) with hc | hc
   ·exfalso
    have hx0:0 < x:=by
     rcases Int.lt_or_eq_of_le hx.1 with hh | hh
     ·exact hh
     ·subst hh; rw [bl_zero] at hc; omega
    have h1:=bl_le hx0
    have h2:=(wl_len_lt hx.1 (wl x).length).1 (Nat.le_refl _)
    rw [pw_two] at h2
    have h3:(2:Nat) ^ (64 * (wl x).length)≤2 ^ (bl x - 1):=Nat.pow_le_pow_right (by decide) (by omega)
    have h4:=Int.ofNat_le.2 h3
    rw [Int.natCast_pow,Int.natCast_pow] at h4
    have h5:((2:Nat):Int) = 2:=rfl
    rw [h5] at h4
    omega
   ·exact hc
  have hsub:(bl x:Int) - (bl y:Int) = ((bl x - bl y:Nat):Int):=by omega
  have hnn:¬ (((bl x - bl y:Nat):Int) < 0):=by omega
  generalize hN:bl x - bl y = N at *
  rw [hsub]
  simp (disch:=omega) only [sxE,r02_divmod.E,Nat.reduceAdd,Nat.reduceEqDiff,Nat.reduceMul,Nat.reduceSub,Int.reduceAdd,Int.reduceSub,Int.reduceMul,Int.reduceNeg,Int.reduceLT,Int.reduceLE,Int.reduceEq,Int.reduceToNat,↓reduceIte,Int.reducePow,Nat.reduceLeDiff,Nat.reduceLT,ne_eq,eq_self,List.length_cons,List.length_nil,hnn]
  have hup:∀ W,Below w.heap.size w W→Calls Try.prog 132 #[.slice b (wl y).length cy',.int .i64 (N:Int)] W fun e w'=>∃ g cap',e = .returned (.slice (some ⟨g,0,none⟩) (wl (y * 2 ^ N)).length cap')∧OwnU w' W.heap.size (.slice (some ⟨g,0,none⟩) (wl (y * 2 ^ N)).length cap') (wl (y * 2 ^ N))∧Below W.heap.size W w':=fun W hW=>by
   have:=rup_any (n:=N) (k:=N / 64) (s:=N % 64) (by omega) (by omega) (by omega) (by omega) (h'.below hW)
   rw [hvy] at this
   exact this
  refine asks_o (L:=[.r (.slice a2 (wl x).length c3) (wl x),.o (.slice (some ⟨g1,0,none⟩) (wl x).length c1) (List.replicate (wl x).length 0)]) (ws:=wl (y * 2 ^ N)) en_r02_up rfl (fun W hW _=>hup W hW) fun g3 c4 hn5=>?_
  have hg13:g1≠g3:=fun e=>hn5 (by rw [← e]; exact kX_bs.2 ⟨_,List.mem_cons_of_mem _ List.mem_cons_self,List.mem_singleton.2 rfl⟩)
  have hr3:∀ b∈rbs (.slice a2 (wl x).length c3),b≠g3:=fun b hb e=>hn5 (by rw [← e]; exact kX_bs.2 ⟨_,List.mem_cons_self,hb⟩)
  clear hn5 hup
  simp (disch:=omega) only [sxE,r02_divmod.E,Nat.reduceAdd,Nat.reduceEqDiff,Nat.reduceMul,Nat.reduceSub,Int.reduceAdd,Int.reduceSub,Int.reduceMul,Int.reduceNeg,Int.reduceLT,Int.reduceLE,Int.reduceEq,Int.reduceToNat,↓reduceIte,Int.reducePow,Nat.reduceLeDiff,Nat.reduceLT,ne_eq,eq_self,List.length_cons,List.length_nil]
  refine rdivmod_loop hx hy (lx:=(wl x).length) (c1:=c1) (g2:=g3) (c2:=c4) hg13 (s:=⟨N + 1,List.replicate (wl x).length 0,a2,c3,x,y * 2 ^ N⟩) ⟨by dsimp only; rw [VL_zeros]; exact hst,fun _=>rfl,hfit,hx,by simp,Ws.zeros _,by dsimp only; omega,hs3,fun b hb=>⟨hn4 b hb,hr3 b hb⟩⟩ ?_
  have hk1:((N + 1:Nat):Int) - 1 = (N:Int):=by omega
  unfold dm2F
  dsimp only
  simp (disch:=omega) only [sxE,r02_divmod.E,Nat.reduceAdd,Nat.reduceEqDiff,Nat.reduceMul,Nat.reduceSub,Int.reduceAdd,Int.reduceSub,Int.reduceMul,Int.reduceNeg,Int.reduceLT,Int.reduceLE,Int.reduceEq,Int.reduceToNat,↓reduceIte,Int.reducePow,Nat.reduceLeDiff,Nat.reduceLT,ne_eq,eq_self,List.length_cons,List.length_nil,hk1]
  refine extS_kn fun k hk=>?_
  unfold dmL at hk
  dsimp only at hk
  simp only [List.mem_cons,List.not_mem_nil,or_false] at hk ⊢
  rcases hk with rfl | rfl | rfl
  ·exact .inr (.inr rfl)
  ·exact .inr (.inl rfl)
  ·exact .inl rfl
theorem rdivmod_any {a b:Option Addr} {cx' cy':Nat} {x y:Int} {w:World} (hx:A4 x) (hay:A4 y) (hy:0 < y) (h:SlU w (.slice a (wl x).length cx') (wl x)) (h':SlU w (.slice b (wl y).length cy') (wl y)) :
  Calls Try.prog 78 #[.slice a (wl x).length cx',.slice b (wl y).length cy'] w fun e w'=>∃ u1 u2,e = .returned (.tuple #[u1,u2])∧SlF w' w.heap.size u1 (wl (x / y))∧SlF w' w.heap.size u2 (wl (x % y))∧Below w.heap.size w w':=by
 have key:∀ {e:Ending} {w':World},(∃ v Y,e = .returned v∧DmR w.heap.size x y v Y∧Y.ok w'∧Below w.heap.size w w'∧∀ b∈Y.bs,w.heap.size≤b∧b < w'.heap.size)→∃ u1 u2,e = .returned (.tuple #[u1,u2])∧SlF w' w.heap.size u1 (wl (x / y))∧SlF w' w.heap.size u2 (wl (x % y))∧Below w.heap.size w w':=by
  rintro e w' ⟨v,Y,rfl,⟨u1,u2,rfl,hY⟩,hok,hb,-⟩
  exact ⟨u1,u2,rfl,(hY w' hok).1,(hY w' hok).2,hb⟩
 by_cases hl:(wl y).length = 1
 ·exact (rdivmod_one hx hy hl h h').mono fun e w' hh=>key hh
 ·exact (rdivmod_more hx hay hy hl h h').mono fun e w' hh=>key hh
end Go.Proofs.Ytncmmbacoknefaa

/- Ge: What calls of the program's shift and of its division of absolute values give. -/
namespace Go.Proofs.Ytncmmbacoknefaa
open Go Go.RowKit Sx
set_option linter.unusedVariables false
set_option linter.unusedSimpArgs false
set_option maxRecDepth 100000 in
theorem left_0 {z n:Int} {r:Nat} (h:A4 z) (hr:0 < r) (hr2:r < 64) (hn:n = 64 * 0 + r) (hf:z * 2 ^ r < 115792089237316195423570985008687907853269984665640564039457584007913129639936) (w:World) :
  Calls Try.prog 184 #[ME z,.int .i64 n] w fun e w'=>e = .returned (ME (z * 2 ^ r))∧Below w.heap.size w w':=by
 show Calls _ _ #[MG (lb0 z) (lb1 z) (lb2 z) (lb3 z),_] _ _
 have e:=mv_me h
 obtain ⟨t0,u0,ht0,hu0,U0,a0,b0,d0,s0⟩:=shl_word (r:=r) (lb0_in z) hr2
 obtain ⟨t1,u1,ht1,hu1,U1,a1,b1,d1,s1⟩:=shl_word (r:=r) (lb1_in z) hr2
 obtain ⟨t2,u2,ht2,hu2,U2,a2,b2,d2,s2⟩:=shl_word (r:=r) (lb2_in z) hr2
 obtain ⟨t3,u3,ht3,hu3,U3,a3,b3,d3,s3⟩:=shl_word (r:=r) (lb3_in z) hr2
 have S:=shl_words s0 s1 s2 s3
 rw [e] at S
 have hp:=pow63 hr2
 obtain ⟨-,o1,V1⟩:=or_add r (⟨a0,by omega⟩:U64 u0) U1 b0 d1
 obtain ⟨-,o2,V2⟩:=or_add r (⟨a1,by omega⟩:U64 u1) U2 b1 d2
 obtain ⟨-,o3,V3⟩:=or_add r (⟨a2,by omega⟩:U64 u2) U3 b2 d3
 rw [Int.add_comm t1 u0,Int.add_comm t2 u1,Int.add_comm t3 u2] at S
 have hR:=shl0 S a3 ⟨U0,V1,V2,V3⟩ hf
 have hM:=mg_me (U0) (V1) (V2) (V3)
 rw [hR] at hM
 rw [← hM]
 have hq:n / 64 = 0:=by omega
 have hm:n % 64 = (r:Int):=by omega
 have h64:((64:Int) - r).toNat = 64 - r:=by omega
 have h0:0≤n:=by omega
 generalize lb0 z = x0 at *
 generalize lb1 z = x1 at *
 generalize lb2 z = x2 at *
 generalize lb3 z = x3 at *
 clear hM hR S e hf h hn s0 s1 s2 s3 a0 a1 a2 a3 b0 b1 b2 b3 d0 d1 d2 d3 U0 U1 U2 U3 V1 V2 V3 hp
 refine known_of (enter Try.func184 wide_left.ok (args:=[MG x0 x1 x2 x3,.int .i64 n]) (by simp) ?_)
 repeat' (first | simp (disch:=omega) only [sxE,wide_left.E,Nat.reduceAdd,Nat.reduceEqDiff,Nat.reduceMul,Nat.reduceSub,Int.reduceAdd,Int.reduceSub,Int.reduceMul,Int.reduceNeg,Int.reduceLT,Int.reduceLE,Int.reduceEq,Int.reduceToNat,↓reduceIte,Int.reducePow,Nat.reduceLeDiff,Nat.reduceLT,ne_eq,eq_self,List.length_cons,List.length_nil,hq,hm,h64,ht0,ht1,ht2,ht3,hu0,hu1,hu2,hu3,o1,o2,o3] | (rw [wide_left.p2_l]) | (with_reducible apply LX_round) | (with_reducible refine cregF ?_))
set_option maxRecDepth 100000 in
theorem left_0z {z n:Int} (h:A4 z) (hn:n = 64 * 0) (hf:z < 115792089237316195423570985008687907853269984665640564039457584007913129639936) (w:World) :
  Calls Try.prog 184 #[ME z,.int .i64 n] w fun e w'=>e = .returned (ME (z))∧Below w.heap.size w w':=by
 show Calls _ _ #[MG (lb0 z) (lb1 z) (lb2 z) (lb3 z),_] _ _
 have e:=mv_me h
 have U0:=lb0_in z
 have U1:=lb1_in z
 have U2:=lb2_in z
 have U3:=lb3_in z
 have hR:=shl0 (e:=0) (by rw [e]; omega:z = MV (lb0 z) (lb1 z) (lb2 z) (lb3 z) + _ * 0) (Int.le_refl 0) ⟨U0,U1,U2,U3⟩ hf
 have hM:=mg_me (U0) (U1) (U2) (U3)
 rw [hR] at hM
 rw [← hM]
 have hq:n / 64 = 0:=by omega
 have hm:n % 64 = 0:=by omega
 have h0:0≤n:=by omega
 generalize lb0 z = x0 at *
 generalize lb1 z = x1 at *
 generalize lb2 z = x2 at *
 generalize lb3 z = x3 at *
 clear hM hR e hf h hn
 obtain ⟨g0,l0⟩:=U0
 obtain ⟨g1,l1⟩:=U1
 obtain ⟨g2,l2⟩:=U2
 obtain ⟨g3,l3⟩:=U3
 refine known_of (enter Try.func184 wide_left.ok (args:=[MG x0 x1 x2 x3,.int .i64 n]) (by simp) ?_)
 repeat' (first | simp (disch:=omega) only [sxE,wide_left.E,Nat.reduceAdd,Nat.reduceEqDiff,Nat.reduceMul,Nat.reduceSub,Int.reduceAdd,Int.reduceSub,Int.reduceMul,Int.reduceNeg,Int.reduceLT,Int.reduceLE,Int.reduceEq,Int.reduceToNat,↓reduceIte,Int.reducePow,Nat.reduceLeDiff,Nat.reduceLT,ne_eq,eq_self,List.length_cons,List.length_nil,hq,hm,Int.mul_one,Int.pow_zero,Int.toNat_zero] | (rw [wide_left.p2_l]) | (with_reducible apply LX_round) | (with_reducible refine cregF ?_))
set_option maxRecDepth 100000 in
theorem left_1 {z n:Int} {r:Nat} (h:A4 z) (hr:0 < r) (hr2:r < 64) (hn:n = 64 * 1 + r) (hf:z * 2 ^ r * 18446744073709551616 < 115792089237316195423570985008687907853269984665640564039457584007913129639936) (w:World) :
  Calls Try.prog 184 #[ME z,.int .i64 n] w fun e w'=>e = .returned (ME (z * 2 ^ r * 18446744073709551616))∧Below w.heap.size w w':=by
 show Calls _ _ #[MG (lb0 z) (lb1 z) (lb2 z) (lb3 z),_] _ _
 have e:=mv_me h
 obtain ⟨t0,u0,ht0,hu0,U0,a0,b0,d0,s0⟩:=shl_word (r:=r) (lb0_in z) hr2
 obtain ⟨t1,u1,ht1,hu1,U1,a1,b1,d1,s1⟩:=shl_word (r:=r) (lb1_in z) hr2
 obtain ⟨t2,u2,ht2,hu2,U2,a2,b2,d2,s2⟩:=shl_word (r:=r) (lb2_in z) hr2
 obtain ⟨t3,u3,ht3,hu3,U3,a3,b3,d3,s3⟩:=shl_word (r:=r) (lb3_in z) hr2
 have S:=shl_words s0 s1 s2 s3
 rw [e] at S
 have hp:=pow63 hr2
 obtain ⟨-,o1,V1⟩:=or_add r (⟨a0,by omega⟩:U64 u0) U1 b0 d1
 obtain ⟨-,o2,V2⟩:=or_add r (⟨a1,by omega⟩:U64 u1) U2 b1 d2
 obtain ⟨-,o3,V3⟩:=or_add r (⟨a2,by omega⟩:U64 u2) U3 b2 d3
 rw [Int.add_comm t1 u0,Int.add_comm t2 u1,Int.add_comm t3 u2] at S
 have hR:=shl1 S a3 ⟨U0,V1,V2,V3⟩ hf
 have hM:=mg_me (U64.zero) (U0) (V1) (V2)
 rw [hR] at hM
 rw [← hM]
 have hq:n / 64 = 1:=by omega
 have hm:n % 64 = (r:Int):=by omega
 have h64:((64:Int) - r).toNat = 64 - r:=by omega
 have h0:0≤n:=by omega
 generalize lb0 z = x0 at *
 generalize lb1 z = x1 at *
 generalize lb2 z = x2 at *
 generalize lb3 z = x3 at *
 clear hM hR S e hf h hn s0 s1 s2 s3 a0 a1 a2 a3 b0 b1 b2 b3 d0 d1 d2 d3 U0 U1 U2 U3 V1 V2 V3 hp
 refine known_of (enter Try.func184 wide_left.ok (args:=[MG x0 x1 x2 x3,.int .i64 n]) (by simp) ?_)
 repeat' (first | simp (disch:=omega) only [sxE,wide_left.E,Nat.reduceAdd,Nat.reduceEqDiff,Nat.reduceMul,Nat.reduceSub,Int.reduceAdd,Int.reduceSub,Int.reduceMul,Int.reduceNeg,Int.reduceLT,Int.reduceLE,Int.reduceEq,Int.reduceToNat,↓reduceIte,Int.reducePow,Nat.reduceLeDiff,Nat.reduceLT,ne_eq,eq_self,List.length_cons,List.length_nil,hq,hm,h64,ht0,ht1,ht2,ht3,hu0,hu1,hu2,hu3,o1,o2,o3] | (rw [wide_left.p2_l]) | (with_reducible apply LX_round) | (with_reducible refine cregF ?_))
set_option maxRecDepth 100000 in
theorem left_1z {z n:Int} (h:A4 z) (hn:n = 64 * 1) (hf:z * 18446744073709551616 < 115792089237316195423570985008687907853269984665640564039457584007913129639936) (w:World) :
  Calls Try.prog 184 #[ME z,.int .i64 n] w fun e w'=>e = .returned (ME (z * 18446744073709551616))∧Below w.heap.size w w':=by
 show Calls _ _ #[MG (lb0 z) (lb1 z) (lb2 z) (lb3 z),_] _ _
 have e:=mv_me h
 have U0:=lb0_in z
 have U1:=lb1_in z
 have U2:=lb2_in z
 have U3:=lb3_in z
 have hR:=shl1 (e:=0) (by rw [e]; omega:z = MV (lb0 z) (lb1 z) (lb2 z) (lb3 z) + _ * 0) (Int.le_refl 0) ⟨U0,U1,U2,U3⟩ hf
 have hM:=mg_me (U64.zero) (U0) (U1) (U2)
 rw [hR] at hM
 rw [← hM]
 have hq:n / 64 = 1:=by omega
 have hm:n % 64 = 0:=by omega
 have h0:0≤n:=by omega
 generalize lb0 z = x0 at *
 generalize lb1 z = x1 at *
 generalize lb2 z = x2 at *
 generalize lb3 z = x3 at *
 clear hM hR e hf h hn
 obtain ⟨g0,l0⟩:=U0
 obtain ⟨g1,l1⟩:=U1
 obtain ⟨g2,l2⟩:=U2
 obtain ⟨g3,l3⟩:=U3
 refine known_of (enter Try.func184 wide_left.ok (args:=[MG x0 x1 x2 x3,.int .i64 n]) (by simp) ?_)
 repeat' (first | simp (disch:=omega) only [sxE,wide_left.E,Nat.reduceAdd,Nat.reduceEqDiff,Nat.reduceMul,Nat.reduceSub,Int.reduceAdd,Int.reduceSub,Int.reduceMul,Int.reduceNeg,Int.reduceLT,Int.reduceLE,Int.reduceEq,Int.reduceToNat,↓reduceIte,Int.reducePow,Nat.reduceLeDiff,Nat.reduceLT,ne_eq,eq_self,List.length_cons,List.length_nil,hq,hm,Int.mul_one,Int.pow_zero,Int.toNat_zero] | (rw [wide_left.p2_l]) | (with_reducible apply LX_round) | (with_reducible refine cregF ?_))
set_option maxRecDepth 100000 in
theorem left_2 {z n:Int} {r:Nat} (h:A4 z) (hr:0 < r) (hr2:r < 64) (hn:n = 64 * 2 + r) (hf:z * 2 ^ r * 340282366920938463463374607431768211456 < 115792089237316195423570985008687907853269984665640564039457584007913129639936) (w:World) :
  Calls Try.prog 184 #[ME z,.int .i64 n] w fun e w'=>e = .returned (ME (z * 2 ^ r * 340282366920938463463374607431768211456))∧Below w.heap.size w w':=by
 show Calls _ _ #[MG (lb0 z) (lb1 z) (lb2 z) (lb3 z),_] _ _
 have e:=mv_me h
 obtain ⟨t0,u0,ht0,hu0,U0,a0,b0,d0,s0⟩:=shl_word (r:=r) (lb0_in z) hr2
 obtain ⟨t1,u1,ht1,hu1,U1,a1,b1,d1,s1⟩:=shl_word (r:=r) (lb1_in z) hr2
 obtain ⟨t2,u2,ht2,hu2,U2,a2,b2,d2,s2⟩:=shl_word (r:=r) (lb2_in z) hr2
 obtain ⟨t3,u3,ht3,hu3,U3,a3,b3,d3,s3⟩:=shl_word (r:=r) (lb3_in z) hr2
 have S:=shl_words s0 s1 s2 s3
 rw [e] at S
 have hp:=pow63 hr2
 obtain ⟨-,o1,V1⟩:=or_add r (⟨a0,by omega⟩:U64 u0) U1 b0 d1
 obtain ⟨-,o2,V2⟩:=or_add r (⟨a1,by omega⟩:U64 u1) U2 b1 d2
 obtain ⟨-,o3,V3⟩:=or_add r (⟨a2,by omega⟩:U64 u2) U3 b2 d3
 rw [Int.add_comm t1 u0,Int.add_comm t2 u1,Int.add_comm t3 u2] at S
 have hR:=shl2 S a3 ⟨U0,V1,V2,V3⟩ hf
 have hM:=mg_me (U64.zero) (U64.zero) (U0) (V1)
 rw [hR] at hM
 rw [← hM]
 have hq:n / 64 = 2:=by omega
 have hm:n % 64 = (r:Int):=by omega
 have h64:((64:Int) - r).toNat = 64 - r:=by omega
 have h0:0≤n:=by omega
 generalize lb0 z = x0 at *
 generalize lb1 z = x1 at *
 generalize lb2 z = x2 at *
 generalize lb3 z = x3 at *
 clear hM hR S e hf h hn s0 s1 s2 s3 a0 a1 a2 a3 b0 b1 b2 b3 d0 d1 d2 d3 U0 U1 U2 U3 V1 V2 V3 hp
 refine known_of (enter Try.func184 wide_left.ok (args:=[MG x0 x1 x2 x3,.int .i64 n]) (by simp) ?_)
 repeat' (first | simp (disch:=omega) only [sxE,wide_left.E,Nat.reduceAdd,Nat.reduceEqDiff,Nat.reduceMul,Nat.reduceSub,Int.reduceAdd,Int.reduceSub,Int.reduceMul,Int.reduceNeg,Int.reduceLT,Int.reduceLE,Int.reduceEq,Int.reduceToNat,↓reduceIte,Int.reducePow,Nat.reduceLeDiff,Nat.reduceLT,ne_eq,eq_self,List.length_cons,List.length_nil,hq,hm,h64,ht0,ht1,ht2,ht3,hu0,hu1,hu2,hu3,o1,o2,o3] | (rw [wide_left.p2_l]) | (with_reducible apply LX_round) | (with_reducible refine cregF ?_))
set_option maxRecDepth 100000 in
theorem left_2z {z n:Int} (h:A4 z) (hn:n = 64 * 2) (hf:z * 340282366920938463463374607431768211456 < 115792089237316195423570985008687907853269984665640564039457584007913129639936) (w:World) :
  Calls Try.prog 184 #[ME z,.int .i64 n] w fun e w'=>e = .returned (ME (z * 340282366920938463463374607431768211456))∧Below w.heap.size w w':=by
 show Calls _ _ #[MG (lb0 z) (lb1 z) (lb2 z) (lb3 z),_] _ _
 have e:=mv_me h
 have U0:=lb0_in z
 have U1:=lb1_in z
 have U2:=lb2_in z
 have U3:=lb3_in z
 have hR:=shl2 (e:=0) (by rw [e]; omega:z = MV (lb0 z) (lb1 z) (lb2 z) (lb3 z) + _ * 0) (Int.le_refl 0) ⟨U0,U1,U2,U3⟩ hf
 have hM:=mg_me (U64.zero) (U64.zero) (U0) (U1)
 rw [hR] at hM
 rw [← hM]
 have hq:n / 64 = 2:=by omega
 have hm:n % 64 = 0:=by omega
 have h0:0≤n:=by omega
 generalize lb0 z = x0 at *
 generalize lb1 z = x1 at *
 generalize lb2 z = x2 at *
 generalize lb3 z = x3 at *
 clear hM hR e hf h hn
 obtain ⟨g0,l0⟩:=U0
 obtain ⟨g1,l1⟩:=U1
 obtain ⟨g2,l2⟩:=U2
 obtain ⟨g3,l3⟩:=U3
 refine known_of (enter Try.func184 wide_left.ok (args:=[MG x0 x1 x2 x3,.int .i64 n]) (by simp) ?_)
 repeat' (first | simp (disch:=omega) only [sxE,wide_left.E,Nat.reduceAdd,Nat.reduceEqDiff,Nat.reduceMul,Nat.reduceSub,Int.reduceAdd,Int.reduceSub,Int.reduceMul,Int.reduceNeg,Int.reduceLT,Int.reduceLE,Int.reduceEq,Int.reduceToNat,↓reduceIte,Int.reducePow,Nat.reduceLeDiff,Nat.reduceLT,ne_eq,eq_self,List.length_cons,List.length_nil,hq,hm,Int.mul_one,Int.pow_zero,Int.toNat_zero] | (rw [wide_left.p2_l]) | (with_reducible apply LX_round) | (with_reducible refine cregF ?_))
set_option maxRecDepth 100000 in
theorem left_3 {z n:Int} {r:Nat} (h:A4 z) (hr:0 < r) (hr2:r < 64) (hn:n = 64 * 3 + r) (hf:z * 2 ^ r * 6277101735386680763835789423207666416102355444464034512896 < 115792089237316195423570985008687907853269984665640564039457584007913129639936) (w:World) :
  Calls Try.prog 184 #[ME z,.int .i64 n] w fun e w'=>e = .returned (ME (z * 2 ^ r * 6277101735386680763835789423207666416102355444464034512896))∧Below w.heap.size w w':=by
 show Calls _ _ #[MG (lb0 z) (lb1 z) (lb2 z) (lb3 z),_] _ _
 have e:=mv_me h
 obtain ⟨t0,u0,ht0,hu0,U0,a0,b0,d0,s0⟩:=shl_word (r:=r) (lb0_in z) hr2
 obtain ⟨t1,u1,ht1,hu1,U1,a1,b1,d1,s1⟩:=shl_word (r:=r) (lb1_in z) hr2
 obtain ⟨t2,u2,ht2,hu2,U2,a2,b2,d2,s2⟩:=shl_word (r:=r) (lb2_in z) hr2
 obtain ⟨t3,u3,ht3,hu3,U3,a3,b3,d3,s3⟩:=shl_word (r:=r) (lb3_in z) hr2
 have S:=shl_words s0 s1 s2 s3
 rw [e] at S
 have hp:=pow63 hr2
 obtain ⟨-,o1,V1⟩:=or_add r (⟨a0,by omega⟩:U64 u0) U1 b0 d1
 obtain ⟨-,o2,V2⟩:=or_add r (⟨a1,by omega⟩:U64 u1) U2 b1 d2
 obtain ⟨-,o3,V3⟩:=or_add r (⟨a2,by omega⟩:U64 u2) U3 b2 d3
 rw [Int.add_comm t1 u0,Int.add_comm t2 u1,Int.add_comm t3 u2] at S
 have hR:=shl3 S a3 ⟨U0,V1,V2,V3⟩ hf
 have hM:=mg_me (U64.zero) (U64.zero) (U64.zero) (U0)
 rw [hR] at hM
 rw [← hM]
 have hq:n / 64 = 3:=by omega
 have hm:n % 64 = (r:Int):=by omega
 have h64:((64:Int) - r).toNat = 64 - r:=by omega
 have h0:0≤n:=by omega
 generalize lb0 z = x0 at *
 generalize lb1 z = x1 at *
 generalize lb2 z = x2 at *
 generalize lb3 z = x3 at *
 clear hM hR S e hf h hn s0 s1 s2 s3 a0 a1 a2 a3 b0 b1 b2 b3 d0 d1 d2 d3 U0 U1 U2 U3 V1 V2 V3 hp
 refine known_of (enter Try.func184 wide_left.ok (args:=[MG x0 x1 x2 x3,.int .i64 n]) (by simp) ?_)
 repeat' (first | simp (disch:=omega) only [sxE,wide_left.E,Nat.reduceAdd,Nat.reduceEqDiff,Nat.reduceMul,Nat.reduceSub,Int.reduceAdd,Int.reduceSub,Int.reduceMul,Int.reduceNeg,Int.reduceLT,Int.reduceLE,Int.reduceEq,Int.reduceToNat,↓reduceIte,Int.reducePow,Nat.reduceLeDiff,Nat.reduceLT,ne_eq,eq_self,List.length_cons,List.length_nil,hq,hm,h64,ht0,ht1,ht2,ht3,hu0,hu1,hu2,hu3,o1,o2,o3] | (rw [wide_left.p2_l]) | (with_reducible apply LX_round) | (with_reducible refine cregF ?_))
set_option maxRecDepth 100000 in
theorem left_3z {z n:Int} (h:A4 z) (hn:n = 64 * 3) (hf:z * 6277101735386680763835789423207666416102355444464034512896 < 115792089237316195423570985008687907853269984665640564039457584007913129639936) (w:World) :
  Calls Try.prog 184 #[ME z,.int .i64 n] w fun e w'=>e = .returned (ME (z * 6277101735386680763835789423207666416102355444464034512896))∧Below w.heap.size w w':=by
 show Calls _ _ #[MG (lb0 z) (lb1 z) (lb2 z) (lb3 z),_] _ _
 have e:=mv_me h
 have U0:=lb0_in z
 have U1:=lb1_in z
 have U2:=lb2_in z
 have U3:=lb3_in z
 have hR:=shl3 (e:=0) (by rw [e]; omega:z = MV (lb0 z) (lb1 z) (lb2 z) (lb3 z) + _ * 0) (Int.le_refl 0) ⟨U0,U1,U2,U3⟩ hf
 have hM:=mg_me (U64.zero) (U64.zero) (U64.zero) (U0)
 rw [hR] at hM
 rw [← hM]
 have hq:n / 64 = 3:=by omega
 have hm:n % 64 = 0:=by omega
 have h0:0≤n:=by omega
 generalize lb0 z = x0 at *
 generalize lb1 z = x1 at *
 generalize lb2 z = x2 at *
 generalize lb3 z = x3 at *
 clear hM hR e hf h hn
 obtain ⟨g0,l0⟩:=U0
 obtain ⟨g1,l1⟩:=U1
 obtain ⟨g2,l2⟩:=U2
 obtain ⟨g3,l3⟩:=U3
 refine known_of (enter Try.func184 wide_left.ok (args:=[MG x0 x1 x2 x3,.int .i64 n]) (by simp) ?_)
 repeat' (first | simp (disch:=omega) only [sxE,wide_left.E,Nat.reduceAdd,Nat.reduceEqDiff,Nat.reduceMul,Nat.reduceSub,Int.reduceAdd,Int.reduceSub,Int.reduceMul,Int.reduceNeg,Int.reduceLT,Int.reduceLE,Int.reduceEq,Int.reduceToNat,↓reduceIte,Int.reducePow,Nat.reduceLeDiff,Nat.reduceLT,ne_eq,eq_self,List.length_cons,List.length_nil,hq,hm,Int.mul_one,Int.pow_zero,Int.toNat_zero] | (rw [wide_left.p2_l]) | (with_reducible apply LX_round) | (with_reducible refine cregF ?_))
theorem g_left {z:Int} {n:Nat} (h:A4 z) (hf:A4 (z * 2 ^ n)) (hn:n < 256) (W:World):Gives Try.prog 184 [ME z,.int .i64 (n:Int)] W (· = ME (z * 2 ^ n)):=by
 refine gives_known en_wide_left ?_
 obtain ⟨q,r,hq,hr,e⟩:∃ q r:Nat,q < 4∧r < 64∧n = 64 * q + r:=⟨n / 64,n % 64,by omega,by omega,by omega⟩
 have hp:=pow_split q r
 have e2:z * 2 ^ n = z * 2 ^ r * 18446744073709551616 ^ q:=by rw [e,hp,Int.mul_assoc]
 have hf2:=hf.2
 rw [e2] at hf2 ⊢
 rcases Nat.eq_zero_or_pos r with h0 | h0
 ·subst h0
  rw [Int.pow_zero,Int.mul_one] at hf2 ⊢
  rcases q with _ | _ | _ | _ | q
  ·rw [Int.pow_zero,Int.mul_one] at hf2 ⊢; exact left_0z h (by omega) hf2 W
  ·rw [show (18446744073709551616:Int) ^ (0 + 1) = 18446744073709551616 from rfl] at hf2 ⊢; exact left_1z h (by omega) hf2 W
  ·rw [show (18446744073709551616:Int) ^ (0 + 1 + 1) = 340282366920938463463374607431768211456 from rfl] at hf2 ⊢; exact left_2z h (by omega) hf2 W
  ·rw [show (18446744073709551616:Int) ^ (0 + 1 + 1 + 1) = 6277101735386680763835789423207666416102355444464034512896 from rfl] at hf2 ⊢; exact left_3z h (by omega) hf2 W
  ·omega
 ·rcases q with _ | _ | _ | _ | q
  ·rw [Int.pow_zero,Int.mul_one] at hf2 ⊢; exact left_0 h h0 hr (by omega) hf2 W
  ·rw [show (18446744073709551616:Int) ^ (0 + 1) = 18446744073709551616 from rfl] at hf2 ⊢; exact left_1 h h0 hr (by omega) hf2 W
  ·rw [show (18446744073709551616:Int) ^ (0 + 1 + 1) = 340282366920938463463374607431768211456 from rfl] at hf2 ⊢; exact left_2 h h0 hr (by omega) hf2 W
  ·rw [show (18446744073709551616:Int) ^ (0 + 1 + 1 + 1) = 6277101735386680763835789423207666416102355444464034512896 from rfl] at hf2 ⊢; exact left_3 h h0 hr (by omega) hf2 W
  ·omega
end Go.Proofs.Ytncmmbacoknefaa
