/- Several texts in one: Go, Pc, Sa, Sc, Sk, Kp, Sl, Re, L20, Rq, CdGr, Gq, Pf, Open, OpK, OpL, OpG. -/
import Derived.Test.YtncmmbacoknefaaGreatProg
import Derived.Laws.CopyRow
import Derived.Test.YtncmmbacoknefaaGreatRows
import Derived.OpenShut
import Derived.SizedLaws
import Derived.Laws.IdiomArrays
import Derived.Deep.Strs
import Derived.Test.YtncmmbacoknefaaGreatRg22
import Derived.Test.YtncmmbacoknefaaGreatRg24
import Derived.Test.YtncmmbacoknefaaGreatRg25
set_option linter.defProp false

/- Go: Groups of the reference. -/
namespace Go.Proofs.YtncmmbacoknefaaGreat
open Go Go.RowKit Sx
set_option linter.unusedVariables false
set_option linter.unusedSimpArgs false
def gws (wh:List Nat):List Value:=wh.map fun k:Nat=>.int .i64 (k:Int)
theorem gws_len (wh:List Nat):(gws wh).length = wh.length:=List.length_map ..
theorem gws_at {wh:List Nat} {i:Nat} (h:i < wh.length):(gws wh)[i]? = some (.int .i64 ((wh.getD i 0:Nat):Int)):=by
 unfold gws
 rw [List.getElem?_map,List.getD_eq_getElem?_getD,List.getElem?_eq_getElem h]
 rfl
theorem gws_set {wh:List Nat} {i k:Nat}:(gws wh).set i (.int .i64 (k:Int)) = gws (wh.set i k):=by
 unfold gws
 rw [List.map_set]
theorem gws_rep (n:Nat):List.replicate n (Value.int .i64 0) = gws (List.replicate n 0):=by
 unfold gws
 rw [List.map_replicate]
 rfl
set_option maxRecDepth 100000 in
set_option maxHeartbeats 4000000 in
theorem rx_groups {w:World} {v tv:Value} {G:List GrN} {T:List Int} {eps:Int} (h:SlG w v G) (hT:SlZ w .i64 tv T) (he:I64 eps) (hN:8 * T.length≤140737488351232):Calls Tryz.prog 34 #[v,.int .i64 eps,tv] w (ZlB w (gpr G eps T (un eps)).1 (gpr G eps T (un eps)).2):=by
 obtain ⟨a,cap,rfl,h1,h2,h3,h4⟩:=id h
 obtain ⟨s,n9,tc,rfl,t1,t2,t3,t4,t5⟩:=id hT
 subst t1
 simp only [maxLen] at h2 t3
 refine (enterX Tryz.func34 r20_Groups.ok (args:=[.slice a G.length cap,.int .i64 eps,.slice s T.length tc]) (R:=fun u X=>∃ v Q,u = .tuple #[v,.int .i64 (gpr G eps T (un eps)).2]∧X = kX w.heap.size Q∧rowOf Q 2 1 v (gpr G eps T (un eps)).1.length ((gpr G eps T (un eps)).1.map (Value.int .i64))) (by simp) ?run).mono ?fin
 case fin =>
  rintro e w' ⟨u,X,rfl,⟨v,L,rfl,rfl,hr⟩,hX,hbl,-⟩
  exact ⟨v,rfl,hr.own hX,hbl⟩
 case run =>
  
  have inc:=fun W (hW:Below w.heap.size w W)=>gives_known en_r10_Increasing (rx_inc (SlZ.below hT hW))
  by_cases hneg:eps < 0
  ·rw [show gpr G eps T (un eps) = ([],9) by unfold gpr; rw [if_pos (.inl hneg)]]
   have tl:=fun W=>rx_tol he W
   rw [decide_eq_false (by omega)] at tl
   clear inc
   repeat' (first | simp (disch:=omega) only [sxE,r20_Groups.E,Nat.reduceAdd,Nat.reduceEqDiff,Nat.reduceMul,Nat.reduceSub,Int.reduceAdd,Int.reduceSub,Int.reduceMul,Int.reduceNeg,Int.reduceLT,Int.reduceLE,Int.reduceEq,Int.reduceToNat,↓reduceIte,Int.reducePow,Nat.reduceLeDiff,Nat.reduceLT,ne_eq,eq_self,List.length_cons,List.length_nil,qxE,Bool.not_false] | (with_reducible refine Sx.call_at (f:=93) (fun W hW=>tl W) ?_) | (with_reducible refine cregF ?_))
   exact ⟨.slice none 0 0,[],rfl,kX_nil _,.inl ⟨rfl,rfl,rfl⟩⟩
  by_cases hbig:4611686018427387904 < eps
  ·rw [show gpr G eps T (un eps) = ([],9) by unfold gpr; rw [if_pos (.inr hbig)]]
   have tl:=fun W=>rx_tol he W
   rw [decide_eq_false (by omega)] at tl
   clear inc
   repeat' (first | simp (disch:=omega) only [sxE,r20_Groups.E,Nat.reduceAdd,Nat.reduceEqDiff,Nat.reduceMul,Nat.reduceSub,Int.reduceAdd,Int.reduceSub,Int.reduceMul,Int.reduceNeg,Int.reduceLT,Int.reduceLE,Int.reduceEq,Int.reduceToNat,↓reduceIte,Int.reducePow,Nat.reduceLeDiff,Nat.reduceLT,ne_eq,eq_self,List.length_cons,List.length_nil,qxE,Bool.not_false] | (with_reducible refine Sx.call_at (f:=93) (fun W hW=>tl W) ?_) | (with_reducible refine cregF ?_))
   exact ⟨.slice none 0 0,[],rfl,kX_nil _,.inl ⟨rfl,rfl,rfl⟩⟩
  have tl:=fun W=>rx_tol he W
  rw [decide_eq_true (by omega)] at tl
  cases hic:incz T
  ·rw [show gpr G eps T (un eps) = ([],7) by unfold gpr; rw [if_neg (by omega),if_neg (by rw [hic]; decide)]]
   rw [hic] at inc
   repeat' (first | simp (disch:=omega) only [sxE,r20_Groups.E,Nat.reduceAdd,Nat.reduceEqDiff,Nat.reduceMul,Nat.reduceSub,Int.reduceAdd,Int.reduceSub,Int.reduceMul,Int.reduceNeg,Int.reduceLT,Int.reduceLE,Int.reduceEq,Int.reduceToNat,↓reduceIte,Int.reducePow,Nat.reduceLeDiff,Nat.reduceLT,ne_eq,eq_self,List.length_cons,List.length_nil,qxE,Bool.not_true,Bool.not_false] | (with_reducible refine Sx.call_at (f:=93) (fun W hW=>tl W) ?_) | (with_reducible refine Sx.call_at (f:=82) (fun W hW=>inc W hW) ?_) | (with_reducible refine cregF ?_))
   exact ⟨.slice none 0 0,[],rfl,kX_nil _,.inl ⟨rfl,rfl,rfl⟩⟩
  rw [hic] at inc
  have hg:gpr G eps T (un eps) = match mkA G T.length with
   | none=>([],10)
   | some wh=>if 0 < T.length∧wh.getD 0 0 = 0 then ([],10) else (gvs G (un eps) T wh T.length,0):=by
   unfold gpr
   (rw [if_neg (by omega),if_pos hic]) <;> rfl
  generalize gpr G eps T (un eps) = gp at *
  repeat' (first | simp (disch:=omega) only [sxE,r20_Groups.E,Nat.reduceAdd,Nat.reduceEqDiff,Nat.reduceMul,Nat.reduceSub,Int.reduceAdd,Int.reduceSub,Int.reduceMul,Int.reduceNeg,Int.reduceLT,Int.reduceLE,Int.reduceEq,Int.reduceToNat,↓reduceIte,Int.reducePow,Nat.reduceLeDiff,Nat.reduceLT,ne_eq,eq_self,List.length_cons,List.length_nil,qxE,Bool.not_true,Bool.not_false] | (with_reducible refine Sx.call_at (f:=93) (fun W hW=>tl W) ?_) | (with_reducible refine Sx.call_at (f:=82) (fun W hW=>inc W hW) ?_) | (with_reducible refine cregF ?_))
  refine genA_mk rfl (L:=[]) (z:=.int .i64 0) (bytes:=8) Tryz.underlying24 (by kernel_rfl) rfl (by omega) (by omega) (kX_nil _) fun bs hbs=>?_
  clear hbs inc
  rw [gws_rep]
  repeat' (first | simp (disch:=omega) only [sxE,r20_Groups.E,Nat.reduceAdd,Nat.reduceEqDiff,Nat.reduceMul,Nat.reduceSub,Int.reduceAdd,Int.reduceSub,Int.reduceMul,Int.reduceNeg,Int.reduceLT,Int.reduceLE,Int.reduceEq,Int.reduceToNat,↓reduceIte,Int.reducePow,Nat.reduceLeDiff,Nat.reduceLT,ne_eq,eq_self,List.length_cons,List.length_nil,qxE] | (with_reducible refine cregF ?_))
  have err:∀ Q:List Kn,mkA G T.length = none→∃ v Q',(Value.tuple #[.slice none 0 0,.int .i64 10]) = .tuple #[v,.int .i64 gp.2]∧kX w.heap.size Q = kX w.heap.size Q'∧rowOf Q' 2 1 v gp.1.length (gp.1.map (Value.int .i64)):=fun Q e=>by
   rw [e] at hg
   rw [hg]
   exact ⟨_,Q,rfl,rfl,.inl ⟨rfl,rfl,rfl⟩⟩
  rw [r20_Groups.p17_l]
  refine LX_inv (fun x:Nat × List Nat=>⟨0,[(0,.v (.slice a G.length cap)),(1,.v (.int .i64 eps)),(2,.v (.slice s T.length tc)),(8,.v (.slice (some ⟨bs,0,none⟩) T.length T.length)),(9,.v (.int .i64 (x.1:Int)))],[],kX w.heap.size [.g (cK bs (gws x.2))]⟩) (fun x=>x.1≤G.length∧x.2.length = T.length∧(∀ k∈x.2,k≤G.length)∧mkA G T.length = mks T.length x.1 (G.drop x.1) x.2) (fun x=>G.length - x.1) ?round (0,List.replicate T.length 0) ⟨Nat.zero_le _,List.length_replicate ..,fun k hk=>by rw [(List.mem_replicate.1 hk).2]; exact Nat.zero_le _,by rw [List.drop_zero]; rfl⟩ ?start
  case start =>
   have c0:((0:Nat):Int) = 0:=rfl
   simp (disch:=omega) only [sxE,r20_Groups.E,Nat.reduceAdd,Nat.reduceEqDiff,Nat.reduceMul,Nat.reduceSub,Int.reduceAdd,Int.reduceSub,Int.reduceMul,Int.reduceNeg,Int.reduceLT,Int.reduceLE,Int.reduceEq,Int.reduceToNat,↓reduceIte,Int.reducePow,Nat.reduceLeDiff,Nat.reduceLT,ne_eq,eq_self,List.length_cons,List.length_nil,c0]
  case round =>
   rintro ⟨i,wh⟩ ⟨hi,hwl,hwb,hm⟩
   try dsimp only at hi hwl hwb hm ⊢
   by_cases hlt:i < G.length
   ·obtain ⟨b',off,rfl,-,-⟩:=h4 (by omega)
    have hok:=h3 _ (mem_gr hlt)
    rw [gdrop hlt] at hm
    have e0:(i:Int) + 1 = ((i + 1:Nat):Int):=by omega
    generalize hy:G.getD i gr0 = y at *
    obtain ⟨x,sv,st⟩:=y
    have hs:=hok.s
    dsimp only at hs
    obtain ⟨sa,sl,sc,rfl,rfl,u1,u2,u3,u4⟩:=id hs
    simp only [maxLen] at u2
    replace hm:mkA G T.length = (mk1 T.length (i + 1) wh st).bind (mks T.length (i + 1) (G.drop (i + 1))):=hm
    clear hok
    repeat' (first | simp (disch:=omega) only [sxE,r20_Groups.E,Nat.reduceAdd,Nat.reduceEqDiff,Nat.reduceMul,Nat.reduceSub,Int.reduceAdd,Int.reduceSub,Int.reduceMul,Int.reduceNeg,Int.reduceLT,Int.reduceLE,Int.reduceEq,Int.reduceToNat,↓reduceIte,Int.reducePow,Nat.reduceLeDiff,Nat.reduceLT,ne_eq,eq_self,List.length_cons,List.length_nil,qxE] | ((with_reducible refine ldP_blk b' ?_); refine ldP_G i 11 [.slice sa st.length sc] h (by omega) hlt rfl (one_at (by rw [hy]; rfl)) ?_) | (with_reducible refine cregF ?_))
    rw [r20_Groups.p19_l]
    have hz64:∀ z∈st,I64 z:=fun z hz=>I64.of_wf (u3 z hz)
    refine LX_inv (fun x:Nat × List Nat=>⟨0,[(0,.v (.slice (some ⟨b',off,none⟩) G.length cap)),(1,.v (.int .i64 eps)),(2,.v (.slice s T.length tc)),(8,.v (.slice (some ⟨bs,0,none⟩) T.length T.length)),(9,.v (.int .i64 (i:Int))),(10,.v (.int .i64 (x.1:Int)))],[],kX w.heap.size [.g (cK bs (gws x.2))]⟩) (fun x=>x.1≤st.length∧x.2.length = T.length∧(∀ k∈x.2,k≤G.length)∧mkA G T.length = (mk1 T.length (i + 1) x.2 (st.drop x.1)).bind (mks T.length (i + 1) (G.drop (i + 1)))) (fun x=>st.length - x.1) ?round2 (0,wh) ⟨Nat.zero_le _,hwl,hwb,by rw [List.drop_zero]; exact hm⟩ ?start2
    case start2 =>
     have c0:((0:Nat):Int) = 0:=rfl
     simp (disch:=omega) only [sxE,r20_Groups.E,Nat.reduceAdd,Nat.reduceEqDiff,Nat.reduceMul,Nat.reduceSub,Int.reduceAdd,Int.reduceSub,Int.reduceMul,Int.reduceNeg,Int.reduceLT,Int.reduceLE,Int.reduceEq,Int.reduceToNat,↓reduceIte,Int.reducePow,Nat.reduceLeDiff,Nat.reduceLT,ne_eq,eq_self,List.length_cons,List.length_nil,c0]
    case round2 =>
     clear hwl hwb hm
     rintro ⟨j,wh⟩ ⟨hj,hwl,hwb,hm⟩
     try dsimp only at hj hwl hwb hm ⊢
     have e1:(j:Int) + 1 = ((j + 1:Nat):Int):=by omega
     by_cases hjl:j < st.length
     ·obtain ⟨sb,so,rfl,-,-⟩:=u4 (by omega)
      have hz:=qget' hz64 j
      rw [idrop hjl] at hm
      
      generalize hzz:st.getD j 0 = z at *
      by_cases hz0:z < 0
      ·have e2:mkA G T.length = none:=by
        rw [hm]
        unfold mk1
        rw [if_pos (.inl hz0)]
        rfl
       clear hm
       repeat' (first | simp (disch:=omega) only [sxE,r20_Groups.E,Nat.reduceAdd,Nat.reduceEqDiff,Nat.reduceMul,Nat.reduceSub,Int.reduceAdd,Int.reduceSub,Int.reduceMul,Int.reduceNeg,Int.reduceLT,Int.reduceLE,Int.reduceEq,Int.reduceToNat,↓reduceIte,Int.reducePow,Nat.reduceLeDiff,Nat.reduceLT,ne_eq,eq_self,List.length_cons,List.length_nil,qxE,hzz] | ((with_reducible refine ldP_blk sb ?_); refine ldP_z j hs (by omega) hjl ?_) | ((with_reducible refine ldP_blk b' ?_); refine ldP_G i 11 [.slice (some ⟨sb,so,none⟩) st.length sc] h (by omega) hlt rfl (one_at (by rw [hy]; rfl)) ?_) | (with_reducible refine cregF ?_))
       exact err _ e2
      by_cases hz1:(T.length:Int)≤z
      ·have e2:mkA G T.length = none:=by
        rw [hm]
        unfold mk1
        rw [if_pos (.inr hz1)]
        rfl
       clear hm
       repeat' (first | simp (disch:=omega) only [sxE,r20_Groups.E,Nat.reduceAdd,Nat.reduceEqDiff,Nat.reduceMul,Nat.reduceSub,Int.reduceAdd,Int.reduceSub,Int.reduceMul,Int.reduceNeg,Int.reduceLT,Int.reduceLE,Int.reduceEq,Int.reduceToNat,↓reduceIte,Int.reducePow,Nat.reduceLeDiff,Nat.reduceLT,ne_eq,eq_self,List.length_cons,List.length_nil,qxE,hzz] | ((with_reducible refine ldP_blk sb ?_); refine ldP_z j hs (by omega) hjl ?_) | ((with_reducible refine ldP_blk b' ?_); refine ldP_G i 11 [.slice (some ⟨sb,so,none⟩) st.length sc] h (by omega) hlt rfl (one_at (by rw [hy]; rfl)) ?_) | (with_reducible refine cregF ?_))
       exact err _ e2
      obtain ⟨k,rfl⟩:∃ k:Nat,z = (k:Int):=⟨z.toNat,by omega⟩
      have hkl:k < wh.length:=by omega
      have hcell:=gws_at hkl
      have e3:mk1 T.length (i + 1) wh ((k:Int) :: st.drop (j + 1)) = if wh.getD k 0≠0 then none else mk1 T.length (i + 1) (wh.set k (i + 1)) (st.drop (j + 1)):=by
       show (if (k:Int) < 0∨(T.length:Int)≤(k:Int) then none else _) = _
       rw [if_neg (by omega)]
       rfl
      rw [e3] at hm
      clear e3
      by_cases hk0:wh.getD k 0 = 0
      ·rw [if_neg (fun hne=>hne hk0)] at hm
       rw [hk0] at hcell
       
       repeat' (first | simp (disch:=omega) only [sxE,r20_Groups.E,Nat.reduceAdd,Nat.reduceEqDiff,Nat.reduceMul,Nat.reduceSub,Int.reduceAdd,Int.reduceSub,Int.reduceMul,Int.reduceNeg,Int.reduceLT,Int.reduceLE,Int.reduceEq,Int.reduceToNat,↓reduceIte,Int.reducePow,Nat.reduceLeDiff,Nat.reduceLT,ne_eq,eq_self,List.length_cons,List.length_nil,qxE,hzz,Option.isSome_none,Bool.true_beq] | ((with_reducible refine ldP_blk sb ?_); refine ldP_z j hs (by omega) hjl ?_) | ((with_reducible refine ldP_blk b' ?_); refine ldP_G i 11 [.slice (some ⟨sb,so,none⟩) st.length sc] h (by omega) hlt rfl (one_at (by rw [hy]; rfl)) ?_) | ((with_reducible refine ldP_blk bs ?_); refine ldP_c (l:=[.int .i64 ((0:Nat):Int)]) rfl List.mem_cons_self rfl (fun q u hu=>by rw [show 0 + k * 1 + q = k + q by omega]; exact one_at hcell q u hu) ?_) | (with_reducible refine cregF ?_))
       rw [e0,show 0 + k * 1 = k by omega]
       refine stP_c (R:=[]) (cs':=gws (wh.set k (i + 1))) rfl List.mem_cons_self (fun q hq=>by cases hq) (by rw [ovrO_one (by rw [gws_len]; exact hkl),gws_set]) rfl ?_
       repeat' (first | simp (disch:=omega) only [sxE,r20_Groups.E,Nat.reduceAdd,Nat.reduceEqDiff,Nat.reduceMul,Nat.reduceSub,Int.reduceAdd,Int.reduceSub,Int.reduceMul,Int.reduceNeg,Int.reduceLT,Int.reduceLE,Int.reduceEq,Int.reduceToNat,↓reduceIte,Int.reducePow,Nat.reduceLeDiff,Nat.reduceLT,ne_eq,eq_self,List.length_cons,List.length_nil,qxE] | (with_reducible refine cregF ?_))
       rw [e1]
       refine ⟨(j + 1,wh.set k (i + 1)),⟨by dsimp only; omega,by dsimp only; rw [List.length_set]; exact hwl,fun q hq=>?_,hm⟩,by dsimp only; omega,rfl,.inl rfl⟩
       rcases List.mem_or_eq_of_mem_set hq with hq | rfl
       ·exact hwb q hq
       ·omega
      ·rw [if_pos hk0] at hm
       
       repeat' (first | simp (disch:=omega) only [sxE,r20_Groups.E,Nat.reduceAdd,Nat.reduceEqDiff,Nat.reduceMul,Nat.reduceSub,Int.reduceAdd,Int.reduceSub,Int.reduceMul,Int.reduceNeg,Int.reduceLT,Int.reduceLE,Int.reduceEq,Int.reduceToNat,↓reduceIte,Int.reducePow,Nat.reduceLeDiff,Nat.reduceLT,ne_eq,eq_self,List.length_cons,List.length_nil,qxE,hzz,Option.isSome_some,beq_self_eq_true] | ((with_reducible refine ldP_blk sb ?_); refine ldP_z j hs (by omega) hjl ?_) | ((with_reducible refine ldP_blk b' ?_); refine ldP_G i 11 [.slice (some ⟨sb,so,none⟩) st.length sc] h (by omega) hlt rfl (one_at (by rw [hy]; rfl)) ?_) | ((with_reducible refine ldP_blk bs ?_); refine ldP_c (l:=[.int .i64 ((wh.getD k 0:Nat):Int)]) rfl List.mem_cons_self rfl (fun q u hu=>by rw [show 0 + k * 1 + q = k + q by omega]; exact one_at hcell q u hu) ?_) | (with_reducible refine cregF ?_))
       exact err _ hm
     ·obtain rfl:j = st.length:=by omega
      rw [List.drop_length] at hm
      clear hs u4 hz64
      repeat' (first | simp (disch:=omega) only [sxE,r20_Groups.E,Nat.reduceAdd,Nat.reduceEqDiff,Nat.reduceMul,Nat.reduceSub,Int.reduceAdd,Int.reduceSub,Int.reduceMul,Int.reduceNeg,Int.reduceLT,Int.reduceLE,Int.reduceEq,Int.reduceToNat,↓reduceIte,Int.reducePow,Nat.reduceLeDiff,Nat.reduceLT,ne_eq,eq_self,List.length_cons,List.length_nil,qxE] | ((with_reducible refine ldP_blk b' ?_); refine ldP_G i 11 [.slice sa st.length sc] h (by omega) hlt rfl (one_at (by rw [hy]; rfl)) ?_) | (with_reducible refine cregF ?_))
      rw [e0]
      exact ⟨(i + 1,wh),⟨by dsimp only; omega,hwl,hwb,hm⟩,by dsimp only; omega,rfl,.inl rfl⟩
   ·obtain rfl:i = G.length:=by omega
    rw [List.drop_length] at hm
    replace hm:mkA G T.length = some wh:=hm
    rw [hm] at hg
    clear err hi hlt hm
    replace hg:gp = if 0 < T.length∧wh.getD 0 0 = 0 then ([],10) else (gvs G (un eps) T wh T.length,0):=hg
    by_cases hz:0 < T.length∧wh.getD 0 0 = 0
    ·rw [if_pos hz] at hg
     obtain ⟨hz1,hz0⟩:=hz
     have hcell:=gws_at (wh:=wh) (i:=0) (by omega)
     rw [hz0] at hcell
     subst hg
     have c0:((0:Nat):Int) = 0:=rfl
     repeat' (first | simp (disch:=omega) only [sxE,r20_Groups.E,Nat.reduceAdd,Nat.reduceEqDiff,Nat.reduceMul,Nat.reduceSub,Int.reduceAdd,Int.reduceSub,Int.reduceMul,Int.reduceNeg,Int.reduceLT,Int.reduceLE,Int.reduceEq,Int.reduceToNat,↓reduceIte,Int.reducePow,Nat.reduceLeDiff,Nat.reduceLT,ne_eq,eq_self,List.length_cons,List.length_nil,qxE,c0,beq_self_eq_true] | ((with_reducible refine ldP_blk bs ?_); refine ldP_c (l:=[.int .i64 ((0:Nat):Int)]) rfl List.mem_cons_self rfl (one_at hcell) ?_) | (with_reducible refine cregF ?_))
     exact ⟨_,_,rfl,rfl,.inl ⟨rfl,rfl,rfl⟩⟩
    ·rw [if_neg hz] at hg
     subst hg
     have rest:r20_Groups.p2 (cx Tryz.prog w 118) (finT [(6,none),(7,none)] fun u X=>∃ v Q,u = .tuple #[v,.int .i64 0]∧X = kX w.heap.size Q∧rowOf Q 2 1 v (gvs G (un eps) T wh T.length).length ((gvs G (un eps) T wh T.length).map (Value.int .i64))) ⟨0,[(0,.v (.slice a G.length cap)),(1,.v (.int .i64 eps)),(2,.v (.slice s T.length tc)),(8,.v (.slice (some ⟨bs,0,none⟩) T.length T.length)),(12,.v (.slice none 0 0)),(13,.v (.int .i64 0)),(14,.v (.int .i64 0))],[],kX w.heap.size [.g (cK bs (gws wh))]⟩:=by
      rw [r20_Groups.p2_l]
      refine LX_inv (fun x:Nat × Value=>⟨0,[(0,.v (.slice a G.length cap)),(1,.v (.int .i64 eps)),(2,.v (.slice s T.length tc)),(8,.v (.slice (some ⟨bs,0,none⟩) T.length T.length)),(12,.v x.2),(13,.v (.int .i64 ((gst wh (x.1 - 1):Nat):Int))),(14,.v (.int .i64 (x.1:Int)))],[],kX w.heap.size [.g (wK 2 1 x.2 x.1 ((gvs G (un eps) T wh x.1).map (Value.int .i64))),.g (cK bs (gws wh))]⟩) (fun x=>x.1≤T.length∧(∃ a c,x.2 = .slice a x.1 c)∧x.2.ownBlock≠some bs) (fun x=>T.length - x.1) ?round3 (0,.slice none 0 0) ⟨Nat.zero_le _,⟨none,0,rfl⟩,fun e=>by cases e⟩ ?start3
      case start3 =>
       have c0:((0:Nat):Int) = 0:=rfl
       have g0:gst wh (0 - 1) = 0:=rfl
       simp (disch:=omega) only [sxE,r20_Groups.E,Nat.reduceAdd,Nat.reduceEqDiff,Nat.reduceMul,Nat.reduceSub,Int.reduceAdd,Int.reduceSub,Int.reduceMul,Int.reduceNeg,Int.reduceLT,Int.reduceLE,Int.reduceEq,Int.reduceToNat,↓reduceIte,Int.reducePow,Nat.reduceLeDiff,Nat.reduceLT,ne_eq,eq_self,List.length_cons,List.length_nil,c0,g0]
       refine extS_of fun k hk=>?_
       rcases List.mem_cons.1 hk with rfl | hk
       ·exact .inr ⟨rfl,fun W=>wK_nil _ _ _ W⟩
       ·exact .inl hk
      case round3 =>
       rintro ⟨m,u⟩ ⟨hm,⟨ua,uc,hu⟩,hub⟩
       try dsimp only at hm hu hub ⊢
       subst hu
       by_cases hlt:m < T.length
       ·obtain ⟨bt,ot,rfl,-,-⟩:=t5 (by omega)
        have hT64:∀ z∈T,I64 z:=fun z hz=>I64.of_wf (t4 z hz)
        have hp0:0 < wh.getD 0 0:=Nat.pos_of_ne_zero fun e=>hz ⟨by omega,e⟩
        have hgp:=gst_pos hp0 m
        have hgl:=gst_le wh m
        have hcm:=gws_at (wh:=wh) (i:=m) (by omega)
        have hbd:=hwb (wh.getD (gst wh m) 0) (by rw [List.getD_eq_getElem?_getD,List.getElem?_eq_getElem (by omega)]; exact List.getElem_mem _)
        obtain ⟨q,hq⟩:∃ q,wh.getD (gst wh m) 0 = q + 1:=⟨wh.getD (gst wh m) 0 - 1,by omega⟩
        obtain ⟨b',off,rfl,-,-⟩:=h4 (by omega)
        have hql:q < G.length:=by omega
        have hok:=h3 _ (mem_gr hql)
        have i1:=qget' hT64 m
        have em:(m:Int) + 1 = ((m + 1:Nat):Int):=by omega
        have eq1:((q + 1:Nat):Int) - 1 = (q:Int):=by omega
        generalize hx:G.getD q gr0 = y at *
        obtain ⟨⟨xn,xv,g,xa,xb,xc,xd,xh,xe,xf,xi,xj,p,q9⟩,sv,st⟩:=y
        have hxq:=hok.q
        have hxv:=hok.v
        have hs:=hok.s
        dsimp only at hs
        obtain ⟨sa,sl,sc,rfl,-⟩:=hs
        have fv:=(Fits_base hok.v he).rw
        have ob:=fun W=>rx_base hok.v he W
        dsimp only [rls] at hxq hxv fv ob
        clear hok hgp hbd hp0
        by_cases hp:0 < wh.getD m 0
        ·have hF:gst wh m = m:=by
          cases m with
          | zero=>rfl
          | succ m=>exact if_pos hp
         rw [hF] at hq hgl
         have hcf:=gws_at (wh:=wh) (i:=m) (by omega)
         rw [hq] at hcf
         have i0:=qget' hT64 (m)
         have hle:T.getD (m) 0≤T.getD m 0:=incz_le hic (by omega) (by omega)
         have ds:=fun W=>rx_sdist i1 i0 hle W
         have iD:U64 (T.getD m 0 - T.getD (m) 0):=⟨by omega,by have:=i1.2; have:=i0.1; omega⟩
         have va:=fun W=>rx_value fv hxq iD W
         have hnx:gvs G (un eps) T wh (m + 1) = gvs G (un eps) T wh m ++ [vl (vz (xv * un eps) + atq p q9 (T.getD m 0 - T.getD (m) 0))]:=by
          show gvs G (un eps) T wh m ++ [gvl G (un eps) T wh m] = _
          unfold gvl
          rw [hF,hq,Nat.add_sub_cancel,hx]
          rfl
         have hvl:=gvs_len G (un eps) T wh m
         clear i1 i0 hle fv hxq
         generalize gvs G (un eps) T wh m = vs at *
         generalize T.getD m 0 - T.getD (m) 0 = D at *
         generalize vl (vz (xv * un eps) + atq p q9 D) = V at *
         
         
         
         
         
         repeat' (first | simp (disch:=omega) only [sxE,r20_Groups.E,Nat.reduceAdd,Nat.reduceEqDiff,Nat.reduceMul,Nat.reduceSub,Int.reduceAdd,Int.reduceSub,Int.reduceMul,Int.reduceNeg,Int.reduceLT,Int.reduceLE,Int.reduceEq,Int.reduceToNat,↓reduceIte,Int.reducePow,Nat.reduceLeDiff,Nat.reduceLT,ne_eq,eq_self,List.length_cons,List.length_nil,qxE,eq1] | ((with_reducible refine ldP_blk bs ?_); first | refine ldP_c (l:=[.int .i64 ((wh.getD m 0:Nat):Int)]) rfl (by repeat (first | with_reducible exact List.mem_cons_self | refine List.mem_cons_of_mem _ ?_)) rfl (fun k u hu=>by rw [show 0 + m * 1 + k = m + k by omega]; exact one_at hcm k u hu) ?_ | refine ldP_c (l:=[.int .i64 ((q + 1:Nat):Int)]) rfl (by repeat (first | with_reducible exact List.mem_cons_self | refine List.mem_cons_of_mem _ ?_)) rfl (fun k u hu=>by rw [show 0 + m * 1 + k = m + k by omega]; exact one_at hcf k u hu) ?_) | ((with_reducible refine ldP_blk b' ?_); refine ldP_G q 0 [.int .i64 xv,.bool g,.int .u64 xa,.int .u64 xb,.int .u64 xc,.int .u64 xd,.bool xh,.int .u64 xe,.int .u64 xf,.int .u64 xi,.int .u64 xj,.slice sa sl sc] h (by omega) hql rfl (fun k v hk=>by rw [hx,Nat.zero_add]; exact hk) ?_) | (with_reducible refine cregF ?_))
         refine genA_az (z:=.agg #[.int .i64 0,.bool false,.int .u64 0,.int .u64 0,.int .u64 0,.int .u64 0,.bool false,.int .u64 0,.int .u64 0,.int .u64 0,.int .u64 0,.slice none 0 0]) [.int .i64 0,.bool false,.int .u64 0,.int .u64 0,.int .u64 0,.int .u64 0,.bool false,.int .u64 0,.int .u64 0,.int .u64 0,.int .u64 0,.slice none 0 0] rfl (by kernel_rfl) (by kernel_rfl) (L:=[.g (wK 2 1 (.slice ua m uc) m (vs.map (Value.int .i64))),.g (cK bs (gws wh))]) rfl fun b1 hb1=>?_
         have hb1n:∀ k∈([.g (wK 2 1 (.slice ua m uc) m (vs.map (Value.int .i64))),.g (cK bs (gws wh))]:List Kn),b1 ∉ k.bs:=fun k hk h=>hb1 (kX_bs.2 ⟨k,hk,h⟩)
         clear hb1
         repeat' (first | simp (disch:=omega) only [sxE,r20_Groups.E,Nat.reduceAdd,Nat.reduceEqDiff,Nat.reduceMul,Nat.reduceSub,Int.reduceAdd,Int.reduceSub,Int.reduceMul,Int.reduceNeg,Int.reduceLT,Int.reduceLE,Int.reduceEq,Int.reduceToNat,↓reduceIte,Int.reducePow,Nat.reduceLeDiff,Nat.reduceLT,ne_eq,eq_self,List.length_cons,List.length_nil,qxE] | (with_reducible refine cregF ?_))
         refine ⟨rfl,stL_c (R:=[.g (wK 2 1 (.slice ua m uc) m (vs.map (Value.int .i64))),.g (cK bs (gws wh))]) rfl List.mem_cons_self (fun k hk=>⟨List.mem_cons_of_mem _ hk,hb1n k hk⟩) rfl rfl ?_⟩
         repeat' (first | simp (disch:=omega) only [sxE,r20_Groups.E,Nat.reduceAdd,Nat.reduceEqDiff,Nat.reduceMul,Nat.reduceSub,Int.reduceAdd,Int.reduceSub,Int.reduceMul,Int.reduceNeg,Int.reduceLT,Int.reduceLE,Int.reduceEq,Int.reduceToNat,↓reduceIte,Int.reducePow,Nat.reduceLeDiff,Nat.reduceLT,ne_eq,eq_self,List.length_cons,List.length_nil,qxE])
         refine cregI [.g (cK b1 [.int .i64 xv,.bool g,.int .u64 xa,.int .u64 xb,.int .u64 xc,.int .u64 xd,.bool xh,.int .u64 xe,.int .u64 xf,.int .u64 xi,.int .u64 xj,.slice sa sl sc])] (Value.slice ua m uc).ownBlock.toList rfl (fun k hk=>?_) (fun x hx=>⟨.g (wK 2 1 (.slice ua m uc) m (vs.map (Value.int .i64))),List.mem_cons_of_mem _ List.mem_cons_self,hx⟩) ?_
         ·rw [List.mem_singleton.1 hk]
          refine ⟨List.mem_cons_self,fun x hx h=>?_⟩
          rw [cK_bs.1 hx] at h
          exact hb1n (.g (wK 2 1 (.slice ua m uc) m (vs.map (Value.int .i64)))) List.mem_cons_self h
         clear hb1n
         repeat' (first | simp (disch:=omega) only [sxE,r20_Groups.E,Nat.reduceAdd,Nat.reduceEqDiff,Nat.reduceMul,Nat.reduceSub,Int.reduceAdd,Int.reduceSub,Int.reduceMul,Int.reduceNeg,Int.reduceLT,Int.reduceLE,Int.reduceEq,Int.reduceToNat,↓reduceIte,Int.reducePow,Nat.reduceLeDiff,Nat.reduceLT,ne_eq,eq_self,List.length_cons,List.length_nil,qxE] | ((with_reducible refine ldP_blk b1 ?_); refine ldP_k (b:=b1) rfl (by repeat (first | with_reducible exact List.mem_cons_self | refine List.mem_cons_of_mem _ ?_)) rfl ?_) | ((with_reducible refine ldP_blk bt ?_); first | refine ldP_z m hT (by omega) (by omega) ?_ | refine ldP_z (m) hT (by omega) (by omega) ?_) | (with_reducible refine Sx.call_at (f:=41) (fun W hW=>ob W) ?_) | (with_reducible refine Sx.call_at (f:=42) (fun W hW=>ds W) ?_) | (with_reducible refine Sx.call_at (f:=83) (fun W hW=>va W) ?_) | (with_reducible refine cregF ?_))
         refine genA_c (L:=[.g (cK b1 [.int .i64 xv,.bool g,.int .u64 xa,.int .u64 xb,.int .u64 xc,.int .u64 xd,.bool xh,.int .u64 xe,.int .u64 xf,.int .u64 xi,.int .u64 xj,.slice sa sl sc]),.g (wK 2 1 (.slice ua m uc) m (vs.map (Value.int .i64))),.g (cK bs (gws wh))]) (cs:=[.int .i64 V]) (T:=2) (fun b=>.slice (some ⟨b,0,none⟩) 1 1) rfl (fun W=>by kernel_rfl) fun b2 hb2=>?_
         clear hb2
         repeat' (first | simp (disch:=omega) only [sxE,r20_Groups.E,Nat.reduceAdd,Nat.reduceEqDiff,Nat.reduceMul,Nat.reduceSub,Int.reduceAdd,Int.reduceSub,Int.reduceMul,Int.reduceNeg,Int.reduceLT,Int.reduceLE,Int.reduceEq,Int.reduceToNat,↓reduceIte,Int.reducePow,Nat.reduceLeDiff,Nat.reduceLT,ne_eq,eq_self,List.length_cons,List.length_nil,qxE] | (with_reducible refine cregF ?_))
         refine genA_lit rfl [.g (cK bs (gws wh))] elt_int64 rfl (.inr (by repeat (first | with_reducible exact List.mem_cons_self | refine List.mem_cons_of_mem _ ?_))) (.inr fun x hx=>by show x∈(Value.slice ua m uc).ownBlock.toList; rw [hx]; exact List.mem_singleton.2 rfl) List.mem_cons_self rfl (by omega) rfl (by simp only [maxLen]; omega) (by omega) (fun k hk=>?_) fun g3 cap3 _ _ _ hg3=>?_
         ·rw [List.mem_singleton.1 hk]
          exact ⟨(by repeat (first | with_reducible exact List.mem_cons_self | refine List.mem_cons_of_mem _ ?_)),fun x hx e=>hub (by rw [e,cK_bs.1 hx])⟩
         repeat' (first | simp (disch:=omega) only [sxE,r20_Groups.E,Nat.reduceAdd,Nat.reduceEqDiff,Nat.reduceMul,Nat.reduceSub,Int.reduceAdd,Int.reduceSub,Int.reduceMul,Int.reduceNeg,Int.reduceLT,Int.reduceLE,Int.reduceEq,Int.reduceToNat,↓reduceIte,Int.reducePow,Nat.reduceLeDiff,Nat.reduceLT,ne_eq,eq_self,List.length_cons,List.length_nil,qxE] | (with_reducible refine cregF ?_))
         rw [em]
         refine ⟨(m + 1,.slice (some ⟨g3,0,none⟩) (m + 1) cap3),⟨by dsimp only; omega,⟨_,_,rfl⟩,fun e=>hg3 _ List.mem_cons_self (cK_bs.2 (by cases e; rfl))⟩,by dsimp only; omega,?_,.inl ?_⟩
         ·dsimp only
          rw [Nat.add_sub_cancel,hF]
          exact ⟨rfl,rfl,rfl⟩
         ·dsimp only
          rw [hnx,List.map_append]
          rfl
        ·have hF:gst wh m = gst wh (m - 1):=by
          cases m with
          | zero=>rfl
          | succ m=>exact if_neg hp
         rw [hF] at hq hgl
         have hcf:=gws_at (wh:=wh) (i:=gst wh (m - 1)) (by omega)
         rw [hq] at hcf
         have i0:=qget' hT64 (gst wh (m - 1))
         have hle:T.getD (gst wh (m - 1)) 0≤T.getD m 0:=incz_le hic (by omega) (by omega)
         have ds:=fun W=>rx_sdist i1 i0 hle W
         have iD:U64 (T.getD m 0 - T.getD (gst wh (m - 1)) 0):=⟨by omega,by have:=i1.2; have:=i0.1; omega⟩
         have va:=fun W=>rx_value fv hxq iD W
         have hnx:gvs G (un eps) T wh (m + 1) = gvs G (un eps) T wh m ++ [vl (vz (xv * un eps) + atq p q9 (T.getD m 0 - T.getD (gst wh (m - 1)) 0))]:=by
          show gvs G (un eps) T wh m ++ [gvl G (un eps) T wh m] = _
          unfold gvl
          rw [hF,hq,Nat.add_sub_cancel,hx]
          rfl
         have hvl:=gvs_len G (un eps) T wh m
         clear i1 i0 hle fv hxq
         generalize gvs G (un eps) T wh m = vs at *
         generalize T.getD m 0 - T.getD (gst wh (m - 1)) 0 = D at *
         generalize vl (vz (xv * un eps) + atq p q9 D) = V at *
         
         
         
         
         
         repeat' (first | simp (disch:=omega) only [sxE,r20_Groups.E,Nat.reduceAdd,Nat.reduceEqDiff,Nat.reduceMul,Nat.reduceSub,Int.reduceAdd,Int.reduceSub,Int.reduceMul,Int.reduceNeg,Int.reduceLT,Int.reduceLE,Int.reduceEq,Int.reduceToNat,↓reduceIte,Int.reducePow,Nat.reduceLeDiff,Nat.reduceLT,ne_eq,eq_self,List.length_cons,List.length_nil,qxE,eq1] | ((with_reducible refine ldP_blk bs ?_); first | refine ldP_c (l:=[.int .i64 ((wh.getD m 0:Nat):Int)]) rfl (by repeat (first | with_reducible exact List.mem_cons_self | refine List.mem_cons_of_mem _ ?_)) rfl (fun k u hu=>by rw [show 0 + m * 1 + k = m + k by omega]; exact one_at hcm k u hu) ?_ | refine ldP_c (l:=[.int .i64 ((q + 1:Nat):Int)]) rfl (by repeat (first | with_reducible exact List.mem_cons_self | refine List.mem_cons_of_mem _ ?_)) rfl (fun k u hu=>by rw [show 0 + gst wh (m - 1) * 1 + k = gst wh (m - 1) + k by omega]; exact one_at hcf k u hu) ?_) | ((with_reducible refine ldP_blk b' ?_); refine ldP_G q 0 [.int .i64 xv,.bool g,.int .u64 xa,.int .u64 xb,.int .u64 xc,.int .u64 xd,.bool xh,.int .u64 xe,.int .u64 xf,.int .u64 xi,.int .u64 xj,.slice sa sl sc] h (by omega) hql rfl (fun k v hk=>by rw [hx,Nat.zero_add]; exact hk) ?_) | (with_reducible refine cregF ?_))
         refine genA_az (z:=.agg #[.int .i64 0,.bool false,.int .u64 0,.int .u64 0,.int .u64 0,.int .u64 0,.bool false,.int .u64 0,.int .u64 0,.int .u64 0,.int .u64 0,.slice none 0 0]) [.int .i64 0,.bool false,.int .u64 0,.int .u64 0,.int .u64 0,.int .u64 0,.bool false,.int .u64 0,.int .u64 0,.int .u64 0,.int .u64 0,.slice none 0 0] rfl (by kernel_rfl) (by kernel_rfl) (L:=[.g (wK 2 1 (.slice ua m uc) m (vs.map (Value.int .i64))),.g (cK bs (gws wh))]) rfl fun b1 hb1=>?_
         have hb1n:∀ k∈([.g (wK 2 1 (.slice ua m uc) m (vs.map (Value.int .i64))),.g (cK bs (gws wh))]:List Kn),b1 ∉ k.bs:=fun k hk h=>hb1 (kX_bs.2 ⟨k,hk,h⟩)
         clear hb1
         repeat' (first | simp (disch:=omega) only [sxE,r20_Groups.E,Nat.reduceAdd,Nat.reduceEqDiff,Nat.reduceMul,Nat.reduceSub,Int.reduceAdd,Int.reduceSub,Int.reduceMul,Int.reduceNeg,Int.reduceLT,Int.reduceLE,Int.reduceEq,Int.reduceToNat,↓reduceIte,Int.reducePow,Nat.reduceLeDiff,Nat.reduceLT,ne_eq,eq_self,List.length_cons,List.length_nil,qxE] | (with_reducible refine cregF ?_))
         refine ⟨rfl,stL_c (R:=[.g (wK 2 1 (.slice ua m uc) m (vs.map (Value.int .i64))),.g (cK bs (gws wh))]) rfl List.mem_cons_self (fun k hk=>⟨List.mem_cons_of_mem _ hk,hb1n k hk⟩) rfl rfl ?_⟩
         repeat' (first | simp (disch:=omega) only [sxE,r20_Groups.E,Nat.reduceAdd,Nat.reduceEqDiff,Nat.reduceMul,Nat.reduceSub,Int.reduceAdd,Int.reduceSub,Int.reduceMul,Int.reduceNeg,Int.reduceLT,Int.reduceLE,Int.reduceEq,Int.reduceToNat,↓reduceIte,Int.reducePow,Nat.reduceLeDiff,Nat.reduceLT,ne_eq,eq_self,List.length_cons,List.length_nil,qxE])
         refine cregI [.g (cK b1 [.int .i64 xv,.bool g,.int .u64 xa,.int .u64 xb,.int .u64 xc,.int .u64 xd,.bool xh,.int .u64 xe,.int .u64 xf,.int .u64 xi,.int .u64 xj,.slice sa sl sc])] (Value.slice ua m uc).ownBlock.toList rfl (fun k hk=>?_) (fun x hx=>⟨.g (wK 2 1 (.slice ua m uc) m (vs.map (Value.int .i64))),List.mem_cons_of_mem _ List.mem_cons_self,hx⟩) ?_
         ·rw [List.mem_singleton.1 hk]
          refine ⟨List.mem_cons_self,fun x hx h=>?_⟩
          rw [cK_bs.1 hx] at h
          exact hb1n (.g (wK 2 1 (.slice ua m uc) m (vs.map (Value.int .i64)))) List.mem_cons_self h
         clear hb1n
         repeat' (first | simp (disch:=omega) only [sxE,r20_Groups.E,Nat.reduceAdd,Nat.reduceEqDiff,Nat.reduceMul,Nat.reduceSub,Int.reduceAdd,Int.reduceSub,Int.reduceMul,Int.reduceNeg,Int.reduceLT,Int.reduceLE,Int.reduceEq,Int.reduceToNat,↓reduceIte,Int.reducePow,Nat.reduceLeDiff,Nat.reduceLT,ne_eq,eq_self,List.length_cons,List.length_nil,qxE] | ((with_reducible refine ldP_blk b1 ?_); refine ldP_k (b:=b1) rfl (by repeat (first | with_reducible exact List.mem_cons_self | refine List.mem_cons_of_mem _ ?_)) rfl ?_) | ((with_reducible refine ldP_blk bt ?_); first | refine ldP_z m hT (by omega) (by omega) ?_ | refine ldP_z (gst wh (m - 1)) hT (by omega) (by omega) ?_) | (with_reducible refine Sx.call_at (f:=41) (fun W hW=>ob W) ?_) | (with_reducible refine Sx.call_at (f:=42) (fun W hW=>ds W) ?_) | (with_reducible refine Sx.call_at (f:=83) (fun W hW=>va W) ?_) | (with_reducible refine cregF ?_))
         refine genA_c (L:=[.g (cK b1 [.int .i64 xv,.bool g,.int .u64 xa,.int .u64 xb,.int .u64 xc,.int .u64 xd,.bool xh,.int .u64 xe,.int .u64 xf,.int .u64 xi,.int .u64 xj,.slice sa sl sc]),.g (wK 2 1 (.slice ua m uc) m (vs.map (Value.int .i64))),.g (cK bs (gws wh))]) (cs:=[.int .i64 V]) (T:=2) (fun b=>.slice (some ⟨b,0,none⟩) 1 1) rfl (fun W=>by kernel_rfl) fun b2 hb2=>?_
         clear hb2
         repeat' (first | simp (disch:=omega) only [sxE,r20_Groups.E,Nat.reduceAdd,Nat.reduceEqDiff,Nat.reduceMul,Nat.reduceSub,Int.reduceAdd,Int.reduceSub,Int.reduceMul,Int.reduceNeg,Int.reduceLT,Int.reduceLE,Int.reduceEq,Int.reduceToNat,↓reduceIte,Int.reducePow,Nat.reduceLeDiff,Nat.reduceLT,ne_eq,eq_self,List.length_cons,List.length_nil,qxE] | (with_reducible refine cregF ?_))
         refine genA_lit rfl [.g (cK bs (gws wh))] elt_int64 rfl (.inr (by repeat (first | with_reducible exact List.mem_cons_self | refine List.mem_cons_of_mem _ ?_))) (.inr fun x hx=>by show x∈(Value.slice ua m uc).ownBlock.toList; rw [hx]; exact List.mem_singleton.2 rfl) List.mem_cons_self rfl (by omega) rfl (by simp only [maxLen]; omega) (by omega) (fun k hk=>?_) fun g3 cap3 _ _ _ hg3=>?_
         ·rw [List.mem_singleton.1 hk]
          exact ⟨(by repeat (first | with_reducible exact List.mem_cons_self | refine List.mem_cons_of_mem _ ?_)),fun x hx e=>hub (by rw [e,cK_bs.1 hx])⟩
         repeat' (first | simp (disch:=omega) only [sxE,r20_Groups.E,Nat.reduceAdd,Nat.reduceEqDiff,Nat.reduceMul,Nat.reduceSub,Int.reduceAdd,Int.reduceSub,Int.reduceMul,Int.reduceNeg,Int.reduceLT,Int.reduceLE,Int.reduceEq,Int.reduceToNat,↓reduceIte,Int.reducePow,Nat.reduceLeDiff,Nat.reduceLT,ne_eq,eq_self,List.length_cons,List.length_nil,qxE] | (with_reducible refine cregF ?_))
         rw [em]
         refine ⟨(m + 1,.slice (some ⟨g3,0,none⟩) (m + 1) cap3),⟨by dsimp only; omega,⟨_,_,rfl⟩,fun e=>hg3 _ List.mem_cons_self (cK_bs.2 (by cases e; rfl))⟩,by dsimp only; omega,?_,.inl ?_⟩
         ·dsimp only
          rw [Nat.add_sub_cancel,hF]
          exact ⟨rfl,rfl,rfl⟩
         ·dsimp only
          rw [hnx,List.map_append]
          rfl
       ·obtain rfl:m = T.length:=by omega
        repeat' (first | simp (disch:=omega) only [sxE,r20_Groups.E,Nat.reduceAdd,Nat.reduceEqDiff,Nat.reduceMul,Nat.reduceSub,Int.reduceAdd,Int.reduceSub,Int.reduceMul,Int.reduceNeg,Int.reduceLT,Int.reduceLE,Int.reduceEq,Int.reduceToNat,↓reduceIte,Int.reducePow,Nat.reduceLeDiff,Nat.reduceLT,ne_eq,eq_self,List.length_cons,List.length_nil,qxE] | (with_reducible refine cregF ?_))
        exact ⟨_,_,rfl,rfl,.inr (by rw [gvs_len]; exact List.mem_cons_self)⟩
     by_cases h0:T.length = 0
     ·have e0:(T.length:Int) = 0:=by omega
      repeat' (first | simp (disch:=omega) only [sxE,r20_Groups.E,Nat.reduceAdd,Nat.reduceEqDiff,Nat.reduceMul,Nat.reduceSub,Int.reduceAdd,Int.reduceSub,Int.reduceMul,Int.reduceNeg,Int.reduceLT,Int.reduceLE,Int.reduceEq,Int.reduceToNat,↓reduceIte,Int.reducePow,Nat.reduceLeDiff,Nat.reduceLT,ne_eq,eq_self,List.length_cons,List.length_nil,qxE] | (with_reducible refine cregF ?_))
      exact rest
     ·have hcell:=gws_at (wh:=wh) (i:=0) (by omega)
      have hp0:0 < wh.getD 0 0:=Nat.pos_of_ne_zero fun e=>hz ⟨by omega,e⟩
      generalize wh.getD 0 0 = k0 at hcell hp0
      have b0:((k0:Int) == 0) = false:=beq_eq_false_iff_ne.2 (by omega)
      repeat' (first | simp (disch:=omega) only [sxE,r20_Groups.E,Nat.reduceAdd,Nat.reduceEqDiff,Nat.reduceMul,Nat.reduceSub,Int.reduceAdd,Int.reduceSub,Int.reduceMul,Int.reduceNeg,Int.reduceLT,Int.reduceLE,Int.reduceEq,Int.reduceToNat,↓reduceIte,Int.reducePow,Nat.reduceLeDiff,Nat.reduceLT,ne_eq,eq_self,List.length_cons,List.length_nil,qxE,b0] | ((with_reducible refine ldP_blk bs ?_); refine ldP_c (l:=[.int .i64 (k0:Int)]) rfl List.mem_cons_self rfl (one_at hcell) ?_) | (with_reducible refine cregF ?_))
      exact rest
end Go.Proofs.YtncmmbacoknefaaGreat

/- Pc: pieces: the segments, plain. -/
namespace Go.Proofs.YtncmmbacoknefaaGreat
open Go Go.RowKit Sx
set_option linter.unusedVariables false
set_option linter.unusedSimpArgs false
def pgd (t:Int) (ss:Smps) (a j:Nat):Cn:=thc (ke (ss.getD a (0,0)).2 t * un t) (ss.getD (a + j) (0,0)).2 t ((ss.getD (a + j) (0,0)).1 - (ss.getD a (0,0)).1)
def pgk (t:Int) (ss:Smps) (a:Nat):Nat→Cn
 | 0=>cO
 | j + 1=>(cmt (pgk t ss a j) (pgd t ss a (j + 1))).1
def pgb (t:Int) (ss:Smps) (a j:Nat):Bool:=(cmt (pgk t ss a j) (pgd t ss a (j + 1))).2
def pgl (t:Int) (ss:Smps) (a m:Nat):PcV:=⟨(a:Int),(m:Int) + 1,ke (ss.getD a (0,0)).2 t,pgk t ss a m⟩
def PCl (t:Int) (ss:Smps):Nat→List PcV→Nat→Prop
 | a,[],e=>a = e
 | a,x :: l,e=>∃ m,x = pgl t ss a m∧(∀ j,j < m→pgb t ss a j = true)∧pgb t ss a m = false∧PCl t ss (a + m + 1) l e
def POk (t:Int) (ss:Smps):Nat→List PcV→Nat→Prop
 | a,[],e=>a = e
 | a,x :: l,e=>∃ m,x = pgl t ss a m∧a + m + 1≤e∧(∀ j,j < m→pgb t ss a j = true)∧(l≠[]→a + m + 1 < e∧pgb t ss a m = false)∧POk t ss (a + m + 1) l e
theorem PCl.le {t:Int} {ss:Smps}:∀ {l:List PcV} {a e:Nat},PCl t ss a l e→a≤e
 | [],a,e,h=>Nat.le_of_eq h
 | x :: l,a,e,⟨m,_,_,_,h⟩=>by have:=PCl.le h; omega
theorem PCl.snoc {t:Int} {ss:Smps} {b m:Nat} (hf:∀ j,j < m→pgb t ss b j = true) (hb:pgb t ss b m = false):∀ {l:List PcV} {a:Nat},PCl t ss a l b→PCl t ss a (l ++ [pgl t ss b m]) (b + m + 1)
 | [],a,h=>by
  have h:a = b:=h
  subst h
  exact ⟨m,rfl,hf,hb,rfl⟩
 | x :: l,a,⟨n,h1,h2,h3,h⟩=>⟨n,h1,h2,h3,PCl.snoc hf hb h⟩
theorem PCl.last {t:Int} {ss:Smps} {b m:Nat} (hf:∀ j,j < m→pgb t ss b j = true):∀ {l:List PcV} {a:Nat},PCl t ss a l b→POk t ss a (l ++ [pgl t ss b m]) (b + m + 1)
 | [],a,h=>by
  have h:a = b:=h
  subst h
  exact ⟨m,rfl,Nat.le_refl _,hf,fun h=>absurd rfl h,rfl⟩
 | x :: l,a,⟨n,h1,h2,h3,h⟩=>⟨n,h1,by have:=h.le; omega,h2,fun _=>⟨by have:=h.le; omega,h3⟩,PCl.last hf h⟩
theorem pcj_at (t:Int) (ss:Smps):∀ i,i + 1≤ss.length→∃ a m,a + m = i∧PCl t ss 0 (pcf t (ss.take (i + 1))).2 a∧(pcf t (ss.take (i + 1))).1 = ⟨t,(a:Int),(m:Int) + 1,(ss.getD a (0,0)).1,(ss.getD a (0,0)).2,(ss.getD (a + m) (0,0)).1,ke (ss.getD a (0,0)).2 t,pgk t ss a m⟩∧∀ j,j < m→pgb t ss a j = true
 | 0,h=>by
  refine ⟨0,0,rfl,?_,?_,fun j hj=>absurd hj (Nat.not_lt_zero _)⟩ <;> rw [take_snoc' (by omega),pcf_snoc] <;> rfl
 | i + 1,h=>by
  obtain ⟨a,m,h1,h2,h3,h4⟩:=pcj_at t ss i (by omega)
  rw [take_snoc' (by omega),pcf_snoc]
  generalize pcf t (ss.take (i + 1)) = A at *
  obtain ⟨s,l⟩:=A
  dsimp only at h2 h3
  subst h3
  have hi:i + 1 = a + (m + 1):=by omega
  have hm:pcg ⟨t,(a:Int),(m:Int) + 1,(ss.getD a (0,0)).1,(ss.getD a (0,0)).2,(ss.getD (a + m) (0,0)).1,ke (ss.getD a (0,0)).2 t,pgk t ss a m⟩ (ss.getD (i + 1) (0,0)).1 (ss.getD (i + 1) (0,0)).2 = pgb t ss a m:=by
   unfold pcg
   rw [show decide ((0:Int) < (m:Int) + 1) = true from decide_eq_true (by omega),Bool.true_and,hi]
   rfl
  cases hb:pgb t ss a m
  ·rw [hb] at hm
   have e1:(pca (⟨t,(a:Int),(m:Int) + 1,(ss.getD a (0,0)).1,(ss.getD a (0,0)).2,(ss.getD (a + m) (0,0)).1,ke (ss.getD a (0,0)).2 t,pgk t ss a m⟩,l) (ss.getD (i + 1) (0,0))).1 = pcb t ((a:Int) + ((m:Int) + 1)) (ss.getD (i + 1) (0,0)).1 (ss.getD (i + 1) (0,0)).2:=if_neg (by rw [hm]; decide)
   have e2:(pca (⟨t,(a:Int),(m:Int) + 1,(ss.getD a (0,0)).1,(ss.getD a (0,0)).2,(ss.getD (a + m) (0,0)).1,ke (ss.getD a (0,0)).2 t,pgk t ss a m⟩,l) (ss.getD (i + 1) (0,0))).2 = l ++ [pgl t ss a m]:=by
    show l ++ pce _ _ _ = _
    unfold pce
    rw [if_neg (by rw [hm]; decide)]
    unfold pcl
    rw [if_pos (show (0:Int) < (m:Int) + 1 by omega)]
    rfl
   refine ⟨i + 1,0,rfl,?_,?_,fun j hj=>absurd hj (Nat.not_lt_zero _)⟩
   ·rw [e2,show i + 1 = a + m + 1 by omega]
    exact h2.snoc h4 hb
   ·rw [e1,show (a:Int) + ((m:Int) + 1) = ((i + 1:Nat):Int) by omega]; rfl
  ·rw [hb] at hm
   have e1:(pca (⟨t,(a:Int),(m:Int) + 1,(ss.getD a (0,0)).1,(ss.getD a (0,0)).2,(ss.getD (a + m) (0,0)).1,ke (ss.getD a (0,0)).2 t,pgk t ss a m⟩,l) (ss.getD (i + 1) (0,0))).1 = ⟨t,(a:Int),(m:Int) + 1 + 1,(ss.getD a (0,0)).1,(ss.getD a (0,0)).2,(ss.getD (i + 1) (0,0)).1,ke (ss.getD a (0,0)).2 t,(pcm ⟨t,(a:Int),(m:Int) + 1,(ss.getD a (0,0)).1,(ss.getD a (0,0)).2,(ss.getD (a + m) (0,0)).1,ke (ss.getD a (0,0)).2 t,pgk t ss a m⟩ (ss.getD (i + 1) (0,0)).1 (ss.getD (i + 1) (0,0)).2).1⟩:=if_pos hm
   have e2:(pca (⟨t,(a:Int),(m:Int) + 1,(ss.getD a (0,0)).1,(ss.getD a (0,0)).2,(ss.getD (a + m) (0,0)).1,ke (ss.getD a (0,0)).2 t,pgk t ss a m⟩,l) (ss.getD (i + 1) (0,0))).2 = l:=by
    show l ++ pce _ _ _ = _
    unfold pce
    rw [if_pos hm,List.append_nil]
   refine ⟨a,m + 1,by omega,by rw [e2]; exact h2,?_,fun j hj=>?_⟩
   ·rw [e1,hi]
    rfl
   ·by_cases h:j = m
    ·rw [h]; exact hb
    ·exact h4 j (by omega)
theorem pcall_ok (t:Int) (ss:Smps):POk t ss 0 (pcall t ss) ss.length:=by
 cases hn:ss.length with
 | zero =>
  obtain rfl:ss = []:=List.eq_nil_of_length_eq_zero hn
  rfl
 | succ i =>
  obtain ⟨a,m,h1,h2,h3,h4⟩:=pcj_at t ss i (by omega)
  rw [show ss.take (i + 1) = ss by rw [← hn]; exact List.take_length] at h2 h3
  have e:pcall t ss = (pcf t ss).2 ++ [pgl t ss a m]:=by
   unfold pcall
   rw [h3]
   unfold pcl
   rw [if_pos (show (0:Int) < (m:Int) + 1 by omega)]
   rfl
  rw [e,← h1]
  exact h2.last h4
end Go.Proofs.YtncmmbacoknefaaGreat

/- Sa: swing: the plain state machine; begin, end and step of the program. -/
namespace Go.Proofs.YtncmmbacoknefaaGreat
open Go Go.RowKit Sx
set_option linter.unusedVariables false
set_option linter.unusedSimpArgs false
structure LnV where
 n:Int
 V:Int
 p:Int
 q:Int
end Go.Proofs.YtncmmbacoknefaaGreat

/- Sc: swing: the segments, plain. -/
namespace Go.Proofs.YtncmmbacoknefaaGreat
open Go Go.RowKit Sx
set_option linter.unusedVariables false
set_option linter.unusedSimpArgs false
def sgd (t:Int) (ss:Smps) (a j:Nat):Cn:=thc (ss.getD a (0,0)).2 (ss.getD (a + j) (0,0)).2 t ((ss.getD (a + j) (0,0)).1 - (ss.getD a (0,0)).1)
def sgk (t:Int) (ss:Smps) (a:Nat):Nat→Cn
 | 0=>cO
 | j + 1=>(cmt (sgk t ss a j) (sgd t ss a (j + 1))).1
def sgb (t:Int) (ss:Smps) (a j:Nat):Bool:=(cmt (sgk t ss a j) (sgd t ss a (j + 1))).2
def sgl (t:Int) (ss:Smps) (a m:Nat):LnV:=⟨(m:Int) + 1,(ss.getD a (0,0)).2,(cho true (sgk t ss a m)).1,(cho true (sgk t ss a m)).2⟩
def LCl (t:Int) (ss:Smps):Nat→List LnV→Nat→Prop
 | a,[],e=>a = e
 | a,x :: l,e=>∃ m,x = sgl t ss a m∧(∀ j,j < m→sgb t ss a j = true)∧sgb t ss a m = false∧LCl t ss (a + m + 1) l e
def LOk (t:Int) (ss:Smps):Nat→List LnV→Nat→Prop
 | a,[],e=>a = e
 | a,x :: l,e=>∃ m,x = sgl t ss a m∧a + m + 1≤e∧(∀ j,j < m→sgb t ss a j = true)∧(l≠[]→a + m + 1 < e∧sgb t ss a m = false)∧LOk t ss (a + m + 1) l e
theorem LCl.le {t:Int} {ss:Smps}:∀ {l:List LnV} {a e:Nat},LCl t ss a l e→a≤e
 | [],a,e,h=>Nat.le_of_eq h
 | x :: l,a,e,⟨m,_,_,_,h⟩=>by have:=LCl.le h; omega
theorem LCl.snoc {t:Int} {ss:Smps} {b m:Nat} (hf:∀ j,j < m→sgb t ss b j = true) (hb:sgb t ss b m = false):∀ {l:List LnV} {a:Nat},LCl t ss a l b→LCl t ss a (l ++ [sgl t ss b m]) (b + m + 1)
 | [],a,h=>by
  have h:a = b:=h
  subst h
  exact ⟨m,rfl,hf,hb,rfl⟩
 | x :: l,a,⟨n,h1,h2,h3,h⟩=>⟨n,h1,h2,h3,LCl.snoc hf hb h⟩
theorem LCl.last {t:Int} {ss:Smps} {b m:Nat} (hf:∀ j,j < m→sgb t ss b j = true):∀ {l:List LnV} {a:Nat},LCl t ss a l b→LOk t ss a (l ++ [sgl t ss b m]) (b + m + 1)
 | [],a,h=>by
  have h:a = b:=h
  subst h
  exact ⟨m,rfl,Nat.le_refl _,hf,fun h=>absurd rfl h,rfl⟩
 | x :: l,a,⟨n,h1,h2,h3,h⟩=>⟨n,h1,by have:=h.le; omega,h2,fun _=>⟨by have:=h.le; omega,h3⟩,LCl.last hf h⟩
theorem sgd_th {t:Int} {ss:Smps} (ht:tolz t = true) (hin:∀ s∈ss,I64 s.1∧I64 s.2) (hinc:incr ss = true) {a j:Nat} (hj:a + j + 1 < ss.length):ThP (ss.getD a (0,0)).2 (ss.getD (a + j + 1) (0,0)).2 t ((ss.getD (a + j + 1) (0,0)).1 - (ss.getD a (0,0)).1)∧U64 ((ss.getD (a + j + 1) (0,0)).1 - (ss.getD a (0,0)).1)∧(ss.getD (a + j + 1) (0,0)).1 - (ss.getD a (0,0)).1≠0:=by
 have h1:=incr_lt hinc hj
 have x1:=smp_i64 hin a
 have x2:=smp_i64 hin (a + j + 1)
 have iD:U64 ((ss.getD (a + j + 1) (0,0)).1 - (ss.getD a (0,0)).1):=⟨by omega,by have:=x2.1.2; have:=x1.1.1; omega⟩
 have h0:(ss.getD (a + j + 1) (0,0)).1 - (ss.getD a (0,0)).1≠0:=by omega
 exact ⟨th_p (ab_66 x1.2) x2.2 (tolz_iff.1 ht) iD h0,iD,h0⟩
theorem sgk_ok {t:Int} {ss:Smps} (ht:tolz t = true) (hin:∀ s∈ss,I64 s.1∧I64 s.2) (hinc:incr ss = true) {a:Nat}:∀ {j:Nat},(∀ i,i < j→sgb t ss a i = true)→a + j < ss.length→(sgk t ss a j).ok
 | 0,_,_=>cO_ok
 | j + 1,h,hj=>cmt_ok (sgk_ok ht hin hinc (fun i hi=>h i (by omega)) (by omega)) (sgd_th ht hin hinc (by omega)).1.cl.ok (h j (by omega))
end Go.Proofs.YtncmmbacoknefaaGreat

/- Sk: Rows of lines; equality of lines; law 14's known. -/
namespace Go.Proofs.YtncmmbacoknefaaGreat
open Go Go.RowKit Sx
set_option linter.unusedVariables false
set_option linter.unusedSimpArgs false
namespace Sx
variable {C:Cx} {S:St} {K:St→Prop} {d:Option Nat}
end Sx
abbrev B14:List LnV:=[⟨4,0,10,1⟩]
end Go.Proofs.YtncmmbacoknefaaGreat

/- Kp: Cones: the plain laws of meeting and of having a slope. -/
namespace Go.Proofs.YtncmmbacoknefaaGreat
set_option linter.unusedVariables false
set_option linter.unusedSimpArgs false
theorem has_cl {p q p1 q1 x y:Int}:(Cn.mk false p q p1 q1).has x y = true↔p * y≤x * q∧x * q1≤p1 * y:=by
 unfold Cn.has
 simp
theorem Cl.lo {p q p1 q1:Int} (h:Cl p q p1 q1):(Cn.mk false p q p1 q1).has p q = true:=has_cl.2 ⟨Int.le_refl _,h.le⟩
theorem Cl.hi {p q p1 q1:Int} (h:Cl p q p1 q1):(Cn.mk false p q p1 q1).has p1 q1 = true:=has_cl.2 ⟨h.le,Int.le_refl _⟩
theorem Cn.ok.cases {c:Cn} (h:c.ok):c = cO∨(c.o = false∧Cl c.p c.q c.p1 c.q1):=h
theorem cho_fq {c:Cn} (h:c.ok):Fq (cho true c).1 (cho true c).2:=by
 unfold cho
 rw [if_pos rfl]
 rcases h with rfl | ⟨ho,h⟩
 ·exact fq_zero
 ·rw [ho]
  exact (btx_spec h.f h.g h.le).fq
end Go.Proofs.YtncmmbacoknefaaGreat

/- Sl: Laws of swing: what they share. -/
namespace Go.Proofs.YtncmmbacoknefaaGreat
open Go Go.RowKit Sx
set_option linter.unusedVariables false
set_option linter.unusedSimpArgs false
theorem LOk.len {t:Int} {ss:Smps}:∀ {l:List LnV} {a e:Nat},LOk t ss a l e→a + l.length≤e
 | [],a,e,h=>Nat.le_of_eq h
 | x :: l,a,e,⟨m,_,_,_,_,h⟩=>by have:=LOk.len h; rw [List.length_cons]; omega
end Go.Proofs.YtncmmbacoknefaaGreat

/- Re: slices.Repeat of one number, twice; Constants of the sanity check. -/
namespace Go.Proofs.YtncmmbacoknefaaGreat
open Go Go.RowKit Sx
set_option linter.unusedVariables false
set_option linter.unusedSimpArgs false
theorem en_bmul (l:Array Value) (W:World):(callFunc 144 l).run Tryz.prog W = .ok (.enter 144 l) W:=Sx.en_of Tryz.func144 (by kernel_rfl) (by kernel_rfl) l W
theorem en_rept (l:Array Value) (W:World):(callFunc 88 l).run Tryz.prog W = .ok (.enter 88 l) W:=Sx.en_of Tryz.func88 (by kernel_rfl) (by kernel_rfl) l W
theorem g_bmul12 (W:World):Gives Tryz.prog 144 [.int .u64 1,.int .u64 2] W (· = .tuple #[.int .u64 0,.int .u64 2]) :=
 gives_known en_bmul ((Tryz.bits_Mul 1 2 (by decide) (by decide) W).mono fun e w' ⟨h1,h2⟩=>⟨h1,by rw [h2]; exact Below.refl _ _⟩)
namespace Sx
variable {C:Cx} {S:St} {K:St→Prop} {d:Option Nat}
theorem genA_cp {P:Program} (hP:C.P = P) {L:List Kn} (L':List Kn) {dT sT ty e:TypeId} {g o dLen dCap sb so sLen sCap:Nat} {cs us:List Value} {bb:List Bool}
  (hu:P.underlying dT = some (.slice e)) (hs:(P.info? e).map (·.size) = some 1) (hT:S.T = kX C.w0.heap.size L) (hm:.g (cK g cs)∈L) (hmv:g∈S.T.bs∧g∈C.mv S)
  (hsrc:∀ W,(∀ k∈L,k.ok C.w0.heap.size W)→∀ (j:Nat) v,us[j]? = some v→W.cell? ⟨sb,so + j,none⟩ = some v) (hn:us.length = Nat.min sLen dLen) (hfit:o + us.length≤cs.length) (h1:∀ v∈us,v.oneCell' = true)
  (hL:∀ k∈L',k = .g (cK g (cs.take o ++ us ++ cs.drop (o + us.length)))∨(k∈L∧g ∉ k.bs))
  (hk:K (St.put ⟨S.n,S.E,S.H,kX C.w0.heap.size L'⟩ d (.v (.int .i64 us.length)))):genA C (.bi .copy [dT,sT] ty bb) [.slice (some ⟨g,o,none⟩) dLen dCap,.slice (some ⟨sb,so,none⟩) sLen sCap] d K S:=by
 subst hP
 refine genA_T (ι:=Unit) (fun _=>.int .i64 us.length) (fun _=>kX C.w0.heap.size L') (fun W hW hok hbs=>⟨?_⟩) (fun _=>hk)
 rw [hT] at hok
 obtain ⟨hge,T,hg⟩:(cK g cs).ok C.w0.heap.size W:=hok _ hm
 have hr:=run_copy_row (P:=C.P) W dT sT ty e g o dLen dCap ⟨sb,so,none⟩ sLen sCap cs.toArray T us hu hs hg hn (fun j v hj=>by rw [Addr.add_lit]; exact hsrc W hok j v hj) (by simpa using hfit) h1
 have hr':(genRun (.bi .copy [dT,sT] ty bb) [.slice (some ⟨g,o,none⟩) dLen dCap,.slice (some ⟨sb,so,none⟩) sLen sCap]).run C.P W = .ok (.value (.int .i64 us.length)) (W.setRow g (cs.take o ++ us ++ cs.drop (o + us.length)).toArray):=by
  show (do let x ← Builtin.copy_ #[dT,sT] ty #[.slice (some ⟨g,o,none⟩) dLen dCap,.slice (some ⟨sb,so,none⟩) sLen sCap]; pure (Next.value x)).run C.P W = _
  rw [run_bind_ok hr]
  rfl
 rw [hr']
 have hsz:(W.setRow g (cs.take o ++ us ++ cs.drop (o + us.length)).toArray).heap.size = W.heap.size:=by simp [World.setRow]
 have hne:∀ j,j≠g→(W.setRow g (cs.take o ++ us ++ cs.drop (o + us.length)).toArray).heap[j]? = W.heap[j]? := fun j hj=>setRow_other W g j _ hj
 refine ⟨(),rfl,⟨rfl,rfl,rfl,by rw [hsz]; exact Nat.le_refl _,fun j hj hn=>hne j fun e=>hn (by rw [e]; exact hmv.2)⟩,?_,kX_stab C _,?_⟩
 ·intro k hk
  rcases hL k hk with rfl | ⟨hk,hb⟩
  ·exact ⟨hge,T,setRow_heap W g _ _ T _ hg⟩
  ·exact (hok k hk).keep (by rw [hsz]; exact Nat.le_refl _) (fun b hbb=>hne b fun e=>hb (by rw [← e]; exact hbb)) fun b hbn hbl=>hne b fun e=>by omega
 ·intro x hx
  rw [hsz]
  obtain ⟨k,hk,hx⟩:=kX_bs.1 hx
  rcases hL k hk with rfl | ⟨hk,hb⟩
  ·rw [show x = g from List.mem_singleton.1 hx]
   exact ⟨.inl hmv.1,(Array.getElem?_eq_some_iff.1 hg).1⟩
  ·exact ⟨.inl (by rw [hT]; exact kX_bs.2 ⟨k,hk,hx⟩),((hok k hk).lt x hx).2⟩
def hC (w:World) (b:Nat):KnG where
 bs:=List.range' b (w.heap.size - b)
 ok n W:=n = b∧w.heap.size≤W.heap.size∧∀ i,i < w.heap.size→W.heap[i]? = w.heap[i]?
 lt:=fun {n W} h c hc=>by
  obtain ⟨h0,h1,-⟩:=h
  rw [List.mem_range'] at hc
  obtain ⟨i,hi,rfl⟩:=hc
  omega
 keep:=fun {n W W'} h hs hb ho=>by
  obtain ⟨h0,hsz,hg⟩:=h
  refine ⟨h0,Nat.le_trans hsz hs,fun i hi=>?_⟩
  rcases Nat.lt_or_ge i b with h | h
  ·exact (ho i (by omega) (by omega)).trans (hg i hi)
  ·exact (hb i (List.mem_range'.2 ⟨i - b,by omega,by omega⟩)).trans (hg i hi)
end Sx
set_option maxRecDepth 100000 in
theorem repeat_two {w:World} {b:Nat} (hb:HB w b #[.int .i64 9]):Calls Tryz.prog 88 #[.slice (some ⟨b,0,none⟩) 1 1,.int .i64 2] w fun e w'=>∃ g,e = .returned (.slice (some ⟨g,0,none⟩) 2 2)∧Below w.heap.size w w'∧w.heap.size≤g∧HB w' g #[.int .i64 9,.int .i64 9]:=by
 have hlt:b < w.heap.size:=hb.lt
 have hcs:=cut_size (Nat.le_of_lt hlt)
 have hcell:w.cell? ⟨b,0,none⟩ = some (.int .i64 9):=(Bx.of hb).2.1 0
 have h0:(kX (cut w b).heap.size [.g (hC w b)]).ok w:=fun k hk=>by
  rw [List.mem_singleton.1 hk]
  exact ⟨hcs,Nat.le_refl _,fun _ _=>rfl⟩
 refine Calls.mono (enterG Tryz.func88 slices_Repeat___int64_int64.ok (args:=[.slice (some ⟨b,0,none⟩) 1 1,.int .i64 2]) (w0:=cut w b) (T:=kX (cut w b).heap.size [.g (hC w b)]) (R:=fun v X=>∃ g,v = .slice (some ⟨g,0,none⟩) 2 2∧g ∉ (kX (cut w b).heap.size [.g (hC w b)]).bs∧X = kX (cut w b).heap.size [.g (cK g [.int .i64 9,.int .i64 9]),.g (hC w b)]) (by simp) (below_cut (Nat.le_of_lt hlt)) h0 (kX_stab (Sx.cx _ (cut w b) _) _) (fun c hc=>by
  obtain ⟨k,hk,hc⟩:=kX_bs.1 hc
  rw [List.mem_singleton.1 hk] at hc
  exact (KnG.lt (hC w b) (h0 _ (List.mem_singleton.2 rfl)) c hc)) ?run) ?fin
 case fin =>
  rintro e w' ⟨v,X,rfl,⟨g,rfl,hg,rfl⟩,hX,hbl,-⟩
  have k1:(cK g [.int .i64 9,.int .i64 9]).ok (cut w b).heap.size w':=hX _ List.mem_cons_self
  have k2:(hC w b).ok (cut w b).heap.size w':=hX _ (List.mem_cons_of_mem _ (List.mem_singleton.2 rfl))
  refine ⟨g,rfl,⟨hbl.os,hbl.tape,hbl.output,k2.2.1,fun i hi=>k2.2.2 i hi⟩,?_,k1.2⟩
  rcases Nat.lt_or_ge g w.heap.size with h | h
  ·exact absurd (kX_bs.2 ⟨_,List.mem_singleton.2 rfl,List.mem_range'.2 ⟨g - b,by have:=k1.1; omega,by have:=k1.1; omega⟩⟩) hg
  ·exact h
 case run =>
  try dsimp only
  repeat' (first | simp (disch:=omega) only [sxE,slices_Repeat___int64_int64.E,Nat.reduceAdd,Nat.reduceEqDiff,Nat.reduceMul,Nat.reduceSub,Int.reduceAdd,Int.reduceSub,Int.reduceMul,Int.reduceNeg,Int.reduceLT,Int.reduceLE,Int.reduceEq,Int.reduceToNat,↓reduceIte,Int.reducePow,Nat.reduceLeDiff,Nat.reduceLT,ne_eq,eq_self,List.length_cons,List.length_nil] | (with_reducible refine Sx.call_at (f:=144) (fun W hW=>g_bmul12 W) ?_) | (rw [slices_Repeat___int64_int64.p2_l]) | (with_reducible apply LX_round) | (with_reducible refine cregF ?_))
  refine genA_c (L:=[.g (hC w b)]) (cs:=[.int .i64 0,.int .i64 0]) (T:=2) (fun g=>.slice (some ⟨g,0,none⟩) 2 2) rfl (fun W=>by kernel_rfl) fun g hg=>?_
  have hgb:g≠b:=fun e=>hg (kX_bs.2 ⟨_,List.mem_singleton.2 rfl,List.mem_range'.2 ⟨0,by omega,by omega⟩⟩)
  repeat' (first | simp (disch:=omega) only [sxE,slices_Repeat___int64_int64.E,Nat.reduceAdd,Nat.reduceEqDiff,Nat.reduceMul,Nat.reduceSub,Int.reduceAdd,Int.reduceSub,Int.reduceMul,Int.reduceNeg,Int.reduceLT,Int.reduceLE,Int.reduceEq,Int.reduceToNat,↓reduceIte,Int.reducePow,Nat.reduceLeDiff,Nat.reduceLT,ne_eq,eq_self,List.length_cons,List.length_nil] | (with_reducible refine Sx.call_at (f:=144) (fun W hW=>g_bmul12 W) ?_) | (rw [slices_Repeat___int64_int64.p2_l]) | (with_reducible apply LX_round) | (with_reducible refine cregF ?_))
  have hm1:g∈(kX (cut w b).heap.size [.g (cK g [.int .i64 0,.int .i64 0]),.g (hC w b)]).bs:=kX_bs.2 ⟨_,List.mem_cons_self,List.mem_singleton.2 rfl⟩
  have hgC:g ∉ (Kn.g (hC w b)).bs:=fun h=>hg (kX_bs.2 ⟨_,List.mem_singleton.2 rfl,h⟩)
  have hu:=Tryz.underlying23
  have hs:(Tryz.prog.info? 2).map (·.size) = some 1:=by kernel_rfl
  refine genA_cp (P:=Tryz.prog) rfl (L:=[.g (cK g [.int .i64 0,.int .i64 0]),.g (hC w b)]) [.g (cK g [.int .i64 9,.int .i64 0]),.g (hC w b)] (us:=[.int .i64 9]) hu hs rfl List.mem_cons_self ⟨hm1,hm1⟩ (fun W hok j v hj=>by
   rcases j with _ | j
   ·have k2:(hC w b).ok (cut w b).heap.size W:=hok (.g (hC w b)) (List.mem_cons_of_mem _ (List.mem_singleton.2 rfl))
    cases hj
    exact (World.cell?_of_block (a:=⟨b,0,none⟩) (k2.2.2 b hlt)).trans hcell
   ·cases hj) rfl (by decide) (fun v hv=>by rw [List.mem_singleton.1 hv]; rfl) (fun k hk=>by
   rcases List.mem_cons.1 hk with rfl | hk
   ·exact .inl rfl
   ·rw [List.mem_singleton.1 hk]
    exact .inr ⟨List.mem_cons_of_mem _ (List.mem_singleton.2 rfl),hgC⟩) ?_
  repeat' (first | simp (disch:=omega) only [sxE,slices_Repeat___int64_int64.E,Nat.reduceAdd,Nat.reduceEqDiff,Nat.reduceMul,Nat.reduceSub,Int.reduceAdd,Int.reduceSub,Int.reduceMul,Int.reduceNeg,Int.reduceLT,Int.reduceLE,Int.reduceEq,Int.reduceToNat,↓reduceIte,Int.reducePow,Nat.reduceLeDiff,Nat.reduceLT,ne_eq,eq_self,List.length_cons,List.length_nil] | (with_reducible refine Sx.call_at (f:=144) (fun W hW=>g_bmul12 W) ?_) | (rw [slices_Repeat___int64_int64.p2_l]) | (with_reducible apply LX_round) | (with_reducible refine cregF ?_))
  refine ⟨.slice (some ⟨g,1,none⟩) 1 1,fun W=>by kernel_rfl,?_⟩
  repeat' (first | simp (disch:=omega) only [sxE,slices_Repeat___int64_int64.E,Nat.reduceAdd,Nat.reduceEqDiff,Nat.reduceMul,Nat.reduceSub,Int.reduceAdd,Int.reduceSub,Int.reduceMul,Int.reduceNeg,Int.reduceLT,Int.reduceLE,Int.reduceEq,Int.reduceToNat,↓reduceIte,Int.reducePow,Nat.reduceLeDiff,Nat.reduceLT,ne_eq,eq_self,List.length_cons,List.length_nil] | (with_reducible refine Sx.call_at (f:=144) (fun W hW=>g_bmul12 W) ?_) | (rw [slices_Repeat___int64_int64.p2_l]) | (with_reducible apply LX_round) | (with_reducible refine cregF ?_))
  refine ⟨.slice (some ⟨g,0,none⟩) 1 2,fun W=>by kernel_rfl,?_⟩
  repeat' (first | simp (disch:=omega) only [sxE,slices_Repeat___int64_int64.E,Nat.reduceAdd,Nat.reduceEqDiff,Nat.reduceMul,Nat.reduceSub,Int.reduceAdd,Int.reduceSub,Int.reduceMul,Int.reduceNeg,Int.reduceLT,Int.reduceLE,Int.reduceEq,Int.reduceToNat,↓reduceIte,Int.reducePow,Nat.reduceLeDiff,Nat.reduceLT,ne_eq,eq_self,List.length_cons,List.length_nil] | (with_reducible refine Sx.call_at (f:=144) (fun W hW=>g_bmul12 W) ?_) | (rw [slices_Repeat___int64_int64.p2_l]) | (with_reducible apply LX_round) | (with_reducible refine cregF ?_))
  have hm2:g∈(kX (cut w b).heap.size [.g (cK g [.int .i64 9,.int .i64 0]),.g (hC w b)]).bs:=kX_bs.2 ⟨_,List.mem_cons_self,List.mem_singleton.2 rfl⟩
  refine genA_cp (P:=Tryz.prog) rfl (L:=[.g (cK g [.int .i64 9,.int .i64 0]),.g (hC w b)]) [.g (cK g [.int .i64 9,.int .i64 9]),.g (hC w b)] (us:=[.int .i64 9]) hu hs rfl List.mem_cons_self ⟨hm2,?mv⟩ (fun W hok j v hj=>by
   rcases j with _ | j
   ·have k2:(cK g [.int .i64 9,.int .i64 0]).ok (cut w b).heap.size W:=hok (.g (cK g [.int .i64 9,.int .i64 0])) List.mem_cons_self
    cases hj
    exact cK_cell k2 rfl
   ·cases hj) rfl (by decide) (fun v hv=>by rw [List.mem_singleton.1 hv]; rfl) (fun k hk=>by
   rcases List.mem_cons.1 hk with rfl | hk
   ·exact .inl rfl
   ·rw [List.mem_singleton.1 hk]
    exact .inr ⟨List.mem_cons_of_mem _ (List.mem_singleton.2 rfl),hgC⟩) ?_
  case mv=>exact hm2
  repeat' (first | simp (disch:=omega) only [sxE,slices_Repeat___int64_int64.E,Nat.reduceAdd,Nat.reduceEqDiff,Nat.reduceMul,Nat.reduceSub,Int.reduceAdd,Int.reduceSub,Int.reduceMul,Int.reduceNeg,Int.reduceLT,Int.reduceLE,Int.reduceEq,Int.reduceToNat,↓reduceIte,Int.reducePow,Nat.reduceLeDiff,Nat.reduceLT,ne_eq,eq_self,List.length_cons,List.length_nil] | (with_reducible refine Sx.call_at (f:=144) (fun W hW=>g_bmul12 W) ?_) | (rw [slices_Repeat___int64_int64.p2_l]) | (with_reducible apply LX_round) | (with_reducible refine cregF ?_))
  exact ⟨g,rfl,hg,rfl⟩
namespace Sx
variable {C:Cx} {S:St} {K:St→Prop} {d:Option Nat}
theorem ldP_hC {L:List Kn} {w:World} {b o m:Nat} {g:Bool} {cs l:List Value} (hT:(C.kn S).T = kX C.w0.heap.size L) (hm:.g (hC w b)∈L) (hB:HB w b cs.toArray) (hl:l.length = m) (hs:∀ j v,l[j]? = some v→cs[o + j]? = some v) (hk:K (S.put d (.v (mk g l)))):ldP C g m ⟨b,o,none⟩ d K S :=
 ldP_ext l hl (fun W hW hok j v hj=>by
  rw [hT] at hok
  have ho:(hC w b).ok C.w0.heap.size W:=hok _ hm
  rw [Addr.add_lit]
  have h1:w.cell? ⟨b,o + j,none⟩ = some v:=by
   rw [(Bx.of hB).2.1 (o + j)]
   simpa using hs j v hj
  exact (World.cell?_of_block (a:=⟨b,o + j,none⟩) (ho.2.2 b hB.lt)).trans h1) hk
end Sx
theorem info_i64e:(Tryz.prog.info? 2).map (fun i=>(i.zero,i.size,i.bytes)) = some (some (.int .i64 0),1,8):=by kernel_rfl
set_option maxRecDepth 100000 in
theorem const_two {w:World} {b:Nat} (hb:HB w b #[.int .i64 2,.int .i64 9]):Calls Tryz.prog 29 #[.slice (some ⟨b,0,none⟩) 1 1] w fun e w'=>∃ x:Nat × Nat,e = .returned (.slice (some ⟨x.1,0,none⟩) 2 x.2)∧Below w.heap.size w w':=by
 have hlt:b < w.heap.size:=hb.lt
 have hcs:=cut_size (Nat.le_of_lt hlt)
 have h0:(kX (cut w b).heap.size [.g (hC w b)]).ok w:=fun k hk=>by
  rw [List.mem_singleton.1 hk]
  exact ⟨hcs,Nat.le_refl _,fun _ _=>rfl⟩
 refine Calls.mono (enterG Tryz.func29 rebuild_Constants.ok (args:=[.slice (some ⟨b,0,none⟩) 1 1]) (w0:=cut w b) (T:=kX (cut w b).heap.size [.g (hC w b)]) (R:=fun v X=>∃ g cap,v = .slice (some ⟨g,0,none⟩) 2 cap∧X = kX (cut w b).heap.size [.g (wK 2 1 (.slice (some ⟨g,0,none⟩) 2 cap) 2 [.int .i64 9,.int .i64 9]),.g (hC w b)]) (by simp) (below_cut (Nat.le_of_lt hlt)) h0 (kX_stab (Sx.cx _ (cut w b) _) _) (fun c hc=>by
  obtain ⟨k,hk,hc⟩:=kX_bs.1 hc
  rw [List.mem_singleton.1 hk] at hc
  exact (KnG.lt (hC w b) (h0 _ (List.mem_singleton.2 rfl)) c hc)) ?run) ?fin
 case fin =>
  rintro e w' ⟨v,X,rfl,⟨g,cap,rfl,rfl⟩,hX,hbl,-⟩
  have k2:(hC w b).ok (cut w b).heap.size w':=hX _ (List.mem_cons_of_mem _ (List.mem_singleton.2 rfl))
  exact ⟨(g,cap),rfl,hbl.os,hbl.tape,hbl.output,k2.2.1,fun i hi=>k2.2.2 i hi⟩
 case run =>
  try dsimp only
  repeat' (first | simp (disch:=omega) only [sxE,rebuild_Constants.E,Nat.reduceAdd,Nat.reduceEqDiff,Nat.reduceMul,Nat.reduceSub,Int.reduceAdd,Int.reduceSub,Int.reduceMul,Int.reduceNeg,Int.reduceLT,Int.reduceLE,Int.reduceEq,Int.reduceToNat,↓reduceIte,Int.reducePow,Nat.reduceLeDiff,Nat.reduceLT,ne_eq,eq_self,List.length_cons,List.length_nil] | (refine ldP_hC (cs:=[.int .i64 2,.int .i64 9]) (l:=[.int .i64 2,.int .i64 9]) rfl (List.mem_singleton.2 rfl) hb rfl (fun j v h=>by rw [Nat.zero_add]; exact h) ?_) | (rw [rebuild_Constants.p2_l]) | (with_reducible apply LX_round) | (with_reducible refine cregF ?_))
  refine genA_c (L:=[.g (hC w b)]) (cs:=[.int .i64 9]) (T:=2) (fun g=>.slice (some ⟨g,0,none⟩) 1 1) rfl (fun W=>by kernel_rfl) fun b2 hb2=>?_
  clear hb2
  repeat' (first | simp (disch:=omega) only [sxE,rebuild_Constants.E,Nat.reduceAdd,Nat.reduceEqDiff,Nat.reduceMul,Nat.reduceSub,Int.reduceAdd,Int.reduceSub,Int.reduceMul,Int.reduceNeg,Int.reduceLT,Int.reduceLE,Int.reduceEq,Int.reduceToNat,↓reduceIte,Int.reducePow,Nat.reduceLeDiff,Nat.reduceLT,ne_eq,eq_self,List.length_cons,List.length_nil] | (rw [rebuild_Constants.p2_l]) | (with_reducible apply LX_round) | (with_reducible refine cregF ?_))
  refine asks_kn (ι:=Nat) (L:=[.g (cK b2 [.int .i64 9]),.g (hC w b)]) (gs:=[]) (fun g=>.slice (some ⟨g,0,none⟩) 2 2) (fun g=>[.g (cK g [.int .i64 9,.int .i64 9]),.g (hC w b)]) en_rept rfl (fun x hx=>by cases hx) (fun W hok x hx=>by cases hx) (fun W hW hok=>?rep) fun g=>?_
  case rep =>
   have k1:(cK b2 [.int .i64 9]).ok (cut w b).heap.size W:=hok _ List.mem_cons_self
   refine (repeat_two (w:=W) (b:=b2) k1.2).mono fun e w' ⟨g,h1,h2,h3,h4⟩=>⟨g,h1,moves_below h2,fun k hk=>?_⟩
   rcases List.mem_cons.1 hk with rfl | hk
   ·refine .inr ⟨⟨Nat.le_trans hW.size h3,h4⟩,fun c hc=>.inr ?_⟩
    rw [List.mem_singleton.1 hc]
    exact h3
   ·rw [List.mem_singleton.1 hk]
    exact .inl ⟨List.mem_cons_of_mem _ (List.mem_singleton.2 rfl),fun _ _ h=>by cases h⟩
  repeat' (first | simp (disch:=omega) only [sxE,rebuild_Constants.E,Nat.reduceAdd,Nat.reduceEqDiff,Nat.reduceMul,Nat.reduceSub,Int.reduceAdd,Int.reduceSub,Int.reduceMul,Int.reduceNeg,Int.reduceLT,Int.reduceLE,Int.reduceEq,Int.reduceToNat,↓reduceIte,Int.reducePow,Nat.reduceLeDiff,Nat.reduceLT,ne_eq,eq_self,List.length_cons,List.length_nil] | (rw [rebuild_Constants.p2_l]) | (with_reducible apply LX_round) | (with_reducible refine cregF ?_))
  obtain ⟨i0,hi,hz0,hz1,hz2⟩:=info_parts info_i64e
  refine genA_grow (P:=Tryz.prog) rfl (L:=[.g (cK g [.int .i64 9,.int .i64 9]),.g (hC w b)]) (fun g cap=>[.g (wK 2 1 (.slice (some ⟨g,0,none⟩) (0 + 2) cap) (0 + 2) ([] ++ [.int .i64 9,.int .i64 9])),.g (hC w b)]) Tryz.underlying23 hi hz0 hz1 hz2 rfl (by decide) rfl (fun W _=>World.ownsRow_nil _ _ _ _) (fun g h=>by cases h) List.mem_cons_self rfl (by decide) (fun u hu=>by
   rcases List.mem_cons.1 hu with rfl | hu
   ·rfl
   ·rw [List.mem_singleton.1 hu]; rfl) (by decide) (by decide) (fun g cap k hk=>by
   rcases List.mem_cons.1 hk with rfl | hk
   ·exact .inl rfl
   ·rw [List.mem_singleton.1 hk]
    exact .inr ⟨List.mem_cons_of_mem _ (List.mem_singleton.2 rfl),fun _ _ h=>by cases h⟩) fun g3 cap=>?_
  simp only [Nat.zero_add,List.nil_append]
  repeat' (first | simp (disch:=omega) only [sxE,rebuild_Constants.E,Nat.reduceAdd,Nat.reduceEqDiff,Nat.reduceMul,Nat.reduceSub,Int.reduceAdd,Int.reduceSub,Int.reduceMul,Int.reduceNeg,Int.reduceLT,Int.reduceLE,Int.reduceEq,Int.reduceToNat,↓reduceIte,Int.reducePow,Nat.reduceLeDiff,Nat.reduceLT,ne_eq,eq_self,List.length_cons,List.length_nil] | (rw [rebuild_Constants.p2_l]) | (with_reducible apply LX_round) | (with_reducible refine cregF ?_))
  exact ⟨g3,cap,rfl,rfl⟩
end Go.Proofs.YtncmmbacoknefaaGreat

/- L20: known of the statements about rebuild. -/
namespace Go.Proofs.YtncmmbacoknefaaGreat
open Go Go.RowKit Sx
set_option linter.unusedVariables false
set_option linter.unusedSimpArgs false
theorem fq_of20 {p q:Int} (h:rok true p q = true):Fq p q:=(rok_iff.1 h).2
set_option maxRecDepth 100000 in
set_option maxHeartbeats 1000000 in
theorem g_known20 (W:World):Gives Tryz.prog 26 [] W (· = .bool true):=by
 have i0:I64 0:=⟨by decide,by decide⟩
 have i1:I64 1:=⟨by decide,by decide⟩
 have i2:I64 2:=⟨by decide,by decide⟩
 have im:I64 9223372036854775807:=⟨by decide,by decide⟩
 have o0:=fun W=>rx_of i0 W
 have o1:=fun W=>rx_of i1 W
 have o2:=fun W=>rx_of i2 W
 have om:=fun W=>rx_of im W
 have f0:=(bd_i64 i0).fits
 have fm:=(bd_i64 im).fits
 have mk:=fun W=>rx_make (z:=1) (y:=2) (bd_i64 i1).fits (bd_i64 i2).fits W
 rw [mkV_yes (by decide +kernel),show mn 1 2 = 1 by decide +kernel,show mD 1 2 = 2 by decide +kernel] at mk
 have fh:Fq 1 2:=fq_of20 (by decide +kernel)
 have f1:Fq 1 1:=fq_of20 (by decide +kernel)
 have r1:=fun W=>rx_rof i1 W
 have v1:=fun W=>gx_value f0.rw fh.cq (dt:=3) ⟨by decide,by decide⟩ W
 have v2:=fun W=>gx_value fm.rw f1.cq (dt:=5) ⟨by decide,by decide⟩ W
 rw [show vl (vz 0 + atq 1 2 3) = 2 by decide +kernel] at v1
 rw [show vl (vz 9223372036854775807 + atq 1 1 5) = 9223372036854775807 by decide +kernel] at v2
 refine gives_known en_w20_known ?_
 refine known_of (enter Tryz.func26 w20_known.ok (args:=[]) (by simp) ?_)
 repeat' (first | simp (disch:=omega) only [sxE,w20_known.E,Nat.reduceAdd,Nat.reduceEqDiff,Nat.reduceMul,Nat.reduceSub,Int.reduceAdd,Int.reduceSub,Int.reduceMul,Int.reduceNeg,Int.reduceLT,Int.reduceLE,Int.reduceEq,Int.reduceToNat,↓reduceIte,Int.reducePow,Nat.reduceLeDiff,Nat.reduceLT,ne_eq,eq_self,List.length_cons,List.length_nil,qxE,beq_self_eq_true] | (with_reducible refine Sx.call_at (f:=50) (fun W hW=>o0 W) ?_) | (with_reducible refine Sx.call_at (f:=50) (fun W hW=>o1 W) ?_) | (with_reducible refine Sx.call_at (f:=50) (fun W hW=>o2 W) ?_) | (with_reducible refine Sx.call_at (f:=50) (fun W hW=>om W) ?_) | (with_reducible refine Sx.call_at (f:=77) (fun W hW=>mk W) ?_) | (with_reducible refine Sx.call_at (f:=78) (fun W hW=>r1 W) ?_) | (with_reducible refine Sx.call_at (f:=84) (fun W hW=>v1 W) ?_) | (with_reducible refine Sx.call_at (f:=84) (fun W hW=>v2 W) ?_) | (with_reducible refine cregF ?_))
 refine genA_c (L:=[]) (cs:=[.int .i64 2,.int .i64 9]) (T:=129) (fun b=>.slice (some ⟨b,0,none⟩) 1 1) (kX_nil _) (fun W=>by kernel_rfl) fun b hb=>?_
 clear hb
 repeat' (first | simp (disch:=omega) only [sxE,w20_known.E,Nat.reduceAdd,Nat.reduceEqDiff,Nat.reduceMul,Nat.reduceSub,Int.reduceAdd,Int.reduceSub,Int.reduceMul,Int.reduceNeg,Int.reduceLT,Int.reduceLE,Int.reduceEq,Int.reduceToNat,↓reduceIte,Int.reducePow,Nat.reduceLeDiff,Nat.reduceLT,ne_eq,eq_self,List.length_cons,List.length_nil,qxE] | (with_reducible refine cregF ?_))
 refine asks_kn (ι:=Nat × Nat) (L:=[.g (cK b [.int .i64 2,.int .i64 9])]) (gs:=[]) (fun x=>.slice (some ⟨x.1,0,none⟩) 2 x.2) (fun _=>[.g (cK b [.int .i64 2,.int .i64 9])]) en_rebuild_Constants rfl (fun x hx=>by cases hx) (fun W hok x hx=>by cases hx) (fun W' hW hok=>?con) fun x=>?_
 case con =>
  have k1:(cK b [.int .i64 2,.int .i64 9]).ok W.heap.size W':=hok _ (List.mem_singleton.2 rfl)
  exact (const_two (w:=W') (b:=b) k1.2).mono fun e w' ⟨x,h1,h2⟩=>⟨x,h1,moves_below h2,fun k hk=>.inl ⟨hk,fun _ _ h=>by cases h⟩⟩
 repeat' (first | simp (disch:=omega) only [sxE,w20_known.E,Nat.reduceAdd,Nat.reduceEqDiff,Nat.reduceMul,Nat.reduceSub,Int.reduceAdd,Int.reduceSub,Int.reduceMul,Int.reduceNeg,Int.reduceLT,Int.reduceLE,Int.reduceEq,Int.reduceToNat,↓reduceIte,Int.reducePow,Nat.reduceLeDiff,Nat.reduceLT,ne_eq,eq_self,List.length_cons,List.length_nil,qxE,beq_self_eq_true] | (with_reducible refine cregF ?_))
end Go.Proofs.YtncmmbacoknefaaGreat

/- Rq: Lines of swing as lines cell by cell; several cells of an own row overwritten. -/
namespace Go.Proofs.YtncmmbacoknefaaGreat
open Go Go.RowKit Sx
set_option linter.unusedVariables false
set_option linter.unusedSimpArgs false
namespace Sx
variable {C:Cx} {S:St} {K:St→Prop} {d:Option Nat}
end Sx
def toR (x:LnV):RlN:=⟨x.n,x.V,sg x.p,lb0 (ab x.p),lb1 (ab x.p),lb2 (ab x.p),lb3 (ab x.p),sg x.q,lb0 (ab x.q),lb1 (ab x.q),lb2 (ab x.q),lb3 (ab x.q),x.p,x.q⟩
theorem toR_ok {x:LnV} (hn:I64 x.n) (hv:I64 x.V) (hf:Fq x.p x.q):RlOk (toR x):=⟨hn,hv,hf.cq⟩
theorem LOk.rl {t:Int} {ss:Smps} (ht:tolz t = true) (hin:∀ s∈ss,I64 s.1∧I64 s.2) (hinc:incr ss = true) (hl:ss.length≤1073741824):∀ {l:List LnV} {a e:Nat},e≤ss.length→LOk t ss a l e→∀ x∈l.map toR,RlOk x
 | [],a,e,_,h,x,hx=>by cases hx
 | y :: l,a,e,he,⟨m,h1,h2,h3,h4,h⟩,x,hx=>by
  rw [List.map_cons] at hx
  rcases List.mem_cons.1 hx with rfl | hx
  ·have hck:=sgk_ok ht hin hinc (a:=a) (j:=m) h3 (by omega)
   rw [h1]
   refine toR_ok ?_ ?_ ?_
   ·show I64 ((m:Int) + 1)
    exact ⟨by omega,by omega⟩
   ·exact (smp_i64 hin a).2
   ·exact cho_fq hck
  ·exact h.rl ht hin hinc hl he x hx
end Go.Proofs.YtncmmbacoknefaaGreat

/- CdGr: MADE BY PROGRAM (sxgen.py): the small code of some functions, points of it and their equations. -/
namespace Go.Proofs.YtncmmbacoknefaaGreat
open Go Go.RowKit Sx Sx.Q
set_option linter.unusedVariables false
variable (C:Cx) (R L1 L2 L3 L4:St→Prop)
namespace w20_groups
abbrev q0:=[0,1]
abbrev r0:List G:=[e 4 (.mv (.const (.slice none 0 0)))]
abbrev q1:=[0,1,5]
abbrev r1:List G:=[e 5 (.mv (.const (.slice none 0 0)))]
abbrev q2:=[0,1,5,6]
abbrev r2:List G:=[Mi 6 0]
abbrev q3:=[0,1,5,6,10]
abbrev r3:List G:=[m 7 6,m 8 0,e 9 (.len false (t 8)),b 10 .lss 7 9]
abbrev r5:List G:=[m 13 5,m 14 0,m 15 6,j 16 24 14 15,a 17 2 16,m 19 1,m 21 0,m 22 6,j 23 24 21 22,a 24 0 23]
abbrev t5:GT:=br 18 (.ld false 1 (t 17)) (br 20 (.call false 21 [(t 19)]) (br 25 (.ld false 1 (t 24)) (br 26 (.gen false (.bsl 24 1 [0]) [(t 25)]) (br 27 (.bd [.int .i64 0,.bool false,.int .u64 0,.int .u64 0,.int .u64 0,.int .u64 0,.bool false,.int .u64 0,.int .u64 0,.int .u64 0,.int .u64 0,(.slice none 0 0)] [(0,1,(t 18)),(1,10,(t 20)),(11,1,(t 26))]) (br 28 (.gen false (.bsl 60 1 [0]) [(t 27)]) (br 29 (.gen false (.bi .append [60,60] 60 [false,false]) [(t 13),(t 28)]) (br 5 (.mv (t 29)) .fin .no) .no) .no) .no) .no) .no) (br 25 (.ld false 1 (t 24)) (br 20 (.call false 21 [(t 19)]) (br 26 (.gen false (.bsl 24 1 [0]) [(t 25)]) (br 27 (.bd [.int .i64 0,.bool false,.int .u64 0,.int .u64 0,.int .u64 0,.int .u64 0,.bool false,.int .u64 0,.int .u64 0,.int .u64 0,.int .u64 0,(.slice none 0 0)] [(0,1,(t 18)),(1,10,(t 20)),(11,1,(t 26))]) (br 28 (.gen false (.bsl 60 1 [0]) [(t 27)]) (br 29 (.gen false (.bi .append [60,60] 60 [false,false]) [(t 13),(t 28)]) (br 5 (.mv (t 29)) .fin .no) .no) .no) .no) .no) (br 26 (.gen false (.bsl 24 1 [0]) [(t 25)]) (br 20 (.call false 21 [(t 19)]) (br 27 (.bd [.int .i64 0,.bool false,.int .u64 0,.int .u64 0,.int .u64 0,.int .u64 0,.bool false,.int .u64 0,.int .u64 0,.int .u64 0,.int .u64 0,(.slice none 0 0)] [(0,1,(t 18)),(1,10,(t 20)),(11,1,(t 26))]) (br 28 (.gen false (.bsl 60 1 [0]) [(t 27)]) (br 29 (.gen false (.bi .append [60,60] 60 [false,false]) [(t 13),(t 28)]) (br 5 (.mv (t 29)) .fin .no) .no) .no) .no) .no) .no)) .no)) (br 20 (.call false 21 [(t 19)]) (br 18 (.ld false 1 (t 17)) (br 25 (.ld false 1 (t 24)) (br 26 (.gen false (.bsl 24 1 [0]) [(t 25)]) (br 27 (.bd [.int .i64 0,.bool false,.int .u64 0,.int .u64 0,.int .u64 0,.int .u64 0,.bool false,.int .u64 0,.int .u64 0,.int .u64 0,.int .u64 0,(.slice none 0 0)] [(0,1,(t 18)),(1,10,(t 20)),(11,1,(t 26))]) (br 28 (.gen false (.bsl 60 1 [0]) [(t 27)]) (br 29 (.gen false (.bi .append [60,60] 60 [false,false]) [(t 13),(t 28)]) (br 5 (.mv (t 29)) .fin .no) .no) .no) .no) .no) .no) (br 25 (.ld false 1 (t 24)) (br 18 (.ld false 1 (t 17)) (br 26 (.gen false (.bsl 24 1 [0]) [(t 25)]) (br 27 (.bd [.int .i64 0,.bool false,.int .u64 0,.int .u64 0,.int .u64 0,.int .u64 0,.bool false,.int .u64 0,.int .u64 0,.int .u64 0,.int .u64 0,(.slice none 0 0)] [(0,1,(t 18)),(1,10,(t 20)),(11,1,(t 26))]) (br 28 (.gen false (.bsl 60 1 [0]) [(t 27)]) (br 29 (.gen false (.bi .append [60,60] 60 [false,false]) [(t 13),(t 28)]) (br 5 (.mv (t 29)) .fin .no) .no) .no) .no) .no) (br 26 (.gen false (.bsl 24 1 [0]) [(t 25)]) (br 18 (.ld false 1 (t 17)) (br 27 (.bd [.int .i64 0,.bool false,.int .u64 0,.int .u64 0,.int .u64 0,.int .u64 0,.bool false,.int .u64 0,.int .u64 0,.int .u64 0,.int .u64 0,(.slice none 0 0)] [(0,1,(t 18)),(1,10,(t 20)),(11,1,(t 26))]) (br 28 (.gen false (.bsl 60 1 [0]) [(t 27)]) (br 29 (.gen false (.bi .append [60,60] 60 [false,false]) [(t 13),(t 28)]) (br 5 (.mv (t 29)) .fin .no) .no) .no) .no) .no) .no)) .no)) (br 25 (.ld false 1 (t 24)) (br 18 (.ld false 1 (t 17)) (br 20 (.call false 21 [(t 19)]) (br 26 (.gen false (.bsl 24 1 [0]) [(t 25)]) (br 27 (.bd [.int .i64 0,.bool false,.int .u64 0,.int .u64 0,.int .u64 0,.int .u64 0,.bool false,.int .u64 0,.int .u64 0,.int .u64 0,.int .u64 0,(.slice none 0 0)] [(0,1,(t 18)),(1,10,(t 20)),(11,1,(t 26))]) (br 28 (.gen false (.bsl 60 1 [0]) [(t 27)]) (br 29 (.gen false (.bi .append [60,60] 60 [false,false]) [(t 13),(t 28)]) (br 5 (.mv (t 29)) .fin .no) .no) .no) .no) .no) (br 26 (.gen false (.bsl 24 1 [0]) [(t 25)]) (br 20 (.call false 21 [(t 19)]) (br 27 (.bd [.int .i64 0,.bool false,.int .u64 0,.int .u64 0,.int .u64 0,.int .u64 0,.bool false,.int .u64 0,.int .u64 0,.int .u64 0,.int .u64 0,(.slice none 0 0)] [(0,1,(t 18)),(1,10,(t 20)),(11,1,(t 26))]) (br 28 (.gen false (.bsl 60 1 [0]) [(t 27)]) (br 29 (.gen false (.bi .append [60,60] 60 [false,false]) [(t 13),(t 28)]) (br 5 (.mv (t 29)) .fin .no) .no) .no) .no) .no) .no)) (br 20 (.call false 21 [(t 19)]) (br 18 (.ld false 1 (t 17)) (br 26 (.gen false (.bsl 24 1 [0]) [(t 25)]) (br 27 (.bd [.int .i64 0,.bool false,.int .u64 0,.int .u64 0,.int .u64 0,.int .u64 0,.bool false,.int .u64 0,.int .u64 0,.int .u64 0,.int .u64 0,(.slice none 0 0)] [(0,1,(t 18)),(1,10,(t 20)),(11,1,(t 26))]) (br 28 (.gen false (.bsl 60 1 [0]) [(t 27)]) (br 29 (.gen false (.bi .append [60,60] 60 [false,false]) [(t 13),(t 28)]) (br 5 (.mv (t 29)) .fin .no) .no) .no) .no) .no) (br 26 (.gen false (.bsl 24 1 [0]) [(t 25)]) (br 18 (.ld false 1 (t 17)) (br 27 (.bd [.int .i64 0,.bool false,.int .u64 0,.int .u64 0,.int .u64 0,.int .u64 0,.bool false,.int .u64 0,.int .u64 0,.int .u64 0,.int .u64 0,(.slice none 0 0)] [(0,1,(t 18)),(1,10,(t 20)),(11,1,(t 26))]) (br 28 (.gen false (.bsl 60 1 [0]) [(t 27)]) (br 29 (.gen false (.bi .append [60,60] 60 [false,false]) [(t 13),(t 28)]) (br 5 (.mv (t 29)) .fin .no) .no) .no) .no) .no) .no)) (br 26 (.gen false (.bsl 24 1 [0]) [(t 25)]) (br 18 (.ld false 1 (t 17)) (br 20 (.call false 21 [(t 19)]) (br 27 (.bd [.int .i64 0,.bool false,.int .u64 0,.int .u64 0,.int .u64 0,.int .u64 0,.bool false,.int .u64 0,.int .u64 0,.int .u64 0,.int .u64 0,(.slice none 0 0)] [(0,1,(t 18)),(1,10,(t 20)),(11,1,(t 26))]) (br 28 (.gen false (.bsl 60 1 [0]) [(t 27)]) (br 29 (.gen false (.bi .append [60,60] 60 [false,false]) [(t 13),(t 28)]) (br 5 (.mv (t 29)) .fin .no) .no) .no) .no) .no) (br 20 (.call false 21 [(t 19)]) (br 18 (.ld false 1 (t 17)) (br 27 (.bd [.int .i64 0,.bool false,.int .u64 0,.int .u64 0,.int .u64 0,.int .u64 0,.bool false,.int .u64 0,.int .u64 0,.int .u64 0,.int .u64 0,(.slice none 0 0)] [(0,1,(t 18)),(1,10,(t 20)),(11,1,(t 26))]) (br 28 (.gen false (.bsl 60 1 [0]) [(t 27)]) (br 29 (.gen false (.bi .append [60,60] 60 [false,false]) [(t 13),(t 28)]) (br 5 (.mv (t 29)) .fin .no) .no) .no) .no) .no) .no)) .no))) .no))
abbrev r4:List G:=[m 11 6,bi 12 .add 11 1,m 6 12]
abbrev r6:List G:=[m 30 5,m 4 30]
abbrev c:MC:=sq [g r0 q0,g r1 q1,sq [g r2 q2,.block 0 (.loop (sq [sq [g r3 q3,ci 10 .skip (.exit 0)],.block 1 (gh r5 t5 [0,1,5,6,14,16,21,23] q2),g r4 q2]))],g r6 [4],.ret]
theorem ok:compF Tryz.prog Tryz.f32 (an [0,1,2,3,5,4,6] c [(5,99998,[0,1,2,3,4,6,8,9,10,11],[],[0,1,5,6,14,16,21,23])]) = some (31,c,[(4,none)]):=by kernel_rfl
abbrev p1:=P C r6 [4] R
abbrev p3:=P C r4 q2 L1
abbrev p4:=Ph C r5 t5 [0,1,5,6,14,16,21,23] q2 (p3 C L1)
abbrev p5:=cd (t 10) (p4 C L1) (p1 C R)
abbrev p6:=P C r3 q3 (p5 C R L1)
def p2 (S:St):Prop:=LX C (fun L1=>(p6 C R L1)) S
theorem p2_l (S:St):p2 C R S = LX C (fun L1=>(p6 C R L1)) S:=rfl
abbrev p7:=P C r2 q2 (p2 C R)
abbrev p8:=P C r1 q1 (p7 C R)
abbrev p9:=P C r0 q0 (p8 C R)
theorem s (S:St):X C c (retK R) S = p9 C R S:=by kernel_rfl
theorem E:type_of% @s:=@s
end w20_groups
end Go.Proofs.YtncmmbacoknefaaGreat

/- Gq: groups of the law: the groups of pieces, their starts in blocks of their own. -/
namespace Go.Proofs.YtncmmbacoknefaaGreat
open Go Go.RowKit Sx
set_option linter.unusedVariables false
set_option linter.unusedSimpArgs false
theorem POk.len {t:Int} {ss:Smps}:∀ {l:List PcV} {a e:Nat},POk t ss a l e→a + l.length≤e
 | [],a,e,h=>by
  have h:a = e:=h
  rw [h]
  exact Nat.le_refl _
 | x :: l,a,e,⟨m,_,h2,_,_,h⟩=>by
  have:=POk.len h
  rw [List.length_cons]
  omega
theorem POk.inI {t:Int} {ss:Smps} (hin:∀ s∈ss,I64 s.1∧I64 s.2):∀ {l:List PcV} {a e:Nat},e≤1073741824→POk t ss a l e→∀ x∈l,I64 x.k∧I64 x.i
 | [],a,e,he,h,x,hx=>by cases hx
 | y :: l,a,e,he,⟨m,h1,h2,h3,h4,h⟩,x,hx=>by
  rcases List.mem_cons.1 hx with rfl | hx
  ·rw [h1]
   exact ⟨ke_i64 (smp_i64 hin a).2,show I64 (a:Int) from ⟨by omega,by omega⟩⟩
  ·exact POk.inI hin he h x hx
structure GrA (y:GrN):Prop where
 v:I64 y.x.v
 q:CQ (rls y.x) y.x.p y.x.q
 z:∀ z∈y.st,I64 z
 l:y.st.length≤maxLen
 s:one y.sv = true
def grP (x:PcV) (P Q:Int) (b:Nat):GrN:=⟨⟨0,x.k,sg P,lb0 (ab P),lb1 (ab P),lb2 (ab P),lb3 (ab P),sg Q,lb0 (ab Q),lb1 (ab Q),lb2 (ab Q),lb3 (ab Q),P,Q⟩,.slice (some ⟨b,0,none⟩) 1 1,[x.i]⟩
theorem grP_a {x:PcV} {P Q:Int} {b:Nat} (h:I64 x.k∧I64 x.i) (hf:Fq P Q):GrA (grP x P Q b) :=
 ⟨h.1,hf.cq,fun z hz=>by rw [List.mem_singleton.1 hz]; exact h.2,by show 1≤maxLen; decide,rfl⟩
theorem grcs_app (l:List GrN) (y:GrN):grcs (l ++ [y]) = grcs l ++ grc y:=by
 unfold grcs
 rw [List.flatMap_append]
 show _ ++ (grc y ++ []) = _
 rw [List.append_nil]
def GrS (n:Nat) (W:World) (y:GrN):Prop:=∃ b,y.sv = .slice (some ⟨b,0,none⟩) y.st.length y.st.length∧n≤b∧HB W b (y.st.map (Value.int .i64)).toArray
theorem gr_ok {n:Nat} {W:World} {y:GrN} (h:GrS n W y) (ha:GrA y):GrOk W y:=by
 obtain ⟨b,e,-,hb⟩:=h
 exact ⟨ha.v,ha.q,by rw [e]; exact slz_cK hb ha.z ha.l⟩
def gK (L:List GrN):KnG where
 bs:=L.filterMap fun y=>y.sv.ownBlock
 ok n W:=∀ y∈L,GrS n W y
 lt:=fun {n W} h b hb=>by
  obtain ⟨y,hy,e⟩:=List.mem_filterMap.1 hb
  obtain ⟨b',e',h1,h2⟩:=h y hy
  rw [e'] at e
  cases e
  exact ⟨h1,h2.lt⟩
 keep:=fun {n W W'} h hs hb ho y hy=>by
  obtain ⟨b,e,h1,T,hT⟩:=h y hy
  exact ⟨b,e,h1,T,(hb b (List.mem_filterMap.2 ⟨y,hy,by rw [e]; rfl⟩)).trans hT⟩
theorem gK_bs {L:List GrN} {g:Nat}:g∈(Kn.g (gK L)).bs↔∃ y∈L,y.sv.ownBlock = some g:=List.mem_filterMap
theorem hKb {w:World} {tb B Bm g:Nat}:g∈(Kn.g (hK w tb B Bm)).bs↔tb≤g∧g < w.heap.size:=by
 show g∈List.range' tb (w.heap.size - tb)↔_
 rw [List.mem_range']
 constructor
 ·rintro ⟨i,hi,rfl⟩; omega
 ·rintro h; exact ⟨g - tb,by omega,by omega⟩
theorem elt_group:ElT Tryz.prog 60 66 12 112:=elT (z:=.agg #[.int .i64 0,.bool false,.int .u64 0,.int .u64 0,.int .u64 0,.int .u64 0,.bool false,.int .u64 0,.int .u64 0,.int .u64 0,.int .u64 0,.slice none 0 0]) Tryz.underlying60 (by kernel_rfl) rfl (by decide)
namespace Sx
variable {C:Cx} {S:St} {K:St→Prop} {d:Option Nat}
theorem ldP_hK {e:TypeId} {s n base cap g o m:Nat} {b:Bool} {xs l:List Value} {w:World} {tb B Bm:Nat} {L:List Kn} (hT:(C.kn S).T = kX C.w0.heap.size L) (hm:.g (hK w tb B Bm)∈L) (h:w.ownsRow base e s (.slice (some ⟨g,0,none⟩) n cap) n xs) (hg:g≠tb) (hl:l.length = m) (hs:∀ j v,l[j]? = some v→xs[o + j]? = some v) (hk:K (S.put d (.v (mk b l)))):ldP C b m ⟨g,o,none⟩ d K S :=
 ldP_ext l hl (fun W hW hok j v hj=>by
  rw [hT] at hok
  have hh:(hK w tb B Bm).ok C.w0.heap.size W:=hok _ hm
  have h1:=h.cells (g:=g) rfl (o + j) v (hs j v hj)
  rw [Addr.add_lit,Nat.zero_add] at h1
  rw [Addr.add_lit]
  exact (World.cell?_of_block (a:=⟨g,o + j,none⟩) (hh.2.2.2.2 g (h.lt g rfl).2 hg)).trans h1) hk
theorem bsl_blk (t:TypeId) {n:Nat} {ix:List Nat} {l:List Value} (h:genA C (.bsl t n ix) l d K S):genA C (.bsl t n ix) l d K S:=h
theorem extS_w {C:Cx} {L L':List Kn} (h:∀ k∈L',(∀ W,(∀ j∈L,j.ok C.w0.heap.size W)→k.ok C.w0.heap.size W)∧∀ b∈k.bs,∃ j∈L,b∈j.bs):extS C (kX C.w0.heap.size L) (kX C.w0.heap.size L') :=
 .inr ⟨kX_stab C L',fun W hW k hk=>(h k hk).1 W hW,fun b hb=>by
  obtain ⟨k,hk,hb⟩:=kX_bs.1 hb
  exact kX_bs.2 ((h k hk).2 b hb)⟩
end Sx
set_option maxRecDepth 100000 in
set_option maxHeartbeats 8000000 in
theorem groups_any {B Bm tb:Nat} (w:World) (ht:TapeOk B Bm w tb) {a:Option Addr} {cap Bs:Nat} {ls:List PcV} (h:w.ownsRow Bs 75 24 (.slice a ls.length cap) ls.length (pcells ls)) (hne:∀ g,a = some ⟨g,0,none⟩→g≠tb) (hls:ls.length≤1000) (hin:∀ x∈ls,I64 x.k∧I64 x.i) :
  Calls Tryz.prog 32 #[.slice a ls.length cap,.pointer (some ⟨tb,0,none⟩)] w fun e w'=>∃ v G,e = .returned v∧(G.length = ls.length∧∀ y∈G,GrA y)∧w'.ownsRow w.heap.size 66 12 v G.length (grcs G)∧(gK G).ok w.heap.size w'∧(∀ b∈(Kn.g (gK G)).bs,v.ownBlock≠some b)∧TapeOk B Bm w' tb∧w.grownBy w' (some tb):=by
 have hle:=Nat.le_of_lt ht.lt
 have hcs:=cut_size hle
 refine Calls.mono (enterG Tryz.func32 w20_groups.ok (args:=[.slice a ls.length cap,.pointer (some ⟨tb,0,none⟩)]) (w0:=cut w tb) (T:=kX (cut w tb).heap.size [.g (hK w tb B Bm)]) (R:=fun v X=>∃ G L,(G.length = ls.length∧∀ y∈G,GrA y)∧X = kX (cut w tb).heap.size L∧.g (hK w tb B Bm)∈L∧.g (wK 66 12 v G.length (grcs G))∈L∧.g (gK G)∈L∧(∀ b∈v.ownBlock.toList,b ∉ (Kn.g (hK w tb B Bm)).bs)∧∀ b∈(Kn.g (gK G)).bs,b ∉ (Kn.g (hK w tb B Bm)).bs∧v.ownBlock≠some b) (by simp) (below_cut hle) (hK_start ht).1 (kX_stab (Sx.cx _ (cut w tb) _) _) (hK_start ht).2 ?run) ?fin
 case fin =>
  rintro e w' ⟨v,X,rfl,⟨G,L,hP,rfl,m1,m2,m3,hnb,hng⟩,hX,hbl,-⟩
  obtain ⟨h1,h2⟩:=hK_end hX m1 hbl
  have up:∀ b,(cut w tb).heap.size≤b→b ∉ (Kn.g (hK w tb B Bm)).bs→w.heap.size≤b:=fun b hb hn=>by
   rw [hcs] at hb
   have h2:¬ (tb≤b∧b < w.heap.size):=fun h=>hn (hKb.2 h)
   omega
  have hr:w'.ownsRow (cut w tb).heap.size 66 12 v G.length (grcs G):=hX _ m2
  have hg:(gK G).ok (cut w tb).heap.size w':=hX _ m3
  refine ⟨v,G,rfl,hP,?_,fun y hy=>?_,fun b hb=>(hng b hb).2,h1,h2⟩
  ·refine ⟨hr.1,?_⟩
   rcases hr.2 with hn | ⟨g,cap',cur,rfl,hbg,rest⟩
   ·exact .inl hn
   ·exact .inr ⟨g,cap',cur,rfl,up g hbg (hnb g (by simp [Value.ownBlock])),rest⟩
  ·obtain ⟨b,e,hb1,hb2⟩:=hg y hy
   exact ⟨b,e,up b hb1 (hng b (gK_bs.2 ⟨y,hy,by rw [e]; rfl⟩)).1,hb2⟩
 case run =>
  have hk:=tpk_h' ht
  have htb:tb∈(Kn.g (hK w tb B Bm)).bs:=hKb.2 ⟨Nat.le_refl _,ht.lt⟩
  repeat' (first | simp (disch:=omega) only [sxE,w20_groups.E,Nat.reduceAdd,Nat.reduceEqDiff,Nat.reduceMul,Nat.reduceSub,Int.reduceAdd,Int.reduceSub,Int.reduceMul,Int.reduceNeg,Int.reduceLT,Int.reduceLE,Int.reduceEq,Int.reduceToNat,↓reduceIte,Int.reducePow,Nat.reduceLeDiff,Nat.reduceLT,ne_eq,eq_self,List.length_cons,List.length_nil,qxE] | (with_reducible refine cregF ?_))
  rw [w20_groups.p2_l]
  refine LX_inv (fun x:Nat × Value × List GrN=>⟨0,[(0,.v (.slice a ls.length cap)),(1,.v (.pointer (some ⟨tb,0,none⟩))),(5,.v x.2.1),(6,.v (.int .i64 (x.1:Int)))],[],kX (cut w tb).heap.size [.g (wK 66 12 x.2.1 x.1 (grcs x.2.2)),.g (gK x.2.2),.g (hK w tb B Bm)]⟩) (fun x=>x.1≤ls.length∧x.2.2.length = x.1∧(∃ a c,x.2.1 = .slice a x.1 c)∧(∀ y∈x.2.2,GrA y)∧(∀ b∈x.2.1.ownBlock.toList,b ∉ (Kn.g (hK w tb B Bm)).bs)∧∀ b∈(Kn.g (gK x.2.2)).bs,b ∉ (Kn.g (hK w tb B Bm)).bs∧x.2.1.ownBlock≠some b) (fun x=>ls.length - x.1) ?round (0,.slice none 0 0,[]) ⟨Nat.zero_le _,rfl,⟨none,0,rfl⟩,fun y hy=>(by cases hy),fun b hb=>(by cases hb),fun b hb=>(by cases hb)⟩ ?start
  case start =>
   have c0:((0:Nat):Int) = 0:=rfl
   simp (disch:=omega) only [sxE,w20_groups.E,Nat.reduceAdd,Nat.reduceEqDiff,Nat.reduceMul,Nat.reduceSub,Int.reduceAdd,Int.reduceSub,Int.reduceMul,Int.reduceNeg,Int.reduceLT,Int.reduceLE,Int.reduceEq,Int.reduceToNat,↓reduceIte,Int.reducePow,Nat.reduceLeDiff,Nat.reduceLT,ne_eq,eq_self,List.length_cons,List.length_nil,c0]
   refine extS_of fun k hk=>?_
   rcases List.mem_cons.1 hk with rfl | hk
   ·exact .inr ⟨rfl,fun W=>wK_nil _ _ _ W⟩
   ·rcases List.mem_cons.1 hk with rfl | hk
    ·exact .inr ⟨rfl,fun W y hy=>by cases hy⟩
    ·exact .inl hk
  case round =>
   rintro ⟨i,u,G⟩ ⟨hi,hG,⟨ua,uc,hu⟩,hGA,hub,hgb⟩
   try dsimp only at hi hG hu hGA hub hgb ⊢
   subst hu
   have e0:(i:Int) + 1 = ((i + 1:Nat):Int):=by omega
   by_cases hlt:i < ls.length
   ·obtain ⟨a',cap',e,-,-,hga⟩:=row_form h
    cases e
    obtain ⟨g,rfl⟩:=hga (by omega)
    have hgt:=hne g rfl
    have hxi:=hin (ls.getD i pc_0) (by rw [List.getD_eq_getElem?_getD,List.getElem?_eq_getElem hlt]; exact List.getElem_mem hlt)
    have v0:=pcells_at (j:=0) hlt (by decide)
    have v2:=pcells_at (j:=2) hlt (by decide)
    generalize ls.getD i pc_0 = x at *
    replace v0:(pcells ls)[24 * i + 0]? = some (.int .i64 x.i):=v0
    replace v2:(pcells ls)[24 * i + 2]? = some (.int .i64 x.k):=v2
    
    have tR:tb ∉ (.g (wK 66 12 (.slice ua i uc) i (grcs G)):Kn).bs:=fun h=>hub tb (by rw [wK_bs.1 h]; exact List.mem_singleton.2 rfl) htb
    have tG:tb ∉ (Kn.g (gK G)).bs:=fun h=>(hgb tb h).1 htb
    
    have oG:∀ b∈(Kn.g (gK G)).bs,(Value.slice ua i uc).ownBlock≠some b:=fun b hb=>(hgb b hb).2
    have oH:∀ b∈(Kn.g (hK w tb B Bm)).bs,(Value.slice ua i uc).ownBlock≠some b:=fun b hb e=>hub b (by rw [e]; exact List.mem_singleton.2 rfl) hb
    repeat' (first | simp (disch:=omega) only [sxE,w20_groups.E,Nat.reduceAdd,Nat.reduceEqDiff,Nat.reduceMul,Nat.reduceSub,Int.reduceAdd,Int.reduceSub,Int.reduceMul,Int.reduceNeg,Int.reduceLT,Int.reduceLE,Int.reduceEq,Int.reduceToNat,↓reduceIte,Int.reducePow,Nat.reduceLeDiff,Nat.reduceLT,ne_eq,eq_self,List.length_cons,List.length_nil,qxE] | (with_reducible refine And.intro ?_ ?_) | ((with_reducible refine ldP_blk g ?_); first | refine ldP_hK (l:=[.int .i64 x.i]) rfl (by repeat (first | with_reducible exact List.mem_cons_self | refine List.mem_cons_of_mem _ ?_)) h hgt rfl (fun j u hu=>by rw [show 0 + i * 24 + 0 + j = 24 * i + 0 + j by omega]; exact one_at v0 j u hu) ?_ | refine ldP_hK (l:=[.int .i64 x.k]) rfl (by repeat (first | with_reducible exact List.mem_cons_self | refine List.mem_cons_of_mem _ ?_)) h hgt rfl (fun j u hu=>by rw [show 0 + i * 24 + 2 + j = 24 * i + 2 + j by omega]; exact one_at v2 j u hu) ?_) | (refine asks_tc rfl hk (t_ratio tb) en_m_Tape__Ratio rfl (by repeat (first | with_reducible exact List.mem_cons_self | refine List.mem_cons_of_mem _ ?_)) rfl (fun j hj=>by (simp only [List.mem_cons,List.not_mem_nil,or_false] at hj); first | (rcases hj with rfl | rfl | rfl <;> first | exact .inl rfl | exact .inr (by assumption)) | (rcases hj with rfl | rfl | rfl | rfl <;> first | exact .inl rfl | exact .inr (by assumption))) ?_; rintro ⟨P,Q⟩ hF) | ((with_reducible refine bsl_blk 24 ?_); refine genA_c (cs:=[.int .i64 x.i]) (T:=3) (fun b=>.slice (some ⟨b,0,none⟩) 1 1) rfl (fun W=>by kernel_rfl) fun b2 hb2=>?_; have tB:tb ∉ (Kn.g (cK b2 [.int .i64 x.i])).bs:=(fun h=>hb2 (by rw [← cK_bs.1 h]; exact kX_bs.2 ⟨.g (hK w tb B Bm),(by repeat (first | with_reducible exact List.mem_cons_self | refine List.mem_cons_of_mem _ ?_)),htb⟩)); have oB:(Value.slice ua i uc).ownBlock≠some b2:=(fun h=>hb2 (kX_bs.2 ⟨.g (wK 66 12 (.slice ua i uc) i (grcs G)),(by repeat (first | with_reducible exact List.mem_cons_self | refine List.mem_cons_of_mem _ ?_)),wK_bs.2 h⟩)); have hB:b2 ∉ (Kn.g (hK w tb B Bm)).bs:=(fun h=>hb2 (kX_bs.2 ⟨.g (hK w tb B Bm),(by repeat (first | with_reducible exact List.mem_cons_self | refine List.mem_cons_of_mem _ ?_)),h⟩)); clear hb2) | ((with_reducible refine bsl_blk 60 ?_); refine genA_c (cs:=grc (grP x P Q b2)) (T:=66) (fun b=>.slice (some ⟨b,0,none⟩) 1 1) rfl (fun W=>by kernel_rfl) fun b3 hb3=>?_; clear hb3) | (refine genA_lit rfl [.g (cK b2 [.int .i64 x.i]),.g (gK G),.g (hK w tb B Bm)] elt_group rfl (.inr (by repeat (first | with_reducible exact List.mem_cons_self | refine List.mem_cons_of_mem _ ?_))) (.inl fun _ h=>h) List.mem_cons_self rfl (by decide) rfl (by simp only [maxLen]; omega) (by omega) (fun k hk=>by (simp only [List.mem_cons,List.not_mem_nil,or_false] at hk); (rcases hk with rfl | rfl | rfl); exact ⟨(by repeat (first | with_reducible exact List.mem_cons_self | refine List.mem_cons_of_mem _ ?_)),fun y hy e=>oB (by rw [e,cK_bs.1 hy])⟩; exact ⟨(by repeat (first | with_reducible exact List.mem_cons_self | refine List.mem_cons_of_mem _ ?_)),oG⟩; exact ⟨(by repeat (first | with_reducible exact List.mem_cons_self | refine List.mem_cons_of_mem _ ?_)),oH⟩) fun g3 cap3 _ _ _ hg3=>?_) | (with_reducible refine cregF ?_))
    all_goals (
     rw [e0]
     refine ⟨(i + 1,.slice (some ⟨g3,0,none⟩) (i + 1) cap3,G ++ [grP x P Q b2]),⟨by dsimp only; omega,by dsimp only; rw [List.length_append,hG]; rfl,⟨_,_,rfl⟩,fun y hy=>?_,fun b hb=>?_,fun b hb=>?_⟩,by dsimp only; omega,⟨rfl,rfl⟩,?_⟩
     ·rcases List.mem_append.1 hy with hy | hy
      ·exact hGA y hy
      ·rw [List.mem_singleton.1 hy]
       exact grP_a hxi hF
     ·rw [show b = g3 by simpa [Value.ownBlock] using hb]
      exact hg3 (.g (hK w tb B Bm)) (by repeat (first | with_reducible exact List.mem_cons_self | refine List.mem_cons_of_mem _ ?_))
     ·obtain ⟨y,hy,e⟩:=gK_bs.1 hb
      rcases List.mem_append.1 hy with hy | hy
      ·exact ⟨(hgb b (gK_bs.2 ⟨y,hy,e⟩)).1,fun e2=>hg3 (.g (gK G)) (by repeat (first | with_reducible exact List.mem_cons_self | refine List.mem_cons_of_mem _ ?_)) (by cases e2; exact gK_bs.2 ⟨y,hy,e⟩)⟩
      ·rw [List.mem_singleton.1 hy] at e
       obtain rfl:b2 = b:=by cases e; rfl
       exact ⟨hB,fun e2=>hg3 (.g (cK b2 [.int .i64 x.i])) (by repeat (first | with_reducible exact List.mem_cons_self | refine List.mem_cons_of_mem _ ?_)) (by cases e2; exact cK_bs.2 rfl)⟩
     ·dsimp only
      rw [grcs_app]
      refine extS_w fun k hk=>?_
      rcases List.mem_cons.1 hk with rfl | hk
      ·exact ⟨fun W hW=>hW _ List.mem_cons_self,fun b hb=>⟨_,List.mem_cons_self,hb⟩⟩
      rcases List.mem_cons.1 hk with rfl | hk
      ·refine ⟨fun W hW y hy=>?_,fun b hb=>?_⟩
       ·rcases List.mem_append.1 hy with hy | hy
        ·exact (show (gK G).ok _ W from hW (.g (gK G)) (by repeat (first | with_reducible exact List.mem_cons_self | refine List.mem_cons_of_mem _ ?_))) y hy
        ·rw [List.mem_singleton.1 hy]
         have hc:(cK b2 [.int .i64 x.i]).ok (cut w tb).heap.size W:=hW (.g (cK b2 [.int .i64 x.i])) (by repeat (first | with_reducible exact List.mem_cons_self | refine List.mem_cons_of_mem _ ?_))
         exact ⟨b2,rfl,hc.1,hc.2⟩
       ·obtain ⟨y,hy,e⟩:=gK_bs.1 hb
        rcases List.mem_append.1 hy with hy | hy
        ·exact ⟨.g (gK G),(by repeat (first | with_reducible exact List.mem_cons_self | refine List.mem_cons_of_mem _ ?_)),gK_bs.2 ⟨y,hy,e⟩⟩
        ·rw [List.mem_singleton.1 hy] at e
         exact ⟨.g (cK b2 [.int .i64 x.i]),(by repeat (first | with_reducible exact List.mem_cons_self | refine List.mem_cons_of_mem _ ?_)),cK_bs.2 (by cases e; rfl)⟩
      ·rw [List.mem_singleton.1 hk]
       exact ⟨fun W hW=>hW _ (by repeat (first | with_reducible exact List.mem_cons_self | refine List.mem_cons_of_mem _ ?_)),fun b hb=>⟨.g (hK w tb B Bm),(by repeat (first | with_reducible exact List.mem_cons_self | refine List.mem_cons_of_mem _ ?_)),hb⟩⟩)
   ·obtain rfl:i = ls.length:=by omega
    repeat' (first | simp (disch:=omega) only [sxE,w20_groups.E,Nat.reduceAdd,Nat.reduceEqDiff,Nat.reduceMul,Nat.reduceSub,Int.reduceAdd,Int.reduceSub,Int.reduceMul,Int.reduceNeg,Int.reduceLT,Int.reduceLE,Int.reduceEq,Int.reduceToNat,↓reduceIte,Int.reducePow,Nat.reduceLeDiff,Nat.reduceLT,ne_eq,eq_self,List.length_cons,List.length_nil,qxE] | (with_reducible refine cregF ?_))
    refine ⟨G,_,⟨hG,hGA⟩,rfl,(by repeat (first | with_reducible exact List.mem_cons_self | refine List.mem_cons_of_mem _ ?_)),?_,(by repeat (first | with_reducible exact List.mem_cons_self | refine List.mem_cons_of_mem _ ?_)),hub,hgb⟩
    rw [hG]
    exact List.mem_cons_self
theorem asks_grp {C:Sx.Cx} {S:Sx.St} {K:Sx.St→Prop} {d:Option Nat} {L:List Kn} {tb:Nat} {a:Option Addr} {cap:Nat} {ls:List PcV} (hP:C.P = Tryz.prog) (hT:S.T = kX C.w0.heap.size L) (hmt:.g (tK tb)∈L) (hmv:tb∈C.mv S) (hm:.g (wK 75 24 (.slice a ls.length cap) ls.length (pcells ls))∈L)
  (hx:tb ∉ (Kn.g (wK 75 24 (.slice a ls.length cap) ls.length (pcells ls))).bs) (hL:∀ j∈L,j = .g (tK tb)∨tb ∉ j.bs) (hls:ls.length≤1000) (hin:∀ x∈ls,I64 x.k∧I64 x.i)
  (hk:∀ ag cg (G:List GrN),G.length = ls.length→(∀ y∈G,GrA y)→tb ∉ (Kn.g (wK 66 12 (.slice ag G.length cg) G.length (grcs G))).bs→tb ∉ (Kn.g (gK G)).bs →
   K (Sx.St.put ⟨S.n,S.E,S.H,kX C.w0.heap.size (.g (wK 66 12 (.slice ag G.length cg) G.length (grcs G)) :: .g (gK G) :: L)⟩ d (.v (.slice ag G.length cg)))):asks C 32 [.slice a ls.length cap,.pointer (some ⟨tb,0,none⟩)] d K S:=by
 have hkn:=tpk_t C.w0.heap.size tb
 refine asks_kn (ι:={x:(Option Addr × Nat) × List GrN // x.2.length = ls.length∧(∀ y∈x.2,GrA y)∧tb ∉ (Kn.g (wK 66 12 (.slice x.1.1 x.2.length x.1.2) x.2.length (grcs x.2))).bs∧tb ∉ (Kn.g (gK x.2)).bs}) (L:=L) (gs:=[tb]) (fun x=>.slice x.1.1.1 x.1.2.length x.1.1.2) (fun x=>.g (wK 66 12 (.slice x.1.1.1 x.1.2.length x.1.1.2) x.1.2.length (grcs x.1.2)) :: .g (gK x.1.2) :: L) (by rw [hP]; exact en_w20_groups) hT (fun g hg=>by rw [List.mem_singleton.1 hg]; exact hmv) (fun W hok g hg=>by rw [List.mem_singleton.1 hg]; exact hkn.ge (hok _ hmt)) (fun W hW hok=>?_) (fun x=>hk _ _ _ x.2.1 x.2.2.1 x.2.2.2.1 x.2.2.2.2)
 have htp:=hkn.tape (hok _ hmt)
 have hrow:W.ownsRow C.w0.heap.size 75 24 (.slice a ls.length cap) ls.length (pcells ls):=hok _ hm
 have hne:∀ g,a = some ⟨g,0,none⟩→g≠tb:=fun g hg e=>hx (wK_bs.2 (by rw [hg,e]; rfl))
 rw [hP]
 refine (groups_any W htp hrow hne hls hin).mono ?_
 rintro e w' ⟨v,G,rfl,⟨hG,hA⟩,hr,hg,hgo,h1,h2⟩
 obtain ⟨ag,cg,rfl,-,-,-⟩:=row_form hr
 have hn1:∀ b∈(Kn.g (wK 66 12 (.slice ag G.length cg) G.length (grcs G))).bs,W.heap.size≤b:=fun b hb=>(hr.lt b (wK_bs.1 hb)).1
 have hn2:∀ b∈(Kn.g (gK G)).bs,W.heap.size≤b:=fun b hb=>((gK G).lt hg b hb).1
 have hlt:=htp.lt
 refine ⟨⟨((ag,cg),G),hG,hA,fun h=>by have:=hn1 tb h; omega,fun h=>by have:=hn2 tb h; omega⟩,rfl,⟨h2.os,h2.tape,h2.output,h2.size,fun j hj hn=>h2.block j hj fun e=>hn (by cases e; exact List.mem_singleton.2 rfl)⟩,fun k hk=>?_⟩
 rcases List.mem_cons.1 hk with rfl | hk
 ·exact .inr ⟨hr.mono hW.size,fun b hb=>.inr (hn1 b hb)⟩
 rcases List.mem_cons.1 hk with rfl | hk
 ·refine .inr ⟨fun y hy=>?_,fun b hb=>.inr (hn2 b hb)⟩
  obtain ⟨b,e,hb1,hb2⟩:=hg y hy
  exact ⟨b,e,Nat.le_trans hW.size hb1,hb2⟩
 ·rcases hL k hk with rfl | hne
  ·exact .inr ⟨hkn.go (hok _ hmt) h1 h2,fun b hb=>.inl (by rw [hT]; exact kX_bs.2 ⟨_,hmt,hb⟩)⟩
  ·exact .inl ⟨hk,fun b hb hg=>hne (by rw [← List.mem_singleton.1 hg]; exact hb)⟩
theorem gr_starts:∀ {L:List GrN} {i:Nat} (sv:Value) (st:List Int),i < L.length→(grcs L).set (12 * i + 11) sv = grcs (L.set i ⟨(L.getD i gr0).x,sv,st⟩)
 | [],i,sv,st,h=>absurd h (Nat.not_lt_zero _)
 | x :: L,0,sv,st,h=>rfl
 | x :: L,i + 1,sv,st,h=>by
  show (grc x ++ grcs L).set (12 * (i + 1) + 11) _ = grc x ++ grcs (L.set i ⟨(L.getD i gr0).x,sv,st⟩)
  have e:(grc x).length = 12:=rfl
  rw [List.set_append,if_neg (by rw [e]; omega),e,show 12 * (i + 1) + 11 - 12 = 12 * i + 11 by omega,gr_starts sv st (by simpa using h)]
theorem asks_gg {C:Sx.Cx} {S:Sx.St} {K:Sx.St→Prop} {d:Option Nat} {f:FuncId} {L:List Kn} {v tv:Value} {G:List GrN} {T:List Int} {e:Int} (hP:C.P = Tryz.prog) (hE:∀ (l:Array Value) W,(callFunc f l).run Tryz.prog W = .ok (.enter f l) W)
  (hf:∀ {w:World} {v tv:Value} {G:List GrN} {T:List Int} {e:Int},SlG w v G→SlZ w .i64 tv T→I64 e→8 * T.length≤140737488351232→Calls Tryz.prog f #[v,.int .i64 e,tv] w (ZlB w (gpr G e T (un e)).1 (gpr G e T (un e)).2)) (hT:S.T = kX C.w0.heap.size L)
  (h:∀ W,Below C.w0.heap.size C.w0 W→(∀ k∈L,k.ok C.w0.heap.size W)→SlG W v G∧SlZ W .i64 tv T) (he:I64 e) (hN:8 * T.length≤140737488351232)
  (hk:∀ a c,K (Sx.St.put ⟨S.n,S.E,S.H,kX C.w0.heap.size (.g (wK 2 1 (.slice a (gpr G e T (un e)).1.length c) (gpr G e T (un e)).1.length ((gpr G e T (un e)).1.map (Value.int .i64))) :: L)⟩ d (.v (.tuple #[.slice a (gpr G e T (un e)).1.length c,.int .i64 (gpr G e T (un e)).2])))):asks C f [v,.int .i64 e,tv] d K S :=
 asks_rowB (e:=2) (s:=1) (ι:=Unit) (fun _=>True) (fun _=>(gpr G e T (un e)).1.length) (fun _=>(gpr G e T (un e)).1.map (Value.int .i64)) (fun _ v=>.tuple #[v,.int .i64 (gpr G e T (un e)).2]) (by rw [hP]; exact hE) hT (fun W hW hok=>by
  rw [hP]
  exact (hf (h W hW hok).1 (h W hW hok).2 he hN).mono fun e w' ⟨v,h1,h2,h3⟩=>⟨(),v,trivial,h1,h2,h3⟩) fun _ a c _ _ _ _ _=>hk a c
theorem asks_sm {C:Sx.Cx} {S:Sx.St} {K:Sx.St→Prop} {d:Option Nat} {L:List Kn} {v v':Value} {zs:List Int} (hP:C.P = Tryz.prog) (hT:S.T = kX C.w0.heap.size L) (h1:.g (wK 2 1 v zs.length (zs.map (Value.int .i64)))∈L) (h2:.g (wK 2 1 v' zs.length (zs.map (Value.int .i64)))∈L)
  (hk:K (S.put d (.v (.bool true)))):asks C 25 [v,v'] d K S :=
 asks_ext (fun W hW hok=>by
  rw [hT] at hok
  rw [hP]
  exact gives_known en_r10_Same (rx_same10 (hok _ h1) (hok _ h2))) hk
end Go.Proofs.YtncmmbacoknefaaGreat

/- Pf: pieces: the reference's Step, Finish, All and Same. -/
namespace Go.Proofs.YtncmmbacoknefaaGreat
open Go Go.RowKit Sx
set_option linter.unusedVariables false
set_option linter.unusedSimpArgs false
theorem pcells_1 (ls:List PcV):all1 (pcells ls) = true:=by
 induction ls with
 | nil=>rfl
 | cons x l ih =>
  show all1 (pcell x ++ pcells l) = true
  rw [all1_app,ih]
  rfl
def pstz (s:PcS) (xt xv:Int):Value × List PcV × Int:=if 0 < s.n∧xt≤s.L then (pcZ 0,[],7) else if 1073741824≤s.i + s.n then (pcZ 0,[],3) else (pcv (pcn s xt xv),pce s xt xv,0)
theorem pstz_ok {s:PcS} {xt xv:Int} (h1:¬ (0 < s.n∧xt≤s.L)) (h2:¬ 1073741824≤s.i + s.n):pstz s xt xv = (pcv (pcn s xt xv),pce s xt xv,0):=by
 unfold pstz
 rw [if_neg h1,if_neg h2]
def PtpB (w:World) (r:Value × List PcV × Int) (en:Ending) (w':World):Prop:=∃ v,en = .returned (.tuple #[r.1,v,.int .i64 r.2.2])∧w'.ownsRow w.heap.size 75 24 v r.2.1.length (pcells r.2.1)∧Below w.heap.size w w'
set_option maxRecDepth 100000 in
theorem rx_pcfin {w:World} {s:PcS} (h:PcG s):Calls Tryz.prog 90 #[pcv s] w (PllB w (pcl s) 0):=by
 refine (enterX Tryz.func90 r19_Finish.ok (args:=[pcv s]) (R:=fun u X=>∃ v L,u = .tuple #[v,.int .i64 0]∧X = kX w.heap.size L∧rowOf L 75 24 v (pcl s).length (pcells (pcl s))) (by simp) ?run).mono ?fin
 case fin =>
  rintro e w' ⟨u,X,rfl,⟨v,L,rfl,rfl,hr⟩,hX,hbl,-⟩
  exact ⟨v,rfl,hr.own hX,hbl⟩
 case run =>
  have kv:=fun W=>rx_pcvalid h W
  by_cases hn:0 < s.n
  ·have e:pcl s = [⟨s.i,s.n,s.k,s.c⟩]:=if_pos hn
   rw [e]
   clear e h
   obtain ⟨st,si,sn,sT,sV,sL,sk,⟨o,p,q,p1,q1⟩⟩:=s
   dsimp only at *
   repeat' (first | simp (disch:=omega) only [sxE,r19_Finish.E,Nat.reduceAdd,Nat.reduceEqDiff,Nat.reduceMul,Nat.reduceSub,Int.reduceAdd,Int.reduceSub,Int.reduceMul,Int.reduceNeg,Int.reduceLT,Int.reduceLE,Int.reduceEq,Int.reduceToNat,↓reduceIte,Int.reducePow,Nat.reduceLeDiff,Nat.reduceLT,ne_eq,eq_self,List.length_cons,List.length_nil,qxE,kxE,Bool.not_true,Bool.not_false] | (with_reducible refine Sx.call_at (f:=123) (fun W hW=>kv W) ?_) | (refine genA_w (L:=[]) (cs:=pcell ⟨si,sn,sk,⟨o,p,q,p1,q1⟩⟩) (e:=75) (s:=24) (n:=1) (kX_nil _) (by simp [maxLen]) rfl (fun W=>by kernel_rfl) fun b hb=>?_) | (with_reducible refine cregF ?_))
   exact ⟨_,_,rfl,rfl,.inr (List.mem_singleton.2 rfl)⟩
  ·have e:pcl s = []:=if_neg hn
   rw [e]
   have hz:s.n = 0:=by have:=h.n0; omega
   rw [h.z hz,pcv_y] at kv ⊢
   generalize s.t = t at *
   generalize s.i = i0 at *
   clear e h hn hz
   repeat' (first | simp (disch:=omega) only [sxE,r19_Finish.E,Nat.reduceAdd,Nat.reduceEqDiff,Nat.reduceMul,Nat.reduceSub,Int.reduceAdd,Int.reduceSub,Int.reduceMul,Int.reduceNeg,Int.reduceLT,Int.reduceLE,Int.reduceEq,Int.reduceToNat,↓reduceIte,Int.reducePow,Nat.reduceLeDiff,Nat.reduceLT,ne_eq,eq_self,List.length_cons,List.length_nil,qxE,kxE,Bool.not_true,beq_self_eq_true] | (with_reducible refine Sx.call_at (f:=123) (fun W hW=>kv W) ?_) | (with_reducible refine cregF ?_))
   exact ⟨.slice none 0 0,[],rfl,kX_nil _,.inl ⟨rfl,rfl,rfl⟩⟩
set_option maxRecDepth 100000 in
set_option maxHeartbeats 2000000 in
theorem rx_pcstep {w:World} {s:PcS} {xt xv:Int} (h:PcG s) (hxt:I64 xt) (hxv:I64 xv):Calls Tryz.prog 89 #[pcv s,.agg #[.int .i64 xt,.int .i64 xv]] w (PtpB w (pstz s xt xv)):=by
 refine (enterX Tryz.func89 r19_Step.ok (args:=[pcv s,.agg #[.int .i64 xt,.int .i64 xv]]) (R:=fun u X=>∃ v L,u = .tuple #[(pstz s xt xv).1,v,.int .i64 (pstz s xt xv).2.2]∧X = kX w.heap.size L∧rowOf L 75 24 v (pstz s xt xv).2.1.length (pcells (pstz s xt xv).2.1)) (by simp) ?run).mono ?fin
 case fin =>
  rintro e w' ⟨u,X,rfl,⟨v,L,rfl,rfl,hr⟩,hX,hbl,-⟩
  exact ⟨v,rfl,hr.own hX,hbl⟩
 case run =>
  have kv:=fun W=>rx_pcvalid h W
  obtain ⟨t0,t1⟩:=tolz_iff.1 h.t
  have it:I64 s.t:=⟨by omega,by omega⟩
  have i1:=h.i1
  have i0:=h.i0
  have kb:=fun W=>rx_pcbegin (s:=s) it h.i0 h.i1 h.n0 h.n1 (xt:=xt) hxv W
  have m1:=h.n1
  have m0:=h.n0
  by_cases hn:0 < s.n
  ·by_cases hle:xt≤s.L
   ·have e:pstz s xt xv = (pcZ 0,[],7):=if_pos ⟨hn,hle⟩
    rw [e]
    clear e h kb
    obtain ⟨st,si,sn,sT,sV,sL,sk,⟨o,p,q,p1,q1⟩⟩:=s
    dsimp only at *
    repeat' (first | simp (disch:=omega) only [sxE,r19_Step.E,Nat.reduceAdd,Nat.reduceEqDiff,Nat.reduceMul,Nat.reduceSub,Int.reduceAdd,Int.reduceSub,Int.reduceMul,Int.reduceNeg,Int.reduceLT,Int.reduceLE,Int.reduceEq,Int.reduceToNat,↓reduceIte,Int.reducePow,Nat.reduceLeDiff,Nat.reduceLT,ne_eq,eq_self,List.length_cons,List.length_nil,qxE,kxE,Bool.not_true] | (with_reducible refine Sx.call_at (f:=123) (fun W hW=>kv W) ?_) | (with_reducible refine cregF ?_))
    exact ⟨.slice none 0 0,[],rfl,kX_nil _,.inl ⟨rfl,rfl,rfl⟩⟩
   ·by_cases hmax:1073741824≤s.i + s.n
    ·have e:pstz s xt xv = (pcZ 0,[],3):=by unfold pstz; rw [if_neg (fun h=>hle h.2),if_pos hmax]
     rw [e]
     clear e h kb
     obtain ⟨st,si,sn,sT,sV,sL,sk,⟨o,p,q,p1,q1⟩⟩:=s
     dsimp only at *
     repeat' (first | simp (disch:=omega) only [sxE,r19_Step.E,Nat.reduceAdd,Nat.reduceEqDiff,Nat.reduceMul,Nat.reduceSub,Int.reduceAdd,Int.reduceSub,Int.reduceMul,Int.reduceNeg,Int.reduceLT,Int.reduceLE,Int.reduceEq,Int.reduceToNat,↓reduceIte,Int.reducePow,Nat.reduceLeDiff,Nat.reduceLT,ne_eq,eq_self,List.length_cons,List.length_nil,qxE,kxE,Bool.not_true] | (with_reducible refine Sx.call_at (f:=123) (fun W hW=>kv W) ?_) | (with_reducible refine cregF ?_))
     exact ⟨.slice none 0 0,[],rfl,kX_nil _,.inl ⟨rfl,rfl,rfl⟩⟩
    ·rw [pstz_ok (fun h=>hle h.2) hmax]
     have hc:=h.c hn
     have iT:=h.T
     have hk:=h.k hn
     have hz:ab (s.k * un s.t) < 73786976294838206464:=by rw [hk]; exact ke_small h.V t0 t1
     have iK:I64 s.k:=by rw [hk]; exact ke_i64 h.V
     have fi:∀ W,Calls Tryz.prog 90 #[pcv s] W (PllB W (pcl s) 0):=fun W=>rx_pcfin h
     have hTL:s.T≤s.L:=by
      by_cases h1:s.n = 1
      ·exact Int.le_of_eq (h.one h1).1.symm
      ·exact Int.le_of_lt (h.more (by omega)).1
     have hx:s.T < xt:=by omega
     clear h hk
     obtain ⟨st,si,sn,sT,sV,sL,sk,⟨o,p,q,p1,q1⟩⟩:=s
     dsimp only at *
     have d1:=fun W=>rx_sdist hxt iT (Int.le_of_lt hx) W
     have o1:=fun W=>rx_base iK it W
     have fz:Fits (sk * un st):=(bd_mul (bd_i64 iK) (bd_i64 (un_i64 it))).fits
     have iDt:U64 (xt - sT):=⟨by omega,by have:=hxt.2; have:=iT.1; omega⟩
     have th:=fun W=>rx_through fz.rw hxv ⟨by omega,by omega⟩ iDt (eps:=st) W
     rw [thV_yes hz t0 t1 (by omega)] at th
     have tp:=th_p hz hxv ⟨t0,t1⟩ iDt (by omega)
     have mt:=fun W=>rx_meet (kv_ok hc) (kv_ok tp.cl.ok) W
     have hsm:pcm ⟨st,si,sn,sT,sV,sL,sk,⟨o,p,q,p1,q1⟩⟩ xt xv = cmt ⟨o,p,q,p1,q1⟩ ⟨false,mn (xv - sk * un st - st) (xt - sT),mD (xv - sk * un st - st) (xt - sT),mn (xv - sk * un st + st) (xt - sT),mD (xv - sk * un st + st) (xt - sT)⟩:=rfl
     unfold mtV mtv at mt
     rw [Bool.true_and,if_pos rfl] at mt
     have hE1:pcn ⟨st,si,sn,sT,sV,sL,sk,⟨o,p,q,p1,q1⟩⟩ xt xv = if pcg ⟨st,si,sn,sT,sV,sL,sk,⟨o,p,q,p1,q1⟩⟩ xt xv = true then ⟨st,si,sn + 1,sT,sV,xt,sk,(pcm ⟨st,si,sn,sT,sV,sL,sk,⟨o,p,q,p1,q1⟩⟩ xt xv).1⟩ else pcb st (si + sn) xt xv:=rfl
     have hE2:pce ⟨st,si,sn,sT,sV,sL,sk,⟨o,p,q,p1,q1⟩⟩ xt xv = if pcg ⟨st,si,sn,sT,sV,sL,sk,⟨o,p,q,p1,q1⟩⟩ xt xv = true then [] else pcl ⟨st,si,sn,sT,sV,sL,sk,⟨o,p,q,p1,q1⟩⟩:=rfl
     have hE3:pcg ⟨st,si,sn,sT,sV,sL,sk,⟨o,p,q,p1,q1⟩⟩ xt xv = (pcm ⟨st,si,sn,sT,sV,sL,sk,⟨o,p,q,p1,q1⟩⟩ xt xv).2:=by unfold pcg; rw [decide_eq_true hn,Bool.true_and]
     have hE4:pcl ⟨st,si,sn,sT,sV,sL,sk,⟨o,p,q,p1,q1⟩⟩ = [⟨si,sn,sk,⟨o,p,q,p1,q1⟩⟩]:=if_pos hn
     rw [hE4] at hE2 fi
     rw [hsm] at hE1 hE3
     clear tp hsm hE4
     generalize sk * un st = B0 at *
     generalize mn (xv - B0 - st) (xt - sT) = a1 at *
     generalize mD (xv - B0 - st) (xt - sT) = a2 at *
     generalize mn (xv - B0 + st) (xt - sT) = a3 at *
     generalize mD (xv - B0 + st) (xt - sT) = a4 at *
     generalize cmt ⟨o,p,q,p1,q1⟩ ⟨false,a1,a2,a3,a4⟩ = M at *
     obtain ⟨⟨mo,mp,mq,mp1,mq1⟩,mb⟩:=M
     dsimp only at hE1 hE3 mt
     have mt:∀ W,Gives Tryz.prog 45 [KX o p q p1 q1,KX false a1 a2 a3 a4] W (· = .tuple #[KX mo mp mq mp1 mq1,.bool mb]):=mt
     cases mb
     ·rw [if_neg (by rw [hE3]; decide)] at hE1 hE2
      rw [hE1,hE2]
      clear hE1 hE2 hE3 hc hTL
      repeat' (first | simp (disch:=omega) only [sxE,r19_Step.E,Nat.reduceAdd,Nat.reduceEqDiff,Nat.reduceMul,Nat.reduceSub,Int.reduceAdd,Int.reduceSub,Int.reduceMul,Int.reduceNeg,Int.reduceLT,Int.reduceLE,Int.reduceEq,Int.reduceToNat,↓reduceIte,Int.reducePow,Nat.reduceLeDiff,Nat.reduceLT,ne_eq,eq_self,List.length_cons,List.length_nil,qxE,kxE,Bool.not_true,Bool.not_false] | (with_reducible refine Sx.call_at (f:=123) (fun W hW=>kv W) ?_) | (with_reducible refine Sx.call_at (f:=41) (fun W hW=>o1 W) ?_) | (with_reducible refine Sx.call_at (f:=42) (fun W hW=>d1 W) ?_) | (with_reducible refine Sx.call_at (f:=40) (fun W hW=>th W) ?_) | (with_reducible refine Sx.call_at (f:=45) (fun W hW=>mt W) ?_) | (with_reducible refine cregF ?_))
      refine asks_rowB (L:=[]) (e:=75) (s:=24) (ι:=Unit) (fun _=>True) (fun _=>1) (fun _=>pcell ⟨si,sn,sk,⟨o,p,q,p1,q1⟩⟩) (fun _ v=>.tuple #[v,.int .i64 0]) en_r19_Finish (kX_nil _) (fun W hW hok=>?_) ?_
      ·refine (fi W).mono ?_
       rintro e w' ⟨v,q1,q2,q3⟩
       rw [pcells_one] at q2
       exact ⟨(),v,trivial,q1,q2,q3⟩
      rintro - a5 c5 - - - - -
      repeat' (first | simp (disch:=omega) only [sxE,r19_Step.E,Nat.reduceAdd,Nat.reduceEqDiff,Nat.reduceMul,Nat.reduceSub,Int.reduceAdd,Int.reduceSub,Int.reduceMul,Int.reduceNeg,Int.reduceLT,Int.reduceLE,Int.reduceEq,Int.reduceToNat,↓reduceIte,Int.reducePow,Nat.reduceLeDiff,Nat.reduceLT,ne_eq,eq_self,List.length_cons,List.length_nil,qxE,kxE,Bool.not_true,Bool.not_false] | (with_reducible refine Sx.call_at (f:=145) (fun W hW=>kb W) ?_) | (with_reducible refine cregF ?_))
      exact ⟨_,_,rfl,rfl,.inr (List.mem_singleton.2 rfl)⟩
     ·rw [if_pos hE3] at hE1 hE2
      rw [hE1,hE2]
      clear hE1 hE2 hE3 hc hTL fi kb
      repeat' (first | simp (disch:=omega) only [sxE,r19_Step.E,Nat.reduceAdd,Nat.reduceEqDiff,Nat.reduceMul,Nat.reduceSub,Int.reduceAdd,Int.reduceSub,Int.reduceMul,Int.reduceNeg,Int.reduceLT,Int.reduceLE,Int.reduceEq,Int.reduceToNat,↓reduceIte,Int.reducePow,Nat.reduceLeDiff,Nat.reduceLT,ne_eq,eq_self,List.length_cons,List.length_nil,qxE,kxE,Bool.not_true,Bool.not_false] | (with_reducible refine Sx.call_at (f:=123) (fun W hW=>kv W) ?_) | (with_reducible refine Sx.call_at (f:=41) (fun W hW=>o1 W) ?_) | (with_reducible refine Sx.call_at (f:=42) (fun W hW=>d1 W) ?_) | (with_reducible refine Sx.call_at (f:=40) (fun W hW=>th W) ?_) | (with_reducible refine Sx.call_at (f:=45) (fun W hW=>mt W) ?_) | (with_reducible refine cregF ?_))
      exact ⟨.slice none 0 0,[],rfl,kX_nil _,.inl ⟨rfl,rfl,rfl⟩⟩
  ·have hz:s.n = 0:=by omega
   by_cases hmax:1073741824≤s.i + s.n
   ·have e:pstz s xt xv = (pcZ 0,[],3):=by unfold pstz; rw [if_neg (fun h=>hn h.1),if_pos hmax]
    rw [e]
    rw [h.z hz,pcv_y] at kv ⊢
    rw [hz] at hmax
    generalize s.t = t at *
    generalize s.i = i at *
    clear e h hn hz m0 m1 kb
    repeat' (first | simp (disch:=omega) only [sxE,r19_Step.E,Nat.reduceAdd,Nat.reduceEqDiff,Nat.reduceMul,Nat.reduceSub,Int.reduceAdd,Int.reduceSub,Int.reduceMul,Int.reduceNeg,Int.reduceLT,Int.reduceLE,Int.reduceEq,Int.reduceToNat,↓reduceIte,Int.reducePow,Nat.reduceLeDiff,Nat.reduceLT,ne_eq,eq_self,List.length_cons,List.length_nil,qxE,kxE,Bool.not_true,beq_self_eq_true] | (with_reducible refine Sx.call_at (f:=123) (fun W hW=>kv W) ?_) | (with_reducible refine cregF ?_))
    exact ⟨.slice none 0 0,[],rfl,kX_nil _,.inl ⟨rfl,rfl,rfl⟩⟩
   have e:pstz s xt xv = (pcv (pcb s.t (s.i + s.n) xt xv),[],0):=by
    have eg:pcg s xt xv = false:=by unfold pcg; rw [decide_eq_false hn]; rfl
    rw [pstz_ok (fun h=>hn h.1) hmax]
    unfold pcn pce pcl
    rw [eg,if_neg (by decide),if_neg (by decide),if_neg hn]
   rw [e]
   rw [hz] at hmax
   have ez:s.i + s.n = s.i + 0:=by rw [hz]
   rw [ez] at kb ⊢
   rw [h.z hz,pcv_y] at kv kb ⊢
   generalize s.t = t at *
   generalize s.i = i at *
   clear e h hn hz m0 m1 ez
   repeat' (first | simp (disch:=omega) only [sxE,r19_Step.E,Nat.reduceAdd,Nat.reduceEqDiff,Nat.reduceMul,Nat.reduceSub,Int.reduceAdd,Int.reduceSub,Int.reduceMul,Int.reduceNeg,Int.reduceLT,Int.reduceLE,Int.reduceEq,Int.reduceToNat,↓reduceIte,Int.reducePow,Nat.reduceLeDiff,Nat.reduceLT,ne_eq,eq_self,List.length_cons,List.length_nil,qxE,kxE,Bool.not_true,beq_self_eq_true] | (with_reducible refine Sx.call_at (f:=123) (fun W hW=>kv W) ?_) | (with_reducible refine Sx.call_at (f:=145) (fun W hW=>kb W) ?_) | (with_reducible refine cregF ?_))
   exact ⟨.slice none 0 0,[],rfl,kX_nil _,.inl ⟨rfl,rfl,rfl⟩⟩
set_option maxRecDepth 100000 in
set_option maxHeartbeats 2000000 in
theorem rx_pcall {w:World} {v:Value} {ss:Smps} {t:Int} (h:SlS w v ss) (hi:I64 t) (hn:8 * ss.length≤140737488355328):Calls Tryz.prog 31 #[v,.int .i64 t] w (PllB w (piecz t ss) (perz t ss)):=by
 obtain ⟨a,cap,rfl,h1,h2,h3,h4⟩:=id h
 have h2':=h2
 simp only [maxLen] at h2'
 refine (enterX Tryz.func31 r19_All.ok (args:=[.slice a ss.length cap,.int .i64 t]) (R:=fun u X=>∃ v L,u = .tuple #[v,.int .i64 (perz t ss)]∧X = kX w.heap.size L∧rowOf L 75 24 v (piecz t ss).length (pcells (piecz t ss))) (by simp) ?run).mono ?fin
 case fin =>
  rintro e w' ⟨u,X,rfl,⟨v,L,rfl,rfl,hr⟩,hX,hbl,-⟩
  exact ⟨v,rfl,hr.own hX,hbl⟩
 case run =>
  have k1:=fun W=>rx_pcstart hi W
  have c1:∀ W,Below w.heap.size w W→Gives Tryz.prog 71 [.slice a ss.length cap] W (· = .int .i64 (if incr ss then 0 else 7)):=fun W hW=>gives_known en_r12_Check (r_check (SlS.below h hW) hn)
  by_cases ht:tolz t = true
  ·rw [if_pos ht] at k1
   by_cases hinc:incr ss = true
   ·rw [if_pos hinc] at c1
    by_cases hl:ss.length≤1073741824
    ·obtain ⟨e1,e2⟩:=perz_ok ht hinc hl
     rw [e1,e2]
     clear e1 e2
     repeat' (first | simp (disch:=omega) only [sxE,r19_All.E,Nat.reduceAdd,Nat.reduceEqDiff,Nat.reduceMul,Nat.reduceSub,Int.reduceAdd,Int.reduceSub,Int.reduceMul,Int.reduceNeg,Int.reduceLT,Int.reduceLE,Int.reduceEq,Int.reduceToNat,↓reduceIte,Int.reducePow,Nat.reduceLeDiff,Nat.reduceLT,ne_eq,eq_self,List.length_cons,List.length_nil,qxE] | (with_reducible refine Sx.call_at (f:=58) (fun W hW=>k1 W) ?_) | (with_reducible refine cregF ?_))
     refine asks_at (fun W hW=>c1 W hW) ?_
     repeat' (first | simp (disch:=omega) only [sxE,r19_All.E,Nat.reduceAdd,Nat.reduceEqDiff,Nat.reduceMul,Nat.reduceSub,Int.reduceAdd,Int.reduceSub,Int.reduceMul,Int.reduceNeg,Int.reduceLT,Int.reduceLE,Int.reduceEq,Int.reduceToNat,↓reduceIte,Int.reducePow,Nat.reduceLeDiff,Nat.reduceLT,ne_eq,eq_self,List.length_cons,List.length_nil,qxE] | (with_reducible refine cregF ?_))
     rw [r19_All.p3_l]
     have HI:=fun i hi=>pci_at ht h3 hinc i hi
     have t01:=tolz_iff.1 ht
     refine LX_inv (fun x:Nat × Value=>⟨1,[(0,.v (.slice a ss.length cap)),(6,.p 0 0),(8,.v x.2),(9,.v (.int .i64 (x.1:Int)))],[(0,[.int .i64 (pcf t (ss.take x.1)).1.t,.int .i64 (pcf t (ss.take x.1)).1.i,.int .i64 (pcf t (ss.take x.1)).1.n,.int .i64 (pcf t (ss.take x.1)).1.T,.int .i64 (pcf t (ss.take x.1)).1.V,.int .i64 (pcf t (ss.take x.1)).1.L,.int .i64 (pcf t (ss.take x.1)).1.k,.bool (pcf t (ss.take x.1)).1.c.o,.bool (sg (pcf t (ss.take x.1)).1.c.p),.int .u64 (lb0 (ab (pcf t (ss.take x.1)).1.c.p)),.int .u64 (lb1 (ab (pcf t (ss.take x.1)).1.c.p)),.int .u64 (lb2 (ab (pcf t (ss.take x.1)).1.c.p)),.int .u64 (lb3 (ab (pcf t (ss.take x.1)).1.c.p)),.bool (sg (pcf t (ss.take x.1)).1.c.q),.int .u64 (lb0 (ab (pcf t (ss.take x.1)).1.c.q)),.int .u64 (lb1 (ab (pcf t (ss.take x.1)).1.c.q)),.int .u64 (lb2 (ab (pcf t (ss.take x.1)).1.c.q)),.int .u64 (lb3 (ab (pcf t (ss.take x.1)).1.c.q)),.bool (sg (pcf t (ss.take x.1)).1.c.p1),.int .u64 (lb0 (ab (pcf t (ss.take x.1)).1.c.p1)),.int .u64 (lb1 (ab (pcf t (ss.take x.1)).1.c.p1)),.int .u64 (lb2 (ab (pcf t (ss.take x.1)).1.c.p1)),.int .u64 (lb3 (ab (pcf t (ss.take x.1)).1.c.p1)),.bool (sg (pcf t (ss.take x.1)).1.c.q1),.int .u64 (lb0 (ab (pcf t (ss.take x.1)).1.c.q1)),.int .u64 (lb1 (ab (pcf t (ss.take x.1)).1.c.q1)),.int .u64 (lb2 (ab (pcf t (ss.take x.1)).1.c.q1)),.int .u64 (lb3 (ab (pcf t (ss.take x.1)).1.c.q1))])],kX w.heap.size [.g (wK 75 24 x.2 (pcf t (ss.take x.1)).2.length (pcells (pcf t (ss.take x.1)).2))]⟩) (fun x=>x.1≤ss.length) (fun x=>ss.length - x.1) ?round (0,.slice none 0 0) (Nat.zero_le _) ?start
     case start =>
      have c0:((0:Nat):Int) = 0:=rfl
      simp (disch:=omega) only [sxE,r19_All.E,Nat.reduceAdd,Nat.reduceEqDiff,Nat.reduceMul,Nat.reduceSub,Int.reduceAdd,Int.reduceSub,Int.reduceMul,Int.reduceNeg,Int.reduceLT,Int.reduceLE,Int.reduceEq,Int.reduceToNat,↓reduceIte,Int.reducePow,Nat.reduceLeDiff,Nat.reduceLT,ne_eq,eq_self,List.length_cons,List.length_nil,c0]
      refine ⟨?_,?_⟩
      ·exact (congrArg (fun v:Value=>v.cells.toList) (pcv_0 t)).symm
      ·rw [kX_nil w.heap.size]
       refine extS_of (L:=[]) fun k hk=>?_
       rw [List.mem_singleton.1 hk]
       exact .inr ⟨rfl,fun W=>wK_nil _ _ _ W⟩
     case round =>
      rintro ⟨i,v⟩ hi'
      try dsimp only at hi' ⊢
      by_cases hlt:i < ss.length
      ·obtain ⟨b',off,rfl,-,-⟩:=h4 (by omega)
       have hsi:=HI i hi'
       have hnx:=pci_next hsi ht hlt h3 hinc
       have enx:pcf t (ss.take (i + 1)) = pca (pcf t (ss.take i)) (ss.getD i (0,0)):=by rw [take_snoc' hlt,pcf_snoc]
       have hx:=smp_i64 h3 i
       have e0:(i:Int) + 1 = ((i + 1:Nat):Int):=by omega
       have hG:=pci_g hsi ht (by omega)
       have hord:¬ (0 < (pcf t (ss.take i)).1.n∧(ss.getD i (0,0)).1≤(pcf t (ss.take i)).1.L):=fun ⟨q1,q2⟩=>by
        have hi0:0 < i:=by have:=hsi.n1; omega
        have q3:=(hsi.l hi0).2
        have q4:=of_decide_eq_true hinc (i - 1) (by omega)
        rw [show i - 1 + 1 = i by omega] at q4
        omega
       have hz:=pstz_ok (xv:=(ss.getD i (0,0)).2) hord (by have:=hsi.ix; omega)
       have hlen:=hnx.1.len
       rw [← enx] at hlen
       clear hord hnx
       rw [enx] at hlen
       unfold pca at hlen enx
       generalize hA:pcf t (ss.take i) = A at *
       obtain ⟨⟨st,si,sn,sT,sV,sL,sk,⟨o,p,q,p1,q1⟩⟩,ls⟩:=A
       clear hA h3 h4 hsi
       dsimp only at hG hlen enx hz ⊢
       rw [List.length_append] at hlen
       repeat' (first | simp (disch:=omega) only [sxE,r19_All.E,Nat.reduceAdd,Nat.reduceEqDiff,Nat.reduceMul,Nat.reduceSub,Int.reduceAdd,Int.reduceSub,Int.reduceMul,Int.reduceNeg,Int.reduceLT,Int.reduceLE,Int.reduceEq,Int.reduceToNat,↓reduceIte,Int.reducePow,Nat.reduceLeDiff,Nat.reduceLT,ne_eq,eq_self,List.length_cons,List.length_nil,qxE] | (with_reducible refine ldP_blk b' ?_; refine ldP_S2 i h ?_ ?_ ?_; omega; omega) | (with_reducible refine cregF ?_))
       refine asks_rowB (L:=[.g (wK 75 24 v ls.length (pcells ls))]) (e:=75) (s:=24) (ι:=Unit) (fun _=>True) (fun _=>(pce ⟨st,si,sn,sT,sV,sL,sk,⟨o,p,q,p1,q1⟩⟩ (ss.getD i (0,0)).1 (ss.getD i (0,0)).2).length) (fun _=>pcells (pce ⟨st,si,sn,sT,sV,sL,sk,⟨o,p,q,p1,q1⟩⟩ (ss.getD i (0,0)).1 (ss.getD i (0,0)).2)) (fun _ v=>.tuple #[pcv (pcn ⟨st,si,sn,sT,sV,sL,sk,⟨o,p,q,p1,q1⟩⟩ (ss.getD i (0,0)).1 (ss.getD i (0,0)).2),v,.int .i64 0]) en_r19_Step rfl (fun W hW hok=>?_) ?_
       ·have:=rx_pcstep (w:=W) hG hx.1 hx.2
        rw [hz] at this
        exact this.mono fun e w' ⟨v,h1,h2,h3⟩=>⟨(),v,trivial,h1,h2,h3⟩
       rintro - a2 c2 - - - - -
       generalize pce ⟨st,si,sn,sT,sV,sL,sk,⟨o,p,q,p1,q1⟩⟩ (ss.getD i (0,0)).1 (ss.getD i (0,0)).2 = es at *
       generalize pcn ⟨st,si,sn,sT,sV,sL,sk,⟨o,p,q,p1,q1⟩⟩ (ss.getD i (0,0)).1 (ss.getD i (0,0)).2 = s' at *
       clear hz hG hx
       obtain ⟨st',si',sn',sT',sV',sL',sk',⟨o',p',q',p1',q1'⟩⟩:=s'
       repeat' (first | simp (disch:=omega) only [sxE,r19_All.E,Nat.reduceAdd,Nat.reduceEqDiff,Nat.reduceMul,Nat.reduceSub,Int.reduceAdd,Int.reduceSub,Int.reduceMul,Int.reduceNeg,Int.reduceLT,Int.reduceLE,Int.reduceEq,Int.reduceToNat,↓reduceIte,Int.reducePow,Nat.reduceLeDiff,Nat.reduceLT,ne_eq,eq_self,List.length_cons,List.length_nil,qxE] | (refine genA_appR rfl [] elt_piece rfl (.inr (List.mem_cons_of_mem _ List.mem_cons_self)) (.inr List.mem_cons_self) (.inl fun _ h=>h) (pcells_1 _) (by simp only [maxLen]; omega) (by omega) (fun k hk=>by cases hk) fun a3 c3 _ _ _ _=>?_) | (with_reducible refine cregF ?_))
       rw [e0]
       refine ⟨(i + 1,.slice a3 (ls.length + es.length) c3),by dsimp only; omega,by dsimp only; omega,⟨rfl,rfl⟩,?_,.inl ?_⟩
       ·dsimp only
        rw [enx]
       ·dsimp only
        rw [enx]
        dsimp only
        rw [List.length_append,pcells_app]
      ·obtain rfl:i = ss.length:=by omega
       have hsi:=HI _ (Nat.le_refl _)
       rw [List.take_length] at hsi ⊢
       have hG:=pci_g hsi ht hl
       have hlen:=hsi.len
       have hll:=pcl_len (pcf t ss).1
       unfold pcall
       generalize hA:pcf t ss = A at *
       obtain ⟨⟨st,si,sn,sT,sV,sL,sk,⟨o,p,q,p1,q1⟩⟩,ls⟩:=A
       clear hA h3 h4 hsi
       dsimp only at hG hlen hll ⊢
       repeat' (first | simp (disch:=omega) only [sxE,r19_All.E,Nat.reduceAdd,Nat.reduceEqDiff,Nat.reduceMul,Nat.reduceSub,Int.reduceAdd,Int.reduceSub,Int.reduceMul,Int.reduceNeg,Int.reduceLT,Int.reduceLE,Int.reduceEq,Int.reduceToNat,↓reduceIte,Int.reducePow,Nat.reduceLeDiff,Nat.reduceLT,ne_eq,eq_self,List.length_cons,List.length_nil,qxE] | (with_reducible refine cregF ?_))
       refine asks_rowB (L:=[.g (wK 75 24 v ls.length (pcells ls))]) (e:=75) (s:=24) (ι:=Unit) (fun _=>True) (fun _=>(pcl ⟨st,si,sn,sT,sV,sL,sk,⟨o,p,q,p1,q1⟩⟩).length) (fun _=>pcells (pcl ⟨st,si,sn,sT,sV,sL,sk,⟨o,p,q,p1,q1⟩⟩)) (fun _ v=>.tuple #[v,.int .i64 0]) en_r19_Finish rfl (fun W hW hok=>?_) ?_
       ·exact (rx_pcfin (w:=W) hG).mono fun e w' ⟨v,h1,h2,h3⟩=>⟨(),v,trivial,h1,h2,h3⟩
       rintro - a2 c2 - - - - -
       generalize pcl ⟨st,si,sn,sT,sV,sL,sk,⟨o,p,q,p1,q1⟩⟩ = es at *
       clear hG
       repeat' (first | simp (disch:=omega) only [sxE,r19_All.E,Nat.reduceAdd,Nat.reduceEqDiff,Nat.reduceMul,Nat.reduceSub,Int.reduceAdd,Int.reduceSub,Int.reduceMul,Int.reduceNeg,Int.reduceLT,Int.reduceLE,Int.reduceEq,Int.reduceToNat,↓reduceIte,Int.reducePow,Nat.reduceLeDiff,Nat.reduceLT,ne_eq,eq_self,List.length_cons,List.length_nil,qxE] | (refine genA_appR rfl [] elt_piece rfl (.inr (List.mem_cons_of_mem _ List.mem_cons_self)) (.inr List.mem_cons_self) (.inl fun _ h=>h) (pcells_1 _) (by simp only [maxLen]; omega) (by omega) (fun k hk=>by cases hk) fun a3 c3 _ _ _ _=>?_) | (with_reducible refine cregF ?_))
       refine ⟨_,_,rfl,rfl,.inr ?_⟩
       rw [List.length_append,pcells_app]
       exact List.mem_singleton.2 rfl
    ·obtain ⟨e1,e2⟩:=perz_lim ht hinc hl
     rw [e1,e2]
     clear e1 e2
     repeat' (first | simp (disch:=omega) only [sxE,r19_All.E,Nat.reduceAdd,Nat.reduceEqDiff,Nat.reduceMul,Nat.reduceSub,Int.reduceAdd,Int.reduceSub,Int.reduceMul,Int.reduceNeg,Int.reduceLT,Int.reduceLE,Int.reduceEq,Int.reduceToNat,↓reduceIte,Int.reducePow,Nat.reduceLeDiff,Nat.reduceLT,ne_eq,eq_self,List.length_cons,List.length_nil,qxE] | (with_reducible refine Sx.call_at (f:=58) (fun W hW=>k1 W) ?_) | (with_reducible refine cregF ?_))
     refine asks_at (fun W hW=>c1 W hW) ?_
     repeat' (first | simp (disch:=omega) only [sxE,r19_All.E,Nat.reduceAdd,Nat.reduceEqDiff,Nat.reduceMul,Nat.reduceSub,Int.reduceAdd,Int.reduceSub,Int.reduceMul,Int.reduceNeg,Int.reduceLT,Int.reduceLE,Int.reduceEq,Int.reduceToNat,↓reduceIte,Int.reducePow,Nat.reduceLeDiff,Nat.reduceLT,ne_eq,eq_self,List.length_cons,List.length_nil,qxE] | (with_reducible refine cregF ?_))
     exact ⟨.slice none 0 0,[],rfl,kX_nil _,.inl ⟨rfl,rfl,rfl⟩⟩
   ·obtain ⟨e1,e2⟩:=perz_inc ht (Bool.eq_false_iff.2 hinc)
    rw [if_neg hinc] at c1
    rw [e1,e2]
    clear e1 e2
    repeat' (first | simp (disch:=omega) only [sxE,r19_All.E,Nat.reduceAdd,Nat.reduceEqDiff,Nat.reduceMul,Nat.reduceSub,Int.reduceAdd,Int.reduceSub,Int.reduceMul,Int.reduceNeg,Int.reduceLT,Int.reduceLE,Int.reduceEq,Int.reduceToNat,↓reduceIte,Int.reducePow,Nat.reduceLeDiff,Nat.reduceLT,ne_eq,eq_self,List.length_cons,List.length_nil,qxE] | (with_reducible refine Sx.call_at (f:=58) (fun W hW=>k1 W) ?_) | (with_reducible refine cregF ?_))
    refine asks_at (fun W hW=>c1 W hW) ?_
    repeat' (first | simp (disch:=omega) only [sxE,r19_All.E,Nat.reduceAdd,Nat.reduceEqDiff,Nat.reduceMul,Nat.reduceSub,Int.reduceAdd,Int.reduceSub,Int.reduceMul,Int.reduceNeg,Int.reduceLT,Int.reduceLE,Int.reduceEq,Int.reduceToNat,↓reduceIte,Int.reducePow,Nat.reduceLeDiff,Nat.reduceLT,ne_eq,eq_self,List.length_cons,List.length_nil,qxE] | (with_reducible refine cregF ?_))
    exact ⟨.slice none 0 0,[],rfl,kX_nil _,.inl ⟨rfl,rfl,rfl⟩⟩
  ·obtain ⟨e1,e2⟩:=perz_tol (ss:=ss) (Bool.eq_false_iff.2 ht)
   rw [if_neg ht] at k1
   rw [e1,e2]
   clear e1 e2
   repeat' (first | simp (disch:=omega) only [sxE,r19_All.E,Nat.reduceAdd,Nat.reduceEqDiff,Nat.reduceMul,Nat.reduceSub,Int.reduceAdd,Int.reduceSub,Int.reduceMul,Int.reduceNeg,Int.reduceLT,Int.reduceLE,Int.reduceEq,Int.reduceToNat,↓reduceIte,Int.reducePow,Nat.reduceLeDiff,Nat.reduceLT,ne_eq,eq_self,List.length_cons,List.length_nil,qxE] | (with_reducible refine Sx.call_at (f:=58) (fun W hW=>k1 W) ?_) | (with_reducible refine cregF ?_))
   exact ⟨.slice none 0 0,[],rfl,kX_nil _,.inl ⟨rfl,rfl,rfl⟩⟩
end Go.Proofs.YtncmmbacoknefaaGreat

/- Open: Opening arguments that are structs: samples and Wides. -/
namespace Go.Proofs.YtncmmbacoknefaaGreat
open Go.ChangeShapes Go.WideShapes Go.ChangeAt Go.RowKit
set_option linter.unusedVariables false
set_option linter.unusedSimpArgs false
section
variable {H:Type} {enc:TypeId × Value→H} {P:Program}
theorem list5 {l:List Value} (h:l.length = 5):∃ x y z u v,l = [x,y,z,u,v]:=by
 match l,h with
 | [x,y,z,u,v],_=>exact ⟨x,y,z,u,v,rfl⟩
theorem list10 {l:List Value} (h:l.length = 10):∃ a b c d e x y z u v,l = [a,b,c,d,e,x,y,z,u,v]:=by
 match l,h with
 | [a,b,c,d,e,x,y,z,u,v],_=>exact ⟨a,b,c,d,e,x,y,z,u,v,rfl⟩
theorem cells_wid {t e:TypeId} {f0 f1:Field} {n:Nat} {y:DataW H} {l:List Value} {W:World} (ht:P.underlying t = some (.struct #[f0,f1])) (k0:P.underlying f0.type = some .bool) (k1:P.underlying f1.type = some (.array 4 e)) (ke:P.underlying e = some (.int .u64)) (o0:f0.offset = 0) (o1:f1.offset = 1)
  (c0:P.cellsOf f0.type = 1) (c1:P.cellsOf f1.type = 4) (ce:P.cellsOf e = 1) (hl:l.length = 5) {ps:List MemPlace} (hf:DataW.trod enc P W 0 (fun _=>true) true n t l = some (y,ps)):∃ nb a b c d',l = [.bool nb,.int .u64 a,.int .u64 b,.int .u64 c,.int .u64 d']∧U64 a∧U64 b∧U64 c∧U64 d':=by
 obtain ⟨y0,y1,m0,_,hlen,e0,e1⟩:=trod_struct2 ht hf
 obtain ⟨x,y',z,u,v,rfl⟩:=list5 hl
 rw [o0,c0] at e0
 rw [o1,c1] at e1
 obtain ⟨nb,en,-⟩:=DataW.trod_bool k0 e0
 have e1':DataW.trod enc P W 0 (fun _=>true) true m0 f1.type [y',z,u,v] = some y1:=by simpa [Value.cells] using e1
 obtain ⟨z0,z1,z2,z3,m,_,g0,g1,g2,g3⟩:=trod_array4 k1 ce e1'
 obtain ⟨a0,r0,-,w0⟩:=DataW.trod_int ke g0
 obtain ⟨a1,r1,-,w1⟩:=DataW.trod_int ke g1
 obtain ⟨a2,r2,-,w2⟩:=DataW.trod_int ke g2
 obtain ⟨a3,r3,-,w3⟩:=DataW.trod_int ke g3
 simp [Value.cells] at en r0 r1 r2 r3
 subst en; subst r0; subst r1; subst r2; subst r3
 exact ⟨nb,a0,a1,a2,a3,rfl,U64.of_wf w0,U64.of_wf w1,U64.of_wf w2,U64.of_wf w3⟩
end
end Go.Proofs.YtncmmbacoknefaaGreat

/- OpK: Opening arguments that are cones. -/
namespace Go.Proofs.YtncmmbacoknefaaGreat
open Go.ChangeShapes Go.WideShapes Go.ChangeAt Go.RowKit
set_option linter.unusedVariables false
set_option linter.unusedSimpArgs false
section
variable {H:Type} {enc:TypeId × Value→H}
set_option maxRecDepth 100000 in
theorem cells_rat {l:List Value} {n:Nat} {y:DataW H} {W:World} (hl:l.length = 10) {ps:List MemPlace} (hf:DataW.trod enc Tryz.prog W 0 (fun _=>true) true n 39 l = some (y,ps)) :
  ∃ n a b c d' n1 a1 b1 c1 d1,l = [.bool n,.int .u64 a,.int .u64 b,.int .u64 c,.int .u64 d',.bool n1,.int .u64 a1,.int .u64 b1,.int .u64 c1,.int .u64 d1]∧(U64 a∧U64 b∧U64 c∧U64 d')∧(U64 a1∧U64 b1∧U64 c1∧U64 d1):=by
 obtain ⟨y0,y1,n,_,hlen,e0,e1⟩:=trod_struct2 Tryz.underlying39 hf
 have cw:Tryz.prog.cellsOf 37 = 5:=by kernel_rfl
 obtain ⟨a0,a1,a2,a3,a4,a5,a6,a7,a8,a9,rfl⟩:=list10 hl
 simp only [cw] at e0 e1
 have e0':DataW.trod enc Tryz.prog W 0 (fun _=>true) true n 37 [a0,a1,a2,a3,a4] = some y0:=by simpa [Value.cells] using e0
 have e1':DataW.trod enc Tryz.prog W 0 (fun _=>true) true n 37 [a5,a6,a7,a8,a9] = some y1:=by simpa [Value.cells] using e1
 obtain ⟨n1,w0,w1,w2,w3,g1,u1,u2,u3,u4⟩:=cells_wid Tryz.underlying37 Tryz.underlying4 Tryz.underlying35 Tryz.underlying34 rfl rfl (by kernel_rfl) (by kernel_rfl) (by kernel_rfl) rfl e0'
 obtain ⟨n2,x0,x1,x2,x3,g2,v1,v2,v3,v4⟩:=cells_wid Tryz.underlying37 Tryz.underlying4 Tryz.underlying35 Tryz.underlying34 rfl rfl (by kernel_rfl) (by kernel_rfl) (by kernel_rfl) rfl e1'
 cases g1
 cases g2
 exact ⟨_,_,_,_,_,_,_,_,_,_,rfl,⟨u1,u2,u3,u4⟩,⟨v1,v2,v3,v4⟩⟩
end
end Go.Proofs.YtncmmbacoknefaaGreat

/- OpL: Opening arguments that are slices of lines, and of numbers of known length. -/
namespace Go.Proofs.YtncmmbacoknefaaGreat
open Go.ChangeShapes Go.WideShapes Go.ChangeAt Go.RowKit
set_option linter.unusedVariables false
set_option linter.unusedSimpArgs false
theorem list12 {l:List Value} (h:l.length = 12):∃ x0 x1 x2 x3 x4 x5 x6 x7 x8 x9 x10 x11,l = [x0,x1,x2,x3,x4,x5,x6,x7,x8,x9,x10,x11]:=by
 match l,h with
 | [x0,x1,x2,x3,x4,x5,x6,x7,x8,x9,x10,x11],_=>exact ⟨x0,x1,x2,x3,x4,x5,x6,x7,x8,x9,x10,x11,rfl⟩
theorem open_slzn {H:Type} {enc:TypeId × Value→H} {P:Program} {t e:TypeId} {v:Value} {d:DataW H} {ps:List MemPlace} {W:World} {base:Nat} (ht:P.underlying t = some (.slice e)) (he:P.underlying e = some (.int .i64)) (hc:P.cellsOf e = 1)
  (hv:Value.okWide P W .any base t v) (h:DataW.Trod enc P W 0 (fun _=>true) true t v d ps) (hlt:∀ x∈ps,x.block < W.heap.size):∃ zs,SlZ W .i64 v zs∧(zs = []∨∃ es sp,d = .slice es sp∧es.length = zs.length):=by
 obtain ⟨zs,hz⟩:=open_slz ht he hc hv h hlt
 refine ⟨zs,hz,?_⟩
 obtain ⟨a,l,cap,rfl,hl,-⟩:=hz
 obtain ⟨fuel,hf⟩:=h
 rcases Go.Deep.open_slice ht hf with ⟨hcs,hx⟩ | ⟨a',len',cap',m,n,D,Pl,hcs,hb,hl',hm,hmm,hx,hall⟩
 ·simp [Value.cells] at hcs
  obtain ⟨rfl,rfl,rfl⟩:=hcs
  exact .inl (List.eq_nil_of_length_eq_zero hl)
 ·simp [Value.cells] at hcs
  obtain ⟨rfl,rfl,rfl⟩:=hcs
  simp only [Prod.mk.injEq] at hx
  obtain ⟨rfl,rfl⟩:=hx
  exact .inr ⟨_,_,rfl,by simp [hl]⟩
end Go.Proofs.YtncmmbacoknefaaGreat

/- OpG: Opening arguments that are slices of groups. -/
namespace Go.Proofs.YtncmmbacoknefaaGreat
open Go.ChangeShapes Go.WideShapes Go.ChangeAt Go.RowKit
set_option linter.unusedVariables false
set_option linter.unusedSimpArgs false
theorem cell_slz {H:Type} {enc:TypeId × Value→H} {P:Program} {t e:TypeId} {u:Value} {W:World} {n:Nat} {y:DataW H × List MemPlace} (ht:P.underlying t = some (.slice e)) (he:P.underlying e = some (.int .i64)) (hc:P.cellsOf e = 1)
  (hf:DataW.trod enc P W 0 (fun _=>true) true n t [u] = some y) (hlt:∀ x∈y.2,x.block < W.heap.size):∃ zs,SlZ W .i64 u zs:=by
 rcases open_ints ht he hc hf with ⟨hcs,hx⟩ | ⟨a,len,cap,zs,hcs,_,hl,hm,hz,hx,hcell,hwz⟩
 ·simp only [List.cons.injEq,and_true] at hcs
  subst hcs
  exact ⟨[],none,0,0,rfl,rfl,Nat.le_refl _,by simp [maxLen],by simp,fun h=>absurd h (by omega)⟩
 ·simp only [List.cons.injEq,and_true] at hcs
  subst hcs
  subst hx
  simp only [if_true] at hz
  refine ⟨zs.take len,some a,len,cap,rfl,by simp; omega,hl,hm,fun z hz'=>hwz z (List.mem_of_mem_take hz'),fun hpos=>?_⟩
  obtain ⟨b,off,rfl,hc'⟩:=ints_at hcell (by omega)
  refine ⟨b,off,rfl,hlt (.cell b off) (MemPlace.mem_row.2 ⟨0,by omega,by simp⟩),fun i hi=>?_⟩
  rw [show (zs.take len).getD i 0 = zs.getD i 0 by simp [List.getD_eq_getElem?_getD,List.getElem?_take,hi]]
  exact hc' i (by omega)
set_option maxRecDepth 100000 in
theorem cells_group {H:Type} {enc:TypeId × Value→H} {l:List Value} {n:Nat} {y:DataW H} {W:World} {ps:List MemPlace} (hl:l.length = 12) (hlt:∀ x∈ps,x.block < W.heap.size) (hf:DataW.trod enc Tryz.prog W 0 (fun _=>true) true n 66 l = some (y,ps)):∃ x,GrOk W x∧l = grc x:=by
 obtain ⟨y0,y1,y2,n,hy,hlen,e0,e1,e2⟩:=Go.Deep.trod_struct3 Tryz.underlying66 hf
 have cr:Tryz.prog.cellsOf 39 = 10:=by kernel_rfl
 have ci:Tryz.prog.cellsOf 24 = 1:=by kernel_rfl
 have cj:Tryz.prog.cellsOf 2 = 1:=by kernel_rfl
 obtain ⟨x0,x1,x2,x3,x4,x5,x6,x7,x8,x9,x10,x11,rfl⟩:=list12 hl
 simp only [cr,ci,cj] at e0 e1 e2
 have k0:DataW.trod enc Tryz.prog W 0 (fun _=>true) true n 2 [x0] = some y0:=by simpa [Value.cells] using e0
 have k1:DataW.trod enc Tryz.prog W 0 (fun _=>true) true n 39 [x1,x2,x3,x4,x5,x6,x7,x8,x9,x10] = some y1:=by simpa [Value.cells] using e1
 have k2:DataW.trod enc Tryz.prog W 0 (fun _=>true) true n 24 [x11] = some y2:=by simpa [Value.cells] using e2
 simp only [Prod.mk.injEq] at hy
 obtain ⟨-,hps⟩:=hy
 obtain ⟨V,r0,-,w0⟩:=DataW.trod_int Tryz.underlying2 k0
 obtain ⟨g,a,b,c,d,h,e,f,i,j,rc,⟨u1,u2,u3,u4⟩,⟨s1,s2,s3,s4⟩⟩:=cells_rat rfl k1
 obtain ⟨zs,hz⟩:=cell_slz Tryz.underlying24 Tryz.underlying3 (by kernel_rfl) k2 (fun x hx=>hlt x (by rw [hps]; exact List.mem_append_right _ (List.mem_append_right _ hx)))
 cases r0
 cases rc
 obtain ⟨p,q,hq⟩:=cq_raw g h u1 u2 u3 u4 s1 s2 s3 s4
 exact ⟨⟨⟨0,V,g,a,b,c,d,h,e,f,i,j,p,q⟩,x11,zs⟩,⟨I64.of_wf w0,hq,hz⟩,rfl⟩
set_option maxRecDepth 100000 in
theorem open_slgn {H:Type} {enc:TypeId × Value→H} {v:Value} {d:DataW H} {ps:List MemPlace} {W:World} {base:Nat} (hv:Value.okWide Tryz.prog W .any base 60 v) (h:DataW.Trod enc Tryz.prog W 0 (fun _=>true) true 60 v d ps) (hlt:∀ x∈ps,x.block < W.heap.size):∃ L,SlG W v L:=by
 obtain ⟨a0,len,cap,rfl⟩:=okWide_slice Tryz.underlying60 hv
 obtain ⟨fuel,hf⟩:=h
 have ct:Tryz.prog.cellsOf 66 = 12:=by kernel_rfl
 rcases Go.Deep.open_slice Tryz.underlying60 hf with ⟨hcs,hx⟩ | ⟨a,len',cap',m,n,D,Pl,hcs,hb,hl,hm,hmm,hx,hall⟩
 ·simp [Value.cells] at hcs
  obtain ⟨rfl,rfl,rfl⟩:=hcs
  exact ⟨[],none,0,rfl,Nat.le_refl _,by simp [maxLen],by simp,fun h=>absurd h (by simp)⟩
 ·simp [Value.cells] at hcs
  obtain ⟨rfl,rfl,rfl⟩:=hcs
  simp only [if_true] at hmm
  subst hmm
  rw [ct] at hall
  simp only [Prod.mk.injEq] at hx
  obtain ⟨rfl,rfl⟩:=hx
  have each:∀ i,∃ x:GrN,i < m→GrOk W x∧∀ (j:Nat) u,(grc x)[j]? = some u→W.cell? (a.add (i * 12 + j)) = some u:=fun i=>by
   by_cases hi:i < m
   ·obtain ⟨cs',h1,h2⟩:=hall i hi
    obtain ⟨_,hlen,hcell⟩:=World.cells?_some h1
    obtain ⟨x,hx,rfl⟩:=cells_group hlen (fun x hx=>hlt x (List.mem_append_right _ (List.mem_flatMap.2 ⟨i,List.mem_range.2 hi,hx⟩))) h2
    refine ⟨x,fun _=>⟨hx,fun j u hu=>?_⟩⟩
    have hj:j < 12:=(List.getElem?_eq_some_iff.1 hu).1
    have e:=hcell j hj
    rw [Addr.add_add] at e
    exact e.trans hu
   ·exact ⟨gr0,fun h=>absurd h hi⟩
  obtain ⟨X,hX⟩:=Classical.axiomOfChoice each
  refine ⟨(List.range len).map X,some a,m,by rw [List.length_map,List.length_range],by rw [List.length_map,List.length_range]; exact hl,hm,fun x hx=>?_,fun hpos=>?_⟩
  ·obtain ⟨i,hi,rfl⟩:=List.mem_map.1 hx
   exact (hX i (by have:=List.mem_range.1 hi; omega)).1
  ·rw [List.length_map,List.length_range] at hpos ⊢
   obtain ⟨b,off,spot⟩:=a
   have h0:=(hX 0 (by omega)).2 0 (.int .i64 (X 0).x.v) rfl
   have hspot:spot = none:=by simpa [Addr.add] using World.cell?_spot h0
   subst hspot
   refine ⟨b,off,rfl,hlt (.cell b off) (by refine List.mem_append_left _ (MemPlace.mem_row.2 ⟨0,by rw [ct]; omega,by simp⟩)),fun i hi j u hu=>?_⟩
   have e:((List.range len).map X).getD i gr0 = X i:=by simp [List.getD_eq_getElem?_getD,hi]
   rw [e] at hu
   have:=(hX i (by omega)).2 j u hu
   rw [Addr.add_lit] at this
   rw [show off + i * 12 + j = off + (i * 12 + j) by omega]
   exact this
end Go.Proofs.YtncmmbacoknefaaGreat
