/- Proved: tscodeclaw20.RebuildGroups returns true for all arguments. No condition. -/
import Derived.Test.YtncmmbacoknefaaGreatRows
import Derived.Test.YtncmmbacoknefaaGreatRg2ClRebuildGroups
import Derived.WalkKit
import Derived.ProofKit
import Derived.OpenShut
import Derived.SizedLaws
import Derived.Outline
import Derived.Test.YtncmmbacoknefaaGreatRg24
import Derived.Test.YtncmmbacoknefaaGreatRg25
import Derived.Test.YtncmmbacoknefaaGreatRg26
namespace Go.Proofs.YtncmmbacoknefaaGreat.rebuildGroups
open Go.ChangeShapes Go.WideShapes Go.ChangeAt Go.RowKit Sx
set_option linter.unusedVariables false
set_option linter.unusedSimpArgs false


set_option maxHeartbeats 8000000 in
set_option maxRecDepth 100000 in
theorem walk (w:World) (v0:Value) (z0:List GrN) (h0:SlG w v0 z0) (a1:Int) (h1:I64 a1) (s2:Option Addr) (l2 c2:Nat) (z2:List Int) (h2:SlZ w .i64 (.slice s2 l2 c2) z2) (hb2:8 * z2.length≤140737488351232) (s3:Option Addr) (l3 c3:Nat) (z3:List Int) (h3:SlZ w .i64 (.slice s3 l3 c3) z3) :
    Calls Tryz.prog 5 #[v0,.int .i64 a1,.slice s2 l2 c2,.slice s3 l3 c3] w fun e w'=>e = .returned (.bool true)∧Below w.heap.size w w':=by

  have kn:=fun W=>g_known20 W
  obtain rfl:l2 = z2.length:=by
    obtain ⟨a,l,cap,e,e2,-⟩:=id h2
    cases e
    exact e2.symm
  have h0':=h0
  obtain ⟨s0,c0,rfl,-⟩:=h0'
  refine known_of (enter Tryz.func5 w20_RebuildGroups.ok (args:=[_,_,_,_]) (by simp) ?_)
  repeat' (first | simp (disch:=omega) only [sxE,w20_RebuildGroups.E,Nat.reduceAdd,Nat.reduceEqDiff,Nat.reduceMul,Nat.reduceSub,Int.reduceAdd,Int.reduceSub,Int.reduceMul,Int.reduceNeg,Int.reduceLT,Int.reduceLE,Int.reduceEq,Int.reduceToNat,↓reduceIte,Int.reducePow,Nat.reduceLeDiff,Nat.reduceLT,ne_eq,eq_self,List.length_cons,List.length_nil,qxE] | (with_reducible refine cregF ?_))
  refine asks_new (L:=[]) rfl (kX_nil _) h3 en_m_New fun tb htb=>?_; clear htb
  repeat' (first | simp (disch:=omega) only [sxE,w20_RebuildGroups.E,Nat.reduceAdd,Nat.reduceEqDiff,Nat.reduceMul,Nat.reduceSub,Int.reduceAdd,Int.reduceSub,Int.reduceMul,Int.reduceNeg,Int.reduceLT,Int.reduceLE,Int.reduceEq,Int.reduceToNat,↓reduceIte,Int.reducePow,Nat.reduceLeDiff,Nat.reduceLT,ne_eq,eq_self,List.length_cons,List.length_nil,qxE] | (with_reducible refine cregF ?_))
  refine asks_rowT (L:=[.g (tK tb)]) (e:=58) (s:=2) (fun ss:Smps=>Smp ss∧(ss.length:Int)≤25) (fun ss=>ss.length) (fun ss=>scells ss) (fun ss v=>v) (tpk_t _ tb) en_m_Tape__Samples rfl (List.mem_singleton.2 rfl) (List.mem_singleton.2 rfl) rfl (fun j hj=>.inl (List.mem_singleton.1 hj)) (fun W hW=>by
    refine (samples_any tb 25 (by decide) (by decide) W hW).mono ?_
    rintro e w' ⟨v,ss,h1,h2,h3,h4,h5⟩
    exact ⟨ss,v,h1,h2,h3,h4,h5⟩) ?_
  rintro ss al cl_ ⟨hsm,hs25⟩ hcl - hal hnb
  
  have htb:tb ∉ (.g (wK 58 2 (.slice al ss.length cl_) ss.length (scells ss)):Kn).bs:=fun h=>hnb tb h (List.mem_singleton.2 rfl)
  clear hnb
  have hin:=smp_inI hsm
  have hinc:=smp_incr hsm
  repeat' (first | simp (disch:=omega) only [sxE,w20_RebuildGroups.E,Nat.reduceAdd,Nat.reduceEqDiff,Nat.reduceMul,Nat.reduceSub,Int.reduceAdd,Int.reduceSub,Int.reduceMul,Int.reduceNeg,Int.reduceLT,Int.reduceLE,Int.reduceEq,Int.reduceToNat,↓reduceIte,Int.reducePow,Nat.reduceLeDiff,Nat.reduceLT,ne_eq,eq_self,List.length_cons,List.length_nil,qxE] | (with_reducible refine cregF ?_))
  refine asks_tc rfl (tpk_t _ tb) (t_tol tb) en_m_Tape__Tolerance rfl (by simp) rfl (fun j hj=>?_) ?_
  · rcases List.mem_cons.1 hj with rfl | hj
    · exact .inr htb
    · exact .inl (List.mem_singleton.1 hj)
  rintro t ⟨t0,t1⟩
  have ht:tolz t = true:=tolz_iff.2 ⟨t0,t1⟩
  have it:I64 t:=⟨by omega,by omega⟩
  clear hsm hal hcl
  repeat' (first | simp (disch:=omega) only [sxE,w20_RebuildGroups.E,Nat.reduceAdd,Nat.reduceEqDiff,Nat.reduceMul,Nat.reduceSub,Int.reduceAdd,Int.reduceSub,Int.reduceMul,Int.reduceNeg,Int.reduceLT,Int.reduceLE,Int.reduceEq,Int.reduceToNat,↓reduceIte,Int.reducePow,Nat.reduceLeDiff,Nat.reduceLT,ne_eq,eq_self,List.length_cons,List.length_nil,qxE] | (with_reducible refine cregF ?_))
  refine asks_rowB (L:=[.g (wK 58 2 (.slice al ss.length cl_) ss.length (scells ss)),.g (tK tb)]) (e:=75) (s:=24) (ι:=Unit) (fun _=>True) (fun _=>(pcall t ss).length) (fun _=>pcells (pcall t ss)) (fun _ v=>.tuple #[v,.int .i64 0]) en_r19_All rfl (fun W hW hok=>?_) ?_
  · obtain ⟨e1,e2⟩:=perz_ok ht hinc (by omega)
    have:=rx_pcall (t:=t) (sls_own (hok _ List.mem_cons_self) hin) it (by omega)
    rw [e1,e2] at this
    exact this.mono fun e w' ⟨v,h1,h2,h3⟩=>⟨(),v,trivial,h1,h2,h3⟩
  have hO:=pcall_ok t ss
  have hOl:=hO.len
  have hPI:=hO.inI hin (by omega)
  generalize pcall t ss = P1 at *
  clear hO
  have hPl:P1.length≤25:=by omega
  rintro - ax cx_ - - - - hnx
  
  have htx:tb ∉ (.g (wK 75 24 (.slice ax P1.length cx_) P1.length (pcells P1)):Kn).bs:=fun h=>hnx tb h (kX_bs.2 ⟨_,List.mem_cons_of_mem _ (List.mem_singleton.2 rfl),List.mem_singleton.2 rfl⟩)
  clear hnx
  repeat' (first | simp (disch:=omega) only [sxE,w20_RebuildGroups.E,Nat.reduceAdd,Nat.reduceEqDiff,Nat.reduceMul,Nat.reduceSub,Int.reduceAdd,Int.reduceSub,Int.reduceMul,Int.reduceNeg,Int.reduceLT,Int.reduceLE,Int.reduceEq,Int.reduceToNat,↓reduceIte,Int.reducePow,Nat.reduceLeDiff,Nat.reduceLT,ne_eq,eq_self,List.length_cons,List.length_nil,qxE] | (with_reducible refine cregF ?_))
  refine asks_grp (L:=[.g (wK 75 24 (.slice ax P1.length cx_) P1.length (pcells P1)),.g (wK 58 2 (.slice al ss.length cl_) ss.length (scells ss)),.g (tK tb)]) rfl rfl (by repeat (first | with_reducible exact List.mem_cons_self | refine List.mem_cons_of_mem _ ?_)) (kX_bs.2 ⟨.g (tK tb),(by repeat (first | with_reducible exact List.mem_cons_self | refine List.mem_cons_of_mem _ ?_)),tK_bs.2 rfl⟩) (by repeat (first | with_reducible exact List.mem_cons_self | refine List.mem_cons_of_mem _ ?_)) htx (fun j hj=>?_) (by omega) hPI ?_
  · simp only [List.mem_cons,List.not_mem_nil,or_false] at hj
    rcases hj with rfl | rfl | rfl
    · exact .inr htx
    · exact .inr htb
    · exact .inl rfl
  intro ag cg G1 hGl hGA htg htG
  rw [← hGl] at hPl
  
  repeat' (first | simp (disch:=omega) only [sxE,w20_RebuildGroups.E,Nat.reduceAdd,Nat.reduceEqDiff,Nat.reduceMul,Nat.reduceSub,Int.reduceAdd,Int.reduceSub,Int.reduceMul,Int.reduceNeg,Int.reduceLT,Int.reduceLE,Int.reduceEq,Int.reduceToNat,↓reduceIte,Int.reducePow,Nat.reduceLeDiff,Nat.reduceLT,ne_eq,eq_self,List.length_cons,List.length_nil,qxE] | (with_reducible refine cregF ?_))
  refine asks_rowB (L:=[.g (wK 66 12 (.slice ag G1.length cg) G1.length (grcs G1)),.g (gK G1),.g (wK 75 24 (.slice ax P1.length cx_) P1.length (pcells P1)),.g (wK 58 2 (.slice al ss.length cl_) ss.length (scells ss)),.g (tK tb)]) (e:=2) (s:=1) (ι:=Unit) (fun _=>True) (fun _=>(ss.map Prod.fst).length) (fun _=>(ss.map Prod.fst).map (Value.int .i64)) (fun _ v=>v) en_r12_Times rfl (fun W hW hok=>?_) ?_
  · have:=r_stimes (w:=W) (sls_own (hok (.g (wK 58 2 (.slice al ss.length cl_) ss.length (scells ss))) (by repeat (first | with_reducible exact List.mem_cons_self | refine List.mem_cons_of_mem _ ?_))) hin) (by omega)
    refine this.mono fun e w' ⟨v,h1,h2,h3⟩=>⟨(),v,trivial,h1,?_,h3⟩
    rw [List.length_map,show (ss.map Prod.fst).map (Value.int .i64) = tcells ss by unfold tcells; rw [List.map_map]]
    exact h2
  have hat:∀ z∈ss.map Prod.fst,I64 z:=fun z hz=>by
    obtain ⟨x,hx,rfl⟩:=List.mem_map.1 hz
    exact (hin x hx).1
  have hatl:(ss.map Prod.fst).length≤25:=by rw [List.length_map]; omega
  generalize ss.map Prod.fst = at_ at *
  rintro - aa ca - - - - hna
  
  have hta:tb ∉ (.g (wK 2 1 (.slice aa at_.length ca) at_.length (at_.map (Value.int .i64))):Kn).bs:=fun h=>hna tb h (kX_bs.2 ⟨.g (tK tb),(by repeat (first | with_reducible exact List.mem_cons_self | refine List.mem_cons_of_mem _ ?_)),tK_bs.2 rfl⟩)
  clear hna
  repeat' (first | simp (disch:=omega) only [sxE,w20_RebuildGroups.E,Nat.reduceAdd,Nat.reduceEqDiff,Nat.reduceMul,Nat.reduceSub,Int.reduceAdd,Int.reduceSub,Int.reduceMul,Int.reduceNeg,Int.reduceLT,Int.reduceLE,Int.reduceEq,Int.reduceToNat,↓reduceIte,Int.reducePow,Nat.reduceLeDiff,Nat.reduceLT,ne_eq,eq_self,List.length_cons,List.length_nil,qxE] | (with_reducible refine cregF ?_))
  
  refine genA_w (L:=[.g (wK 2 1 (.slice aa at_.length ca) at_.length (at_.map (Value.int .i64))),.g (wK 66 12 (.slice ag G1.length cg) G1.length (grcs G1)),.g (gK G1),.g (wK 75 24 (.slice ax P1.length cx_) P1.length (pcells P1)),.g (wK 58 2 (.slice al ss.length cl_) ss.length (scells ss)),.g (tK tb)]) (cs:=[]) (e:=66) (s:=12) (n:=0) rfl (by decide) rfl (fun W=>by kernel_rfl) fun b hb=>?_
  have hbn:∀ k∈([.g (wK 2 1 (.slice aa at_.length ca) at_.length (at_.map (Value.int .i64))),.g (wK 66 12 (.slice ag G1.length cg) G1.length (grcs G1)),.g (gK G1),.g (wK 75 24 (.slice ax P1.length cx_) P1.length (pcells P1)),.g (wK 58 2 (.slice al ss.length cl_) ss.length (scells ss)),.g (tK tb)]:List Kn),b ∉ k.bs:=fun k hk h=>hb (kX_bs.2 ⟨k,hk,h⟩)
  clear hb
  repeat' (first | simp (disch:=omega) only [sxE,w20_RebuildGroups.E,Nat.reduceAdd,Nat.reduceEqDiff,Nat.reduceMul,Nat.reduceSub,Int.reduceAdd,Int.reduceSub,Int.reduceMul,Int.reduceNeg,Int.reduceLT,Int.reduceLE,Int.reduceEq,Int.reduceToNat,↓reduceIte,Int.reducePow,Nat.reduceLeDiff,Nat.reduceLT,ne_eq,eq_self,List.length_cons,List.length_nil,qxE] | (with_reducible refine cregF ?_))
  refine genA_appR rfl [.g (wK 2 1 (.slice aa at_.length ca) at_.length (at_.map (Value.int .i64))),.g (wK 66 12 (.slice ag G1.length cg) G1.length (grcs G1)),.g (gK G1),.g (tK tb)] elt_group rfl (.inr List.mem_cons_self) (.inr (by repeat (first | with_reducible exact List.mem_cons_self | refine List.mem_cons_of_mem _ ?_))) (.inl fun _ h=>h) (grcs_1 _ fun y hy=>(hGA y hy).s) (by simp only [maxLen]; omega) (by omega) (fun k hk=>?_) fun ab cb hcb1 hcb2 hab hfr=>?_
  · have hk2:k∈([.g (wK 2 1 (.slice aa at_.length ca) at_.length (at_.map (Value.int .i64))),.g (wK 66 12 (.slice ag G1.length cg) G1.length (grcs G1)),.g (gK G1),.g (wK 75 24 (.slice ax P1.length cx_) P1.length (pcells P1)),.g (wK 58 2 (.slice al ss.length cl_) ss.length (scells ss)),.g (tK tb)]:List Kn):=by
      simp only [List.mem_cons,List.not_mem_nil,or_false] at hk ⊢
      rcases hk with h | h | h | h
      · exact .inl h
      · exact .inr (.inl h)
      · exact .inr (.inr (.inl h))
      · exact .inr (.inr (.inr (.inr (.inr h))))
    refine ⟨List.mem_cons_of_mem _ hk2,fun x hx e=>hbn k hk2 ?_⟩
    cases e
    exact hx
  simp only [Nat.zero_add,List.nil_append] at hcb1 hab hfr ⊢
  clear hbn
  have hbt:tb ∉ (Kn.g (wK 66 12 (.slice ab G1.length cb) G1.length (grcs G1))).bs:=fun h=>(hfr tb (wK_bs.1 h)).2 _ (by repeat (first | with_reducible exact List.mem_cons_self | refine List.mem_cons_of_mem _ ?_)) (tK_bs.2 rfl)
  
  have rest:∀ (G2:List GrN) (bL:Nat) (Z:List Kn),G2.length = G1.length→.g (wK 66 12 (.slice ag G1.length cg) G1.length (grcs G1))∈Z→.g (wK 2 1 (.slice aa at_.length ca) at_.length (at_.map (Value.int .i64)))∈Z→.g (gK G1)∈Z→.g (wK 66 12 (.slice ab G1.length cb) G1.length (grcs G2))∈Z→(∀ W,(∀ k∈Z,k.ok w.heap.size W)→∀ y∈G2,GrOk W y)→genA (cx Tryz.prog w 133) (.bsl 23 5 [0,1,2,3,4]) [.int .i64 a1,.int .i64 t,.int .i64 t,.int .i64 a1,.int .i64 t] (some 78) (Sx.ops (cx Tryz.prog w 133) [Sx.Q.m 18 78] (kq w20_RebuildGroups.q10 (w20_RebuildGroups.p12 (cx Tryz.prog w 133) (fin [(8,none)] fun u=>u = Value.bool true)))) ⟨0,[(1,.v (.int .i64 a1)),(2,.v (.slice s2 z2.length c2)),(11,.v (.int .i64 t)),(15,.v (.slice aa at_.length ca)),(17,.v (.slice (some ⟨bL,0,none⟩) 5 5)),(73,.v (.int .i64 a1)),(74,.v (.int .i64 t)),(75,.v (.int .i64 t)),(76,.v (.int .i64 a1)),(77,.v (.int .i64 t))],[],kX w.heap.size (.g (cK bL [.slice s0 z0.length c0,.slice ag G1.length cg,.slice ab G1.length cb,.slice ag G1.length cg,.slice ag G1.length cg]) :: Z)⟩:=by
    intro G2 bL Z hL2 mG mA mK mB hG2
    refine genA_c (cs:=[.int .i64 a1,.int .i64 t,.int .i64 t,.int .i64 a1,.int .i64 t]) (T:=2) (fun b=>.slice (some ⟨b,0,none⟩) 5 5) rfl (fun W=>by kernel_rfl) fun bE hbE=>?_
    clear hbE
    repeat' (first | simp (disch:=omega) only [sxE,w20_RebuildGroups.E,Nat.reduceAdd,Nat.reduceEqDiff,Nat.reduceMul,Nat.reduceSub,Int.reduceAdd,Int.reduceSub,Int.reduceMul,Int.reduceNeg,Int.reduceLT,Int.reduceLE,Int.reduceEq,Int.reduceToNat,↓reduceIte,Int.reducePow,Nat.reduceLeDiff,Nat.reduceLT,ne_eq,eq_self,List.length_cons,List.length_nil,qxE] | (with_reducible refine cregF ?_))
    refine genA_c (cs:=[.slice s2 z2.length c2,.slice aa at_.length ca,.slice aa at_.length ca,.slice aa at_.length ca,.slice s2 z2.length c2]) (T:=23) (fun b=>.slice (some ⟨b,0,none⟩) 5 5) rfl (fun W=>by kernel_rfl) fun bT hbT=>?_
    clear hbT
    
    
    
    

    repeat' (first | simp (disch:=omega) only [sxE,w20_RebuildGroups.E,Nat.reduceAdd,Nat.reduceEqDiff,Nat.reduceMul,Nat.reduceSub,Int.reduceAdd,Int.reduceSub,Int.reduceMul,Int.reduceNeg,Int.reduceLT,Int.reduceLE,Int.reduceEq,Int.reduceToNat,↓reduceIte,Int.reducePow,Nat.reduceLeDiff,Nat.reduceLT,ne_eq,eq_self,List.length_cons,List.length_nil,qxE,beq_self_eq_true,Bool.not_true] | (rw [w20_RebuildGroups.p2_l]) | (with_reducible apply LX_round) | ((with_reducible refine ldP_blk bL ?_); refine ldP_k (b:=bL) rfl (by repeat (first | with_reducible exact List.mem_cons_self | refine List.mem_cons_of_mem _ ?_)) rfl ?_) | ((with_reducible refine ldP_blk bE ?_); refine ldP_k (b:=bE) rfl (by repeat (first | with_reducible exact List.mem_cons_self | refine List.mem_cons_of_mem _ ?_)) rfl ?_) | ((with_reducible refine ldP_blk bT ?_); refine ldP_k (b:=bT) rfl (by repeat (first | with_reducible exact List.mem_cons_self | refine List.mem_cons_of_mem _ ?_)) rfl ?_) | (refine asks_gg rfl (by first | exact en_rebuild_Groups | exact en_r20_Groups) (by first | exact fun a b c d=>gx_groups a b c d | exact fun a b c d=>rx_groups a b c d) rfl (fun W hW hok=>⟨by first | exact h0.below hW | exact (slg_row (hok (.g (wK 66 12 (.slice ag G1.length cg) G1.length (grcs G1))) (by repeat (first | with_reducible exact List.mem_cons_self | with_reducible assumption | refine List.mem_cons_of_mem _ ?_))) fun y hy=>gr_ok ((show (gK G1).ok _ W from hok (.g (gK G1)) (by repeat (first | with_reducible exact List.mem_cons_self | with_reducible assumption | refine List.mem_cons_of_mem _ ?_))) y hy) (hGA y hy)) | exact (slg_row (by rw [hL2]; exact hok (.g (wK 66 12 (.slice ab G1.length cb) G1.length (grcs G2))) (by repeat (first | with_reducible exact List.mem_cons_self | with_reducible assumption | refine List.mem_cons_of_mem _ ?_))) (hG2 W fun k hk=>hok k (by repeat (first | with_reducible exact List.mem_cons_self | with_reducible assumption | refine List.mem_cons_of_mem _ ?_)))),by first | exact h2.below hW | exact (slz_row (hok (.g (wK 2 1 (.slice aa at_.length ca) at_.length (at_.map (Value.int .i64)))) (by repeat (first | with_reducible exact List.mem_cons_self | with_reducible assumption | refine List.mem_cons_of_mem _ ?_))) hat)⟩) (by first | exact h1 | exact it) (by omega) fun _ _=>?_) | (refine asks_sm rfl rfl (by repeat (first | with_reducible exact List.mem_cons_self | refine List.mem_cons_of_mem _ ?_)) (by repeat (first | with_reducible exact List.mem_cons_self | refine List.mem_cons_of_mem _ ?_)) ?_) | (with_reducible refine Sx.call_at (f:=26) (fun W hW=>kn W) ?_) | (with_reducible refine cregF ?_))
  by_cases hpos:0 < G1.length
  · obtain ⟨g,rfl⟩:=hab hpos
    have hgA:g ∉ (.g (wK 2 1 (.slice aa at_.length ca) at_.length (at_.map (Value.int .i64))):Kn).bs:=(hfr g rfl).2 _ (by repeat (first | with_reducible exact List.mem_cons_self | refine List.mem_cons_of_mem _ ?_))
    have hgG:g ∉ (.g (wK 66 12 (.slice ag G1.length cg) G1.length (grcs G1)):Kn).bs:=(hfr g rfl).2 _ (by repeat (first | with_reducible exact List.mem_cons_self | refine List.mem_cons_of_mem _ ?_))
    have hgK:g ∉ (Kn.g (gK G1)).bs:=(hfr g rfl).2 _ (by repeat (first | with_reducible exact List.mem_cons_self | refine List.mem_cons_of_mem _ ?_))
    have hgt:g ∉ (Kn.g (tK tb)).bs:=(hfr g rfl).2 _ (by repeat (first | with_reducible exact List.mem_cons_self | refine List.mem_cons_of_mem _ ?_))
    clear hfr hab
    have hl0:(0:Int) < (G1.length:Int):=by omega
    repeat' (first | simp (disch:=omega) only [sxE,w20_RebuildGroups.E,Nat.reduceAdd,Nat.reduceEqDiff,Nat.reduceMul,Nat.reduceSub,Int.reduceAdd,Int.reduceSub,Int.reduceMul,Int.reduceNeg,Int.reduceLT,Int.reduceLE,Int.reduceEq,Int.reduceToNat,↓reduceIte,Int.reducePow,Nat.reduceLeDiff,Nat.reduceLT,ne_eq,eq_self,List.length_cons,List.length_nil,qxE] | (with_reducible refine cregF ?_))
    
    refine asks_tc rfl (tpk_t _ tb) (t_next tb (by omega) (by omega)) en_m_Tape__Next rfl (by repeat (first | with_reducible exact List.mem_cons_self | refine List.mem_cons_of_mem _ ?_)) rfl (fun j hj=>by
      simp only [List.mem_cons,List.not_mem_nil,or_false] at hj
      rcases hj with rfl | rfl | rfl | rfl | rfl
      · exact .inr hbt
      · exact .inr hta
      · exact .inr htg
      · exact .inr htG
      · exact .inl rfl) ?_
    rintro i ⟨i0,i1⟩
    obtain ⟨i,rfl⟩:=Int.eq_ofNat_of_zero_le i0
    have hi:i < G1.length:=by omega
    repeat' (first | simp (disch:=omega) only [sxE,w20_RebuildGroups.E,Nat.reduceAdd,Nat.reduceEqDiff,Nat.reduceMul,Nat.reduceSub,Int.reduceAdd,Int.reduceSub,Int.reduceMul,Int.reduceNeg,Int.reduceLT,Int.reduceLE,Int.reduceEq,Int.reduceToNat,↓reduceIte,Int.reducePow,Nat.reduceLeDiff,Nat.reduceLT,ne_eq,eq_self,List.length_cons,List.length_nil,qxE] | (with_reducible refine cregF ?_))
    refine asks_tc rfl (tpk_t _ tb) (t_next tb (by omega) (by omega)) en_m_Tape__Next rfl (by repeat (first | with_reducible exact List.mem_cons_self | refine List.mem_cons_of_mem _ ?_)) rfl (fun j hj=>by
      simp only [List.mem_cons,List.not_mem_nil,or_false] at hj
      rcases hj with rfl | rfl | rfl | rfl | rfl
      · exact .inr hbt
      · exact .inr hta
      · exact .inr htg
      · exact .inr htG
      · exact .inl rfl) ?_
    rintro r ⟨r0,r1⟩
    have hr1:I64 (r - 1):=⟨by omega,by omega⟩
    repeat' (first | simp (disch:=omega) only [sxE,w20_RebuildGroups.E,Nat.reduceAdd,Nat.reduceEqDiff,Nat.reduceMul,Nat.reduceSub,Int.reduceAdd,Int.reduceSub,Int.reduceMul,Int.reduceNeg,Int.reduceLT,Int.reduceLE,Int.reduceEq,Int.reduceToNat,↓reduceIte,Int.reducePow,Nat.reduceLeDiff,Nat.reduceLT,ne_eq,eq_self,List.length_cons,List.length_nil,qxE] | (with_reducible refine cregF ?_))
    refine asks_tc rfl (tpk_t _ tb) (t_next tb (by omega) (by omega)) en_m_Tape__Next rfl (by repeat (first | with_reducible exact List.mem_cons_self | refine List.mem_cons_of_mem _ ?_)) rfl (fun j hj=>by
      simp only [List.mem_cons,List.not_mem_nil,or_false] at hj
      rcases hj with rfl | rfl | rfl | rfl | rfl
      · exact .inr hbt
      · exact .inr hta
      · exact .inr htg
      · exact .inr htG
      · exact .inl rfl) ?_
    rintro q ⟨q0,q1⟩
    have hq1:I64 q:=⟨by omega,by omega⟩
    clear r0 r1 q0 q1
    generalize r - 1 = r1 at *
    repeat' (first | simp (disch:=omega) only [sxE,w20_RebuildGroups.E,Nat.reduceAdd,Nat.reduceEqDiff,Nat.reduceMul,Nat.reduceSub,Int.reduceAdd,Int.reduceSub,Int.reduceMul,Int.reduceNeg,Int.reduceLT,Int.reduceLE,Int.reduceEq,Int.reduceToNat,↓reduceIte,Int.reducePow,Nat.reduceLeDiff,Nat.reduceLT,ne_eq,eq_self,List.length_cons,List.length_nil,qxE] | (with_reducible refine cregF ?_))
    
    refine genA_c (L:=[.g (wK 66 12 (.slice (some ⟨g,0,none⟩) G1.length cb) G1.length (grcs G1)),.g (wK 2 1 (.slice aa at_.length ca) at_.length (at_.map (Value.int .i64))),.g (wK 66 12 (.slice ag G1.length cg) G1.length (grcs G1)),.g (gK G1),.g (tK tb)]) (cs:=[.int .i64 r1,.int .i64 q]) (T:=3) (fun b=>.slice (some ⟨b,0,none⟩) 2 2) rfl (fun W=>by kernel_rfl) fun bS hbS=>?_
    have hgS:g ∉ (Kn.g (cK bS [.int .i64 r1,.int .i64 q])).bs:=fun h=>hbS (by rw [← cK_bs.1 h]; exact kX_bs.2 ⟨.g (wK 66 12 (.slice (some ⟨g,0,none⟩) G1.length cb) G1.length (grcs G1)),List.mem_cons_self,wK_bs.2 rfl⟩)
    clear hbS
    repeat' (first | simp (disch:=omega) only [sxE,w20_RebuildGroups.E,Nat.reduceAdd,Nat.reduceEqDiff,Nat.reduceMul,Nat.reduceSub,Int.reduceAdd,Int.reduceSub,Int.reduceMul,Int.reduceNeg,Int.reduceLT,Int.reduceLE,Int.reduceEq,Int.reduceToNat,↓reduceIte,Int.reducePow,Nat.reduceLeDiff,Nat.reduceLT,ne_eq,eq_self,List.length_cons,List.length_nil,qxE] | (with_reducible refine cregF ?_))
    rw [show 0 + i * 12 + 11 = 12 * i + 11 by omega]
    refine stP_w (R:=[.g (cK bS [.int .i64 r1,.int .i64 q]),.g (wK 2 1 (.slice aa at_.length ca) at_.length (at_.map (Value.int .i64))),.g (wK 66 12 (.slice ag G1.length cg) G1.length (grcs G1)),.g (gK G1),.g (tK tb)]) rfl (by repeat (first | with_reducible exact List.mem_cons_self | refine List.mem_cons_of_mem _ ?_)) (fun k hk=>?_) (by rw [grcs_len]; omega) rfl ?_
    · simp only [List.mem_cons,List.not_mem_nil,or_false] at hk
      rcases hk with rfl | rfl | rfl | rfl | rfl
      · exact ⟨(by repeat (first | with_reducible exact List.mem_cons_self | refine List.mem_cons_of_mem _ ?_)),hgS⟩
      · exact ⟨(by repeat (first | with_reducible exact List.mem_cons_self | refine List.mem_cons_of_mem _ ?_)),hgA⟩
      · exact ⟨(by repeat (first | with_reducible exact List.mem_cons_self | refine List.mem_cons_of_mem _ ?_)),hgG⟩
      · exact ⟨(by repeat (first | with_reducible exact List.mem_cons_self | refine List.mem_cons_of_mem _ ?_)),hgK⟩
      · exact ⟨(by repeat (first | with_reducible exact List.mem_cons_self | refine List.mem_cons_of_mem _ ?_)),hgt⟩
    rw [gr_starts _ [r1,q] hi]
    have hGi:=hGA (G1.getD i gr0) (mem_gr hi)
    have hG2:∀ W,(∀ k∈([.g (wK 66 12 (.slice (some ⟨g,0,none⟩) G1.length cb) G1.length (grcs (G1.set i ⟨(G1.getD i gr0).x,.slice (some ⟨bS,0,none⟩) 2 2,[r1,q]⟩))),.g (cK bS [.int .i64 r1,.int .i64 q]),.g (wK 2 1 (.slice aa at_.length ca) at_.length (at_.map (Value.int .i64))),.g (wK 66 12 (.slice ag G1.length cg) G1.length (grcs G1)),.g (gK G1),.g (tK tb)]:List Kn),k.ok w.heap.size W)→∀ y∈G1.set i ⟨(G1.getD i gr0).x,.slice (some ⟨bS,0,none⟩) 2 2,[r1,q]⟩,GrOk W y:=fun W hok y hy=>by
      rcases List.mem_or_eq_of_mem_set hy with hy | rfl
      · exact gr_ok ((show (gK G1).ok _ W from hok (.g (gK G1)) (by repeat (first | with_reducible exact List.mem_cons_self | refine List.mem_cons_of_mem _ ?_))) y hy) (hGA y hy)
      · have hc:(cK bS [.int .i64 r1,.int .i64 q]).ok w.heap.size W:=hok (.g (cK bS [.int .i64 r1,.int .i64 q])) (by repeat (first | with_reducible exact List.mem_cons_self | refine List.mem_cons_of_mem _ ?_))
        exact ⟨hGi.v,hGi.q,slz_cK (zs:=[r1,q]) hc.2 (fun z hz=>by
          rcases List.mem_cons.1 hz with rfl | hz
          · exact hr1
          · rw [List.mem_singleton.1 hz]; exact hq1) (by show 2≤maxLen; decide)⟩
    have hL2:(G1.set i ⟨(G1.getD i gr0).x,.slice (some ⟨bS,0,none⟩) 2 2,[r1,q]⟩).length = G1.length:=List.length_set ..
    generalize G1.set i ⟨(G1.getD i gr0).x,.slice (some ⟨bS,0,none⟩) 2 2,[r1,q]⟩ = G2 at *
    repeat' (first | simp (disch:=omega) only [sxE,w20_RebuildGroups.E,Nat.reduceAdd,Nat.reduceEqDiff,Nat.reduceMul,Nat.reduceSub,Int.reduceAdd,Int.reduceSub,Int.reduceMul,Int.reduceNeg,Int.reduceLT,Int.reduceLE,Int.reduceEq,Int.reduceToNat,↓reduceIte,Int.reducePow,Nat.reduceLeDiff,Nat.reduceLT,ne_eq,eq_self,List.length_cons,List.length_nil,qxE] | (with_reducible refine cregF ?_))
    refine genA_c (cs:=[.slice s0 z0.length c0,.slice ag G1.length cg,.slice (some ⟨g,0,none⟩) G1.length cb,.slice ag G1.length cg,.slice ag G1.length cg]) (T:=60) (fun b=>.slice (some ⟨b,0,none⟩) 5 5) rfl (fun W=>by kernel_rfl) fun bL hbL=>?_
    clear hbL
    repeat' (first | simp (disch:=omega) only [sxE,w20_RebuildGroups.E,Nat.reduceAdd,Nat.reduceEqDiff,Nat.reduceMul,Nat.reduceSub,Int.reduceAdd,Int.reduceSub,Int.reduceMul,Int.reduceNeg,Int.reduceLT,Int.reduceLE,Int.reduceEq,Int.reduceToNat,↓reduceIte,Int.reducePow,Nat.reduceLeDiff,Nat.reduceLT,ne_eq,eq_self,List.length_cons,List.length_nil,qxE] | (with_reducible refine cregF ?_))
    exact rest G2 bL _ hL2 (by repeat (first | with_reducible exact List.mem_cons_self | refine List.mem_cons_of_mem _ ?_)) (by repeat (first | with_reducible exact List.mem_cons_self | refine List.mem_cons_of_mem _ ?_)) (by repeat (first | with_reducible exact List.mem_cons_self | refine List.mem_cons_of_mem _ ?_)) (by repeat (first | with_reducible exact List.mem_cons_self | refine List.mem_cons_of_mem _ ?_)) hG2
  · repeat' (first | simp (disch:=omega) only [sxE,w20_RebuildGroups.E,Nat.reduceAdd,Nat.reduceEqDiff,Nat.reduceMul,Nat.reduceSub,Int.reduceAdd,Int.reduceSub,Int.reduceMul,Int.reduceNeg,Int.reduceLT,Int.reduceLE,Int.reduceEq,Int.reduceToNat,↓reduceIte,Int.reducePow,Nat.reduceLeDiff,Nat.reduceLT,ne_eq,eq_self,List.length_cons,List.length_nil,qxE] | (with_reducible refine cregF ?_))
    refine genA_c (cs:=[.slice s0 z0.length c0,.slice ag G1.length cg,.slice ab G1.length cb,.slice ag G1.length cg,.slice ag G1.length cg]) (T:=60) (fun b=>.slice (some ⟨b,0,none⟩) 5 5) rfl (fun W=>by kernel_rfl) fun bL hbL=>?_
    clear hbL
    repeat' (first | simp (disch:=omega) only [sxE,w20_RebuildGroups.E,Nat.reduceAdd,Nat.reduceEqDiff,Nat.reduceMul,Nat.reduceSub,Int.reduceAdd,Int.reduceSub,Int.reduceMul,Int.reduceNeg,Int.reduceLT,Int.reduceLE,Int.reduceEq,Int.reduceToNat,↓reduceIte,Int.reducePow,Nat.reduceLeDiff,Nat.reduceLT,ne_eq,eq_self,List.length_cons,List.length_nil,qxE] | (with_reducible refine cregF ?_))
    exact rest G1 bL [.g (wK 66 12 (.slice ab G1.length cb) G1.length (grcs G1)),.g (wK 2 1 (.slice aa at_.length ca) at_.length (at_.map (Value.int .i64))),.g (wK 66 12 (.slice ag G1.length cg) G1.length (grcs G1)),.g (gK G1),.g (tK tb)] rfl (by repeat (first | with_reducible exact List.mem_cons_self | refine List.mem_cons_of_mem _ ?_)) (by repeat (first | with_reducible exact List.mem_cons_self | refine List.mem_cons_of_mem _ ?_)) (by repeat (first | with_reducible exact List.mem_cons_self | refine List.mem_cons_of_mem _ ?_)) (by repeat (first | with_reducible exact List.mem_cons_self | refine List.mem_cons_of_mem _ ?_)) (fun W hok y hy=>gr_ok ((show (gK G1).ok _ W from hok (.g (gK G1)) (by repeat (first | with_reducible exact List.mem_cons_self | refine List.mem_cons_of_mem _ ?_))) y hy) (hGA y hy))
/-! ### The row -/
set_option maxRecDepth 100000 in
theorem lifted (os:Os) (started:os.Started) (H:Type) (enc:TypeId × Value→H) :
    ReturnsInHanded {} Tryz.checked os 5 .any (Rows.rebuildGroupsSpec.pre6 enc Tryz.prog Tryz.f5 Rows.rebuildGroupsRow.domain false) (Rows.rebuildGroupsSpec.post enc Tryz.prog Tryz.f5 false true false false):=by
  refine returnsInHanded_of_change_sized (C:=Tryz.checked) own started (by kernel_rfl) Tryz.func5
    (ChangeSpec.witness6 (enc:=enc) (C:=Tryz.checked) false ⟨#[],#[.slice none 0 0,.int .i64 0,.slice none 0 0,.slice none 0 0],[]⟩ 8 (by kernel_rfl) (by kernel_rfl) (by kernel_rfl) (by kernel_rfl)) ?_
  intro W base args ds gs before hval0 hW hcnd hsz _
  have hval:∀ (j:Nat) t v,Tryz.f5.params[j]? = some t→args[j]? = some v→Value.okWide Tryz.prog W .any base t v:=hval0
  have hW':=hW
  obtain ⟨p,q,hA0,hV,rfl,hfz,hnd⟩:=hW
  have hA:DataW.TrodAll enc Tryz.prog W 0 (fun _=>true) true Tryz.f5.params.toList args.toList ds p:=hA0
  rw [Tryz.params5] at hA hval
  obtain ⟨v0,vs0,d0,ds0,p0,q0,hargs,rfl,rfl,g0,r0⟩:=trodAll_cons hA
  obtain ⟨v1,vs1,d1,ds1,p1,q1,rfl,rfl,rfl,g1,r1⟩:=trodAll_cons r0
  obtain ⟨v2,vs2,d2,ds2,p2,q2,rfl,rfl,rfl,g2,r2⟩:=trodAll_cons r1
  obtain ⟨v3,vs3,d3,ds3,p3,q3,rfl,rfl,rfl,g3,r3⟩:=trodAll_cons r2
  obtain ⟨rfl,rfl,rfl⟩:=trodAll_nil r3
  obtain rfl:args = #[v0,v1,v2,v3]:=by cases args; simp_all
  obtain ⟨rfl,rfl⟩:=trodVars_none hV
  have hlt:∀ x∈(p0 ++ (p1 ++ (p2 ++ (p3 ++ [])))) ++ [],x.block < W.heap.size:=fun x hx=>hW'.lt x hx
  obtain ⟨z0,hs0⟩:=open_slgn (hval 0 60 v0 rfl rfl) g0 (fun x hx=>hlt x (by simp [hx]))
  obtain ⟨a1,rfl,rfl,rfl,w1⟩:=open_int Tryz.underlying2 (hval 1 2 v1 rfl rfl) g1
  obtain ⟨z2,hs2,hd2⟩:=open_slzn Tryz.underlying23 Tryz.underlying2 (by kernel_rfl) (hval 2 23 v2 rfl rfl) g2 (fun x hx=>hlt x (by simp [hx]))
  have hs2':=hs2
  obtain ⟨s2,l2,c2,rfl,_⟩:=hs2'
  have hb2:8 * z2.length≤140737488351232:=by
    rcases hd2 with rfl | ⟨es,sp,rfl,el⟩
    · decide
    · have hr:=sized_slice hsz (j:=2) (t:=23) (e:=2) rfl rfl Tryz.underlying23
      rw [show Tryz.checked.prog.bytesOf 2 = 8 by kernel_rfl] at hr
      simp only [reachBytes] at hr
      omega
  obtain ⟨z3,hs3⟩:=open_slz Tryz.underlying24 Tryz.underlying3 (by kernel_rfl) (hval 3 24 v3 rfl rfl) g3 (fun x hx=>hlt x (by simp [hx]))
  have hs3':=hs3
  obtain ⟨s3,l3,c3,rfl,_⟩:=hs3'
  refine (walk W _ z0 hs0 a1 (I64.of_wf w1) s2 l2 c2 z2 hs2 hb2 s3 l3 c3 z3 hs3).mono fun e W' ⟨he,hb⟩=>?_
  subst he
  exact ⟨_,rfl,law_post laidOut (by kernel_rfl) rfl rfl Tryz.underlying4 hW' rfl rfl rfl hb⟩

theorem over:Rows.rebuildGroupsRow.holds Tryz.pinned (OpenSpec.ofChange Rows.rebuildGroupsSpec) :=
  OpenClaim.holds_of_wide 5 Tryz.f5 rfl rfl rfl rfl rfl rfl rfl ⟨rfl,rfl,rfl,rfl,rfl⟩ rfl rfl rfl rfl rfl (by kernel_rfl) Tryz.func5 (by kernel_rfl)
    (of_decide_eq_true (by kernel_rfl)) (by unfold Func.isWrapper; first | (rw [if_pos (by decide +kernel)]; kernel_rfl) | (rw [if_neg (by decide +kernel)]; exact ⟨rfl,rfl⟩))
    (fun os started H enc _=>lifted os started H enc)

/-- The given statement. -/
theorem proved:Rows.RebuildGroupsSaid :=
  over
#print axioms proved
end Go.Proofs.YtncmmbacoknefaaGreat.rebuildGroups

