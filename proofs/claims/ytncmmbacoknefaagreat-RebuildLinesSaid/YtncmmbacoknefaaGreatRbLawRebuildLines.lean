/- Proved: tscodeclaw20.RebuildLines returns true for all arguments. No condition. -/
import Derived.Test.YtncmmbacoknefaaGreatRows
import Derived.Test.YtncmmbacoknefaaGreatRbClRebuildLines
import Derived.WalkKit
import Derived.ProofKit
import Derived.OpenShut
import Derived.SizedLaws
import Derived.Outline
import Derived.Test.YtncmmbacoknefaaGreatRb4
import Derived.Test.YtncmmbacoknefaaGreatRb5
import Derived.Test.YtncmmbacoknefaaGreatRb6
namespace Go.Proofs.YtncmmbacoknefaaGreat.rebuildLines
open Go.ChangeShapes Go.WideShapes Go.ChangeAt Go.RowKit Sx
set_option linter.unusedVariables false
set_option linter.unusedSimpArgs false


set_option maxHeartbeats 8000000 in
set_option maxRecDepth 100000 in
theorem walk (w:World) (v0:Value) (z0:List RlN) (h0:SlL w v0 z0) (s1:Option Addr) (l1 c1:Nat) (z1:List Int) (h1:SlZ w .i64 (.slice s1 l1 c1) z1) (hb1:8 * z1.length≤140737488351232) (s2:Option Addr) (l2 c2:Nat) (z2:List Int) (h2:SlZ w .i64 (.slice s2 l2 c2) z2) :
    Calls Tryz.prog 3 #[v0,.slice s1 l1 c1,.slice s2 l2 c2] w fun e w'=>e = .returned (.bool true)∧Below w.heap.size w w':=by

  have kn:=fun W=>g_known20 W
  obtain rfl:l1 = z1.length:=by
    obtain ⟨a,l,cap,e,e2,-⟩:=id h1
    cases e
    exact e2.symm
  have h0':=h0
  obtain ⟨s0,c0,rfl,-⟩:=h0'
  refine known_of (enter Tryz.func3 w20_RebuildLines.ok (args:=[_,_,_]) (by simp) ?_)
  repeat' (first | simp (disch:=omega) only [sxE,w20_RebuildLines.E,Nat.reduceAdd,Nat.reduceEqDiff,Nat.reduceMul,Nat.reduceSub,Int.reduceAdd,Int.reduceSub,Int.reduceMul,Int.reduceNeg,Int.reduceLT,Int.reduceLE,Int.reduceEq,Int.reduceToNat,↓reduceIte,Int.reducePow,Nat.reduceLeDiff,Nat.reduceLT,ne_eq,eq_self,List.length_cons,List.length_nil,qxE] | (with_reducible refine cregF ?_))
  refine asks_new (L:=[]) rfl (kX_nil _) h2 en_m_New fun tb htb=>?_; clear htb
  repeat' (first | simp (disch:=omega) only [sxE,w20_RebuildLines.E,Nat.reduceAdd,Nat.reduceEqDiff,Nat.reduceMul,Nat.reduceSub,Int.reduceAdd,Int.reduceSub,Int.reduceMul,Int.reduceNeg,Int.reduceLT,Int.reduceLE,Int.reduceEq,Int.reduceToNat,↓reduceIte,Int.reducePow,Nat.reduceLeDiff,Nat.reduceLT,ne_eq,eq_self,List.length_cons,List.length_nil,qxE] | (with_reducible refine cregF ?_))
  refine asks_rowT (L:=[.g (tK tb)]) (e:=58) (s:=2) (fun ss:Smps=>Smp ss∧(ss.length:Int)≤25) (fun ss=>ss.length) (fun ss=>scells ss) (fun ss v=>v) (tpk_t _ tb) en_m_Tape__Samples rfl (List.mem_singleton.2 rfl) (List.mem_singleton.2 rfl) rfl (fun j hj=>.inl (List.mem_singleton.1 hj)) (fun W hW=>by
    refine (samples_any tb 25 (by decide) (by decide) W hW).mono ?_
    rintro e w' ⟨v,ss,h1,h2,h3,h4,h5⟩
    exact ⟨ss,v,h1,h2,h3,h4,h5⟩) ?_
  rintro ss al cl_ ⟨hsm,hs25⟩ hcl - hal hnb
  
  have htb:tb ∉ (.g (wK 58 2 (.slice al ss.length cl_) ss.length (scells ss)):Kn).bs:=fun h=>hnb tb h (List.mem_singleton.2 rfl)
  clear hnb
  have hin:=smp_inI hsm
  have hinc:=smp_incr hsm
  repeat' (first | simp (disch:=omega) only [sxE,w20_RebuildLines.E,Nat.reduceAdd,Nat.reduceEqDiff,Nat.reduceMul,Nat.reduceSub,Int.reduceAdd,Int.reduceSub,Int.reduceMul,Int.reduceNeg,Int.reduceLT,Int.reduceLE,Int.reduceEq,Int.reduceToNat,↓reduceIte,Int.reducePow,Nat.reduceLeDiff,Nat.reduceLT,ne_eq,eq_self,List.length_cons,List.length_nil,qxE] | (with_reducible refine cregF ?_))
  refine asks_tc rfl (tpk_t _ tb) (t_tol tb) en_m_Tape__Tolerance rfl (by simp) rfl (fun j hj=>?_) ?_
  · rcases List.mem_cons.1 hj with rfl | hj
    · exact .inr htb
    · exact .inl (List.mem_singleton.1 hj)
  rintro t ⟨t0,t1⟩
  have ht:tolz t = true:=tolz_iff.2 ⟨t0,t1⟩
  have it:I64 t:=⟨by omega,by omega⟩
  clear hsm hal hcl
  repeat' (first | simp (disch:=omega) only [sxE,w20_RebuildLines.E,Nat.reduceAdd,Nat.reduceEqDiff,Nat.reduceMul,Nat.reduceSub,Int.reduceAdd,Int.reduceSub,Int.reduceMul,Int.reduceNeg,Int.reduceLT,Int.reduceLE,Int.reduceEq,Int.reduceToNat,↓reduceIte,Int.reducePow,Nat.reduceLeDiff,Nat.reduceLT,ne_eq,eq_self,List.length_cons,List.length_nil,qxE] | (with_reducible refine cregF ?_))
  refine asks_rowB (L:=[.g (wK 58 2 (.slice al ss.length cl_) ss.length (scells ss)),.g (tK tb)]) (e:=41) (s:=12) (ι:=Unit) (fun _=>True) (fun _=>((swall t ss).map toR).length) (fun _=>rlcs ((swall t ss).map toR)) (fun _ v=>.tuple #[v,.int .i64 0]) en_r14_All rfl (fun W hW hok=>?_) ?_
  · obtain ⟨e1,e2⟩:=erz_ok ht hinc (by omega)
    have:=rx_swall (t:=t) (sls_own (hok _ List.mem_cons_self) hin) it (by omega)
    rw [e1,e2] at this
    rw [rlcs_toR,List.length_map]
    exact this.mono fun e w' ⟨v,h1,h2,h3⟩=>⟨(),v,trivial,h1,h2,h3⟩
  have hO:=swall_ok t ss
  have hOl:=hO.len
  have hR:=hO.rl ht hin hinc (by omega) (Nat.le_refl _)
  have hRl:((swall t ss).map toR).length≤25:=by rw [List.length_map]; omega
  generalize (swall t ss).map toR = L1 at *
  clear hO hOl
  rintro - ax cx_ - hcx hmx hax hnx
  
  have htx:tb ∉ (.g (wK 41 12 (.slice ax L1.length cx_) L1.length (rlcs L1)):Kn).bs:=fun h=>hnx tb h (kX_bs.2 ⟨_,List.mem_cons_of_mem _ (List.mem_singleton.2 rfl),List.mem_singleton.2 rfl⟩)
  clear hnx hmx
  repeat' (first | simp (disch:=omega) only [sxE,w20_RebuildLines.E,Nat.reduceAdd,Nat.reduceEqDiff,Nat.reduceMul,Nat.reduceSub,Int.reduceAdd,Int.reduceSub,Int.reduceMul,Int.reduceNeg,Int.reduceLT,Int.reduceLE,Int.reduceEq,Int.reduceToNat,↓reduceIte,Int.reducePow,Nat.reduceLeDiff,Nat.reduceLT,ne_eq,eq_self,List.length_cons,List.length_nil,qxE] | (with_reducible refine cregF ?_))
  refine asks_rowB (L:=[.g (wK 41 12 (.slice ax L1.length cx_) L1.length (rlcs L1)),.g (wK 58 2 (.slice al ss.length cl_) ss.length (scells ss)),.g (tK tb)]) (e:=2) (s:=1) (ι:=Unit) (fun _=>True) (fun _=>(ss.map Prod.fst).length) (fun _=>(ss.map Prod.fst).map (Value.int .i64)) (fun _ v=>v) en_r12_Times rfl (fun W hW hok=>?_) ?_
  · have:=r_stimes (w:=W) (sls_own (hok (.g (wK 58 2 (.slice al ss.length cl_) ss.length (scells ss))) (by repeat (first | with_reducible exact List.mem_cons_self | refine List.mem_cons_of_mem _ ?_))) hin) (by omega)
    refine this.mono fun e w' ⟨v,h1,h2,h3⟩=>⟨(),v,trivial,h1,?_,h3⟩
    rw [List.length_map,show (ss.map Prod.fst).map (Value.int .i64) = tcells ss by unfold tcells; rw [List.map_map]]
    exact h2
  have hat:∀ z∈ss.map Prod.fst,I64 z:=fun z hz=>by
    obtain ⟨x,hx,rfl⟩:=List.mem_map.1 hz
    exact (hin x hx).1
  have hatl:(ss.map Prod.fst).length≤25:=by rw [List.length_map]; omega
  generalize ss.map Prod.fst = at_ at *
  rintro - aa ca - - hma - hna
  
  have hta:tb ∉ (.g (wK 2 1 (.slice aa at_.length ca) at_.length (at_.map (Value.int .i64))):Kn).bs:=fun h=>hna tb h (kX_bs.2 ⟨_,List.mem_cons_of_mem _ (List.mem_cons_of_mem _ (List.mem_singleton.2 rfl)),List.mem_singleton.2 rfl⟩)
  clear hna hma
  repeat' (first | simp (disch:=omega) only [sxE,w20_RebuildLines.E,Nat.reduceAdd,Nat.reduceEqDiff,Nat.reduceMul,Nat.reduceSub,Int.reduceAdd,Int.reduceSub,Int.reduceMul,Int.reduceNeg,Int.reduceLT,Int.reduceLE,Int.reduceEq,Int.reduceToNat,↓reduceIte,Int.reducePow,Nat.reduceLeDiff,Nat.reduceLT,ne_eq,eq_self,List.length_cons,List.length_nil,qxE] | (with_reducible refine cregF ?_))
  refine genA_w (L:=[.g (wK 2 1 (.slice aa at_.length ca) at_.length (at_.map (Value.int .i64))),.g (wK 41 12 (.slice ax L1.length cx_) L1.length (rlcs L1)),.g (wK 58 2 (.slice al ss.length cl_) ss.length (scells ss)),.g (tK tb)]) (cs:=[]) (e:=41) (s:=12) (n:=0) rfl (by decide) rfl (fun W=>by kernel_rfl) fun b hb=>?_
  have hbn:∀ k∈([.g (wK 2 1 (.slice aa at_.length ca) at_.length (at_.map (Value.int .i64))),.g (wK 41 12 (.slice ax L1.length cx_) L1.length (rlcs L1)),.g (wK 58 2 (.slice al ss.length cl_) ss.length (scells ss)),.g (tK tb)]:List Kn),b ∉ k.bs:=fun k hk h=>hb (kX_bs.2 ⟨k,hk,h⟩)
  clear hb
  repeat' (first | simp (disch:=omega) only [sxE,w20_RebuildLines.E,Nat.reduceAdd,Nat.reduceEqDiff,Nat.reduceMul,Nat.reduceSub,Int.reduceAdd,Int.reduceSub,Int.reduceMul,Int.reduceNeg,Int.reduceLT,Int.reduceLE,Int.reduceEq,Int.reduceToNat,↓reduceIte,Int.reducePow,Nat.reduceLeDiff,Nat.reduceLT,ne_eq,eq_self,List.length_cons,List.length_nil,qxE] | (with_reducible refine cregF ?_))
  refine genA_appR rfl [.g (wK 2 1 (.slice aa at_.length ca) at_.length (at_.map (Value.int .i64))),.g (wK 41 12 (.slice ax L1.length cx_) L1.length (rlcs L1)),.g (tK tb)] elt_line rfl (.inr List.mem_cons_self) (.inr (by repeat (first | with_reducible exact List.mem_cons_self | refine List.mem_cons_of_mem _ ?_))) (.inl fun _ h=>h) (rlcs_1 _) (by simp only [maxLen]; omega) (by omega) (fun k hk=>?_) fun ab cb hcb1 hcb2 hab hfr=>?_
  · have hk2:k∈([.g (wK 2 1 (.slice aa at_.length ca) at_.length (at_.map (Value.int .i64))),.g (wK 41 12 (.slice ax L1.length cx_) L1.length (rlcs L1)),.g (wK 58 2 (.slice al ss.length cl_) ss.length (scells ss)),.g (tK tb)]:List Kn):=by
      simp only [List.mem_cons,List.not_mem_nil,or_false] at hk ⊢
      rcases hk with h | h | h
      · exact .inl h
      · exact .inr (.inl h)
      · exact .inr (.inr (.inr h))
    refine ⟨List.mem_cons_of_mem _ hk2,fun x hx e=>hbn k hk2 ?_⟩
    cases e
    exact hx
  simp only [Nat.zero_add,List.nil_append] at hcb1 hab hfr ⊢
  clear hbn
  have hbt:tb ∉ (Kn.g (wK 41 12 (.slice ab L1.length cb) L1.length (rlcs L1))).bs:=fun h=>(hfr tb (wK_bs.1 h)).2 _ (by repeat (first | with_reducible exact List.mem_cons_self | refine List.mem_cons_of_mem _ ?_)) (tK_bs.2 rfl)
  have rest:∀ (L2:List RlN) (zs:List Int) (ao:Option Addr) (co:Nat),(∀ x∈L2,RlOk x)→L2.length = L1.length→(∀ z∈zs,I64 z)→(zs.length:Int)≤25→genA (cx Tryz.prog w 119) (.bsl 45 5 [0,1,2,3,4]) [.slice s0 z0.length c0,.slice ax L1.length cx_,.slice ab L1.length cb,.slice ax L1.length cx_,.slice s0 z0.length c0] (some 72) (Sx.ops (cx Tryz.prog w 119) [Sx.Q.m 15 72] (kq w20_RebuildLines.q8 (w20_RebuildLines.p12 (cx Tryz.prog w 119) (fin [(6,none)] fun u=>u = Value.bool true)))) ⟨0,[(0,.v (.slice s0 z0.length c0)),(1,.v (.slice s1 z1.length c1)),(10,.v (.slice ax L1.length cx_)),(12,.v (.slice aa at_.length ca)),(13,.v (.slice ab L1.length cb)),(14,.v (.slice ao zs.length co)),(67,.v (.slice s0 z0.length c0)),(68,.v (.slice ax L1.length cx_)),(69,.v (.slice ab L1.length cb)),(70,.v (.slice ax L1.length cx_)),(71,.v (.slice s0 z0.length c0))],[],kX w.heap.size [.g (wK 2 1 (.slice ao zs.length co) zs.length (zs.map (Value.int .i64))),.g (wK 41 12 (.slice ab L1.length cb) L1.length (rlcs L2)),.g (wK 2 1 (.slice aa at_.length ca) at_.length (at_.map (Value.int .i64))),.g (wK 41 12 (.slice ax L1.length cx_) L1.length (rlcs L1)),.g (tK tb)]⟩:=by
    intro L2 zs ao co hR2 hL2 hzs hzl
    
    
    refine genA_c (L:=[.g (wK 2 1 (.slice ao zs.length co) zs.length (zs.map (Value.int .i64))),.g (wK 41 12 (.slice ab L1.length cb) L1.length (rlcs L2)),.g (wK 2 1 (.slice aa at_.length ca) at_.length (at_.map (Value.int .i64))),.g (wK 41 12 (.slice ax L1.length cx_) L1.length (rlcs L1)),.g (tK tb)]) (cs:=[.slice s0 z0.length c0,.slice ax L1.length cx_,.slice ab L1.length cb,.slice ax L1.length cx_,.slice s0 z0.length c0]) (T:=22) (fun b=>.slice (some ⟨b,0,none⟩) 5 5) rfl (fun W=>by kernel_rfl) fun bL hbL=>?_
    clear hbL
    repeat' (first | simp (disch:=omega) only [sxE,w20_RebuildLines.E,Nat.reduceAdd,Nat.reduceEqDiff,Nat.reduceMul,Nat.reduceSub,Int.reduceAdd,Int.reduceSub,Int.reduceMul,Int.reduceNeg,Int.reduceLT,Int.reduceLE,Int.reduceEq,Int.reduceToNat,↓reduceIte,Int.reducePow,Nat.reduceLeDiff,Nat.reduceLT,ne_eq,eq_self,List.length_cons,List.length_nil,qxE] | (with_reducible refine cregF ?_))
    refine genA_c (cs:=[.slice s1 z1.length c1,.slice aa at_.length ca,.slice aa at_.length ca,.slice ao zs.length co,.slice aa at_.length ca]) (T:=23) (fun b=>.slice (some ⟨b,0,none⟩) 5 5) rfl (fun W=>by kernel_rfl) fun bT hbT=>?_
    clear hbT
    
    
    
    
    
    
    repeat' (first | simp (disch:=omega) only [sxE,w20_RebuildLines.E,Nat.reduceAdd,Nat.reduceEqDiff,Nat.reduceMul,Nat.reduceSub,Int.reduceAdd,Int.reduceSub,Int.reduceMul,Int.reduceNeg,Int.reduceLT,Int.reduceLE,Int.reduceEq,Int.reduceToNat,↓reduceIte,Int.reducePow,Nat.reduceLeDiff,Nat.reduceLT,ne_eq,eq_self,List.length_cons,List.length_nil,qxE,beq_self_eq_true,Bool.not_true] | (rw [w20_RebuildLines.p2_l]) | (with_reducible apply LX_round) | ((with_reducible refine ldP_blk bL ?_); refine ldP_k (b:=bL) rfl (by repeat (first | with_reducible exact List.mem_cons_self | refine List.mem_cons_of_mem _ ?_)) rfl ?_) | ((with_reducible refine ldP_blk bT ?_); refine ldP_k (b:=bT) rfl (by repeat (first | with_reducible exact List.mem_cons_self | refine List.mem_cons_of_mem _ ?_)) rfl ?_) | (with_reducible refine Sx.call_at (f:=26) (fun W hW=>kn W) ?_) | (with_reducible refine cregF ?_))
    refine asks_rowB (e:=2) (s:=1) (ι:=Unit) (fun _=>True) (fun _=>(rlout z0 z1).length) (fun _=>(rlout z0 z1).map (Value.int .i64)) (fun _ v=>.tuple #[v,.int .i64 (rlerr z0 z1)]) en_rebuild_Lines rfl (fun W hW hok=>?_) ?_
    · refine (gx_lines (h0.below hW) (h1.below hW) (by omega)).mono ?_
      exact fun e w' ⟨v,h1,h2,h3⟩=>⟨(),v,trivial,h1,h2,h3⟩
    rintro - a0_ c0_ - - - - -
    repeat' (first | simp (disch:=omega) only [sxE,w20_RebuildLines.E,Nat.reduceAdd,Nat.reduceEqDiff,Nat.reduceMul,Nat.reduceSub,Int.reduceAdd,Int.reduceSub,Int.reduceMul,Int.reduceNeg,Int.reduceLT,Int.reduceLE,Int.reduceEq,Int.reduceToNat,↓reduceIte,Int.reducePow,Nat.reduceLeDiff,Nat.reduceLT,ne_eq,eq_self,List.length_cons,List.length_nil,qxE,beq_self_eq_true,Bool.not_true] | (rw [w20_RebuildLines.p2_l]) | (with_reducible apply LX_round) | ((with_reducible refine ldP_blk bL ?_); refine ldP_k (b:=bL) rfl (by repeat (first | with_reducible exact List.mem_cons_self | refine List.mem_cons_of_mem _ ?_)) rfl ?_) | ((with_reducible refine ldP_blk bT ?_); refine ldP_k (b:=bT) rfl (by repeat (first | with_reducible exact List.mem_cons_self | refine List.mem_cons_of_mem _ ?_)) rfl ?_) | (with_reducible refine Sx.call_at (f:=26) (fun W hW=>kn W) ?_) | (with_reducible refine cregF ?_))
    refine asks_rowB (e:=2) (s:=1) (ι:=Unit) (fun _=>True) (fun _=>(rlout z0 z1).length) (fun _=>(rlout z0 z1).map (Value.int .i64)) (fun _ v=>.tuple #[v,.int .i64 (rlerr z0 z1)]) en_r20_Lines rfl (fun W hW hok=>?_) ?_
    · refine (rx_lines (h0.below hW) (h1.below hW) (by omega)).mono ?_
      exact fun e w' ⟨v,h1,h2,h3⟩=>⟨(),v,trivial,h1,h2,h3⟩
    rintro - a1_ c1_ - - - - -
    repeat' (first | simp (disch:=omega) only [sxE,w20_RebuildLines.E,Nat.reduceAdd,Nat.reduceEqDiff,Nat.reduceMul,Nat.reduceSub,Int.reduceAdd,Int.reduceSub,Int.reduceMul,Int.reduceNeg,Int.reduceLT,Int.reduceLE,Int.reduceEq,Int.reduceToNat,↓reduceIte,Int.reducePow,Nat.reduceLeDiff,Nat.reduceLT,ne_eq,eq_self,List.length_cons,List.length_nil,qxE,beq_self_eq_true,Bool.not_true] | (rw [w20_RebuildLines.p2_l]) | (with_reducible apply LX_round) | ((with_reducible refine ldP_blk bL ?_); refine ldP_k (b:=bL) rfl (by repeat (first | with_reducible exact List.mem_cons_self | refine List.mem_cons_of_mem _ ?_)) rfl ?_) | ((with_reducible refine ldP_blk bT ?_); refine ldP_k (b:=bT) rfl (by repeat (first | with_reducible exact List.mem_cons_self | refine List.mem_cons_of_mem _ ?_)) rfl ?_) | (with_reducible refine Sx.call_at (f:=26) (fun W hW=>kn W) ?_) | (with_reducible refine cregF ?_))
    refine asks_ext (fun W hW hok=>gives_known en_r10_Same (rx_same10 (hok (.g (wK 2 1 (.slice a0_ (rlout z0 z1).length c0_) (rlout z0 z1).length ((rlout z0 z1).map (Value.int .i64)))) (by repeat (first | with_reducible exact List.mem_cons_self | refine List.mem_cons_of_mem _ ?_))) (hok (.g (wK 2 1 (.slice a1_ (rlout z0 z1).length c1_) (rlout z0 z1).length ((rlout z0 z1).map (Value.int .i64)))) (by repeat (first | with_reducible exact List.mem_cons_self | refine List.mem_cons_of_mem _ ?_))))) ?_
    repeat' (first | simp (disch:=omega) only [sxE,w20_RebuildLines.E,Nat.reduceAdd,Nat.reduceEqDiff,Nat.reduceMul,Nat.reduceSub,Int.reduceAdd,Int.reduceSub,Int.reduceMul,Int.reduceNeg,Int.reduceLT,Int.reduceLE,Int.reduceEq,Int.reduceToNat,↓reduceIte,Int.reducePow,Nat.reduceLeDiff,Nat.reduceLT,ne_eq,eq_self,List.length_cons,List.length_nil,qxE,beq_self_eq_true,Bool.not_true] | (rw [w20_RebuildLines.p2_l]) | (with_reducible apply LX_round) | ((with_reducible refine ldP_blk bL ?_); refine ldP_k (b:=bL) rfl (by repeat (first | with_reducible exact List.mem_cons_self | refine List.mem_cons_of_mem _ ?_)) rfl ?_) | ((with_reducible refine ldP_blk bT ?_); refine ldP_k (b:=bT) rfl (by repeat (first | with_reducible exact List.mem_cons_self | refine List.mem_cons_of_mem _ ?_)) rfl ?_) | (with_reducible refine Sx.call_at (f:=26) (fun W hW=>kn W) ?_) | (with_reducible refine cregF ?_))
    refine asks_rowB (e:=2) (s:=1) (ι:=Unit) (fun _=>True) (fun _=>(rlout L1 at_).length) (fun _=>(rlout L1 at_).map (Value.int .i64)) (fun _ v=>.tuple #[v,.int .i64 (rlerr L1 at_)]) en_rebuild_Lines rfl (fun W hW hok=>?_) ?_
    · refine (gx_lines (sll_row (hok (.g (wK 41 12 (.slice ax L1.length cx_) L1.length (rlcs L1))) (by repeat (first | with_reducible exact List.mem_cons_self | refine List.mem_cons_of_mem _ ?_))) hR) (slz_row (hok (.g (wK 2 1 (.slice aa at_.length ca) at_.length (at_.map (Value.int .i64)))) (by repeat (first | with_reducible exact List.mem_cons_self | refine List.mem_cons_of_mem _ ?_))) hat) (by omega)).mono ?_
      exact fun e w' ⟨v,h1,h2,h3⟩=>⟨(),v,trivial,h1,h2,h3⟩
    rintro - a2_ c2_ - - - - -
    repeat' (first | simp (disch:=omega) only [sxE,w20_RebuildLines.E,Nat.reduceAdd,Nat.reduceEqDiff,Nat.reduceMul,Nat.reduceSub,Int.reduceAdd,Int.reduceSub,Int.reduceMul,Int.reduceNeg,Int.reduceLT,Int.reduceLE,Int.reduceEq,Int.reduceToNat,↓reduceIte,Int.reducePow,Nat.reduceLeDiff,Nat.reduceLT,ne_eq,eq_self,List.length_cons,List.length_nil,qxE,beq_self_eq_true,Bool.not_true] | (rw [w20_RebuildLines.p2_l]) | (with_reducible apply LX_round) | ((with_reducible refine ldP_blk bL ?_); refine ldP_k (b:=bL) rfl (by repeat (first | with_reducible exact List.mem_cons_self | refine List.mem_cons_of_mem _ ?_)) rfl ?_) | ((with_reducible refine ldP_blk bT ?_); refine ldP_k (b:=bT) rfl (by repeat (first | with_reducible exact List.mem_cons_self | refine List.mem_cons_of_mem _ ?_)) rfl ?_) | (with_reducible refine Sx.call_at (f:=26) (fun W hW=>kn W) ?_) | (with_reducible refine cregF ?_))
    refine asks_rowB (e:=2) (s:=1) (ι:=Unit) (fun _=>True) (fun _=>(rlout L1 at_).length) (fun _=>(rlout L1 at_).map (Value.int .i64)) (fun _ v=>.tuple #[v,.int .i64 (rlerr L1 at_)]) en_r20_Lines rfl (fun W hW hok=>?_) ?_
    · refine (rx_lines (sll_row (hok (.g (wK 41 12 (.slice ax L1.length cx_) L1.length (rlcs L1))) (by repeat (first | with_reducible exact List.mem_cons_self | refine List.mem_cons_of_mem _ ?_))) hR) (slz_row (hok (.g (wK 2 1 (.slice aa at_.length ca) at_.length (at_.map (Value.int .i64)))) (by repeat (first | with_reducible exact List.mem_cons_self | refine List.mem_cons_of_mem _ ?_))) hat) (by omega)).mono ?_
      exact fun e w' ⟨v,h1,h2,h3⟩=>⟨(),v,trivial,h1,h2,h3⟩
    rintro - a3_ c3_ - - - - -
    repeat' (first | simp (disch:=omega) only [sxE,w20_RebuildLines.E,Nat.reduceAdd,Nat.reduceEqDiff,Nat.reduceMul,Nat.reduceSub,Int.reduceAdd,Int.reduceSub,Int.reduceMul,Int.reduceNeg,Int.reduceLT,Int.reduceLE,Int.reduceEq,Int.reduceToNat,↓reduceIte,Int.reducePow,Nat.reduceLeDiff,Nat.reduceLT,ne_eq,eq_self,List.length_cons,List.length_nil,qxE,beq_self_eq_true,Bool.not_true] | (rw [w20_RebuildLines.p2_l]) | (with_reducible apply LX_round) | ((with_reducible refine ldP_blk bL ?_); refine ldP_k (b:=bL) rfl (by repeat (first | with_reducible exact List.mem_cons_self | refine List.mem_cons_of_mem _ ?_)) rfl ?_) | ((with_reducible refine ldP_blk bT ?_); refine ldP_k (b:=bT) rfl (by repeat (first | with_reducible exact List.mem_cons_self | refine List.mem_cons_of_mem _ ?_)) rfl ?_) | (with_reducible refine Sx.call_at (f:=26) (fun W hW=>kn W) ?_) | (with_reducible refine cregF ?_))
    refine asks_ext (fun W hW hok=>gives_known en_r10_Same (rx_same10 (hok (.g (wK 2 1 (.slice a2_ (rlout L1 at_).length c2_) (rlout L1 at_).length ((rlout L1 at_).map (Value.int .i64)))) (by repeat (first | with_reducible exact List.mem_cons_self | refine List.mem_cons_of_mem _ ?_))) (hok (.g (wK 2 1 (.slice a3_ (rlout L1 at_).length c3_) (rlout L1 at_).length ((rlout L1 at_).map (Value.int .i64)))) (by repeat (first | with_reducible exact List.mem_cons_self | refine List.mem_cons_of_mem _ ?_))))) ?_
    repeat' (first | simp (disch:=omega) only [sxE,w20_RebuildLines.E,Nat.reduceAdd,Nat.reduceEqDiff,Nat.reduceMul,Nat.reduceSub,Int.reduceAdd,Int.reduceSub,Int.reduceMul,Int.reduceNeg,Int.reduceLT,Int.reduceLE,Int.reduceEq,Int.reduceToNat,↓reduceIte,Int.reducePow,Nat.reduceLeDiff,Nat.reduceLT,ne_eq,eq_self,List.length_cons,List.length_nil,qxE,beq_self_eq_true,Bool.not_true] | (rw [w20_RebuildLines.p2_l]) | (with_reducible apply LX_round) | ((with_reducible refine ldP_blk bL ?_); refine ldP_k (b:=bL) rfl (by repeat (first | with_reducible exact List.mem_cons_self | refine List.mem_cons_of_mem _ ?_)) rfl ?_) | ((with_reducible refine ldP_blk bT ?_); refine ldP_k (b:=bT) rfl (by repeat (first | with_reducible exact List.mem_cons_self | refine List.mem_cons_of_mem _ ?_)) rfl ?_) | (with_reducible refine Sx.call_at (f:=26) (fun W hW=>kn W) ?_) | (with_reducible refine cregF ?_))
    refine asks_rowB (e:=2) (s:=1) (ι:=Unit) (fun _=>True) (fun _=>(rlout L2 at_).length) (fun _=>(rlout L2 at_).map (Value.int .i64)) (fun _ v=>.tuple #[v,.int .i64 (rlerr L2 at_)]) en_rebuild_Lines rfl (fun W hW hok=>?_) ?_
    · refine (gx_lines (sll_row (by rw [hL2]; exact hok (.g (wK 41 12 (.slice ab L1.length cb) L1.length (rlcs L2))) (by repeat (first | with_reducible exact List.mem_cons_self | refine List.mem_cons_of_mem _ ?_))) hR2) (slz_row (hok (.g (wK 2 1 (.slice aa at_.length ca) at_.length (at_.map (Value.int .i64)))) (by repeat (first | with_reducible exact List.mem_cons_self | refine List.mem_cons_of_mem _ ?_))) hat) (by omega)).mono ?_
      exact fun e w' ⟨v,h1,h2,h3⟩=>⟨(),v,trivial,h1,h2,h3⟩
    rintro - a4_ c4_ - - - - -
    repeat' (first | simp (disch:=omega) only [sxE,w20_RebuildLines.E,Nat.reduceAdd,Nat.reduceEqDiff,Nat.reduceMul,Nat.reduceSub,Int.reduceAdd,Int.reduceSub,Int.reduceMul,Int.reduceNeg,Int.reduceLT,Int.reduceLE,Int.reduceEq,Int.reduceToNat,↓reduceIte,Int.reducePow,Nat.reduceLeDiff,Nat.reduceLT,ne_eq,eq_self,List.length_cons,List.length_nil,qxE,beq_self_eq_true,Bool.not_true] | (rw [w20_RebuildLines.p2_l]) | (with_reducible apply LX_round) | ((with_reducible refine ldP_blk bL ?_); refine ldP_k (b:=bL) rfl (by repeat (first | with_reducible exact List.mem_cons_self | refine List.mem_cons_of_mem _ ?_)) rfl ?_) | ((with_reducible refine ldP_blk bT ?_); refine ldP_k (b:=bT) rfl (by repeat (first | with_reducible exact List.mem_cons_self | refine List.mem_cons_of_mem _ ?_)) rfl ?_) | (with_reducible refine Sx.call_at (f:=26) (fun W hW=>kn W) ?_) | (with_reducible refine cregF ?_))
    refine asks_rowB (e:=2) (s:=1) (ι:=Unit) (fun _=>True) (fun _=>(rlout L2 at_).length) (fun _=>(rlout L2 at_).map (Value.int .i64)) (fun _ v=>.tuple #[v,.int .i64 (rlerr L2 at_)]) en_r20_Lines rfl (fun W hW hok=>?_) ?_
    · refine (rx_lines (sll_row (by rw [hL2]; exact hok (.g (wK 41 12 (.slice ab L1.length cb) L1.length (rlcs L2))) (by repeat (first | with_reducible exact List.mem_cons_self | refine List.mem_cons_of_mem _ ?_))) hR2) (slz_row (hok (.g (wK 2 1 (.slice aa at_.length ca) at_.length (at_.map (Value.int .i64)))) (by repeat (first | with_reducible exact List.mem_cons_self | refine List.mem_cons_of_mem _ ?_))) hat) (by omega)).mono ?_
      exact fun e w' ⟨v,h1,h2,h3⟩=>⟨(),v,trivial,h1,h2,h3⟩
    rintro - a5_ c5_ - - - - -
    repeat' (first | simp (disch:=omega) only [sxE,w20_RebuildLines.E,Nat.reduceAdd,Nat.reduceEqDiff,Nat.reduceMul,Nat.reduceSub,Int.reduceAdd,Int.reduceSub,Int.reduceMul,Int.reduceNeg,Int.reduceLT,Int.reduceLE,Int.reduceEq,Int.reduceToNat,↓reduceIte,Int.reducePow,Nat.reduceLeDiff,Nat.reduceLT,ne_eq,eq_self,List.length_cons,List.length_nil,qxE,beq_self_eq_true,Bool.not_true] | (rw [w20_RebuildLines.p2_l]) | (with_reducible apply LX_round) | ((with_reducible refine ldP_blk bL ?_); refine ldP_k (b:=bL) rfl (by repeat (first | with_reducible exact List.mem_cons_self | refine List.mem_cons_of_mem _ ?_)) rfl ?_) | ((with_reducible refine ldP_blk bT ?_); refine ldP_k (b:=bT) rfl (by repeat (first | with_reducible exact List.mem_cons_self | refine List.mem_cons_of_mem _ ?_)) rfl ?_) | (with_reducible refine Sx.call_at (f:=26) (fun W hW=>kn W) ?_) | (with_reducible refine cregF ?_))
    refine asks_ext (fun W hW hok=>gives_known en_r10_Same (rx_same10 (hok (.g (wK 2 1 (.slice a4_ (rlout L2 at_).length c4_) (rlout L2 at_).length ((rlout L2 at_).map (Value.int .i64)))) (by repeat (first | with_reducible exact List.mem_cons_self | refine List.mem_cons_of_mem _ ?_))) (hok (.g (wK 2 1 (.slice a5_ (rlout L2 at_).length c5_) (rlout L2 at_).length ((rlout L2 at_).map (Value.int .i64)))) (by repeat (first | with_reducible exact List.mem_cons_self | refine List.mem_cons_of_mem _ ?_))))) ?_
    repeat' (first | simp (disch:=omega) only [sxE,w20_RebuildLines.E,Nat.reduceAdd,Nat.reduceEqDiff,Nat.reduceMul,Nat.reduceSub,Int.reduceAdd,Int.reduceSub,Int.reduceMul,Int.reduceNeg,Int.reduceLT,Int.reduceLE,Int.reduceEq,Int.reduceToNat,↓reduceIte,Int.reducePow,Nat.reduceLeDiff,Nat.reduceLT,ne_eq,eq_self,List.length_cons,List.length_nil,qxE,beq_self_eq_true,Bool.not_true] | (rw [w20_RebuildLines.p2_l]) | (with_reducible apply LX_round) | ((with_reducible refine ldP_blk bL ?_); refine ldP_k (b:=bL) rfl (by repeat (first | with_reducible exact List.mem_cons_self | refine List.mem_cons_of_mem _ ?_)) rfl ?_) | ((with_reducible refine ldP_blk bT ?_); refine ldP_k (b:=bT) rfl (by repeat (first | with_reducible exact List.mem_cons_self | refine List.mem_cons_of_mem _ ?_)) rfl ?_) | (with_reducible refine Sx.call_at (f:=26) (fun W hW=>kn W) ?_) | (with_reducible refine cregF ?_))
    refine asks_rowB (e:=2) (s:=1) (ι:=Unit) (fun _=>True) (fun _=>(rlout L1 zs).length) (fun _=>(rlout L1 zs).map (Value.int .i64)) (fun _ v=>.tuple #[v,.int .i64 (rlerr L1 zs)]) en_rebuild_Lines rfl (fun W hW hok=>?_) ?_
    · refine (gx_lines (sll_row (hok (.g (wK 41 12 (.slice ax L1.length cx_) L1.length (rlcs L1))) (by repeat (first | with_reducible exact List.mem_cons_self | refine List.mem_cons_of_mem _ ?_))) hR) (slz_row (hok (.g (wK 2 1 (.slice ao zs.length co) zs.length (zs.map (Value.int .i64)))) (by repeat (first | with_reducible exact List.mem_cons_self | refine List.mem_cons_of_mem _ ?_))) hzs) (by omega)).mono ?_
      exact fun e w' ⟨v,h1,h2,h3⟩=>⟨(),v,trivial,h1,h2,h3⟩
    rintro - a6_ c6_ - - - - -
    repeat' (first | simp (disch:=omega) only [sxE,w20_RebuildLines.E,Nat.reduceAdd,Nat.reduceEqDiff,Nat.reduceMul,Nat.reduceSub,Int.reduceAdd,Int.reduceSub,Int.reduceMul,Int.reduceNeg,Int.reduceLT,Int.reduceLE,Int.reduceEq,Int.reduceToNat,↓reduceIte,Int.reducePow,Nat.reduceLeDiff,Nat.reduceLT,ne_eq,eq_self,List.length_cons,List.length_nil,qxE,beq_self_eq_true,Bool.not_true] | (rw [w20_RebuildLines.p2_l]) | (with_reducible apply LX_round) | ((with_reducible refine ldP_blk bL ?_); refine ldP_k (b:=bL) rfl (by repeat (first | with_reducible exact List.mem_cons_self | refine List.mem_cons_of_mem _ ?_)) rfl ?_) | ((with_reducible refine ldP_blk bT ?_); refine ldP_k (b:=bT) rfl (by repeat (first | with_reducible exact List.mem_cons_self | refine List.mem_cons_of_mem _ ?_)) rfl ?_) | (with_reducible refine Sx.call_at (f:=26) (fun W hW=>kn W) ?_) | (with_reducible refine cregF ?_))
    refine asks_rowB (e:=2) (s:=1) (ι:=Unit) (fun _=>True) (fun _=>(rlout L1 zs).length) (fun _=>(rlout L1 zs).map (Value.int .i64)) (fun _ v=>.tuple #[v,.int .i64 (rlerr L1 zs)]) en_r20_Lines rfl (fun W hW hok=>?_) ?_
    · refine (rx_lines (sll_row (hok (.g (wK 41 12 (.slice ax L1.length cx_) L1.length (rlcs L1))) (by repeat (first | with_reducible exact List.mem_cons_self | refine List.mem_cons_of_mem _ ?_))) hR) (slz_row (hok (.g (wK 2 1 (.slice ao zs.length co) zs.length (zs.map (Value.int .i64)))) (by repeat (first | with_reducible exact List.mem_cons_self | refine List.mem_cons_of_mem _ ?_))) hzs) (by omega)).mono ?_
      exact fun e w' ⟨v,h1,h2,h3⟩=>⟨(),v,trivial,h1,h2,h3⟩
    rintro - a7_ c7_ - - - - -
    repeat' (first | simp (disch:=omega) only [sxE,w20_RebuildLines.E,Nat.reduceAdd,Nat.reduceEqDiff,Nat.reduceMul,Nat.reduceSub,Int.reduceAdd,Int.reduceSub,Int.reduceMul,Int.reduceNeg,Int.reduceLT,Int.reduceLE,Int.reduceEq,Int.reduceToNat,↓reduceIte,Int.reducePow,Nat.reduceLeDiff,Nat.reduceLT,ne_eq,eq_self,List.length_cons,List.length_nil,qxE,beq_self_eq_true,Bool.not_true] | (rw [w20_RebuildLines.p2_l]) | (with_reducible apply LX_round) | ((with_reducible refine ldP_blk bL ?_); refine ldP_k (b:=bL) rfl (by repeat (first | with_reducible exact List.mem_cons_self | refine List.mem_cons_of_mem _ ?_)) rfl ?_) | ((with_reducible refine ldP_blk bT ?_); refine ldP_k (b:=bT) rfl (by repeat (first | with_reducible exact List.mem_cons_self | refine List.mem_cons_of_mem _ ?_)) rfl ?_) | (with_reducible refine Sx.call_at (f:=26) (fun W hW=>kn W) ?_) | (with_reducible refine cregF ?_))
    refine asks_ext (fun W hW hok=>gives_known en_r10_Same (rx_same10 (hok (.g (wK 2 1 (.slice a6_ (rlout L1 zs).length c6_) (rlout L1 zs).length ((rlout L1 zs).map (Value.int .i64)))) (by repeat (first | with_reducible exact List.mem_cons_self | refine List.mem_cons_of_mem _ ?_))) (hok (.g (wK 2 1 (.slice a7_ (rlout L1 zs).length c7_) (rlout L1 zs).length ((rlout L1 zs).map (Value.int .i64)))) (by repeat (first | with_reducible exact List.mem_cons_self | refine List.mem_cons_of_mem _ ?_))))) ?_
    repeat' (first | simp (disch:=omega) only [sxE,w20_RebuildLines.E,Nat.reduceAdd,Nat.reduceEqDiff,Nat.reduceMul,Nat.reduceSub,Int.reduceAdd,Int.reduceSub,Int.reduceMul,Int.reduceNeg,Int.reduceLT,Int.reduceLE,Int.reduceEq,Int.reduceToNat,↓reduceIte,Int.reducePow,Nat.reduceLeDiff,Nat.reduceLT,ne_eq,eq_self,List.length_cons,List.length_nil,qxE,beq_self_eq_true,Bool.not_true] | (rw [w20_RebuildLines.p2_l]) | (with_reducible apply LX_round) | ((with_reducible refine ldP_blk bL ?_); refine ldP_k (b:=bL) rfl (by repeat (first | with_reducible exact List.mem_cons_self | refine List.mem_cons_of_mem _ ?_)) rfl ?_) | ((with_reducible refine ldP_blk bT ?_); refine ldP_k (b:=bT) rfl (by repeat (first | with_reducible exact List.mem_cons_self | refine List.mem_cons_of_mem _ ?_)) rfl ?_) | (with_reducible refine Sx.call_at (f:=26) (fun W hW=>kn W) ?_) | (with_reducible refine cregF ?_))
    refine asks_rowB (e:=2) (s:=1) (ι:=Unit) (fun _=>True) (fun _=>(rlout z0 at_).length) (fun _=>(rlout z0 at_).map (Value.int .i64)) (fun _ v=>.tuple #[v,.int .i64 (rlerr z0 at_)]) en_rebuild_Lines rfl (fun W hW hok=>?_) ?_
    · refine (gx_lines (h0.below hW) (slz_row (hok (.g (wK 2 1 (.slice aa at_.length ca) at_.length (at_.map (Value.int .i64)))) (by repeat (first | with_reducible exact List.mem_cons_self | refine List.mem_cons_of_mem _ ?_))) hat) (by omega)).mono ?_
      exact fun e w' ⟨v,h1,h2,h3⟩=>⟨(),v,trivial,h1,h2,h3⟩
    rintro - a8_ c8_ - - - - -
    repeat' (first | simp (disch:=omega) only [sxE,w20_RebuildLines.E,Nat.reduceAdd,Nat.reduceEqDiff,Nat.reduceMul,Nat.reduceSub,Int.reduceAdd,Int.reduceSub,Int.reduceMul,Int.reduceNeg,Int.reduceLT,Int.reduceLE,Int.reduceEq,Int.reduceToNat,↓reduceIte,Int.reducePow,Nat.reduceLeDiff,Nat.reduceLT,ne_eq,eq_self,List.length_cons,List.length_nil,qxE,beq_self_eq_true,Bool.not_true] | (rw [w20_RebuildLines.p2_l]) | (with_reducible apply LX_round) | ((with_reducible refine ldP_blk bL ?_); refine ldP_k (b:=bL) rfl (by repeat (first | with_reducible exact List.mem_cons_self | refine List.mem_cons_of_mem _ ?_)) rfl ?_) | ((with_reducible refine ldP_blk bT ?_); refine ldP_k (b:=bT) rfl (by repeat (first | with_reducible exact List.mem_cons_self | refine List.mem_cons_of_mem _ ?_)) rfl ?_) | (with_reducible refine Sx.call_at (f:=26) (fun W hW=>kn W) ?_) | (with_reducible refine cregF ?_))
    refine asks_rowB (e:=2) (s:=1) (ι:=Unit) (fun _=>True) (fun _=>(rlout z0 at_).length) (fun _=>(rlout z0 at_).map (Value.int .i64)) (fun _ v=>.tuple #[v,.int .i64 (rlerr z0 at_)]) en_r20_Lines rfl (fun W hW hok=>?_) ?_
    · refine (rx_lines (h0.below hW) (slz_row (hok (.g (wK 2 1 (.slice aa at_.length ca) at_.length (at_.map (Value.int .i64)))) (by repeat (first | with_reducible exact List.mem_cons_self | refine List.mem_cons_of_mem _ ?_))) hat) (by omega)).mono ?_
      exact fun e w' ⟨v,h1,h2,h3⟩=>⟨(),v,trivial,h1,h2,h3⟩
    rintro - a9_ c9_ - - - - -
    repeat' (first | simp (disch:=omega) only [sxE,w20_RebuildLines.E,Nat.reduceAdd,Nat.reduceEqDiff,Nat.reduceMul,Nat.reduceSub,Int.reduceAdd,Int.reduceSub,Int.reduceMul,Int.reduceNeg,Int.reduceLT,Int.reduceLE,Int.reduceEq,Int.reduceToNat,↓reduceIte,Int.reducePow,Nat.reduceLeDiff,Nat.reduceLT,ne_eq,eq_self,List.length_cons,List.length_nil,qxE,beq_self_eq_true,Bool.not_true] | (rw [w20_RebuildLines.p2_l]) | (with_reducible apply LX_round) | ((with_reducible refine ldP_blk bL ?_); refine ldP_k (b:=bL) rfl (by repeat (first | with_reducible exact List.mem_cons_self | refine List.mem_cons_of_mem _ ?_)) rfl ?_) | ((with_reducible refine ldP_blk bT ?_); refine ldP_k (b:=bT) rfl (by repeat (first | with_reducible exact List.mem_cons_self | refine List.mem_cons_of_mem _ ?_)) rfl ?_) | (with_reducible refine Sx.call_at (f:=26) (fun W hW=>kn W) ?_) | (with_reducible refine cregF ?_))
    refine asks_ext (fun W hW hok=>gives_known en_r10_Same (rx_same10 (hok (.g (wK 2 1 (.slice a8_ (rlout z0 at_).length c8_) (rlout z0 at_).length ((rlout z0 at_).map (Value.int .i64)))) (by repeat (first | with_reducible exact List.mem_cons_self | refine List.mem_cons_of_mem _ ?_))) (hok (.g (wK 2 1 (.slice a9_ (rlout z0 at_).length c9_) (rlout z0 at_).length ((rlout z0 at_).map (Value.int .i64)))) (by repeat (first | with_reducible exact List.mem_cons_self | refine List.mem_cons_of_mem _ ?_))))) ?_
    repeat' (first | simp (disch:=omega) only [sxE,w20_RebuildLines.E,Nat.reduceAdd,Nat.reduceEqDiff,Nat.reduceMul,Nat.reduceSub,Int.reduceAdd,Int.reduceSub,Int.reduceMul,Int.reduceNeg,Int.reduceLT,Int.reduceLE,Int.reduceEq,Int.reduceToNat,↓reduceIte,Int.reducePow,Nat.reduceLeDiff,Nat.reduceLT,ne_eq,eq_self,List.length_cons,List.length_nil,qxE,beq_self_eq_true,Bool.not_true] | (rw [w20_RebuildLines.p2_l]) | (with_reducible apply LX_round) | ((with_reducible refine ldP_blk bL ?_); refine ldP_k (b:=bL) rfl (by repeat (first | with_reducible exact List.mem_cons_self | refine List.mem_cons_of_mem _ ?_)) rfl ?_) | ((with_reducible refine ldP_blk bT ?_); refine ldP_k (b:=bT) rfl (by repeat (first | with_reducible exact List.mem_cons_self | refine List.mem_cons_of_mem _ ?_)) rfl ?_) | (with_reducible refine Sx.call_at (f:=26) (fun W hW=>kn W) ?_) | (with_reducible refine cregF ?_))
  by_cases hpos:0 < L1.length
  · obtain ⟨g,rfl⟩:=hab hpos
    have hgA:g ∉ (.g (wK 2 1 (.slice aa at_.length ca) at_.length (at_.map (Value.int .i64))):Kn).bs:=(hfr g rfl).2 _ (by repeat (first | with_reducible exact List.mem_cons_self | refine List.mem_cons_of_mem _ ?_))
    have hgX:g ∉ (.g (wK 41 12 (.slice ax L1.length cx_) L1.length (rlcs L1)):Kn).bs:=(hfr g rfl).2 _ (by repeat (first | with_reducible exact List.mem_cons_self | refine List.mem_cons_of_mem _ ?_))
    have hgt:g≠tb:=fun h=>(hfr g rfl).2 _ (by repeat (first | with_reducible exact List.mem_cons_self | refine List.mem_cons_of_mem _ ?_)) (tK_bs.2 h)
    clear hfr hab
    repeat' (first | simp (disch:=omega) only [sxE,w20_RebuildLines.E,Nat.reduceAdd,Nat.reduceEqDiff,Nat.reduceMul,Nat.reduceSub,Int.reduceAdd,Int.reduceSub,Int.reduceMul,Int.reduceNeg,Int.reduceLT,Int.reduceLE,Int.reduceEq,Int.reduceToNat,↓reduceIte,Int.reducePow,Nat.reduceLeDiff,Nat.reduceLT,ne_eq,eq_self,List.length_cons,List.length_nil,qxE])
    refine cregI [.g (wK 41 12 (.slice (some ⟨g,0,none⟩) L1.length cb) L1.length (rlcs L1))] [tb] rfl (fun k hk=>?_) (fun x hx=>?_) ?_
    · rw [List.mem_singleton.1 hk]
      refine ⟨List.mem_cons_self,fun x hx h=>?_⟩
      rw [List.mem_singleton.1 h] at hx
      exact hbt hx
    · rw [List.mem_singleton.1 hx]
      exact ⟨.g (tK tb),(by repeat (first | with_reducible exact List.mem_cons_self | refine List.mem_cons_of_mem _ ?_)),tK_bs.2 rfl⟩
    repeat' (first | simp (disch:=omega) only [sxE,w20_RebuildLines.E,Nat.reduceAdd,Nat.reduceEqDiff,Nat.reduceMul,Nat.reduceSub,Int.reduceAdd,Int.reduceSub,Int.reduceMul,Int.reduceNeg,Int.reduceLT,Int.reduceLE,Int.reduceEq,Int.reduceToNat,↓reduceIte,Int.reducePow,Nat.reduceLeDiff,Nat.reduceLT,ne_eq,eq_self,List.length_cons,List.length_nil,qxE])
    
    have hl0:(0:Int) < (L1.length:Int):=by omega
    refine asks_tm rfl (tpk_t _ tb) (t_next tb (by omega) (by omega)) en_m_Tape__Next rfl (by repeat (first | with_reducible exact List.mem_cons_self | refine List.mem_cons_of_mem _ ?_)) List.mem_cons_self (fun j hj=>by
      simp only [List.mem_cons,List.not_mem_nil,or_false] at hj
      rcases hj with rfl | rfl | rfl | rfl
      · exact .inr hbt
      · exact .inr hta
      · exact .inr htx
      · exact .inl rfl) ?_
    rintro i ⟨i0,i1⟩
    obtain ⟨i,rfl⟩:=Int.eq_ofNat_of_zero_le i0
    have hi:i < L1.length:=by omega
    have hrd:=(one_at (rlcs_at (j:=0) hi (by decide)))
    have hn:=(getD_ok hR hi).n
    
    repeat' (first | simp (disch:=omega) only [sxE,w20_RebuildLines.E,Nat.reduceAdd,Nat.reduceEqDiff,Nat.reduceMul,Nat.reduceSub,Int.reduceAdd,Int.reduceSub,Int.reduceMul,Int.reduceNeg,Int.reduceLT,Int.reduceLE,Int.reduceEq,Int.reduceToNat,↓reduceIte,Int.reducePow,Nat.reduceLeDiff,Nat.reduceLT,ne_eq,eq_self,List.length_cons,List.length_nil,qxE] | (with_reducible refine ldP_blk g ?_; refine ldP_row (b:=false) (l:=[.int .i64 (L1.getD i rl0).n]) rfl (List.mem_cons_self) rfl (fun j u hu=>?_) ?_; rw [show 0 + i * 12 + 0 + j = 12 * i + 0 + j by omega]; exact one_at (rlcs_at (j:=0) hi (by decide)) j u hu))
    refine asks_tm rfl (tpk_t _ tb) (t_next tb (by decide) (by decide)) en_m_Tape__Next rfl (by repeat (first | with_reducible exact List.mem_cons_self | refine List.mem_cons_of_mem _ ?_)) List.mem_cons_self (fun j hj=>by
      simp only [List.mem_cons,List.not_mem_nil,or_false] at hj
      rcases hj with rfl | rfl | rfl | rfl
      · exact .inr hbt
      · exact .inr hta
      · exact .inr htx
      · exact .inl rfl) ?_
    rintro r ⟨r0,r1⟩
    have hr1:I64 (r - 1):=⟨by omega,by omega⟩
    repeat' (first | simp (disch:=omega) only [sxE,w20_RebuildLines.E,Nat.reduceAdd,Nat.reduceEqDiff,Nat.reduceMul,Nat.reduceSub,Int.reduceAdd,Int.reduceSub,Int.reduceMul,Int.reduceNeg,Int.reduceLT,Int.reduceLE,Int.reduceEq,Int.reduceToNat,↓reduceIte,Int.reducePow,Nat.reduceLeDiff,Nat.reduceLT,ne_eq,eq_self,List.length_cons,List.length_nil,qxE] | (with_reducible refine ldP_blk g ?_; refine ldP_row (b:=false) (l:=[.int .i64 (L1.getD i rl0).n]) rfl (List.mem_cons_self) rfl (fun j u hu=>?_) ?_; rw [show 0 + i * 12 + 0 + j = 12 * i + 0 + j by omega]; exact one_at (rlcs_at (j:=0) hi (by decide)) j u hu))
    have hRR:∀ L0,∀ k∈([.g (wK 2 1 (.slice aa at_.length ca) at_.length (at_.map (Value.int .i64))),.g (wK 41 12 (.slice ax L1.length cx_) L1.length (rlcs L1)),.g (tK tb)]:List Kn),k∈([.g (wK 41 12 (.slice (some ⟨g,0,none⟩) L1.length cb) L1.length (rlcs L0)),.g (wK 2 1 (.slice aa at_.length ca) at_.length (at_.map (Value.int .i64))),.g (wK 41 12 (.slice ax L1.length cx_) L1.length (rlcs L1)),.g (tK tb)]:List Kn)∧g ∉ k.bs:=fun L0 k hk=>by
      refine ⟨List.mem_cons_of_mem _ hk,?_⟩
      simp only [List.mem_cons,List.not_mem_nil,or_false] at hk
      rcases hk with rfl | rfl | rfl
      · exact hgA
      · exact hgX
      · exact fun h=>hgt (tK_bs.1 h)
    rw [show 0 + i * 12 + 0 = 12 * i by omega]
    refine stP_w (R:=[.g (wK 2 1 (.slice aa at_.length ca) at_.length (at_.map (Value.int .i64))),.g (wK 41 12 (.slice ax L1.length cx_) L1.length (rlcs L1)),.g (tK tb)]) rfl List.mem_cons_self (hRR _) (by rw [rlcs_len]; omega) rfl ?_
    rw [rl_count _ hi]
    have hR2:=rl_set (i:=i) hR (cn_ok (getD_ok hR hi) (i64_wrapl ((L1.getD i rl0).n + (r - 1))))
    have hL2:(L1.set i { L1.getD i rl0 with n:=IntKind.i64.wrap ((L1.getD i rl0).n + (r - 1)) }).length = L1.length:=List.length_set ..
    generalize L1.set i { L1.getD i rl0 with n:=IntKind.i64.wrap ((L1.getD i rl0).n + (r - 1)) } = L2 at *
    clear hrd hn hr1 r0 r1 hi i1 i0
    repeat' (first | simp (disch:=omega) only [sxE,w20_RebuildLines.E,Nat.reduceAdd,Nat.reduceEqDiff,Nat.reduceMul,Nat.reduceSub,Int.reduceAdd,Int.reduceSub,Int.reduceMul,Int.reduceNeg,Int.reduceLT,Int.reduceLE,Int.reduceEq,Int.reduceToNat,↓reduceIte,Int.reducePow,Nat.reduceLeDiff,Nat.reduceLT,ne_eq,eq_self,List.length_cons,List.length_nil,qxE] | (with_reducible refine cregF ?_))
    refine asks_tc rfl (tpk_t _ tb) (t_next tb (by omega) (by omega)) en_m_Tape__Next rfl (by repeat (first | with_reducible exact List.mem_cons_self | refine List.mem_cons_of_mem _ ?_)) rfl (fun j hj=>by
      simp only [List.mem_cons,List.not_mem_nil,or_false] at hj
      rcases hj with rfl | rfl | rfl | rfl
      · exact .inr hbt
      · exact .inr hta
      · exact .inr htx
      · exact .inl rfl) ?_
    rintro j ⟨j0,j1⟩
    obtain ⟨j,rfl⟩:=Int.eq_ofNat_of_zero_le j0
    have hj:j < L2.length:=by omega
    have hj1:j < L1.length:=by omega
    repeat' (first | simp (disch:=omega) only [sxE,w20_RebuildLines.E,Nat.reduceAdd,Nat.reduceEqDiff,Nat.reduceMul,Nat.reduceSub,Int.reduceAdd,Int.reduceSub,Int.reduceMul,Int.reduceNeg,Int.reduceLT,Int.reduceLE,Int.reduceEq,Int.reduceToNat,↓reduceIte,Int.reducePow,Nat.reduceLeDiff,Nat.reduceLT,ne_eq,eq_self,List.length_cons,List.length_nil,qxE] | (with_reducible refine cregF ?_))
    refine asks_tc rfl (tpk_t _ tb) (t_ratio tb) en_m_Tape__Ratio rfl (by repeat (first | with_reducible exact List.mem_cons_self | refine List.mem_cons_of_mem _ ?_)) rfl (fun j hj=>by
      simp only [List.mem_cons,List.not_mem_nil,or_false] at hj
      rcases hj with rfl | rfl | rfl | rfl
      · exact .inr hbt
      · exact .inr hta
      · exact .inr htx
      · exact .inl rfl) ?_
    rintro ⟨P,Q⟩ hF
    repeat' (first | simp (disch:=omega) only [sxE,w20_RebuildLines.E,Nat.reduceAdd,Nat.reduceEqDiff,Nat.reduceMul,Nat.reduceSub,Int.reduceAdd,Int.reduceSub,Int.reduceMul,Int.reduceNeg,Int.reduceLT,Int.reduceLE,Int.reduceEq,Int.reduceToNat,↓reduceIte,Int.reducePow,Nat.reduceLeDiff,Nat.reduceLT,ne_eq,eq_self,List.length_cons,List.length_nil,qxE] | (with_reducible refine cregF ?_))
    rw [show 0 + j * 12 + 2 = 12 * j + 2 by omega]
    refine ⟨rfl,stL_w (R:=[.g (wK 2 1 (.slice aa at_.length ca) at_.length (at_.map (Value.int .i64))),.g (wK 41 12 (.slice ax L1.length cx_) L1.length (rlcs L1)),.g (tK tb)]) rfl List.mem_cons_self (hRR _) (rl_slope P Q hj) rfl ?_⟩
    have hR3:=rl_set (i:=j) hR2 (slR_ok (getD_ok hR2 hj) hF)
    have hL3:(L2.set j (slR (L2.getD j rl0) P Q)).length = L1.length:=by rw [List.length_set]; exact hL2
    generalize L2.set j (slR (L2.getD j rl0) P Q) = L3 at *
    repeat' (first | simp (disch:=omega) only [sxE,w20_RebuildLines.E,Nat.reduceAdd,Nat.reduceEqDiff,Nat.reduceMul,Nat.reduceSub,Int.reduceAdd,Int.reduceSub,Int.reduceMul,Int.reduceNeg,Int.reduceLT,Int.reduceLE,Int.reduceEq,Int.reduceToNat,↓reduceIte,Int.reducePow,Nat.reduceLeDiff,Nat.reduceLT,ne_eq,eq_self,List.length_cons,List.length_nil,qxE] | (with_reducible refine cregF ?_))
    refine asks_rowT (L:=[.g (wK 41 12 (.slice (some ⟨g,0,none⟩) L1.length cb) L1.length (rlcs L3)),.g (wK 2 1 (.slice aa at_.length ca) at_.length (at_.map (Value.int .i64))),.g (wK 41 12 (.slice ax L1.length cx_) L1.length (rlcs L1)),.g (tK tb)]) (e:=2) (s:=1) (fun zs:List Int=>Inc zs∧(zs.length:Int)≤25) (fun zs=>zs.length) (fun zs=>zs.map (Value.int .i64)) (fun zs v=>v) (tpk_t _ tb) en_m_Tape__Times rfl (by repeat (first | with_reducible exact List.mem_cons_self | refine List.mem_cons_of_mem _ ?_)) (List.mem_singleton.2 rfl) rfl (fun j hj=>by
      simp only [List.mem_cons,List.not_mem_nil,or_false] at hj
      rcases hj with rfl | rfl | rfl | rfl
      · exact .inr hbt
      · exact .inr hta
      · exact .inr htx
      · exact .inl rfl) (fun W hW=>by
      refine (times_any tb 25 (by decide) (by decide) W hW).mono ?_
      rintro e w' ⟨v,ss,h1,h2,h3,h4,h5⟩
      exact ⟨ss,v,h1,h2,h3,h4,h5⟩) ?_
    rintro zs ao co ⟨hsm,hs25⟩ - - - -
    repeat' (first | simp (disch:=omega) only [sxE,w20_RebuildLines.E,Nat.reduceAdd,Nat.reduceEqDiff,Nat.reduceMul,Nat.reduceSub,Int.reduceAdd,Int.reduceSub,Int.reduceMul,Int.reduceNeg,Int.reduceLT,Int.reduceLE,Int.reduceEq,Int.reduceToNat,↓reduceIte,Int.reducePow,Nat.reduceLeDiff,Nat.reduceLT,ne_eq,eq_self,List.length_cons,List.length_nil,qxE] | (with_reducible refine cregF ?_))
    exact rest L3 zs ao co hR3 hL3 (fun z hz=>hsm.2 z hz) hs25
  · repeat' (first | simp (disch:=omega) only [sxE,w20_RebuildLines.E,Nat.reduceAdd,Nat.reduceEqDiff,Nat.reduceMul,Nat.reduceSub,Int.reduceAdd,Int.reduceSub,Int.reduceMul,Int.reduceNeg,Int.reduceLT,Int.reduceLE,Int.reduceEq,Int.reduceToNat,↓reduceIte,Int.reducePow,Nat.reduceLeDiff,Nat.reduceLT,ne_eq,eq_self,List.length_cons,List.length_nil,qxE] | (with_reducible refine cregF ?_))
    refine asks_rowT (L:=[.g (wK 41 12 (.slice ab L1.length cb) L1.length (rlcs L1)),.g (wK 2 1 (.slice aa at_.length ca) at_.length (at_.map (Value.int .i64))),.g (wK 41 12 (.slice ax L1.length cx_) L1.length (rlcs L1)),.g (tK tb)]) (e:=2) (s:=1) (fun zs:List Int=>Inc zs∧(zs.length:Int)≤25) (fun zs=>zs.length) (fun zs=>zs.map (Value.int .i64)) (fun zs v=>v) (tpk_t _ tb) en_m_Tape__Times rfl (by repeat (first | with_reducible exact List.mem_cons_self | refine List.mem_cons_of_mem _ ?_)) (List.mem_singleton.2 rfl) rfl (fun j hj=>by
      simp only [List.mem_cons,List.not_mem_nil,or_false] at hj
      rcases hj with rfl | rfl | rfl | rfl
      · exact .inr hbt
      · exact .inr hta
      · exact .inr htx
      · exact .inl rfl) (fun W hW=>by
      refine (times_any tb 25 (by decide) (by decide) W hW).mono ?_
      rintro e w' ⟨v,ss,h1,h2,h3,h4,h5⟩
      exact ⟨ss,v,h1,h2,h3,h4,h5⟩) ?_
    rintro zs ao co ⟨hsm,hs25⟩ - - - -
    repeat' (first | simp (disch:=omega) only [sxE,w20_RebuildLines.E,Nat.reduceAdd,Nat.reduceEqDiff,Nat.reduceMul,Nat.reduceSub,Int.reduceAdd,Int.reduceSub,Int.reduceMul,Int.reduceNeg,Int.reduceLT,Int.reduceLE,Int.reduceEq,Int.reduceToNat,↓reduceIte,Int.reducePow,Nat.reduceLeDiff,Nat.reduceLT,ne_eq,eq_self,List.length_cons,List.length_nil,qxE] | (with_reducible refine cregF ?_))
    exact rest L1 zs ao co hR rfl (fun z hz=>hsm.2 z hz) hs25
/-! ### The row -/
set_option maxRecDepth 100000 in
theorem lifted (os:Os) (started:os.Started) (H:Type) (enc:TypeId × Value→H) :
    ReturnsInHanded {} Tryz.checked os 3 .any (Rows.rebuildLinesSpec.pre6 enc Tryz.prog Tryz.f3 Rows.rebuildLinesRow.domain false) (Rows.rebuildLinesSpec.post enc Tryz.prog Tryz.f3 false true false false):=by
  refine returnsInHanded_of_change_sized (C:=Tryz.checked) own started (by kernel_rfl) Tryz.func3
    (ChangeSpec.witness6 (enc:=enc) (C:=Tryz.checked) false ⟨#[],#[.slice none 0 0,.slice none 0 0,.slice none 0 0],[]⟩ 8 (by kernel_rfl) (by kernel_rfl) (by kernel_rfl) (by kernel_rfl)) ?_
  intro W base args ds gs before hval0 hW hcnd hsz _
  have hval:∀ (j:Nat) t v,Tryz.f3.params[j]? = some t→args[j]? = some v→Value.okWide Tryz.prog W .any base t v:=hval0
  have hW':=hW
  obtain ⟨p,q,hA0,hV,rfl,hfz,hnd⟩:=hW
  have hA:DataW.TrodAll enc Tryz.prog W 0 (fun _=>true) true Tryz.f3.params.toList args.toList ds p:=hA0
  rw [Tryz.params3] at hA hval
  obtain ⟨v0,vs0,d0,ds0,p0,q0,hargs,rfl,rfl,g0,r0⟩:=trodAll_cons hA
  obtain ⟨v1,vs1,d1,ds1,p1,q1,rfl,rfl,rfl,g1,r1⟩:=trodAll_cons r0
  obtain ⟨v2,vs2,d2,ds2,p2,q2,rfl,rfl,rfl,g2,r2⟩:=trodAll_cons r1
  obtain ⟨rfl,rfl,rfl⟩:=trodAll_nil r2
  obtain rfl:args = #[v0,v1,v2]:=by cases args; simp_all
  obtain ⟨rfl,rfl⟩:=trodVars_none hV
  have hlt:∀ x∈(p0 ++ (p1 ++ (p2 ++ []))) ++ [],x.block < W.heap.size:=fun x hx=>hW'.lt x hx
  obtain ⟨z0,hs0⟩:=open_slln (hval 0 22 v0 rfl rfl) g0 (fun x hx=>hlt x (by simp [hx]))
  obtain ⟨z1,hs1,hd1⟩:=open_slzn Tryz.underlying23 Tryz.underlying2 (by kernel_rfl) (hval 1 23 v1 rfl rfl) g1 (fun x hx=>hlt x (by simp [hx]))
  have hs1':=hs1
  obtain ⟨s1,l1,c1,rfl,_⟩:=hs1'
  have hb1:8 * z1.length≤140737488351232:=by
    rcases hd1 with rfl | ⟨es,sp,rfl,el⟩
    · decide
    · have hr:=sized_slice hsz (j:=1) (t:=23) (e:=2) rfl rfl Tryz.underlying23
      rw [show Tryz.checked.prog.bytesOf 2 = 8 by kernel_rfl] at hr
      simp only [reachBytes] at hr
      omega
  obtain ⟨z2,hs2⟩:=open_slz Tryz.underlying24 Tryz.underlying3 (by kernel_rfl) (hval 2 24 v2 rfl rfl) g2 (fun x hx=>hlt x (by simp [hx]))
  have hs2':=hs2
  obtain ⟨s2,l2,c2,rfl,_⟩:=hs2'
  refine (walk W _ z0 hs0 s1 l1 c1 z1 hs1 hb1 s2 l2 c2 z2 hs2).mono fun e W' ⟨he,hb⟩=>?_
  subst he
  exact ⟨_,rfl,law_post laidOut (by kernel_rfl) rfl rfl Tryz.underlying4 hW' rfl rfl rfl hb⟩

theorem over:Rows.rebuildLinesRow.holds Tryz.pinned (OpenSpec.ofChange Rows.rebuildLinesSpec) :=
  OpenClaim.holds_of_wide 3 Tryz.f3 rfl rfl rfl rfl rfl rfl rfl ⟨rfl,rfl,rfl,rfl,rfl⟩ rfl rfl rfl rfl rfl (by kernel_rfl) Tryz.func3 (by kernel_rfl)
    (of_decide_eq_true (by kernel_rfl)) (by unfold Func.isWrapper; first | (rw [if_pos (by decide +kernel)]; kernel_rfl) | (rw [if_neg (by decide +kernel)]; exact ⟨rfl,rfl⟩))
    (fun os started H enc _=>lifted os started H enc)

/-- The given statement. -/
theorem proved:Rows.RebuildLinesSaid :=
  over
#print axioms proved
end Go.Proofs.YtncmmbacoknefaaGreat.rebuildLines

