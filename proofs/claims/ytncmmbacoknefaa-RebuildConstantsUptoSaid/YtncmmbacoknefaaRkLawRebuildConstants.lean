/- Proved: tscodeclaw20.RebuildConstants returns true for all arguments of a bulk of at most 1048576. No condition. -/
import Derived.Test.YtncmmbacoknefaaRows
import Derived.Test.YtncmmbacoknefaaProg
import Derived.Test.YtncmmbacoknefaaRkClRebuildConstants
import Derived.OpenShut
import Derived.SizedLaws
import Derived.Laws.IdiomArrays
import Derived.WalkKit
import Derived.ProofKit
import Derived.Outline
import Derived.Test.YtncmmbacoknefaaRk2
import Derived.Test.YtncmmbacoknefaaRk3
import Derived.Test.YtncmmbacoknefaaRk4
import Derived.Test.YtncmmbacoknefaaRk5
namespace Go.Proofs.Ytncmmbacoknefaa.rebuildConstants
open Go.ChangeShapes Go.WideShapes Go.ChangeAt Go.RowKit Sx
set_option linter.unusedVariables false
set_option linter.unusedSimpArgs false


set_option maxHeartbeats 8000000 in
set_option maxRecDepth 100000 in
theorem walk (w:World) (s0:Option Addr) (l0 c0:Nat) (z0:List (Int × Int)) (h0:SlS w (.slice s0 l0 c0) z0) (hb0:z0.length≤1048576) (s1:Option Addr) (l1 c1:Nat) (z1:List Int) (h1:SlZ w .i64 (.slice s1 l1 c1) z1) :
    Calls Try.prog 7 #[.slice s0 l0 c0,.slice s1 l1 c1] w fun e w'=>e = .returned (.bool true)∧Below w.heap.size w w':=by

  have kn:=fun W=>g_known20 W
  obtain rfl:l0 = z0.length:=by
    obtain ⟨a,cap,e,-⟩:=id h0
    cases e
    rfl
  have hz0:∀ c∈z0,I64 c.1∧I64 c.2:=by
    obtain ⟨a,cap,e,-,-,h,-⟩:=id h0
    exact h
  refine known_of (enter Try.func7 w20_RebuildConstants.ok (args:=[_,_]) (by simp) ?_)
  repeat' (first | simp (disch:=omega) only [sxE,w20_RebuildConstants.E,Nat.reduceAdd,Nat.reduceEqDiff,Nat.reduceMul,Nat.reduceSub,Int.reduceAdd,Int.reduceSub,Int.reduceMul,Int.reduceNeg,Int.reduceLT,Int.reduceLE,Int.reduceEq,Int.reduceToNat,↓reduceIte,Int.reducePow,Nat.reduceLeDiff,Nat.reduceLT,ne_eq,eq_self,List.length_cons,List.length_nil] | (with_reducible refine cregF ?_))
  refine asks_new (L:=[]) rfl (kX_nil _) h1 en_m_New fun tb htb=>?_; clear htb
  repeat' (first | simp (disch:=omega) only [sxE,w20_RebuildConstants.E,Nat.reduceAdd,Nat.reduceEqDiff,Nat.reduceMul,Nat.reduceSub,Int.reduceAdd,Int.reduceSub,Int.reduceMul,Int.reduceNeg,Int.reduceLT,Int.reduceLE,Int.reduceEq,Int.reduceToNat,↓reduceIte,Int.reducePow,Nat.reduceLeDiff,Nat.reduceLT,ne_eq,eq_self,List.length_cons,List.length_nil] | (with_reducible refine cregF ?_))
  refine genA_w (L:=[.g (tK tb)]) (cs:=[]) (e:=34) (s:=2) (n:=0) rfl (by decide) rfl (fun W=>by kernel_rfl) fun b hb=>?_
  have hbt:b≠tb:=fun e=>hb (kX_bs.2 ⟨_,List.mem_singleton.2 rfl,tK_bs.2 e⟩)
  clear hb
  repeat' (first | simp (disch:=omega) only [sxE,w20_RebuildConstants.E,Nat.reduceAdd,Nat.reduceEqDiff,Nat.reduceMul,Nat.reduceSub,Int.reduceAdd,Int.reduceSub,Int.reduceMul,Int.reduceNeg,Int.reduceLT,Int.reduceLE,Int.reduceEq,Int.reduceToNat,↓reduceIte,Int.reducePow,Nat.reduceLeDiff,Nat.reduceLT,ne_eq,eq_self,List.length_cons,List.length_nil] | (with_reducible refine cregF ?_))
  refine genA_appS rfl [.g (tK tb)] elt_constq rfl (.inr List.mem_cons_self) (by rw [scells_len]) (fun W hW _ hp=>by
    obtain ⟨b',o,e,-,h⟩:=sls_cells (h0.below hW) hp
    exact ⟨b',o,e,h⟩) (.inl fun _ h=>h) (scells_1q _) (by simp only [maxLen]; omega) (by omega) (fun k hk=>by
    rw [List.mem_singleton.1 hk]
    refine ⟨List.mem_cons_of_mem _ (List.mem_singleton.2 rfl),fun x hx e=>hbt ?_⟩
    rw [← tK_bs.1 hx]
    cases e
    rfl) fun a cap hc1 hc2 ha hfr=>?_
  simp only [Nat.zero_add,List.nil_append] at hc1 ha hfr ⊢
  have htb:tb ∉ (Kn.g (wK 34 2 (.slice a z0.length cap) z0.length (scells z0))).bs:=fun h=>(hfr tb (wK_bs.1 h)).2 _ (List.mem_singleton.2 rfl) (tK_bs.2 rfl)
  clear hfr hbt
  repeat' (first | simp (disch:=omega) only [sxE,w20_RebuildConstants.E,Nat.reduceAdd,Nat.reduceEqDiff,Nat.reduceMul,Nat.reduceSub,Int.reduceAdd,Int.reduceSub,Int.reduceMul,Int.reduceNeg,Int.reduceLT,Int.reduceLE,Int.reduceEq,Int.reduceToNat,↓reduceIte,Int.reducePow,Nat.reduceLeDiff,Nat.reduceLT,ne_eq,eq_self,List.length_cons,List.length_nil] | (with_reducible refine cregF ?_))
  rw [w20_RebuildConstants.p4_l]
  refine LX_inv (fun i:Nat=>⟨0,[(5,.v (.pointer (some ⟨tb,0,none⟩))),(6,.v (.slice a z0.length cap)),(7,.v (.int .i64 (i:Int)))],[],kX w.heap.size [.g (wK 34 2 (.slice a z0.length cap) z0.length (scells (lst z0 i))),.g (tK tb)]⟩) (fun i=>i≤z0.length) (fun i=>z0.length - i) ?round 0 (Nat.zero_le _) ?start
  case start =>
    have c0:((0:Nat):Int) = 0:=rfl
    simp (disch:=omega) only [sxE,w20_RebuildConstants.E,Nat.reduceAdd,Nat.reduceEqDiff,Nat.reduceMul,Nat.reduceSub,Int.reduceAdd,Int.reduceSub,Int.reduceMul,Int.reduceNeg,Int.reduceLT,Int.reduceLE,Int.reduceEq,Int.reduceToNat,↓reduceIte,Int.reducePow,Nat.reduceLeDiff,Nat.reduceLT,ne_eq,eq_self,List.length_cons,List.length_nil,c0]
    exact .inl rfl
  case round =>
    intro i hi
    try dsimp only at hi ⊢
    by_cases hlt:i < z0.length
    · obtain ⟨g,rfl⟩:=ha (by omega)
      have e0:(i:Int) + 1 = ((i + 1:Nat):Int):=by omega
      have hll:=lst_len z0 i
      have hat:=lst_at hlt
      have hset:=lst_set hlt
      have hsame:=lst_same hlt
      have hc:=(smp_i64 hz0 i).1
      have hx1:((lst z0 i).getD i (0,0)).1 = (z0.getD i (0,0)).1:=by rw [hat]
      have hsc:=scells_setc (ss:=lst z0 i) (i:=i) (x:=g50 (z0.getD i (0,0)).1) (by omega)
      rw [hat,show (g50 (z0.getD i (0,0)).1,(z0.getD i (0,0)).2) = f50 (z0.getD i (0,0)) from rfl,hset] at hsc
      generalize (z0.getD i (0,0)).1 = c at *
      clear hset hat
      have mC:(Kn.g (wK 34 2 (.slice (some ⟨g,0,none⟩) z0.length cap) z0.length (scells (lst z0 i))))∈([.g (wK 34 2 (.slice (some ⟨g,0,none⟩) z0.length cap) z0.length (scells (lst z0 i))),.g (tK tb)]:List Kn):=List.mem_cons_self
      
      by_cases h50:50 < c
      · have hlen:2 * i < (scells (lst z0 i)).length:=by rw [scells_len,hll]; omega
        repeat' (first | simp (disch:=omega) only [sxE,w20_RebuildConstants.E,Nat.reduceAdd,Nat.reduceEqDiff,Nat.reduceMul,Nat.reduceSub,Int.reduceAdd,Int.reduceSub,Int.reduceMul,Int.reduceNeg,Int.reduceLT,Int.reduceLE,Int.reduceEq,Int.reduceToNat,↓reduceIte,Int.reducePow,Nat.reduceLeDiff,Nat.reduceLT,ne_eq,eq_self,List.length_cons,List.length_nil,hx1] | (with_reducible refine ldP_self false 1 g ?_; refine ldP_sT i rfl mC ?_ ?_ ?_; omega; omega) | (with_reducible refine cregF ?_))
        rw [show 0 + i * 2 + 0 = 2 * i by omega,show c % 40 + c % 3 / 2 * 1099511627776 = g50 c from (if_pos h50).symm]
        refine stP_w (R:=[.g (tK tb)]) rfl mC (fun k hk=>?_) hlen rfl ?_
        · rw [List.mem_singleton.1 hk]
          refine ⟨List.mem_cons_of_mem _ (List.mem_singleton.2 rfl),fun h=>htb (wK_bs.2 ?_)⟩
          rw [tK_bs.1 h]
          rfl
        rw [hsc]
        repeat' (first | simp (disch:=omega) only [sxE,w20_RebuildConstants.E,Nat.reduceAdd,Nat.reduceEqDiff,Nat.reduceMul,Nat.reduceSub,Int.reduceAdd,Int.reduceSub,Int.reduceMul,Int.reduceNeg,Int.reduceLT,Int.reduceLE,Int.reduceEq,Int.reduceToNat,↓reduceIte,Int.reducePow,Nat.reduceLeDiff,Nat.reduceLT,ne_eq,eq_self,List.length_cons,List.length_nil] | (with_reducible refine cregF ?_))
        rw [e0]
        exact ⟨i + 1,by omega,by omega,rfl,.inl rfl⟩
      · rw [show lst z0 (i + 1) = lst z0 i from hsame (by omega)] at hsc
        repeat' (first | simp (disch:=omega) only [sxE,w20_RebuildConstants.E,Nat.reduceAdd,Nat.reduceEqDiff,Nat.reduceMul,Nat.reduceSub,Int.reduceAdd,Int.reduceSub,Int.reduceMul,Int.reduceNeg,Int.reduceLT,Int.reduceLE,Int.reduceEq,Int.reduceToNat,↓reduceIte,Int.reducePow,Nat.reduceLeDiff,Nat.reduceLT,ne_eq,eq_self,List.length_cons,List.length_nil,hx1] | (with_reducible refine ldP_self false 1 g ?_; refine ldP_sT i rfl mC ?_ ?_ ?_; omega; omega) | (with_reducible refine cregF ?_))
        rw [e0]
        refine ⟨i + 1,by omega,by omega,rfl,?_⟩
        rw [hsame (by omega)]
        exact .inl rfl
    · obtain rfl:i = z0.length:=by omega
      rw [lst_end]
      have hI:=f50_in hz0
      have hT:=cz_f50 z0
      have hcl:(z0.map f50).length = z0.length:=List.length_map ..
      generalize z0.map f50 = cs at *
      rw [← hcl] at htb hc1 ha hT hb0 ⊢
      clear hcl h0 hz0 hi hlt
      
      repeat' (first | simp (disch:=omega) only [sxE,w20_RebuildConstants.E,Nat.reduceAdd,Nat.reduceEqDiff,Nat.reduceMul,Nat.reduceSub,Int.reduceAdd,Int.reduceSub,Int.reduceMul,Int.reduceNeg,Int.reduceLT,Int.reduceLE,Int.reduceEq,Int.reduceToNat,↓reduceIte,Int.reducePow,Nat.reduceLeDiff,Nat.reduceLT,ne_eq,eq_self,List.length_cons,List.length_nil] | (with_reducible refine cregF ?_))
      refine asks_rowT (L:=[.g (wK 34 2 (.slice a cs.length cap) cs.length (scells cs)),.g (tK tb)]) (e:=2) (s:=1) (fun zs:List Int=>I64s zs∧(zs.length:Int)≤25) (fun zs=>zs.length) (fun zs=>zs.map (Value.int .i64)) (fun zs v=>v) (tpk_t _ tb) en_m_Tape__Values rfl (List.mem_cons_of_mem _ (List.mem_singleton.2 rfl)) (List.mem_singleton.2 rfl) rfl (fun j hj=>?_) (fun W hW=>by
        refine (values_any tb 25 (by decide) (by decide) W hW).mono ?_
        rintro e w' ⟨v,ss,h1,h2,h3,h4,h5⟩
        exact ⟨ss,v,h1,h2,h3,h4,h5⟩) ?_
      · rcases List.mem_cons.1 hj with rfl | hj
        · exact .inr htb
        · exact .inl (List.mem_singleton.1 hj)
      rintro zs al cl_ ⟨hsm,hs25⟩ hcl - hal hnb
      have hin:∀ z∈zs,I64 z:=hsm
      
      have htz:tb ∉ (.g (wK 2 1 (.slice al zs.length cl_) zs.length (zs.map (Value.int .i64))):Kn).bs:=fun h=>hnb tb h (kX_bs.2 ⟨_,List.mem_cons_of_mem _ (List.mem_singleton.2 rfl),tK_bs.2 rfl⟩)
      clear hnb
      repeat' (first | simp (disch:=omega) only [sxE,w20_RebuildConstants.E,Nat.reduceAdd,Nat.reduceEqDiff,Nat.reduceMul,Nat.reduceSub,Int.reduceAdd,Int.reduceSub,Int.reduceMul,Int.reduceNeg,Int.reduceLT,Int.reduceLE,Int.reduceEq,Int.reduceToNat,↓reduceIte,Int.reducePow,Nat.reduceLeDiff,Nat.reduceLT,ne_eq,eq_self,List.length_cons,List.length_nil] | (with_reducible refine cregF ?_))
      refine asks_tc rfl (tpk_t _ tb) (t_tol tb) en_m_Tape__Tolerance rfl (by simp) rfl (fun j hj=>?_) ?_
      · rcases List.mem_cons.1 hj with rfl | hj
        · exact .inr htz
        rcases List.mem_cons.1 hj with rfl | hj
        · exact .inr htb
        · exact .inl (List.mem_singleton.1 hj)
      rintro t ⟨t0,t1⟩
      clear htz htb
      repeat' (first | simp (disch:=omega) only [sxE,w20_RebuildConstants.E,Nat.reduceAdd,Nat.reduceEqDiff,Nat.reduceMul,Nat.reduceSub,Int.reduceAdd,Int.reduceSub,Int.reduceMul,Int.reduceNeg,Int.reduceLT,Int.reduceLE,Int.reduceEq,Int.reduceToNat,↓reduceIte,Int.reducePow,Nat.reduceLeDiff,Nat.reduceLT,ne_eq,eq_self,List.length_cons,List.length_nil] | (with_reducible refine cregF ?_))
      refine asks_rowB (e:=34) (s:=2) (ι:=Unit) (fun _=>True) (fun _=>(mqall t zs).length) (fun _=>scells (mqall t zs)) (fun _ v=>.tuple #[v,.int .i64 0]) en_r15_All rfl (fun W hW hok=>?_) ?_
      · refine (rx_qall (t:=t) (slz_row (hok (.g (wK 2 1 (.slice al zs.length cl_) zs.length (zs.map (Value.int .i64)))) (by repeat (first | with_reducible exact List.mem_cons_self | refine List.mem_cons_of_mem _ ?_))) hin) ⟨t0,by omega⟩ (by omega)).mono ?_
        exact fun e w' ⟨v,h1,h2,h3⟩=>⟨(),v,trivial,h1,h2,h3⟩
      rintro - b1 k1 - - - - -
      have hO:=mqall_ok (zs:=zs) t0
      have hQI:=hO.in64 hin (by omega) (Nat.le_refl _)
      have hQL:=hO.cz_len (by omega) (Nat.le_refl _)
      rw [Nat.zero_add] at hQL
      clear hO hin hsm
      generalize mqall t zs = ms at *
      
      
      
      repeat' (first | simp (disch:=omega) only [sxE,w20_RebuildConstants.E,Nat.reduceAdd,Nat.reduceEqDiff,Nat.reduceMul,Nat.reduceSub,Int.reduceAdd,Int.reduceSub,Int.reduceMul,Int.reduceNeg,Int.reduceLT,Int.reduceLE,Int.reduceEq,Int.reduceToNat,↓reduceIte,Int.reducePow,Nat.reduceLeDiff,Nat.reduceLT,ne_eq,eq_self,List.length_cons,List.length_nil] | (with_reducible refine Sx.call_at (f:=33) (fun W hW=>kn W) ?_) | (with_reducible refine cregF ?_))
      refine asks_rowB (e:=2) (s:=1) (ι:=Unit) (fun _=>True) (fun _=>(cz cs).length) (fun _=>(cz cs).map (Value.int .i64)) (fun _ v=>v) en_rebuild_Constants rfl (fun W hW hok=>?_) ?_
      · refine (gx_consts (sls_row (hok (.g (wK 34 2 (.slice a cs.length cap) cs.length (scells cs))) (by repeat (first | with_reducible exact List.mem_cons_self | refine List.mem_cons_of_mem _ ?_))) hI) (by omega)).mono ?_
        exact fun e w' ⟨v,h1,h2,h3⟩=>⟨(),v,trivial,h1,h2,h3⟩
      rintro - a2 c2 - - - - -
      repeat' (first | simp (disch:=omega) only [sxE,w20_RebuildConstants.E,Nat.reduceAdd,Nat.reduceEqDiff,Nat.reduceMul,Nat.reduceSub,Int.reduceAdd,Int.reduceSub,Int.reduceMul,Int.reduceNeg,Int.reduceLT,Int.reduceLE,Int.reduceEq,Int.reduceToNat,↓reduceIte,Int.reducePow,Nat.reduceLeDiff,Nat.reduceLT,ne_eq,eq_self,List.length_cons,List.length_nil] | (with_reducible refine cregF ?_))
      refine asks_rowB (e:=2) (s:=1) (ι:=Unit) (fun _=>True) (fun _=>(cz cs).length) (fun _=>(cz cs).map (Value.int .i64)) (fun _ v=>v) en_r20_Constants rfl (fun W hW hok=>?_) ?_
      · refine (rx_consts (sls_row (hok (.g (wK 34 2 (.slice a cs.length cap) cs.length (scells cs))) (by repeat (first | with_reducible exact List.mem_cons_self | refine List.mem_cons_of_mem _ ?_))) hI) (by omega)).mono ?_
        exact fun e w' ⟨v,h1,h2,h3⟩=>⟨(),v,trivial,h1,h2,h3⟩
      rintro - a3 c3 - - - - -
      repeat' (first | simp (disch:=omega) only [sxE,w20_RebuildConstants.E,Nat.reduceAdd,Nat.reduceEqDiff,Nat.reduceMul,Nat.reduceSub,Int.reduceAdd,Int.reduceSub,Int.reduceMul,Int.reduceNeg,Int.reduceLT,Int.reduceLE,Int.reduceEq,Int.reduceToNat,↓reduceIte,Int.reducePow,Nat.reduceLeDiff,Nat.reduceLT,ne_eq,eq_self,List.length_cons,List.length_nil] | (with_reducible refine cregF ?_))
      
      
      refine asks_ext (fun W hW hok=>gives_known en_r10_Same (rx_same10 (hok (.g (wK 2 1 (.slice a2 (cz cs).length c2) (cz cs).length ((cz cs).map (Value.int .i64)))) (by repeat (first | with_reducible exact List.mem_cons_self | refine List.mem_cons_of_mem _ ?_))) (hok (.g (wK 2 1 (.slice a3 (cz cs).length c3) (cz cs).length ((cz cs).map (Value.int .i64)))) (by repeat (first | with_reducible exact List.mem_cons_self | refine List.mem_cons_of_mem _ ?_))))) ?_
      repeat' (first | simp (disch:=omega) only [sxE,w20_RebuildConstants.E,Nat.reduceAdd,Nat.reduceEqDiff,Nat.reduceMul,Nat.reduceSub,Int.reduceAdd,Int.reduceSub,Int.reduceMul,Int.reduceNeg,Int.reduceLT,Int.reduceLE,Int.reduceEq,Int.reduceToNat,↓reduceIte,Int.reducePow,Nat.reduceLeDiff,Nat.reduceLT,ne_eq,eq_self,List.length_cons,List.length_nil] | (with_reducible refine cregF ?_))
      refine asks_rowB (e:=2) (s:=1) (ι:=Unit) (fun _=>True) (fun _=>(cz ms).length) (fun _=>(cz ms).map (Value.int .i64)) (fun _ v=>v) en_rebuild_Constants rfl (fun W hW hok=>?_) ?_
      · refine (gx_consts (sls_row (hok (.g (wK 34 2 (.slice b1 ms.length k1) ms.length (scells ms))) (by repeat (first | with_reducible exact List.mem_cons_self | refine List.mem_cons_of_mem _ ?_))) hQI) (by omega)).mono ?_
        exact fun e w' ⟨v,h1,h2,h3⟩=>⟨(),v,trivial,h1,h2,h3⟩
      rintro - a4 c4 - - - - -
      repeat' (first | simp (disch:=omega) only [sxE,w20_RebuildConstants.E,Nat.reduceAdd,Nat.reduceEqDiff,Nat.reduceMul,Nat.reduceSub,Int.reduceAdd,Int.reduceSub,Int.reduceMul,Int.reduceNeg,Int.reduceLT,Int.reduceLE,Int.reduceEq,Int.reduceToNat,↓reduceIte,Int.reducePow,Nat.reduceLeDiff,Nat.reduceLT,ne_eq,eq_self,List.length_cons,List.length_nil] | (with_reducible refine cregF ?_))
      refine asks_rowB (e:=2) (s:=1) (ι:=Unit) (fun _=>True) (fun _=>(cz ms).length) (fun _=>(cz ms).map (Value.int .i64)) (fun _ v=>v) en_r20_Constants rfl (fun W hW hok=>?_) ?_
      · refine (rx_consts (sls_row (hok (.g (wK 34 2 (.slice b1 ms.length k1) ms.length (scells ms))) (by repeat (first | with_reducible exact List.mem_cons_self | refine List.mem_cons_of_mem _ ?_))) hQI) (by omega)).mono ?_
        exact fun e w' ⟨v,h1,h2,h3⟩=>⟨(),v,trivial,h1,h2,h3⟩
      rintro - a5 c5 - - - - -
      repeat' (first | simp (disch:=omega) only [sxE,w20_RebuildConstants.E,Nat.reduceAdd,Nat.reduceEqDiff,Nat.reduceMul,Nat.reduceSub,Int.reduceAdd,Int.reduceSub,Int.reduceMul,Int.reduceNeg,Int.reduceLT,Int.reduceLE,Int.reduceEq,Int.reduceToNat,↓reduceIte,Int.reducePow,Nat.reduceLeDiff,Nat.reduceLT,ne_eq,eq_self,List.length_cons,List.length_nil] | (with_reducible refine cregF ?_))
      
      
      refine asks_ext (fun W hW hok=>gives_known en_r10_Same (rx_same10 (hok (.g (wK 2 1 (.slice a4 (cz ms).length c4) (cz ms).length ((cz ms).map (Value.int .i64)))) (by repeat (first | with_reducible exact List.mem_cons_self | refine List.mem_cons_of_mem _ ?_))) (hok (.g (wK 2 1 (.slice a5 (cz ms).length c5) (cz ms).length ((cz ms).map (Value.int .i64)))) (by repeat (first | with_reducible exact List.mem_cons_self | refine List.mem_cons_of_mem _ ?_))))) ?_
      repeat' (first | simp (disch:=omega) only [sxE,w20_RebuildConstants.E,Nat.reduceAdd,Nat.reduceEqDiff,Nat.reduceMul,Nat.reduceSub,Int.reduceAdd,Int.reduceSub,Int.reduceMul,Int.reduceNeg,Int.reduceLT,Int.reduceLE,Int.reduceEq,Int.reduceToNat,↓reduceIte,Int.reducePow,Nat.reduceLeDiff,Nat.reduceLT,ne_eq,eq_self,List.length_cons,List.length_nil] | (with_reducible refine cregF ?_))
      refine asks_rowB (e:=2) (s:=1) (ι:=Unit) (fun _=>True) (fun _=>(cz ms).length) (fun _=>(cz ms).map (Value.int .i64)) (fun _ v=>v) en_rebuild_Constants rfl (fun W hW hok=>?_) ?_
      · refine (gx_consts (sls_row (hok (.g (wK 34 2 (.slice b1 ms.length k1) ms.length (scells ms))) (by repeat (first | with_reducible exact List.mem_cons_self | refine List.mem_cons_of_mem _ ?_))) hQI) (by omega)).mono ?_
        exact fun e w' ⟨v,h1,h2,h3⟩=>⟨(),v,trivial,h1,h2,h3⟩
      rintro - a6 c6 - - - - -
      have hql:(((cz ms).length:Int) == (zs.length:Int)) = true:=beq_iff_eq.2 (by omega)
      repeat' (first | simp (disch:=omega) only [sxE,w20_RebuildConstants.E,Nat.reduceAdd,Nat.reduceEqDiff,Nat.reduceMul,Nat.reduceSub,Int.reduceAdd,Int.reduceSub,Int.reduceMul,Int.reduceNeg,Int.reduceLT,Int.reduceLE,Int.reduceEq,Int.reduceToNat,↓reduceIte,Int.reducePow,Nat.reduceLeDiff,Nat.reduceLT,ne_eq,eq_self,List.length_cons,List.length_nil,hql] | (with_reducible refine cregF ?_))
/-! ### The row -/
set_option maxRecDepth 100000 in
theorem lifted (os:Os) (started:os.Started) (H:Type) (enc:TypeId × Value→H) (F:Stop.Interp) :
    ReturnsInHanded {} Try.checked os 7 .any ((Rows.OpenSpec.upto Rows.rebuildConstantsSpec).pre6 enc Try.prog Try.f7 Rows.rebuildConstantsUptoRow.domain false) (((Rows.OpenSpec.upto Rows.rebuildConstantsSpec).at F).post enc Try.prog Try.f7 false true false false):=by
  refine returnsInHanded_of_cond (C:=Try.checked) (s:=Rows.OpenSpec.upto Rows.rebuildConstantsSpec) (k:=Rows.uptoSmall) rfl own started (by kernel_rfl) Try.func7
    (OpenSpec.witness (enc:=enc) (C:=Try.checked) (s:=Rows.OpenSpec.upto Rows.rebuildConstantsSpec) (k:=Rows.uptoSmall) rfl false ⟨#[],#[.slice none 0 0,.slice none 0 0],[]⟩ 8 (by kernel_rfl) (by kernel_rfl) (by kernel_rfl)
      (x:=([.nil,.nil],[],[])) (by kernel_rfl) rfl (by kernel_rfl)) ?_
  intro W base args ds gs before hval0 hW _ hk _
  show Calls Try.prog 7 args W fun e W'=>∃ v,e = .returned v∧Rows.rebuildConstantsSpec.post enc Try.prog Try.f7 false true false false W args v W'
  have hval:∀ (j:Nat) t v,Try.f7.params[j]? = some t→args[j]? = some v→Value.okWide Try.prog W .any base t v:=hval0
  have hW':=hW
  obtain ⟨p,q,hA0,hV,rfl,hfz,hnd⟩:=hW
  have hA:DataW.TrodAll enc Try.prog W 0 (fun _=>true) true Try.f7.params.toList args.toList ds p:=hA0
  rw [Try.params7] at hA hval
  obtain ⟨v0,vs0,d0,ds0,p0,q0,hargs,rfl,rfl,g0,r0⟩:=trodAll_cons hA
  obtain ⟨v1,vs1,d1,ds1,p1,q1,rfl,rfl,rfl,g1,r1⟩:=trodAll_cons r0
  obtain ⟨rfl,rfl,rfl⟩:=trodAll_nil r1
  obtain rfl:args = #[v0,v1]:=by cases args; simp_all
  obtain ⟨rfl,rfl⟩:=trodVars_none hV
  have hlt:∀ x∈(p0 ++ (p1 ++ [])) ++ [],x.block < W.heap.size:=fun x hx=>hW'.lt x hx
  obtain ⟨z0,hs0,hd0⟩:=open_slcn (hval 0 29 v0 rfl rfl) g0 (fun x hx=>hlt x (by simp [hx]))
  have hs0':=hs0
  obtain ⟨s0,c0,rfl,_⟩:=hs0'
  have hb0:z0.length≤1048576:=by
    rcases hd0 with rfl | ⟨es,sp,rfl,el⟩
    · exact Nat.zero_le _
    · have h1:=bulks.bound hk
      have h2:=bulks.part_le (d:=.slice es sp) (l:=[.slice es sp,d1]) (by simp)
      have h3:=bulks.slice_le es sp
      simp only [List.append_nil] at h1
      omega
  obtain ⟨z1,hs1⟩:=open_slz Try.underlying23 Try.underlying3 (by kernel_rfl) (hval 1 23 v1 rfl rfl) g1 (fun x hx=>hlt x (by simp [hx]))
  have hs1':=hs1
  obtain ⟨s1,l1,c1,rfl,_⟩:=hs1'
  refine (walk W s0 _ c0 z0 hs0 hb0 s1 l1 c1 z1 hs1).mono fun e W' ⟨he,hb⟩=>?_
  subst he
  exact ⟨_,rfl,law_post laidOut (by kernel_rfl) rfl rfl Try.underlying4 hW' rfl rfl rfl hb⟩

theorem proved:Rows.RebuildConstantsUptoSaid :=
  OpenClaim.holds_of_cond 7 Try.f7 rfl rfl rfl rfl rfl rfl rfl ⟨rfl,rfl,rfl,rfl,rfl⟩ rfl rfl rfl rfl rfl (by kernel_rfl) Try.func7 (by kernel_rfl)
    (of_decide_eq_true (by kernel_rfl)) (by unfold Func.isWrapper; first | (rw [if_pos (by decide +kernel)]; kernel_rfl) | (rw [if_neg (by decide +kernel)]; exact ⟨rfl,rfl⟩))
    (fun os started H enc _ F=>lifted os started H enc F)
#print axioms proved
end Go.Proofs.Ytncmmbacoknefaa.rebuildConstants

