/- Proved: tscodeclaw16.MeanAlls returns true for all arguments. No condition. -/
import Derived.Test.YtncmmbacoknefaaRows
import Derived.Test.YtncmmbacoknefaaMnClMeanAlls
import Derived.WalkKit
import Derived.ProofKit
import Derived.OpenShut
import Derived.SizedLaws
import Derived.Outline
import Derived.Test.YtncmmbacoknefaaMn2
import Derived.Test.YtncmmbacoknefaaMn3
import Derived.Test.YtncmmbacoknefaaMn4
import Derived.Test.YtncmmbacoknefaaMn5
namespace Go.Proofs.Ytncmmbacoknefaa.meanAlls
open Go.ChangeShapes Go.WideShapes Go.ChangeAt Go.RowKit Sx
set_option linter.unusedVariables false
set_option linter.unusedSimpArgs false


set_option maxHeartbeats 8000000 in
set_option maxRecDepth 100000 in
theorem walk (w:World) (s0:Option Addr) (l0 c0:Nat) (z0:List Int) (h0:SlZ w .i64 (.slice s0 l0 c0) z0) (a1:Int) (h1:I64 a1) (s2:Option Addr) (l2 c2:Nat) (z2:List Int) (h2:SlZ w .i64 (.slice s2 l2 c2) z2) :
    Calls Try.prog 5 #[.slice s0 l0 c0,.int .i64 a1,.slice s2 l2 c2] w fun e w'=>e = .returned (.bool true)∧Below w.heap.size w w':=by

  have kn:=fun W=>gives_known en_w16_known (g_known16 W)
  obtain rfl:l0 = z0.length:=by
    obtain ⟨a,l,cap,e,e2,-⟩:=id h0
    cases e
    exact e2.symm
  refine known_of (enter Try.func5 w16_MeanAlls.ok (args:=[_,_,_]) (by simp) ?_)
  repeat' (first | simp (disch:=omega) only [sxE,w16_MeanAlls.E,Nat.reduceAdd,Nat.reduceEqDiff,Nat.reduceMul,Nat.reduceSub,Int.reduceAdd,Int.reduceSub,Int.reduceMul,Int.reduceNeg,Int.reduceLT,Int.reduceLE,Int.reduceEq,Int.reduceToNat,↓reduceIte,Int.reducePow,Nat.reduceLeDiff,Nat.reduceLT,ne_eq,eq_self,List.length_cons,List.length_nil,qxE] | (with_reducible refine cregF ?_))
  refine asks_new (L:=[]) rfl (kX_nil _) h2 en_m_New fun tb htb=>?_; clear htb
  repeat' (first | simp (disch:=omega) only [sxE,w16_MeanAlls.E,Nat.reduceAdd,Nat.reduceEqDiff,Nat.reduceMul,Nat.reduceSub,Int.reduceAdd,Int.reduceSub,Int.reduceMul,Int.reduceNeg,Int.reduceLT,Int.reduceLE,Int.reduceEq,Int.reduceToNat,↓reduceIte,Int.reducePow,Nat.reduceLeDiff,Nat.reduceLT,ne_eq,eq_self,List.length_cons,List.length_nil,qxE] | (with_reducible refine cregF ?_))
  refine asks_rowT (L:=[.g (tK tb)]) (e:=2) (s:=1) (fun zs:List Int=>I64s zs∧(zs.length:Int)≤30) (fun zs=>zs.length) (fun zs=>zs.map (Value.int .i64)) (fun zs v=>v) (tpk_t _ tb) en_m_Tape__Values rfl (List.mem_singleton.2 rfl) (List.mem_singleton.2 rfl) rfl (fun j hj=>.inl (List.mem_singleton.1 hj)) (fun W hW=>by
    refine (values_any tb 30 (by decide) (by decide) W hW).mono ?_
    rintro e w' ⟨v,ss,h1,h2,h3,h4,h5⟩
    exact ⟨ss,v,h1,h2,h3,h4,h5⟩) ?_
  rintro zs al cl_ ⟨hsm,hs30⟩ hcl - hal hnb
  have htb:tb ∉ (Kn.g (wK 2 1 (.slice al zs.length cl_) zs.length (zs.map (Value.int .i64)))).bs:=fun h=>hnb tb h (List.mem_singleton.2 rfl)
  clear hnb
  have hin:∀ z∈zs,I64 z:=hsm
  repeat' (first | simp (disch:=omega) only [sxE,w16_MeanAlls.E,Nat.reduceAdd,Nat.reduceEqDiff,Nat.reduceMul,Nat.reduceSub,Int.reduceAdd,Int.reduceSub,Int.reduceMul,Int.reduceNeg,Int.reduceLT,Int.reduceLE,Int.reduceEq,Int.reduceToNat,↓reduceIte,Int.reducePow,Nat.reduceLeDiff,Nat.reduceLT,ne_eq,eq_self,List.length_cons,List.length_nil,qxE] | (with_reducible refine cregF ?_))
  refine asks_tc rfl (tpk_t _ tb) (t_tol tb) en_m_Tape__Tolerance rfl (by simp) rfl (fun j hj=>?_) ?_
  · rcases List.mem_cons.1 hj with rfl | hj
    · exact .inr htb
    · exact .inl (List.mem_singleton.1 hj)
  rintro t ⟨t0,t1⟩
  have it:I64 t:=⟨by omega,by omega⟩
  clear htb hsm hal hcl
  
  
  
  repeat' (first | simp (disch:=omega) only [sxE,w16_MeanAlls.E,Nat.reduceAdd,Nat.reduceEqDiff,Nat.reduceMul,Nat.reduceSub,Int.reduceAdd,Int.reduceSub,Int.reduceMul,Int.reduceNeg,Int.reduceLT,Int.reduceLE,Int.reduceEq,Int.reduceToNat,↓reduceIte,Int.reducePow,Nat.reduceLeDiff,Nat.reduceLT,ne_eq,eq_self,List.length_cons,List.length_nil,qxE] | (with_reducible refine cregF ?_))
  refine asks_rowB (e:=34) (s:=2) (ι:=Unit) (fun _=>True) (fun _=>(meanz a1 z0).length) (fun _=>scells (meanz a1 z0)) (fun _ v=>.tuple #[v,.int .i64 (merz a1 z0)]) en_mean_All rfl (fun W hW hok=>?_) ?_
  · refine (gx_mall (t:=a1) (SlZ.below h0 hW) h1).mono ?_
    exact fun e w' ⟨v,h1,h2,h3⟩=>⟨(),v,trivial,h1,h2,h3⟩
  rintro - b1 k1 - - - - -
  repeat' (first | simp (disch:=omega) only [sxE,w16_MeanAlls.E,Nat.reduceAdd,Nat.reduceEqDiff,Nat.reduceMul,Nat.reduceSub,Int.reduceAdd,Int.reduceSub,Int.reduceMul,Int.reduceNeg,Int.reduceLT,Int.reduceLE,Int.reduceEq,Int.reduceToNat,↓reduceIte,Int.reducePow,Nat.reduceLeDiff,Nat.reduceLT,ne_eq,eq_self,List.length_cons,List.length_nil,qxE] | (with_reducible refine cregF ?_))
  refine asks_rowB (e:=34) (s:=2) (ι:=Unit) (fun _=>True) (fun _=>(meanz a1 z0).length) (fun _=>scells (meanz a1 z0)) (fun _ v=>.tuple #[v,.int .i64 (merz a1 z0)]) en_r16_All rfl (fun W hW hok=>?_) ?_
  · refine (rx_mall (t:=a1) (SlZ.below h0 hW) h1).mono ?_
    exact fun e w' ⟨v,h1,h2,h3⟩=>⟨(),v,trivial,h1,h2,h3⟩
  rintro - b2 k2 - - - - -
  repeat' (first | simp (disch:=omega) only [sxE,w16_MeanAlls.E,Nat.reduceAdd,Nat.reduceEqDiff,Nat.reduceMul,Nat.reduceSub,Int.reduceAdd,Int.reduceSub,Int.reduceMul,Int.reduceNeg,Int.reduceLT,Int.reduceLE,Int.reduceEq,Int.reduceToNat,↓reduceIte,Int.reducePow,Nat.reduceLeDiff,Nat.reduceLT,ne_eq,eq_self,List.length_cons,List.length_nil,qxE] | (with_reducible refine cregF ?_))
  refine asks_rowB (e:=34) (s:=2) (ι:=Unit) (fun _=>True) (fun _=>(meanz t zs).length) (fun _=>scells (meanz t zs)) (fun _ v=>.tuple #[v,.int .i64 (merz t zs)]) en_mean_All rfl (fun W hW hok=>?_) ?_
  · refine (gx_mall (t:=t) (slz_row (hok (.g (wK 2 1 (.slice al zs.length cl_) zs.length (zs.map (Value.int .i64)))) (by repeat (first | with_reducible exact List.mem_cons_self | refine List.mem_cons_of_mem _ ?_))) hin) it).mono ?_
    exact fun e w' ⟨v,h1,h2,h3⟩=>⟨(),v,trivial,h1,h2,h3⟩
  rintro - b3 k3 - - - - -
  repeat' (first | simp (disch:=omega) only [sxE,w16_MeanAlls.E,Nat.reduceAdd,Nat.reduceEqDiff,Nat.reduceMul,Nat.reduceSub,Int.reduceAdd,Int.reduceSub,Int.reduceMul,Int.reduceNeg,Int.reduceLT,Int.reduceLE,Int.reduceEq,Int.reduceToNat,↓reduceIte,Int.reducePow,Nat.reduceLeDiff,Nat.reduceLT,ne_eq,eq_self,List.length_cons,List.length_nil,qxE] | (with_reducible refine cregF ?_))
  refine asks_rowB (e:=34) (s:=2) (ι:=Unit) (fun _=>True) (fun _=>(meanz t zs).length) (fun _=>scells (meanz t zs)) (fun _ v=>.tuple #[v,.int .i64 (merz t zs)]) en_r16_All rfl (fun W hW hok=>?_) ?_
  · refine (rx_mall (t:=t) (slz_row (hok (.g (wK 2 1 (.slice al zs.length cl_) zs.length (zs.map (Value.int .i64)))) (by repeat (first | with_reducible exact List.mem_cons_self | refine List.mem_cons_of_mem _ ?_))) hin) it).mono ?_
    exact fun e w' ⟨v,h1,h2,h3⟩=>⟨(),v,trivial,h1,h2,h3⟩
  rintro - b4 k4 - - - - -
  clear h0 h1 h2 hin it
  generalize meanz a1 z0 = A1 at *
  generalize meanz t zs = A2 at *
  generalize merz a1 z0 = E1 at *
  generalize merz t zs = E2 at *
  
  
  
  
  repeat' (first | simp (disch:=omega) only [sxE,w16_MeanAlls.E,Nat.reduceAdd,Nat.reduceEqDiff,Nat.reduceMul,Nat.reduceSub,Int.reduceAdd,Int.reduceSub,Int.reduceMul,Int.reduceNeg,Int.reduceLT,Int.reduceLE,Int.reduceEq,Int.reduceToNat,↓reduceIte,Int.reducePow,Nat.reduceLeDiff,Nat.reduceLT,ne_eq,eq_self,List.length_cons,List.length_nil,qxE,beq_self_eq_true] | (with_reducible refine Sx.call_at (f:=24) (fun W hW=>kn W) ?_) | (with_reducible refine cregF ?_))
  refine asks_ext (fun W hW hok=>gives_known en_r15_Same (rx_same15 (hok (.g (wK 34 2 (.slice b1 A1.length k1) A1.length (scells A1))) (by repeat (first | with_reducible exact List.mem_cons_self | refine List.mem_cons_of_mem _ ?_))) (hok (.g (wK 34 2 (.slice b2 A1.length k2) A1.length (scells A1))) (by repeat (first | with_reducible exact List.mem_cons_self | refine List.mem_cons_of_mem _ ?_))))) ?_
  repeat' (first | simp (disch:=omega) only [sxE,w16_MeanAlls.E,Nat.reduceAdd,Nat.reduceEqDiff,Nat.reduceMul,Nat.reduceSub,Int.reduceAdd,Int.reduceSub,Int.reduceMul,Int.reduceNeg,Int.reduceLT,Int.reduceLE,Int.reduceEq,Int.reduceToNat,↓reduceIte,Int.reducePow,Nat.reduceLeDiff,Nat.reduceLT,ne_eq,eq_self,List.length_cons,List.length_nil,qxE,beq_self_eq_true] | (with_reducible refine cregF ?_))
  refine asks_ext (fun W hW hok=>gives_known en_r15_Same (rx_same15 (hok (.g (wK 34 2 (.slice b3 A2.length k3) A2.length (scells A2))) (by repeat (first | with_reducible exact List.mem_cons_self | refine List.mem_cons_of_mem _ ?_))) (hok (.g (wK 34 2 (.slice b4 A2.length k4) A2.length (scells A2))) (by repeat (first | with_reducible exact List.mem_cons_self | refine List.mem_cons_of_mem _ ?_))))) ?_
  repeat' (first | simp (disch:=omega) only [sxE,w16_MeanAlls.E,Nat.reduceAdd,Nat.reduceEqDiff,Nat.reduceMul,Nat.reduceSub,Int.reduceAdd,Int.reduceSub,Int.reduceMul,Int.reduceNeg,Int.reduceLT,Int.reduceLE,Int.reduceEq,Int.reduceToNat,↓reduceIte,Int.reducePow,Nat.reduceLeDiff,Nat.reduceLT,ne_eq,eq_self,List.length_cons,List.length_nil,qxE,beq_self_eq_true] | (with_reducible refine cregF ?_))
/-! ### The row -/
set_option maxRecDepth 100000 in
theorem lifted (os:Os) (started:os.Started) (H:Type) (enc:TypeId × Value→H) :
    ReturnsInHanded {} Try.checked os 5 .any (Rows.meanAllsSpec.pre6 enc Try.prog Try.f5 Rows.meanAllsRow.domain false) (Rows.meanAllsSpec.post enc Try.prog Try.f5 false true false false):=by
  refine returnsInHanded_of_change_sized (C:=Try.checked) own started (by kernel_rfl) Try.func5
    (ChangeSpec.witness6 (enc:=enc) (C:=Try.checked) false ⟨#[],#[.slice none 0 0,.int .i64 0,.slice none 0 0],[]⟩ 8 (by kernel_rfl) (by kernel_rfl) (by kernel_rfl) (by kernel_rfl)) ?_
  intro W base args ds gs before hval0 hW hcnd hsz _
  have hval:∀ (j:Nat) t v,Try.f5.params[j]? = some t→args[j]? = some v→Value.okWide Try.prog W .any base t v:=hval0
  have hW':=hW
  obtain ⟨p,q,hA0,hV,rfl,hfz,hnd⟩:=hW
  have hA:DataW.TrodAll enc Try.prog W 0 (fun _=>true) true Try.f5.params.toList args.toList ds p:=hA0
  rw [Try.params5] at hA hval
  obtain ⟨v0,vs0,d0,ds0,p0,q0,hargs,rfl,rfl,g0,r0⟩:=trodAll_cons hA
  obtain ⟨v1,vs1,d1,ds1,p1,q1,rfl,rfl,rfl,g1,r1⟩:=trodAll_cons r0
  obtain ⟨v2,vs2,d2,ds2,p2,q2,rfl,rfl,rfl,g2,r2⟩:=trodAll_cons r1
  obtain ⟨rfl,rfl,rfl⟩:=trodAll_nil r2
  obtain rfl:args = #[v0,v1,v2]:=by cases args; simp_all
  obtain ⟨rfl,rfl⟩:=trodVars_none hV
  have hlt:∀ x∈(p0 ++ (p1 ++ (p2 ++ []))) ++ [],x.block < W.heap.size:=fun x hx=>hW'.lt x hx
  obtain ⟨z0,hs0⟩:=open_slz Try.underlying22 Try.underlying2 (by kernel_rfl) (hval 0 22 v0 rfl rfl) g0 (fun x hx=>hlt x (by simp [hx]))
  have hs0':=hs0
  obtain ⟨s0,l0,c0,rfl,_⟩:=hs0'
  obtain ⟨a1,rfl,rfl,rfl,w1⟩:=open_int Try.underlying2 (hval 1 2 v1 rfl rfl) g1
  obtain ⟨z2,hs2⟩:=open_slz Try.underlying23 Try.underlying3 (by kernel_rfl) (hval 2 23 v2 rfl rfl) g2 (fun x hx=>hlt x (by simp [hx]))
  have hs2':=hs2
  obtain ⟨s2,l2,c2,rfl,_⟩:=hs2'
  refine (walk W s0 l0 c0 z0 hs0 a1 (I64.of_wf w1) s2 l2 c2 z2 hs2).mono fun e W' ⟨he,hb⟩=>?_
  subst he
  exact ⟨_,rfl,law_post laidOut (by kernel_rfl) rfl rfl Try.underlying4 hW' rfl rfl rfl hb⟩

theorem over:Rows.meanAllsRow.holds Try.pinned (OpenSpec.ofChange Rows.meanAllsSpec) :=
  OpenClaim.holds_of_wide 5 Try.f5 rfl rfl rfl rfl rfl rfl rfl ⟨rfl,rfl,rfl,rfl,rfl⟩ rfl rfl rfl rfl rfl (by kernel_rfl) Try.func5 (by kernel_rfl)
    (of_decide_eq_true (by kernel_rfl)) (by unfold Func.isWrapper; first | (rw [if_pos (by decide +kernel)]; kernel_rfl) | (rw [if_neg (by decide +kernel)]; exact ⟨rfl,rfl⟩))
    (fun os started H enc _=>lifted os started H enc)

/-- The given statement. -/
theorem proved:Rows.MeanAllsSaid :=
  over
#print axioms proved
end Go.Proofs.Ytncmmbacoknefaa.meanAlls

