/- Proved: tscodeclaw16.MeanForms returns true for all arguments. No condition. -/
import Derived.Test.YtncmmbacoknefaaRows
import Derived.Test.YtncmmbacoknefaaMnClMeanForms
import Derived.WalkKit
import Derived.ProofKit
import Derived.OpenShut
import Derived.SizedLaws
import Derived.Outline
import Derived.Test.YtncmmbacoknefaaMn2
import Derived.Test.YtncmmbacoknefaaMn3
import Derived.Test.YtncmmbacoknefaaMn4
import Derived.Test.YtncmmbacoknefaaMn5
namespace Go.Proofs.Ytncmmbacoknefaa.meanForms
open Go.ChangeShapes Go.WideShapes Go.ChangeAt Go.RowKit Sx
set_option linter.unusedVariables false
set_option linter.unusedSimpArgs false


theorem lb_u {S:Int}:U64 (lb0 (ab S))∧U64 (lb1 (ab S))∧U64 (lb2 (ab S))∧U64 (lb3 (ab S)):=⟨lb0_in _,lb1_in _,lb2_in _,lb3_in _⟩
theorem i64_wr (x:Int):I64 (IntKind.i64.wrap x):=by
  rw [IntKind.wrap_i64]
  constructor <;> omega
set_option maxHeartbeats 8000000 in
set_option maxRecDepth 100000 in
theorem walk (w:World) (v0:Value) (b0:Bool) (hv0:MVal v0 b0) (a1:Int) (h1:I64 a1) (a2:Int) (h2:I64 a2) (s3:Option Addr) (l3 c3:Nat) (z3:List Int) (h3:SlZ w .i64 (.slice s3 l3 c3) z3) :
    Calls Try.prog 9 #[v0,.int .i64 a1,.int .i64 a2,.slice s3 l3 c3] w fun e w'=>e = .returned (.bool true)∧Below w.heap.size w w':=by

  have kn:=fun W=>gives_known en_w16_known (g_known16 W)
  obtain ⟨t0,N0,L0,H0,o0,a0,b0,c0,d0,rfl⟩:=id hv0.cells
  have sgS:=fun W=>gx_mstart a2 W
  have srS:=fun W=>rx_mstart h2 W
  obtain ⟨Sv,er,hS,hSf⟩:∃ Sv er,(if tolz a2 then .tuple #[meZ a2,.int .i64 0] else .tuple #[meZ 0,.int .i64 9]:Value) = .tuple #[Sv,.int .i64 er]∧∃ x,Sv = meZ x:=by
    cases tolz a2
    · exact ⟨_,_,rfl,0,rfl⟩
    · exact ⟨_,_,rfl,a2,rfl⟩
  obtain ⟨xz,rfl⟩:=hSf
  rw [hS] at sgS srS
  clear hS
  refine known_of (enter Try.func9 w16_MeanForms.ok (args:=[_,_,_,_]) (by simp) ?_)
  repeat' (first | simp (disch:=omega) only [sxE,w16_MeanForms.E,Nat.reduceAdd,Nat.reduceEqDiff,Nat.reduceMul,Nat.reduceSub,Int.reduceAdd,Int.reduceSub,Int.reduceMul,Int.reduceNeg,Int.reduceLT,Int.reduceLE,Int.reduceEq,Int.reduceToNat,↓reduceIte,Int.reducePow,Nat.reduceLeDiff,Nat.reduceLT,ne_eq,eq_self,List.length_cons,List.length_nil,qxE] | (with_reducible refine cregF ?_))
  refine asks_new (L:=[]) rfl (kX_nil _) h3 en_m_New fun tb htb=>?_; clear htb
  repeat' (first | simp (disch:=omega) only [sxE,w16_MeanForms.E,Nat.reduceAdd,Nat.reduceEqDiff,Nat.reduceMul,Nat.reduceSub,Int.reduceAdd,Int.reduceSub,Int.reduceMul,Int.reduceNeg,Int.reduceLT,Int.reduceLE,Int.reduceEq,Int.reduceToNat,↓reduceIte,Int.reducePow,Nat.reduceLeDiff,Nat.reduceLT,ne_eq,eq_self,List.length_cons,List.length_nil,qxE] | (with_reducible refine cregF ?_))
  refine asks_tc rfl (tpk_t _ tb) (t_state16 tb) en_w16_state rfl (by first | exact List.mem_singleton.2 rfl | simp) rfl (by first | exact fun j hj=>.inl (List.mem_singleton.1 hj) | simp) ?_
  rintro ⟨s,y⟩ ⟨hs,hy⟩
  dsimp only at hs hy ⊢
  have hsO:=mval_ok hs
  have A1:=fun W=>gives_known en_w16_alike (g_alike16 hv0 h1 W)
  have A2:=fun W=>gives_known en_w16_alike (g_alike16 hsO hy W)
  have A3:=fun W=>gives_known en_w16_alike (g_alike16 hsO h1 W)
  have it:=hs.it
  have t01:=tolz_iff.1 hs.t
  have iL:=hs.lo
  have iH:=hs.hi
  have fS:=hs.S
  have hbd:=hs.bd
  clear hsO hs
  obtain ⟨st,sn,sl,sh,sS⟩:=s
  try dsimp only at *
  repeat' (first | simp (disch:=omega) only [sxE,w16_MeanForms.E,Nat.reduceAdd,Nat.reduceEqDiff,Nat.reduceMul,Nat.reduceSub,Int.reduceAdd,Int.reduceSub,Int.reduceMul,Int.reduceNeg,Int.reduceLT,Int.reduceLE,Int.reduceEq,Int.reduceToNat,↓reduceIte,Int.reducePow,Nat.reduceLeDiff,Nat.reduceLT,ne_eq,eq_self,List.length_cons,List.length_nil,qxE] | (with_reducible refine Sx.call_at (f:=44) (fun W hW=>sgS W) ?_) | (with_reducible refine Sx.call_at (f:=45) (fun W hW=>srS W) ?_) | (with_reducible refine cregF ?_))
  refine asks_tc rfl (tpk_t _ tb) (t_next tb (by decide) (by decide)) en_m_Tape__Next rfl (by first | exact List.mem_singleton.2 rfl | simp) rfl (by first | exact fun j hj=>.inl (List.mem_singleton.1 hj) | simp) ?_
  rintro r ⟨r0,r1⟩
  have hr:r = 0∨r = 1∨r = 2∨r = 3∨r = 4∨r = 5:=by omega
  
  rcases hr with rfl | rfl | rfl | rfl | rfl | rfl
  · repeat' (first | simp (disch:=omega) only [sxE,w16_MeanForms.E,Nat.reduceAdd,Nat.reduceEqDiff,Nat.reduceMul,Nat.reduceSub,Int.reduceAdd,Int.reduceSub,Int.reduceMul,Int.reduceNeg,Int.reduceLT,Int.reduceLE,Int.reduceEq,Int.reduceToNat,↓reduceIte,Int.reducePow,Nat.reduceLeDiff,Nat.reduceLT,ne_eq,eq_self,List.length_cons,List.length_nil,qxE] | (with_reducible refine cregF ?_))
    refine asks_tc rfl (tpk_t _ tb) (t_next tb (by decide) (by decide)) en_m_Tape__Next rfl (by first | exact List.mem_singleton.2 rfl | simp) rfl (by first | exact fun j hj=>.inl (List.mem_singleton.1 hj) | simp) ?_
    rintro x ⟨x0,x1⟩
    obtain ⟨_,hb⟩:=mv_raw (N:=x - 1) it iL iH (sg sS) (lb0_in (ab sS)) (lb1_in (ab sS)) (lb2_in (ab sS)) (lb3_in (ab sS))
    repeat' (first | simp (disch:=omega) only [sxE,w16_MeanForms.E,Nat.reduceAdd,Nat.reduceEqDiff,Nat.reduceMul,Nat.reduceSub,Int.reduceAdd,Int.reduceSub,Int.reduceMul,Int.reduceNeg,Int.reduceLT,Int.reduceLE,Int.reduceEq,Int.reduceToNat,↓reduceIte,Int.reducePow,Nat.reduceLeDiff,Nat.reduceLT,ne_eq,eq_self,List.length_cons,List.length_nil,qxE] | (with_reducible refine cregF ?_))
    have A4:=fun W=>gives_known en_w16_alike (g_alike16 hb hy W)
    repeat' (first | simp (disch:=omega) only [sxE,w16_MeanForms.E,Nat.reduceAdd,Nat.reduceEqDiff,Nat.reduceMul,Nat.reduceSub,Int.reduceAdd,Int.reduceSub,Int.reduceMul,Int.reduceNeg,Int.reduceLT,Int.reduceLE,Int.reduceEq,Int.reduceToNat,↓reduceIte,Int.reducePow,Nat.reduceLeDiff,Nat.reduceLT,ne_eq,eq_self,List.length_cons,List.length_nil,qxE,beq_self_eq_true,Bool.not_false] | (with_reducible refine Sx.call_at (f:=24) (fun W hW=>kn W) ?_) | (with_reducible refine Sx.call_at (f:=46) (fun W hW=>A1 W) ?_) | (with_reducible refine Sx.call_at (f:=46) (fun W hW=>A2 W) ?_) | (with_reducible refine Sx.call_at (f:=46) (fun W hW=>A3 W) ?_) | (with_reducible refine Sx.call_at (f:=46) (fun W hW=>A4 W) ?_) | (with_reducible refine eq_is (fun W=>by exact eqmst_run _ _ _ _ _ _ _ _ _ W) ?_) | (with_reducible refine cregF ?_))
  · repeat' (first | simp (disch:=omega) only [sxE,w16_MeanForms.E,Nat.reduceAdd,Nat.reduceEqDiff,Nat.reduceMul,Nat.reduceSub,Int.reduceAdd,Int.reduceSub,Int.reduceMul,Int.reduceNeg,Int.reduceLT,Int.reduceLE,Int.reduceEq,Int.reduceToNat,↓reduceIte,Int.reducePow,Nat.reduceLeDiff,Nat.reduceLT,ne_eq,eq_self,List.length_cons,List.length_nil,qxE] | (with_reducible refine cregF ?_))
    refine asks_tc rfl (tpk_t _ tb) (t_next tb (by decide) (by decide)) en_m_Tape__Next rfl (by first | exact List.mem_singleton.2 rfl | simp) rfl (by first | exact fun j hj=>.inl (List.mem_singleton.1 hj) | simp) ?_
    rintro x ⟨x0,x1⟩
    obtain ⟨_,hb⟩:=mv_raw (t:=st - x) (N:=sn) ⟨by omega,by omega⟩ iL iH (sg sS) (lb0_in (ab sS)) (lb1_in (ab sS)) (lb2_in (ab sS)) (lb3_in (ab sS))
    repeat' (first | simp (disch:=omega) only [sxE,w16_MeanForms.E,Nat.reduceAdd,Nat.reduceEqDiff,Nat.reduceMul,Nat.reduceSub,Int.reduceAdd,Int.reduceSub,Int.reduceMul,Int.reduceNeg,Int.reduceLT,Int.reduceLE,Int.reduceEq,Int.reduceToNat,↓reduceIte,Int.reducePow,Nat.reduceLeDiff,Nat.reduceLT,ne_eq,eq_self,List.length_cons,List.length_nil,qxE] | (with_reducible refine cregF ?_))
    have A4:=fun W=>gives_known en_w16_alike (g_alike16 hb hy W)
    repeat' (first | simp (disch:=omega) only [sxE,w16_MeanForms.E,Nat.reduceAdd,Nat.reduceEqDiff,Nat.reduceMul,Nat.reduceSub,Int.reduceAdd,Int.reduceSub,Int.reduceMul,Int.reduceNeg,Int.reduceLT,Int.reduceLE,Int.reduceEq,Int.reduceToNat,↓reduceIte,Int.reducePow,Nat.reduceLeDiff,Nat.reduceLT,ne_eq,eq_self,List.length_cons,List.length_nil,qxE,beq_self_eq_true,Bool.not_false] | (with_reducible refine Sx.call_at (f:=24) (fun W hW=>kn W) ?_) | (with_reducible refine Sx.call_at (f:=46) (fun W hW=>A1 W) ?_) | (with_reducible refine Sx.call_at (f:=46) (fun W hW=>A2 W) ?_) | (with_reducible refine Sx.call_at (f:=46) (fun W hW=>A3 W) ?_) | (with_reducible refine Sx.call_at (f:=46) (fun W hW=>A4 W) ?_) | (with_reducible refine eq_is (fun W=>by exact eqmst_run _ _ _ _ _ _ _ _ _ W) ?_) | (with_reducible refine cregF ?_))
  · obtain ⟨_,hb⟩:=mv_raw (N:=sn) it (i64_wr (sl + 1)) iH (sg sS) (lb0_in (ab sS)) (lb1_in (ab sS)) (lb2_in (ab sS)) (lb3_in (ab sS))
    repeat' (first | simp (disch:=omega) only [sxE,w16_MeanForms.E,Nat.reduceAdd,Nat.reduceEqDiff,Nat.reduceMul,Nat.reduceSub,Int.reduceAdd,Int.reduceSub,Int.reduceMul,Int.reduceNeg,Int.reduceLT,Int.reduceLE,Int.reduceEq,Int.reduceToNat,↓reduceIte,Int.reducePow,Nat.reduceLeDiff,Nat.reduceLT,ne_eq,eq_self,List.length_cons,List.length_nil,qxE] | (with_reducible refine cregF ?_))
    have A4:=fun W=>gives_known en_w16_alike (g_alike16 hb hy W)
    repeat' (first | simp (disch:=omega) only [sxE,w16_MeanForms.E,Nat.reduceAdd,Nat.reduceEqDiff,Nat.reduceMul,Nat.reduceSub,Int.reduceAdd,Int.reduceSub,Int.reduceMul,Int.reduceNeg,Int.reduceLT,Int.reduceLE,Int.reduceEq,Int.reduceToNat,↓reduceIte,Int.reducePow,Nat.reduceLeDiff,Nat.reduceLT,ne_eq,eq_self,List.length_cons,List.length_nil,qxE,beq_self_eq_true,Bool.not_false] | (with_reducible refine Sx.call_at (f:=24) (fun W hW=>kn W) ?_) | (with_reducible refine Sx.call_at (f:=46) (fun W hW=>A1 W) ?_) | (with_reducible refine Sx.call_at (f:=46) (fun W hW=>A2 W) ?_) | (with_reducible refine Sx.call_at (f:=46) (fun W hW=>A3 W) ?_) | (with_reducible refine Sx.call_at (f:=46) (fun W hW=>A4 W) ?_) | (with_reducible refine eq_is (fun W=>by exact eqmst_run _ _ _ _ _ _ _ _ _ W) ?_) | (with_reducible refine cregF ?_))
  · repeat' (first | simp (disch:=omega) only [sxE,w16_MeanForms.E,Nat.reduceAdd,Nat.reduceEqDiff,Nat.reduceMul,Nat.reduceSub,Int.reduceAdd,Int.reduceSub,Int.reduceMul,Int.reduceNeg,Int.reduceLT,Int.reduceLE,Int.reduceEq,Int.reduceToNat,↓reduceIte,Int.reducePow,Nat.reduceLeDiff,Nat.reduceLT,ne_eq,eq_self,List.length_cons,List.length_nil,qxE] | (with_reducible refine cregF ?_))
    refine asks_tc rfl (tpk_t _ tb) (t_next tb (by decide) (by decide)) en_m_Tape__Next rfl (by first | exact List.mem_singleton.2 rfl | simp) rfl (by first | exact fun j hj=>.inl (List.mem_singleton.1 hj) | simp) ?_
    rintro x ⟨x0,x1⟩
    obtain ⟨_,hb⟩:=mv_raw (N:=sn) it iL (i64_wr (sh + x)) (sg sS) (lb0_in (ab sS)) (lb1_in (ab sS)) (lb2_in (ab sS)) (lb3_in (ab sS))
    repeat' (first | simp (disch:=omega) only [sxE,w16_MeanForms.E,Nat.reduceAdd,Nat.reduceEqDiff,Nat.reduceMul,Nat.reduceSub,Int.reduceAdd,Int.reduceSub,Int.reduceMul,Int.reduceNeg,Int.reduceLT,Int.reduceLE,Int.reduceEq,Int.reduceToNat,↓reduceIte,Int.reducePow,Nat.reduceLeDiff,Nat.reduceLT,ne_eq,eq_self,List.length_cons,List.length_nil,qxE] | (with_reducible refine cregF ?_))
    have A4:=fun W=>gives_known en_w16_alike (g_alike16 hb hy W)
    repeat' (first | simp (disch:=omega) only [sxE,w16_MeanForms.E,Nat.reduceAdd,Nat.reduceEqDiff,Nat.reduceMul,Nat.reduceSub,Int.reduceAdd,Int.reduceSub,Int.reduceMul,Int.reduceNeg,Int.reduceLT,Int.reduceLE,Int.reduceEq,Int.reduceToNat,↓reduceIte,Int.reducePow,Nat.reduceLeDiff,Nat.reduceLT,ne_eq,eq_self,List.length_cons,List.length_nil,qxE,beq_self_eq_true,Bool.not_false] | (with_reducible refine Sx.call_at (f:=24) (fun W hW=>kn W) ?_) | (with_reducible refine Sx.call_at (f:=46) (fun W hW=>A1 W) ?_) | (with_reducible refine Sx.call_at (f:=46) (fun W hW=>A2 W) ?_) | (with_reducible refine Sx.call_at (f:=46) (fun W hW=>A3 W) ?_) | (with_reducible refine Sx.call_at (f:=46) (fun W hW=>A4 W) ?_) | (with_reducible refine eq_is (fun W=>by exact eqmst_run _ _ _ _ _ _ _ _ _ W) ?_) | (with_reducible refine cregF ?_))
  · repeat' (first | simp (disch:=omega) only [sxE,w16_MeanForms.E,Nat.reduceAdd,Nat.reduceEqDiff,Nat.reduceMul,Nat.reduceSub,Int.reduceAdd,Int.reduceSub,Int.reduceMul,Int.reduceNeg,Int.reduceLT,Int.reduceLE,Int.reduceEq,Int.reduceToNat,↓reduceIte,Int.reducePow,Nat.reduceLeDiff,Nat.reduceLT,ne_eq,eq_self,List.length_cons,List.length_nil,qxE] | (with_reducible refine cregF ?_))
    refine asks_tc rfl (tpk_t _ tb) (t_next tb (by decide) (by decide)) en_m_Tape__Next rfl (by first | exact List.mem_singleton.2 rfl | simp) rfl (by first | exact fun j hj=>.inl (List.mem_singleton.1 hj) | simp) ?_
    rintro x ⟨x0,x1⟩
    have ix:I64 (x - 20):=⟨by omega,by omega⟩
    have f1:Fits (sS + (x - 20)):=by
      refine Bd.fits (k:=100) ?_
      unfold Bd ab
      have e:((2 ^ 100:Nat):Int) = 1267650600228229401496703205376:=by decide
      rw [e]
      split <;> omega
    have o1:=fun W=>rx_of ix W
    have a1':=fun W=>rx_add fS (one_fits ix) f1 W
    have hb:=mval_s (s:=⟨st,sn,sl,sh,sS + (x - 20)⟩) it iL iH f1
    try dsimp only at hb
    generalize sS + (x - 20) = S' at *
    generalize vdm ⟨st,sn,sl,sh,S'⟩ = bb at *
    repeat' (first | simp (disch:=omega) only [sxE,w16_MeanForms.E,Nat.reduceAdd,Nat.reduceEqDiff,Nat.reduceMul,Nat.reduceSub,Int.reduceAdd,Int.reduceSub,Int.reduceMul,Int.reduceNeg,Int.reduceLT,Int.reduceLE,Int.reduceEq,Int.reduceToNat,↓reduceIte,Int.reducePow,Nat.reduceLeDiff,Nat.reduceLT,ne_eq,eq_self,List.length_cons,List.length_nil,qxE] | (with_reducible refine Sx.call_at (f:=20) (fun W hW=>o1 W) ?_) | (with_reducible refine Sx.call_at (f:=22) (fun W hW=>a1' W) ?_) | (with_reducible refine cregF ?_))
    have A4:=fun W=>gives_known en_w16_alike (g_alike16 hb hy W)
    repeat' (first | simp (disch:=omega) only [sxE,w16_MeanForms.E,Nat.reduceAdd,Nat.reduceEqDiff,Nat.reduceMul,Nat.reduceSub,Int.reduceAdd,Int.reduceSub,Int.reduceMul,Int.reduceNeg,Int.reduceLT,Int.reduceLE,Int.reduceEq,Int.reduceToNat,↓reduceIte,Int.reducePow,Nat.reduceLeDiff,Nat.reduceLT,ne_eq,eq_self,List.length_cons,List.length_nil,qxE,beq_self_eq_true,Bool.not_false] | (with_reducible refine Sx.call_at (f:=24) (fun W hW=>kn W) ?_) | (with_reducible refine Sx.call_at (f:=46) (fun W hW=>A1 W) ?_) | (with_reducible refine Sx.call_at (f:=46) (fun W hW=>A2 W) ?_) | (with_reducible refine Sx.call_at (f:=46) (fun W hW=>A3 W) ?_) | (with_reducible refine Sx.call_at (f:=46) (fun W hW=>A4 W) ?_) | (with_reducible refine eq_is (fun W=>by exact eqmst_run _ _ _ _ _ _ _ _ _ W) ?_) | (with_reducible refine cregF ?_))
  · obtain ⟨_,hb⟩:=mv_raw (N:=sn) it iL iH (!sg sS) (lb0_in (ab sS)) (lb1_in (ab sS)) (lb2_in (ab sS)) (lb3_in (ab sS))
    repeat' (first | simp (disch:=omega) only [sxE,w16_MeanForms.E,Nat.reduceAdd,Nat.reduceEqDiff,Nat.reduceMul,Nat.reduceSub,Int.reduceAdd,Int.reduceSub,Int.reduceMul,Int.reduceNeg,Int.reduceLT,Int.reduceLE,Int.reduceEq,Int.reduceToNat,↓reduceIte,Int.reducePow,Nat.reduceLeDiff,Nat.reduceLT,ne_eq,eq_self,List.length_cons,List.length_nil,qxE] | (with_reducible refine cregF ?_))
    have A4:=fun W=>gives_known en_w16_alike (g_alike16 hb hy W)
    repeat' (first | simp (disch:=omega) only [sxE,w16_MeanForms.E,Nat.reduceAdd,Nat.reduceEqDiff,Nat.reduceMul,Nat.reduceSub,Int.reduceAdd,Int.reduceSub,Int.reduceMul,Int.reduceNeg,Int.reduceLT,Int.reduceLE,Int.reduceEq,Int.reduceToNat,↓reduceIte,Int.reducePow,Nat.reduceLeDiff,Nat.reduceLT,ne_eq,eq_self,List.length_cons,List.length_nil,qxE,beq_self_eq_true,Bool.not_false] | (with_reducible refine Sx.call_at (f:=24) (fun W hW=>kn W) ?_) | (with_reducible refine Sx.call_at (f:=46) (fun W hW=>A1 W) ?_) | (with_reducible refine Sx.call_at (f:=46) (fun W hW=>A2 W) ?_) | (with_reducible refine Sx.call_at (f:=46) (fun W hW=>A3 W) ?_) | (with_reducible refine Sx.call_at (f:=46) (fun W hW=>A4 W) ?_) | (with_reducible refine eq_is (fun W=>by exact eqmst_run _ _ _ _ _ _ _ _ _ W) ?_) | (with_reducible refine cregF ?_))
/-! ### The row -/
set_option maxRecDepth 100000 in
theorem lifted (os:Os) (started:os.Started) (H:Type) (enc:TypeId × Value→H) :
    ReturnsInHanded {} Try.checked os 9 .any (Rows.meanFormsSpec.pre6 enc Try.prog Try.f9 Rows.meanFormsRow.domain false) (Rows.meanFormsSpec.post enc Try.prog Try.f9 false true false false):=by
  refine returnsInHanded_of_change_sized (C:=Try.checked) own started (by kernel_rfl) Try.func9
    (ChangeSpec.witness6 (enc:=enc) (C:=Try.checked) false ⟨#[],#[.agg #[.int .i64 0,.int .i64 0,.int .i64 0,.int .i64 0,.bool false,.int .u64 0,.int .u64 0,.int .u64 0,.int .u64 0],.int .i64 0,.int .i64 0,.slice none 0 0],[]⟩ 8 (by kernel_rfl) (by kernel_rfl) (by kernel_rfl) (by kernel_rfl)) ?_
  intro W base args ds gs before hval0 hW hcnd hsz _
  have hval:∀ (j:Nat) t v,Try.f9.params[j]? = some t→args[j]? = some v→Value.okWide Try.prog W .any base t v:=hval0
  have hW':=hW
  obtain ⟨p,q,hA0,hV,rfl,hfz,hnd⟩:=hW
  have hA:DataW.TrodAll enc Try.prog W 0 (fun _=>true) true Try.f9.params.toList args.toList ds p:=hA0
  rw [Try.params9] at hA hval
  obtain ⟨v0,vs0,d0,ds0,p0,q0,hargs,rfl,rfl,g0,r0⟩:=trodAll_cons hA
  obtain ⟨v1,vs1,d1,ds1,p1,q1,rfl,rfl,rfl,g1,r1⟩:=trodAll_cons r0
  obtain ⟨v2,vs2,d2,ds2,p2,q2,rfl,rfl,rfl,g2,r2⟩:=trodAll_cons r1
  obtain ⟨v3,vs3,d3,ds3,p3,q3,rfl,rfl,rfl,g3,r3⟩:=trodAll_cons r2
  obtain ⟨rfl,rfl,rfl⟩:=trodAll_nil r3
  obtain rfl:args = #[v0,v1,v2,v3]:=by cases args; simp_all
  obtain ⟨rfl,rfl⟩:=trodVars_none hV
  have hlt:∀ x∈(p0 ++ (p1 ++ (p2 ++ (p3 ++ [])))) ++ [],x.block < W.heap.size:=fun x hx=>hW'.lt x hx
  obtain ⟨vb0,hsv0⟩:=open_mest (hval 0 68 v0 rfl rfl) g0
  obtain ⟨a1,rfl,rfl,rfl,w1⟩:=open_int Try.underlying2 (hval 1 2 v1 rfl rfl) g1
  obtain ⟨a2,rfl,rfl,rfl,w2⟩:=open_int Try.underlying2 (hval 2 2 v2 rfl rfl) g2
  obtain ⟨z3,hs3⟩:=open_slz Try.underlying23 Try.underlying3 (by kernel_rfl) (hval 3 23 v3 rfl rfl) g3 (fun x hx=>hlt x (by simp [hx]))
  have hs3':=hs3
  obtain ⟨s3,l3,c3,rfl,_⟩:=hs3'
  refine (walk W _ vb0 hsv0 a1 (I64.of_wf w1) a2 (I64.of_wf w2) s3 l3 c3 z3 hs3).mono fun e W' ⟨he,hb⟩=>?_
  subst he
  exact ⟨_,rfl,law_post laidOut (by kernel_rfl) rfl rfl Try.underlying4 hW' rfl rfl rfl hb⟩

theorem over:Rows.meanFormsRow.holds Try.pinned (OpenSpec.ofChange Rows.meanFormsSpec) :=
  OpenClaim.holds_of_wide 9 Try.f9 rfl rfl rfl rfl rfl rfl rfl ⟨rfl,rfl,rfl,rfl,rfl⟩ rfl rfl rfl rfl rfl (by kernel_rfl) Try.func9 (by kernel_rfl)
    (of_decide_eq_true (by kernel_rfl)) (by unfold Func.isWrapper; first | (rw [if_pos (by decide +kernel)]; kernel_rfl) | (rw [if_neg (by decide +kernel)]; exact ⟨rfl,rfl⟩))
    (fun os started H enc _=>lifted os started H enc)

/-- The given statement. -/
theorem proved:Rows.MeanFormsSaid :=
  over
#print axioms proved
end Go.Proofs.Ytncmmbacoknefaa.meanForms

