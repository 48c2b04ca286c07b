/- Proved: tscodeclaw03.RatioForms returns true for all arguments. No condition. -/
import Derived.Test.YtlanoclibdhpmaaRows
import Derived.Test.YtlanoclibdhpmaaMsClRatioForms
import Derived.WalkKit
import Derived.ProofKit
import Derived.OpenShut
import Derived.SizedLaws
import Derived.Outline
import Derived.Test.YtlanoclibdhpmaaMs4
import Derived.Test.YtlanoclibdhpmaaMs5
namespace Go.Proofs.Ytlanoclibdhpmaa.ratioForms
open Go.ChangeShapes Go.WideShapes Go.ChangeAt Go.RowKit Sx
set_option linter.unusedVariables false
set_option linter.unusedSimpArgs false


set_option maxHeartbeats 8000000 in
set_option maxRecDepth 100000 in
theorem walk (w : World) (v0 : Value) (p0 q0 : Int) (hq0 : CQ v0 p0 q0) (v1 : Value) (p1 q1 : Int) (hq1 : CQ v1 p1 q1) (a2 : Int) (h2 : U64 a2) (a3 : Int) (h3 : I64 a3) (s4 : Option Addr) (l4 c4 : Nat) (z4 : List Int) (h4 : SlZ w .i64 (.slice s4 l4 c4) z4) :
    Calls Try.prog 8 #[v0, v1, .int .u64 a2, .int .i64 a3, .slice s4 l4 c4] w fun e w' => e = .returned (.bool true) ∧ Below w.heap.size w w' := by

  obtain ⟨c0, c1, c2, c3, c4', c5, c6, c7, c8, c9, rfl⟩ := hq0.ten
  obtain ⟨d0, d1, d2, d3, d4, d5, d6, d7, d8, d9, rfl⟩ := hq1.ten
  refine known_of (enter Try.func8 w03_RatioForms.ok (args := [_, _, _, _, _]) (by simp) ?_)
  repeat' (first | simp (disch := omega) only [sxE, w03_RatioForms.E, Nat.reduceAdd, Nat.reduceEqDiff, Nat.reduceMul, Nat.reduceSub, Int.reduceAdd, Int.reduceSub, Int.reduceMul, Int.reduceNeg, Int.reduceLT, Int.reduceLE, Int.reduceEq, Int.reduceToNat, ↓reduceIte, Int.reducePow, Nat.reduceLeDiff, Nat.reduceLT, ne_eq, eq_self, List.length_cons, List.length_nil, qxE])
  refine asks_new (L := []) rfl (kX_nil _) h4 en_m_New fun tb htb => ?_; clear htb
  repeat' (first | simp (disch := omega) only [sxE, w03_RatioForms.E, Nat.reduceAdd, Nat.reduceEqDiff, Nat.reduceMul, Nat.reduceSub, Int.reduceAdd, Int.reduceSub, Int.reduceMul, Int.reduceNeg, Int.reduceLT, Int.reduceLE, Int.reduceEq, Int.reduceToNat, ↓reduceIte, Int.reducePow, Nat.reduceLeDiff, Nat.reduceLT, ne_eq, eq_self, List.length_cons, List.length_nil, qxE])
  refine asks_tc rfl (tpk_t _ tb) (t_ratio tb) en_m_Tape__Ratio rfl (by first | exact List.mem_singleton.2 rfl | simp) rfl (by first | exact fun j hj => .inl (List.mem_singleton.1 hj) | simp) ?_
  rintro ⟨p, q⟩ hf
  dsimp only at hf ⊢
  repeat' (first | simp (disch := omega) only [sxE, w03_RatioForms.E, Nat.reduceAdd, Nat.reduceEqDiff, Nat.reduceMul, Nat.reduceSub, Int.reduceAdd, Int.reduceSub, Int.reduceMul, Int.reduceNeg, Int.reduceLT, Int.reduceLE, Int.reduceEq, Int.reduceToNat, ↓reduceIte, Int.reducePow, Nat.reduceLeDiff, Nat.reduceLT, ne_eq, eq_self, List.length_cons, List.length_nil, qxE])
  refine asks_tc rfl (tpk_t _ tb) (t_ratio tb) en_m_Tape__Ratio rfl (by first | exact List.mem_singleton.2 rfl | simp) rfl (by first | exact fun j hj => .inl (List.mem_singleton.1 hj) | simp) ?_
  rintro ⟨p1, q1⟩ hf1
  dsimp only at hf1 ⊢
  repeat' (first | simp (disch := omega) only [sxE, w03_RatioForms.E, Nat.reduceAdd, Nat.reduceEqDiff, Nat.reduceMul, Nat.reduceSub, Int.reduceAdd, Int.reduceSub, Int.reduceMul, Int.reduceNeg, Int.reduceLT, Int.reduceLE, Int.reduceEq, Int.reduceToNat, ↓reduceIte, Int.reducePow, Nat.reduceLeDiff, Nat.reduceLT, ne_eq, eq_self, List.length_cons, List.length_nil, qxE])
  refine asks_tc rfl (tpk_t _ tb) (t_wide tb) en_m_Tape__Wide rfl (by first | exact List.mem_singleton.2 rfl | simp) rfl (by first | exact fun j hj => .inl (List.mem_singleton.1 hj) | simp) ?_
  rintro ⟨e0, e1, e2, e3, e4⟩ ⟨t5, z5, hw5⟩
  dsimp only at hw5 ⊢
  repeat' (first | simp (disch := omega) only [sxE, w03_RatioForms.E, Nat.reduceAdd, Nat.reduceEqDiff, Nat.reduceMul, Nat.reduceSub, Int.reduceAdd, Int.reduceSub, Int.reduceMul, Int.reduceNeg, Int.reduceLT, Int.reduceLE, Int.reduceEq, Int.reduceToNat, ↓reduceIte, Int.reducePow, Nat.reduceLeDiff, Nat.reduceLT, ne_eq, eq_self, List.length_cons, List.length_nil, qxE])
  refine asks_tc rfl (tpk_t _ tb) (t_wide tb) en_m_Tape__Wide rfl (by first | exact List.mem_singleton.2 rfl | simp) rfl (by first | exact fun j hj => .inl (List.mem_singleton.1 hj) | simp) ?_
  rintro ⟨g0, g1, g2, g3, g4⟩ ⟨t6, z6, hw6⟩
  dsimp only at hw6 ⊢
  obtain ⟨p2, q2, ho⟩ := rw_cq hw5 hw6
  have u3 : U64 3 := ⟨by decide, by decide⟩
  have fv := fits_i64 h3
  
  obtain ⟨k0, k1, k2, k3, k4⟩ := hw5.ones
  obtain ⟨l0, l1, l2, l3, l4⟩ := hw6.ones
  have hx := h2
  repeat' (first | simp (disch := omega) only [sxE, w03_RatioForms.E, Nat.reduceAdd, Nat.reduceEqDiff, Nat.reduceMul, Nat.reduceSub, Int.reduceAdd, Int.reduceSub, Int.reduceMul, Int.reduceNeg, Int.reduceLT, Int.reduceLE, Int.reduceEq, Int.reduceToNat, ↓reduceIte, Int.reducePow, Nat.reduceLeDiff, Nat.reduceLT, ne_eq, eq_self, List.length_cons, List.length_nil, qxE, k0, k1, k2, k3, k4, l0, l1, l2, l3, l4] | (with_reducible refine Sx.call_at (f := 22) (fun W hW => g_known03 W) ?_) | (with_reducible refine Sx.call_at (f := 34) (fun W hW => g_alike03 hq0 hq1 h2 W) ?_) | (with_reducible refine Sx.call_at (f := 34) (fun W hW => g_alike03 hf.cq hf1.cq h2 W) ?_) | (with_reducible refine Sx.call_at (f := 34) (fun W hW => g_alike03 hf1.cq hf.cq hx W) ?_) | (with_reducible refine Sx.call_at (f := 34) (fun W hW => g_alike03 ho hf.cq h2 W) ?_) | (with_reducible refine Sx.call_at (f := 34) (fun W hW => g_alike03 hq0 hf.cq u3 W) ?_) | (with_reducible refine Sx.call_at (f := 36) (fun W hW => gx_rof h3 W) ?_) | (with_reducible refine Sx.call_at (f := 37) (fun W hW => rx_rof h3 W) ?_) | (with_reducible refine eq_is (fun W => by first | exact eqq_run fv fits_one fv fits_one W) ?_))
  clear hx

  refine asks_tc rfl (tpk_t _ tb) (t_word tb) en_m_Tape__Word rfl (by first | exact List.mem_singleton.2 rfl | simp) rfl (by first | exact fun j hj => .inl (List.mem_singleton.1 hj) | simp) ?_
  intro wd hx
  repeat' (first | simp (disch := omega) only [sxE, w03_RatioForms.E, Nat.reduceAdd, Nat.reduceEqDiff, Nat.reduceMul, Nat.reduceSub, Int.reduceAdd, Int.reduceSub, Int.reduceMul, Int.reduceNeg, Int.reduceLT, Int.reduceLE, Int.reduceEq, Int.reduceToNat, ↓reduceIte, Int.reducePow, Nat.reduceLeDiff, Nat.reduceLT, ne_eq, eq_self, List.length_cons, List.length_nil, qxE] | (with_reducible refine Sx.call_at (f := 22) (fun W hW => g_known03 W) ?_) | (with_reducible refine Sx.call_at (f := 34) (fun W hW => g_alike03 hq0 hq1 h2 W) ?_) | (with_reducible refine Sx.call_at (f := 34) (fun W hW => g_alike03 hf.cq hf1.cq h2 W) ?_) | (with_reducible refine Sx.call_at (f := 34) (fun W hW => g_alike03 hf1.cq hf.cq hx W) ?_) | (with_reducible refine Sx.call_at (f := 34) (fun W hW => g_alike03 ho hf.cq h2 W) ?_) | (with_reducible refine Sx.call_at (f := 34) (fun W hW => g_alike03 hq0 hf.cq u3 W) ?_) | (with_reducible refine Sx.call_at (f := 36) (fun W hW => gx_rof h3 W) ?_) | (with_reducible refine Sx.call_at (f := 37) (fun W hW => rx_rof h3 W) ?_) | (with_reducible refine eq_is (fun W => by first | exact eqq_run fv fits_one fv fits_one W) ?_))


/-! ### The row -/
set_option maxRecDepth 100000 in
theorem lifted (os : Os) (started : os.Started) (H : Type) (enc : TypeId × Value → H) :
    ReturnsInHanded {} Try.checked os 8 .any (Rows.ratioFormsSpec.pre6 enc Try.prog Try.f8 Rows.ratioFormsRow.domain false) (Rows.ratioFormsSpec.post enc Try.prog Try.f8 false true false false) := by
  refine returnsInHanded_of_change_sized (C := Try.checked) own started (by kernel_rfl) Try.func8
    (ChangeSpec.witness6 (enc := enc) (C := Try.checked) false ⟨#[], #[.agg #[.bool false, .int .u64 0, .int .u64 0, .int .u64 0, .int .u64 0, .bool false, .int .u64 0, .int .u64 0, .int .u64 0, .int .u64 0], .agg #[.bool false, .int .u64 0, .int .u64 0, .int .u64 0, .int .u64 0, .bool false, .int .u64 0, .int .u64 0, .int .u64 0, .int .u64 0], .int .u64 0, .int .i64 0, .slice none 0 0], []⟩ 8 (by kernel_rfl) (by kernel_rfl) (by kernel_rfl) (by kernel_rfl)) ?_
  intro W base args ds gs before hval0 hW hcnd hsz _
  have hval : ∀ (j : Nat) t v, Try.f8.params[j]? = some t → args[j]? = some v → Value.okWide Try.prog W .any base t v := hval0
  have hW' := hW
  obtain ⟨p, q, hA0, hV, rfl, hfz, hnd⟩ := hW
  have hA : DataW.TrodAll enc Try.prog W 0 (fun _ => true) true Try.f8.params.toList args.toList ds p := hA0
  rw [Try.params8] at hA hval
  obtain ⟨v0, vs0, d0, ds0, p0, q0, hargs, rfl, rfl, g0, r0⟩ := trodAll_cons hA
  obtain ⟨v1, vs1, d1, ds1, p1, q1, rfl, rfl, rfl, g1, r1⟩ := trodAll_cons r0
  obtain ⟨v2, vs2, d2, ds2, p2, q2, rfl, rfl, rfl, g2, r2⟩ := trodAll_cons r1
  obtain ⟨v3, vs3, d3, ds3, p3, q3, rfl, rfl, rfl, g3, r3⟩ := trodAll_cons r2
  obtain ⟨v4, vs4, d4, ds4, p4, q4, rfl, rfl, rfl, g4, r4⟩ := trodAll_cons r3
  obtain ⟨rfl, rfl, rfl⟩ := trodAll_nil r4
  obtain rfl : args = #[v0, v1, v2, v3, v4] := by cases args; simp_all
  obtain ⟨rfl, rfl⟩ := trodVars_none hV
  have hlt : ∀ x ∈ (p0 ++ (p1 ++ (p2 ++ (p3 ++ (p4 ++ []))))) ++ [], x.block < W.heap.size := fun x hx => hW'.lt x hx
  obtain ⟨nb0, xa0, xb0, xc0, xd0, ne0, ya0, yb0, yc0, yd0, rfl, ⟨ua0, ub0, uc0, ud0⟩, ⟨ta0, tb0, tc0, td0⟩⟩ := open_ratio (hval 0 35 v0 rfl rfl) g0
  obtain ⟨pp0, qq0, hcq0⟩ := cq_raw nb0 ne0 ua0 ub0 uc0 ud0 ta0 tb0 tc0 td0
  obtain ⟨nb1, xa1, xb1, xc1, xd1, ne1, ya1, yb1, yc1, yd1, rfl, ⟨ua1, ub1, uc1, ud1⟩, ⟨ta1, tb1, tc1, td1⟩⟩ := open_ratio (hval 1 35 v1 rfl rfl) g1
  obtain ⟨pp1, qq1, hcq1⟩ := cq_raw nb1 ne1 ua1 ub1 uc1 ud1 ta1 tb1 tc1 td1
  obtain ⟨a2, rfl, rfl, rfl, w2⟩ := open_int Try.underlying22 (hval 2 22 v2 rfl rfl) g2
  obtain ⟨a3, rfl, rfl, rfl, w3⟩ := open_int Try.underlying2 (hval 3 2 v3 rfl rfl) g3
  obtain ⟨z4, hs4⟩ := open_slz Try.underlying26 Try.underlying3 (by kernel_rfl) (hval 4 26 v4 rfl rfl) g4 (fun x hx => hlt x (by simp [hx]))
  have hs4' := hs4
  obtain ⟨s4, l4, c4, rfl, _⟩ := hs4'
  refine (walk W _ pp0 qq0 hcq0 _ pp1 qq1 hcq1 a2 (U64.of_wf w2) a3 (I64.of_wf w3) s4 l4 c4 z4 hs4).mono fun e W' ⟨he, hb⟩ => ?_
  subst he
  exact ⟨_, rfl, law_post laidOut (by kernel_rfl) rfl rfl Try.underlying4 hW' rfl rfl rfl hb⟩

theorem over : Rows.ratioFormsRow.holds Try.pinned (OpenSpec.ofChange Rows.ratioFormsSpec) :=
  OpenClaim.holds_of_wide 8 Try.f8 rfl rfl rfl rfl rfl rfl rfl ⟨rfl, rfl, rfl, rfl, rfl⟩ rfl rfl rfl rfl rfl (by kernel_rfl) Try.func8 (by kernel_rfl)
    (of_decide_eq_true (by kernel_rfl)) (by unfold Func.isWrapper; first | (rw [if_pos (by decide +kernel)]; kernel_rfl) | (rw [if_neg (by decide +kernel)]; exact ⟨rfl, rfl⟩))
    (fun os started H enc _ => lifted os started H enc)

/-- The given statement. -/
theorem proved : Rows.RatioFormsSaid :=
  over
#print axioms proved
end Go.Proofs.Ytlanoclibdhpmaa.ratioForms

