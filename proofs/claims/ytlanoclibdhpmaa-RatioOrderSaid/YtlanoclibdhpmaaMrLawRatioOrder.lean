/- Proved: tscodeclaw03.RatioOrder returns true for all arguments. No condition. -/
import Derived.Test.YtlanoclibdhpmaaRows
import Derived.Test.YtlanoclibdhpmaaMrClRatioOrder
import Derived.WalkKit
import Derived.ProofKit
import Derived.OpenShut
import Derived.SizedLaws
import Derived.Outline
import Derived.Test.YtlanoclibdhpmaaMr5
import Derived.Test.YtlanoclibdhpmaaMr6
namespace Go.Proofs.Ytlanoclibdhpmaa.ratioOrder
open Go.ChangeShapes Go.WideShapes Go.ChangeAt Go.RowKit Sx
set_option linter.unusedVariables false
set_option linter.unusedSimpArgs false

set_option maxHeartbeats 4000000 in
set_option maxRecDepth 100000 in
theorem walk (w : World) (s0 : Option Addr) (l0 c0 : Nat) (z0 : List Int) (h0 : SlZ w .i64 (.slice s0 l0 c0) z0) :
    Calls Try.prog 6 #[.slice s0 l0 c0] w fun e w' => e = .returned (.bool true) ∧ Below w.heap.size w w' := by
  refine Sx.known_of (w03_RatioOrder_start (args := [.slice s0 l0 c0]) (by simp) ?_)
  repeat' (first | (simp (disch := omega) only [Sx.sxE, w03_RatioOrder_E, Nat.reduceAdd, Nat.reduceEqDiff, Nat.reduceMul, Nat.reduceSub, Int.reduceAdd, Int.reduceSub, Int.reduceMul, Int.reduceNeg, Int.reduceLT, Int.reduceLE, Int.reduceEq, Int.reduceToNat, ↓reduceIte, decide_true, decide_false, true_and, and_true, not_false_eq_true, not_true_eq_false, Bool.not_true, Bool.not_false, Bool.not_not, Int.cast_ofNat_Int, Int.toNat_natCast, Int.reducePow, ne_eq, eq_self, and_self, Nat.le_refl, Nat.reduceLeDiff, Nat.reduceLT, Bool.false_eq_true, List.length_cons, List.length_nil, qxE]))
  refine asks_new (L := []) rfl (kX_nil _) h0 en_m_New fun tb htb => ?_
  clear htb
  repeat' (first | (simp (disch := omega) only [Sx.sxE, w03_RatioOrder_E, Nat.reduceAdd, Nat.reduceEqDiff, Nat.reduceMul, Nat.reduceSub, Int.reduceAdd, Int.reduceSub, Int.reduceMul, Int.reduceNeg, Int.reduceLT, Int.reduceLE, Int.reduceEq, Int.reduceToNat, ↓reduceIte, decide_true, decide_false, true_and, and_true, not_false_eq_true, not_true_eq_false, Bool.not_true, Bool.not_false, Bool.not_not, Int.cast_ofNat_Int, Int.toNat_natCast, Int.reducePow, ne_eq, eq_self, and_self, Nat.le_refl, Nat.reduceLeDiff, Nat.reduceLT, Bool.false_eq_true, List.length_cons, List.length_nil, qxE]))
  refine asks_tc rfl (tpk_t _ tb) (t_ratio tb) en_m_Tape__Ratio rfl (by first | exact List.mem_singleton.2 rfl | simp) rfl (by first | exact fun j hj => .inl (List.mem_singleton.1 hj) | simp) ?_
  rintro ⟨p, q⟩ hf
  dsimp only at hf ⊢
  repeat' (first | (simp (disch := omega) only [Sx.sxE, w03_RatioOrder_E, Nat.reduceAdd, Nat.reduceEqDiff, Nat.reduceMul, Nat.reduceSub, Int.reduceAdd, Int.reduceSub, Int.reduceMul, Int.reduceNeg, Int.reduceLT, Int.reduceLE, Int.reduceEq, Int.reduceToNat, ↓reduceIte, decide_true, decide_false, true_and, and_true, not_false_eq_true, not_true_eq_false, Bool.not_true, Bool.not_false, Bool.not_not, Int.cast_ofNat_Int, Int.toNat_natCast, Int.reducePow, ne_eq, eq_self, and_self, Nat.le_refl, Nat.reduceLeDiff, Nat.reduceLT, Bool.false_eq_true, List.length_cons, List.length_nil, qxE]))
  refine asks_tc rfl (tpk_t _ tb) (t_ratio tb) en_m_Tape__Ratio rfl (by first | exact List.mem_singleton.2 rfl | simp) rfl (by first | exact fun j hj => .inl (List.mem_singleton.1 hj) | simp) ?_
  rintro ⟨p1, q1⟩ hf1
  dsimp only at hf1 ⊢
  repeat' (first | (simp (disch := omega) only [Sx.sxE, w03_RatioOrder_E, Nat.reduceAdd, Nat.reduceEqDiff, Nat.reduceMul, Nat.reduceSub, Int.reduceAdd, Int.reduceSub, Int.reduceMul, Int.reduceNeg, Int.reduceLT, Int.reduceLE, Int.reduceEq, Int.reduceToNat, ↓reduceIte, decide_true, decide_false, true_and, and_true, not_false_eq_true, not_true_eq_false, Bool.not_true, Bool.not_false, Bool.not_not, Int.cast_ofNat_Int, Int.toNat_natCast, Int.reducePow, ne_eq, eq_self, and_self, Nat.le_refl, Nat.reduceLeDiff, Nat.reduceLT, Bool.false_eq_true, List.length_cons, List.length_nil, qxE]))
  refine asks_tc rfl (tpk_t _ tb) (t_ratio tb) en_m_Tape__Ratio rfl (by first | exact List.mem_singleton.2 rfl | simp) rfl (by first | exact fun j hj => .inl (List.mem_singleton.1 hj) | simp) ?_
  rintro ⟨p2, q2⟩ hf2
  dsimp only at hf2 ⊢
  have b1 := km_bd (p * q1) (p1 * q)
  have b2 := km_bd (p1 * q2) (p2 * q1)
  have b3 := km_bd (p * q2) (p2 * q)
  have n1 := cq_neg p q p1 q1
  have tr := cq_trans (p := p) (p' := p1) (p'' := p2) hf.pos hf1.pos hf2.pos
  have ee := cq_eq hf hf1
  have bq : ((cq p q p1 q1 == 0) == (decide (p = p1) && decide (q = q1))) = true := by
    refine beq_iff_eq.2 ?_
    rw [Bool.eq_iff_iff, beq_iff_eq, Bool.and_eq_true, decide_eq_true_iff, decide_eq_true_iff]
    exact ee
  have c1 := fun W => gx_rcompare hf.cq hf1.cq W
  have c2 := fun W => gx_rcompare hf1.cq hf2.cq W
  have c3 := fun W => gx_rcompare hf.cq hf2.cq W
  have c4 := fun W => gx_rcompare hf1.cq hf.cq W
  change -1 ≤ cq p q p1 q1 ∧ _ at b1
  change _ ∧ cq p q p1 q1 ≤ 1 at b1
  change -1 ≤ cq p1 q1 p2 q2 ∧ _ at b2
  change _ ∧ cq p1 q1 p2 q2 ≤ 1 at b2
  change -1 ≤ cq p q p2 q2 ∧ _ at b3
  change _ ∧ cq p q p2 q2 ≤ 1 at b3
  generalize cq p q p1 q1 = x at *
  generalize cq p1 q1 p2 q2 = y at *
  generalize cq p q p2 q2 = z at *
  have n2 : cq p1 q1 p q = -x := by omega
  rw [n2] at c4
  have n3 : - -x = x := Int.neg_neg x
  have n4 : (0 : Int) - -x = x := by omega
  clear n1 n2 ee
  repeat' (first | (simp (disch := omega) only [Sx.sxE, w03_RatioOrder_E, Nat.reduceAdd, Nat.reduceEqDiff, Nat.reduceMul, Nat.reduceSub, Int.reduceAdd, Int.reduceSub, Int.reduceMul, Int.reduceNeg, Int.reduceLT, Int.reduceLE, Int.reduceEq, Int.reduceToNat, ↓reduceIte, decide_true, decide_false, true_and, and_true, not_false_eq_true, not_true_eq_false, Bool.not_true, Bool.not_false, Bool.not_not, Int.cast_ofNat_Int, Int.toNat_natCast, Int.reducePow, ne_eq, eq_self, and_self, Nat.le_refl, Nat.reduceLeDiff, Nat.reduceLT, Bool.false_eq_true, List.length_cons, List.length_nil, qxE, n4, beq_self_eq_true]) | ((with_reducible apply Sx.known_at (f := 30)); (case h => (intro W hW; (change Gives Try.prog _ _ _ _); with_reducible exact c1 W)); (case' hk => skip)) | ((with_reducible apply Sx.asks_at (f := 30)); (case h => (intro W hW; (change Gives Try.prog _ _ _ _); with_reducible exact c1 W)); (case' hk => skip)) | ((with_reducible apply Sx.known_at (f := 30)); (case h => (intro W hW; (change Gives Try.prog _ _ _ _); with_reducible exact c2 W)); (case' hk => skip)) | ((with_reducible apply Sx.asks_at (f := 30)); (case h => (intro W hW; (change Gives Try.prog _ _ _ _); with_reducible exact c2 W)); (case' hk => skip)) | ((with_reducible apply Sx.known_at (f := 30)); (case h => (intro W hW; (change Gives Try.prog _ _ _ _); with_reducible exact c3 W)); (case' hk => skip)) | ((with_reducible apply Sx.asks_at (f := 30)); (case h => (intro W hW; (change Gives Try.prog _ _ _ _); with_reducible exact c3 W)); (case' hk => skip)) | ((with_reducible apply Sx.known_at (f := 30)); (case h => (intro W hW; (change Gives Try.prog _ _ _ _); with_reducible exact c4 W)); (case' hk => skip)) | ((with_reducible apply Sx.asks_at (f := 30)); (case h => (intro W hW; (change Gives Try.prog _ _ _ _); with_reducible exact c4 W)); (case' hk => skip)) | ((with_reducible apply Sx.known_at (f := 22)); (case h => (intro W hW; (change Gives Try.prog _ _ _ _); with_reducible exact g_known03 W)); (case' hk => skip)) | ((with_reducible apply Sx.asks_at (f := 22)); (case h => (intro W hW; (change Gives Try.prog _ _ _ _); with_reducible exact g_known03 W)); (case' hk => skip)) | ((with_reducible apply Sx.eq_is); (case h => exact fun W => eqq_run hf.fp hf.fq hf1.fp hf1.fq W); (case' hk => skip)) | ((with_reducible apply Sx.cond_beq); (case' h1 => (intro hc; (try simp only [beq_iff_eq.2 hc]))); (case' h2 => (intro hc; (try simp only [beq_eq_false_iff_ne.2 hc])))) | ((with_reducible apply Sx.cond_dec); (case' h1 => (intro hc; (try simp only [decide_eq_true hc]))); (case' h2 => (intro hc; (try simp only [decide_eq_false hc])))) | ((with_reducible apply Sx.cond_of); (case' h1 => (intro hc; (try simp only [hc]))); (case' h2 => (intro hc; (try simp only [hc])))) | ((with_reducible apply Sx.gd_beq); (case' h1 => (intro hc; (try simp only [beq_iff_eq.2 hc]))); (case' h2 => (intro hc; (try simp only [beq_eq_false_iff_ne.2 hc])))) | ((with_reducible apply Sx.gd_dec); (case' h1 => (intro hc; (try simp only [decide_eq_true hc]))); (case' h2 => (intro hc; (try simp only [decide_eq_false hc])))) | ((with_reducible apply Sx.gd_of); (case' h1 => (intro hc; (try simp only [hc]))); (case' h2 => (intro hc; (try simp only [hc])))))
  all_goals exact vb bq

/-! ### The row -/
set_option maxRecDepth 100000 in
theorem lifted (os : Os) (started : os.Started) (H : Type) (enc : TypeId × Value → H) :
    ReturnsInHanded {} Try.checked os 6 .any (Rows.ratioOrderSpec.pre6 enc Try.prog Try.f6 Rows.ratioOrderRow.domain false) (Rows.ratioOrderSpec.post enc Try.prog Try.f6 false true false false) := by
  refine returnsInHanded_of_change_sized (C := Try.checked) own started (by kernel_rfl) Try.func6
    (ChangeSpec.witness6 (enc := enc) (C := Try.checked) false ⟨#[], #[.slice none 0 0], []⟩ 8 (by kernel_rfl) (by kernel_rfl) (by kernel_rfl) (by kernel_rfl)) ?_
  intro W base args ds gs before hval0 hW hcnd hsz _
  have hval : ∀ (j : Nat) t v, Try.f6.params[j]? = some t → args[j]? = some v → Value.okWide Try.prog W .any base t v := hval0
  have hW' := hW
  obtain ⟨p, q, hA0, hV, rfl, hfz, hnd⟩ := hW
  have hA : DataW.TrodAll enc Try.prog W 0 (fun _ => true) true Try.f6.params.toList args.toList ds p := hA0
  rw [Try.params6] at hA hval
  obtain ⟨v0, vs0, d0, ds0, p0, q0, hargs, rfl, rfl, g0, r0⟩ := trodAll_cons hA
  obtain ⟨rfl, rfl, rfl⟩ := trodAll_nil r0
  obtain rfl : args = #[v0] := by cases args; simp_all
  obtain ⟨rfl, rfl⟩ := trodVars_none hV
  have hlt : ∀ x ∈ (p0 ++ []) ++ [], x.block < W.heap.size := fun x hx => hW'.lt x hx
  obtain ⟨z0, hs0⟩ := open_slz Try.underlying26 Try.underlying3 (by kernel_rfl) (hval 0 26 v0 rfl rfl) g0 (fun x hx => hlt x (by simp [hx]))
  have hs0' := hs0
  obtain ⟨s0, l0, c0, rfl, _⟩ := hs0'
  refine (walk W s0 l0 c0 z0 hs0).mono fun e W' ⟨he, hb⟩ => ?_
  subst he
  exact ⟨_, rfl, law_post laidOut (by kernel_rfl) rfl rfl Try.underlying4 hW' rfl rfl rfl hb⟩

theorem over : Rows.ratioOrderRow.holds Try.pinned (OpenSpec.ofChange Rows.ratioOrderSpec) :=
  OpenClaim.holds_of_wide 6 Try.f6 rfl rfl rfl rfl rfl rfl rfl ⟨rfl, rfl, rfl, rfl, rfl⟩ rfl rfl rfl rfl rfl (by kernel_rfl) Try.func6 (by kernel_rfl)
    (of_decide_eq_true (by kernel_rfl)) (by unfold Func.isWrapper; first | (rw [if_pos (by decide +kernel)]; kernel_rfl) | (rw [if_neg (by decide +kernel)]; exact ⟨rfl, rfl⟩))
    (fun os started H enc _ => lifted os started H enc)

/-- The given statement. -/
theorem proved : Rows.RatioOrderSaid :=
  over
#print axioms proved
end Go.Proofs.Ytlanoclibdhpmaa.ratioOrder
