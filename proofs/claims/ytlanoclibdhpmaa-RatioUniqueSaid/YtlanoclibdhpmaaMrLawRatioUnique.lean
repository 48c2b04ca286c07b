/- Proved: tscodeclaw03.RatioUnique returns true for all arguments. No condition. -/
import Derived.Test.YtlanoclibdhpmaaRows
import Derived.Test.YtlanoclibdhpmaaMrClRatioUnique
import Derived.WalkKit
import Derived.ProofKit
import Derived.OpenShut
import Derived.SizedLaws
import Derived.Outline
import Derived.Test.YtlanoclibdhpmaaMr5
import Derived.Test.YtlanoclibdhpmaaMr6
namespace Go.Proofs.Ytlanoclibdhpmaa.ratioUnique
open Go.ChangeShapes Go.WideShapes Go.ChangeAt Go.RowKit Sx
set_option linter.unusedVariables false
set_option linter.unusedSimpArgs false

set_option maxHeartbeats 4000000 in
set_option maxRecDepth 100000 in
theorem walk (w : World) (s0 : Option Addr) (l0 c0 : Nat) (z0 : List Int) (h0 : SlZ w .i64 (.slice s0 l0 c0) z0) (a1 : Int) (h1 : I64 a1) :
    Calls Try.prog 5 #[.slice s0 l0 c0, .int .i64 a1] w fun e w' => e = .returned (.bool true) ∧ Below w.heap.size w w' := by
  refine Sx.known_of (w03_RatioUnique_start (args := [.slice s0 l0 c0, .int .i64 a1]) (by simp) ?_)
  repeat' (first | (simp (disch := omega) only [Sx.sxE, w03_RatioUnique_E, Nat.reduceAdd, Nat.reduceEqDiff, Nat.reduceMul, Nat.reduceSub, Int.reduceAdd, Int.reduceSub, Int.reduceMul, Int.reduceNeg, Int.reduceLT, Int.reduceLE, Int.reduceEq, Int.reduceToNat, ↓reduceIte, decide_true, decide_false, true_and, and_true, not_false_eq_true, not_true_eq_false, Bool.not_true, Bool.not_false, Bool.not_not, Int.cast_ofNat_Int, Int.toNat_natCast, Int.reducePow, ne_eq, eq_self, and_self, Nat.le_refl, Nat.reduceLeDiff, Nat.reduceLT, Bool.false_eq_true, List.length_cons, List.length_nil, qxE]))
  refine asks_new (L := []) rfl (kX_nil _) h0 en_m_New fun tb htb => ?_
  clear htb
  repeat' (first | (simp (disch := omega) only [Sx.sxE, w03_RatioUnique_E, Nat.reduceAdd, Nat.reduceEqDiff, Nat.reduceMul, Nat.reduceSub, Int.reduceAdd, Int.reduceSub, Int.reduceMul, Int.reduceNeg, Int.reduceLT, Int.reduceLE, Int.reduceEq, Int.reduceToNat, ↓reduceIte, decide_true, decide_false, true_and, and_true, not_false_eq_true, not_true_eq_false, Bool.not_true, Bool.not_false, Bool.not_not, Int.cast_ofNat_Int, Int.toNat_natCast, Int.reducePow, ne_eq, eq_self, and_self, Nat.le_refl, Nat.reduceLeDiff, Nat.reduceLT, Bool.false_eq_true, List.length_cons, List.length_nil, qxE]))
  refine asks_tc rfl (tpk_t _ tb) (t_ratio tb) en_m_Tape__Ratio rfl (by first | exact List.mem_singleton.2 rfl | simp) rfl (by first | exact fun j hj => .inl (List.mem_singleton.1 hj) | simp) ?_
  rintro ⟨p, q⟩ hf
  dsimp only at hf ⊢
  have key : ∀ m : Int, I64 m → m ≠ 0 → Fits m ∧ Fits (p * m) ∧ Fits (q * m) ∧ ∀ W, Gives Try.prog 19 [WX (p * m), WX (q * m)] W (· = .tuple #[RX p q, .bool true]) := fun m i hm => by
    have f1 := (bd_mul hf.bp (bd_i64 i)).fits
    have f2 := (bd_mul hf.bq (bd_i64 i)).fits
    refine ⟨fits_i64 i, f1, f2, fun W => ?_⟩
    have mk1 := gx_make f1 f2 W
    rw [mkV_yes (mok_scale hf hm), (mk_scale hf hm).1, (mk_scale hf hm).2] at mk1
    exact mk1
  have e : cq p q p q = 0 := (cq_eq hf hf).2 ⟨rfl, rfl⟩
  by_cases h0 : a1 = 0
  · obtain ⟨fm, f1, f2, mk1⟩ := key 7 (i64n 7 (by decide)) (by decide)
    have i := i64n 7 (by decide)
    clear key
    repeat' (first | (simp (disch := omega) only [Sx.sxE, w03_RatioUnique_E, Nat.reduceAdd, Nat.reduceEqDiff, Nat.reduceMul, Nat.reduceSub, Int.reduceAdd, Int.reduceSub, Int.reduceMul, Int.reduceNeg, Int.reduceLT, Int.reduceLE, Int.reduceEq, Int.reduceToNat, ↓reduceIte, decide_true, decide_false, true_and, and_true, not_false_eq_true, not_true_eq_false, Bool.not_true, Bool.not_false, Bool.not_not, Int.cast_ofNat_Int, Int.toNat_natCast, Int.reducePow, ne_eq, eq_self, and_self, Nat.le_refl, Nat.reduceLeDiff, Nat.reduceLT, Bool.false_eq_true, List.length_cons, List.length_nil, qxE, e]) | ((with_reducible apply Sx.known_at (f := 16)); (case h => (intro W hW; (change Gives Try.prog _ _ _ _); with_reducible exact rx_of i W)); (case' hk => skip)) | ((with_reducible apply Sx.asks_at (f := 16)); (case h => (intro W hW; (change Gives Try.prog _ _ _ _); with_reducible exact rx_of i W)); (case' hk => skip)) | ((with_reducible apply Sx.known_at (f := 29)); (case h => (intro W hW; (change Gives Try.prog _ _ _ _); with_reducible exact rx_mul hf.fp fm f1 W)); (case' hk => skip)) | ((with_reducible apply Sx.asks_at (f := 29)); (case h => (intro W hW; (change Gives Try.prog _ _ _ _); with_reducible exact rx_mul hf.fp fm f1 W)); (case' hk => skip)) | ((with_reducible apply Sx.known_at (f := 29)); (case h => (intro W hW; (change Gives Try.prog _ _ _ _); with_reducible exact rx_mul hf.fq fm f2 W)); (case' hk => skip)) | ((with_reducible apply Sx.asks_at (f := 29)); (case h => (intro W hW; (change Gives Try.prog _ _ _ _); with_reducible exact rx_mul hf.fq fm f2 W)); (case' hk => skip)) | ((with_reducible apply Sx.known_at (f := 19)); (case h => (intro W hW; (change Gives Try.prog _ _ _ _); with_reducible exact mk1 W)); (case' hk => skip)) | ((with_reducible apply Sx.asks_at (f := 19)); (case h => (intro W hW; (change Gives Try.prog _ _ _ _); with_reducible exact mk1 W)); (case' hk => skip)) | ((with_reducible apply Sx.known_at (f := 22)); (case h => (intro W hW; (change Gives Try.prog _ _ _ _); with_reducible exact g_known03 W)); (case' hk => skip)) | ((with_reducible apply Sx.asks_at (f := 22)); (case h => (intro W hW; (change Gives Try.prog _ _ _ _); with_reducible exact g_known03 W)); (case' hk => skip)) | ((with_reducible apply Sx.known_at (f := 30)); (case h => (intro W hW; (change Gives Try.prog _ _ _ _); with_reducible exact gx_rcompare hf.cq hf.cq W)); (case' hk => skip)) | ((with_reducible apply Sx.asks_at (f := 30)); (case h => (intro W hW; (change Gives Try.prog _ _ _ _); with_reducible exact gx_rcompare hf.cq hf.cq W)); (case' hk => skip)) | ((with_reducible apply Sx.eq_is); (case h => exact fun W => eqq_run hf.fp hf.fq hf.fp hf.fq W); (case' hk => skip)))
    rfl
  · obtain ⟨fm, f1, f2, mk1⟩ := key a1 h1 h0
    clear key
    repeat' (first | (simp (disch := omega) only [Sx.sxE, w03_RatioUnique_E, Nat.reduceAdd, Nat.reduceEqDiff, Nat.reduceMul, Nat.reduceSub, Int.reduceAdd, Int.reduceSub, Int.reduceMul, Int.reduceNeg, Int.reduceLT, Int.reduceLE, Int.reduceEq, Int.reduceToNat, ↓reduceIte, decide_true, decide_false, true_and, and_true, not_false_eq_true, not_true_eq_false, Bool.not_true, Bool.not_false, Bool.not_not, Int.cast_ofNat_Int, Int.toNat_natCast, Int.reducePow, ne_eq, eq_self, and_self, Nat.le_refl, Nat.reduceLeDiff, Nat.reduceLT, Bool.false_eq_true, List.length_cons, List.length_nil, qxE, e]) | ((with_reducible apply Sx.known_at (f := 16)); (case h => (intro W hW; (change Gives Try.prog _ _ _ _); with_reducible exact rx_of h1 W)); (case' hk => skip)) | ((with_reducible apply Sx.asks_at (f := 16)); (case h => (intro W hW; (change Gives Try.prog _ _ _ _); with_reducible exact rx_of h1 W)); (case' hk => skip)) | ((with_reducible apply Sx.known_at (f := 29)); (case h => (intro W hW; (change Gives Try.prog _ _ _ _); with_reducible exact rx_mul hf.fp fm f1 W)); (case' hk => skip)) | ((with_reducible apply Sx.asks_at (f := 29)); (case h => (intro W hW; (change Gives Try.prog _ _ _ _); with_reducible exact rx_mul hf.fp fm f1 W)); (case' hk => skip)) | ((with_reducible apply Sx.known_at (f := 29)); (case h => (intro W hW; (change Gives Try.prog _ _ _ _); with_reducible exact rx_mul hf.fq fm f2 W)); (case' hk => skip)) | ((with_reducible apply Sx.asks_at (f := 29)); (case h => (intro W hW; (change Gives Try.prog _ _ _ _); with_reducible exact rx_mul hf.fq fm f2 W)); (case' hk => skip)) | ((with_reducible apply Sx.known_at (f := 19)); (case h => (intro W hW; (change Gives Try.prog _ _ _ _); with_reducible exact mk1 W)); (case' hk => skip)) | ((with_reducible apply Sx.asks_at (f := 19)); (case h => (intro W hW; (change Gives Try.prog _ _ _ _); with_reducible exact mk1 W)); (case' hk => skip)) | ((with_reducible apply Sx.known_at (f := 22)); (case h => (intro W hW; (change Gives Try.prog _ _ _ _); with_reducible exact g_known03 W)); (case' hk => skip)) | ((with_reducible apply Sx.asks_at (f := 22)); (case h => (intro W hW; (change Gives Try.prog _ _ _ _); with_reducible exact g_known03 W)); (case' hk => skip)) | ((with_reducible apply Sx.known_at (f := 30)); (case h => (intro W hW; (change Gives Try.prog _ _ _ _); with_reducible exact gx_rcompare hf.cq hf.cq W)); (case' hk => skip)) | ((with_reducible apply Sx.asks_at (f := 30)); (case h => (intro W hW; (change Gives Try.prog _ _ _ _); with_reducible exact gx_rcompare hf.cq hf.cq W)); (case' hk => skip)) | ((with_reducible apply Sx.eq_is); (case h => exact fun W => eqq_run hf.fp hf.fq hf.fp hf.fq W); (case' hk => skip)))
    rfl

/-! ### The row -/
set_option maxRecDepth 100000 in
theorem lifted (os : Os) (started : os.Started) (H : Type) (enc : TypeId × Value → H) :
    ReturnsInHanded {} Try.checked os 5 .any (Rows.ratioUniqueSpec.pre6 enc Try.prog Try.f5 Rows.ratioUniqueRow.domain false) (Rows.ratioUniqueSpec.post enc Try.prog Try.f5 false true false false) := by
  refine returnsInHanded_of_change_sized (C := Try.checked) own started (by kernel_rfl) Try.func5
    (ChangeSpec.witness6 (enc := enc) (C := Try.checked) false ⟨#[], #[.slice none 0 0, .int .i64 0], []⟩ 8 (by kernel_rfl) (by kernel_rfl) (by kernel_rfl) (by kernel_rfl)) ?_
  intro W base args ds gs before hval0 hW hcnd hsz _
  have hval : ∀ (j : Nat) t v, Try.f5.params[j]? = some t → args[j]? = some v → Value.okWide Try.prog W .any base t v := hval0
  have hW' := hW
  obtain ⟨p, q, hA0, hV, rfl, hfz, hnd⟩ := hW
  have hA : DataW.TrodAll enc Try.prog W 0 (fun _ => true) true Try.f5.params.toList args.toList ds p := hA0
  rw [Try.params5] at hA hval
  obtain ⟨v0, vs0, d0, ds0, p0, q0, hargs, rfl, rfl, g0, r0⟩ := trodAll_cons hA
  obtain ⟨v1, vs1, d1, ds1, p1, q1, rfl, rfl, rfl, g1, r1⟩ := trodAll_cons r0
  obtain ⟨rfl, rfl, rfl⟩ := trodAll_nil r1
  obtain rfl : args = #[v0, v1] := by cases args; simp_all
  obtain ⟨rfl, rfl⟩ := trodVars_none hV
  have hlt : ∀ x ∈ (p0 ++ (p1 ++ [])) ++ [], x.block < W.heap.size := fun x hx => hW'.lt x hx
  obtain ⟨z0, hs0⟩ := open_slz Try.underlying26 Try.underlying3 (by kernel_rfl) (hval 0 26 v0 rfl rfl) g0 (fun x hx => hlt x (by simp [hx]))
  have hs0' := hs0
  obtain ⟨s0, l0, c0, rfl, _⟩ := hs0'
  obtain ⟨a1, rfl, rfl, rfl, w1⟩ := open_int Try.underlying2 (hval 1 2 v1 rfl rfl) g1
  refine (walk W s0 l0 c0 z0 hs0 a1 (I64.of_wf w1)).mono fun e W' ⟨he, hb⟩ => ?_
  subst he
  exact ⟨_, rfl, law_post laidOut (by kernel_rfl) rfl rfl Try.underlying4 hW' rfl rfl rfl hb⟩

theorem over : Rows.ratioUniqueRow.holds Try.pinned (OpenSpec.ofChange Rows.ratioUniqueSpec) :=
  OpenClaim.holds_of_wide 5 Try.f5 rfl rfl rfl rfl rfl rfl rfl ⟨rfl, rfl, rfl, rfl, rfl⟩ rfl rfl rfl rfl rfl (by kernel_rfl) Try.func5 (by kernel_rfl)
    (of_decide_eq_true (by kernel_rfl)) (by unfold Func.isWrapper; first | (rw [if_pos (by decide +kernel)]; kernel_rfl) | (rw [if_neg (by decide +kernel)]; exact ⟨rfl, rfl⟩))
    (fun os started H enc _ => lifted os started H enc)

/-- The given statement. -/
theorem proved : Rows.RatioUniqueSaid :=
  over
#print axioms proved
end Go.Proofs.Ytlanoclibdhpmaa.ratioUnique
