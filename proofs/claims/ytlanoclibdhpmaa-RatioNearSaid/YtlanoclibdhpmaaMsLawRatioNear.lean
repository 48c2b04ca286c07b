/- Proved: tscodeclaw03.RatioNear returns true for all arguments. No condition. -/
import Derived.Test.YtlanoclibdhpmaaRows
import Derived.Test.YtlanoclibdhpmaaMsClRatioNear
import Derived.WalkKit
import Derived.ProofKit
import Derived.OpenShut
import Derived.SizedLaws
import Derived.Outline
import Derived.Test.YtlanoclibdhpmaaMs4
import Derived.Test.YtlanoclibdhpmaaMs5
namespace Go.Proofs.Ytlanoclibdhpmaa.ratioNear
open Go.ChangeShapes Go.WideShapes Go.ChangeAt Go.RowKit Sx
set_option linter.unusedVariables false
set_option linter.unusedSimpArgs false


set_option maxHeartbeats 8000000 in
set_option maxRecDepth 100000 in
theorem walk (w : World) (s0 : Option Addr) (l0 c0 : Nat) (z0 : List Int) (h0 : SlZ w .i64 (.slice s0 l0 c0) z0) (a1 : Int) (h1 : U64 a1) :
    Calls Try.prog 7 #[.slice s0 l0 c0, .int .u64 a1] w fun e w' => e = .returned (.bool true) ∧ Below w.heap.size w w' := by

  refine known_of (enter Try.func7 w03_RatioNear.ok (args := [.slice s0 l0 c0, .int .u64 a1]) (by simp) ?_)
  repeat' (first | simp (disch := omega) only [sxE, w03_RatioNear.E, Nat.reduceAdd, Nat.reduceEqDiff, Nat.reduceMul, Nat.reduceSub, Int.reduceAdd, Int.reduceSub, Int.reduceMul, Int.reduceNeg, Int.reduceLT, Int.reduceLE, Int.reduceEq, Int.reduceToNat, ↓reduceIte, Int.reducePow, Nat.reduceLeDiff, Nat.reduceLT, ne_eq, eq_self, List.length_cons, List.length_nil, qxE])
  refine asks_new (L := []) rfl (kX_nil _) h0 en_m_New fun tb htb => ?_; clear htb
  repeat' (first | simp (disch := omega) only [sxE, w03_RatioNear.E, Nat.reduceAdd, Nat.reduceEqDiff, Nat.reduceMul, Nat.reduceSub, Int.reduceAdd, Int.reduceSub, Int.reduceMul, Int.reduceNeg, Int.reduceLT, Int.reduceLE, Int.reduceEq, Int.reduceToNat, ↓reduceIte, Int.reducePow, Nat.reduceLeDiff, Nat.reduceLT, ne_eq, eq_self, List.length_cons, List.length_nil, qxE])
  refine asks_tc rfl (tpk_t _ tb) (t_ratio tb) en_m_Tape__Ratio rfl (by first | exact List.mem_singleton.2 rfl | simp) rfl (by first | exact fun j hj => .inl (List.mem_singleton.1 hj) | simp) ?_
  rintro ⟨p, q⟩ hf
  dsimp only at hf ⊢
  repeat' (first | simp (disch := omega) only [sxE, w03_RatioNear.E, Nat.reduceAdd, Nat.reduceEqDiff, Nat.reduceMul, Nat.reduceSub, Int.reduceAdd, Int.reduceSub, Int.reduceMul, Int.reduceNeg, Int.reduceLT, Int.reduceLE, Int.reduceEq, Int.reduceToNat, ↓reduceIte, Int.reducePow, Nat.reduceLeDiff, Nat.reduceLT, ne_eq, eq_self, List.length_cons, List.length_nil, qxE])
  refine asks_tc rfl (tpk_t _ tb) (t_ratio tb) en_m_Tape__Ratio rfl (by first | exact List.mem_singleton.2 rfl | simp) rfl (by first | exact fun j hj => .inl (List.mem_singleton.1 hj) | simp) ?_
  rintro ⟨p1, q1⟩ hf1
  dsimp only at hf1 ⊢
  have b1 := bd_mul hf.bp (bd_u64 h1)
  have b2 : Bd 194 (2 * (p * a1) + q) := bd_add (bd_mul bd_two b1) hf.bq (by decide) (by decide)
  have b3 : Bd 194 (atq p q a1) := bd_of_le b2 (ab_fdiv_le _ (by have := hf.pos; omega))
  have fa : Fits (atq p q a1) := b3.fits
  have fa1 := fits_at hf1 h1
  have hnear := at_near (p := p) (n := a1) hf.pos
  have m1 := at_mono (p := p) (p' := p1) hf.pos hf1.pos h1.1
  have m2 := at_mono (p := p1) (p' := p) hf1.pos hf.pos h1.1
  have fx : Fits (p * a1) := b1.fits
  -- back: At times Den
  have nb := hnear
  have bback : Fits (atq p q a1 * q) := by
    have := fl_le (x := 2 * (p * a1) + q) (y := 2 * q) (by have := hf.pos; omega)
    have e : atq p q a1 * (2 * q) = 2 * (atq p q a1 * q) := Int.mul_left_comm _ _ _
    have b4 : Bd 195 (2 * (p * a1) + q + (2 * q)) := bd_add b2 (bd_le (bd_mul bd_two hf.bq) (show 129 ≤ 194 by decide)) (by decide) (by decide)
    have b5 : Bd 195 (2 * (p * a1) + q) := bd_le b2 (by decide)
    unfold atq at e ⊢
    generalize (2 * (p * a1) + q) / (2 * q) = A at *
    have hq := hf.pos
    generalize A * q = B at *
    rw [e] at this
    generalize p * a1 = N at *
    have b6 : Bd 196 (2 * N + q - (2 * q)) := bd_sub b5 (bd_le (bd_mul bd_two hf.bq) (show 129 ≤ 195 by decide)) (by decide) (by decide)
    have b7 : Bd 196 (2 * N + q) := bd_le b2 (by decide)
    refine Bd.fits (k := 196) ?_
    unfold Bd ab at *
    (repeat' split at b6) <;> (repeat' split at b7) <;> split <;> omega
  have fd : Fits (p * a1 - atq p q a1 * q) := by
    refine Bd.fits (k := 128) ?_
    have := hf.bq
    unfold Bd ab at *
    (repeat' split at hnear) <;> (repeat' split at this) <;> split <;> omega
  have fd2 : Fits (p * a1 - atq p q a1 * q + (p * a1 - atq p q a1 * q)) := by
    refine Bd.fits (k := 128) ?_
    have := hf.bq
    unfold Bd ab at *
    (repeat' split at hnear) <;> (repeat' split at this) <;> omega
  have fq := hf.fq
  have fab := fits_ab fd2
  have c1 : cm (ab (p * a1 - atq p q a1 * q + (p * a1 - atq p q a1 * q))) q ≤ 0 := (km_le _ _).2 hnear
  have c2 := fun W => rx_compare fab fq W
  have c3 := fun W => rx_compare fa fa1 W
  have c4 := fun W => gx_rcompare hf.cq hf1.cq W
  have t1 := fun W => gx_rat hf.cq h1 W
  have t2 := fun W => gx_rat hf1.cq h1 W
  have mul1 := fun W => rx_mul hf.fp (bd_u64 h1).fits fx W
  have mul2 := fun W => rx_mul fa fq bback W
  have sub1 := fun W => rx_sub fx bback fd W
  have add1 := fun W => rx_add fd fd fd2 W
  have k1 : cq p q p1 q1 ≤ 0 → cm (atq p q a1) (atq p1 q1 a1) ≤ 0 := fun h => by
    unfold cq at h
    rw [km_le] at h ⊢
    exact m1 h
  have k2 : 0 ≤ cq p q p1 q1 → 0 ≤ cm (atq p q a1) (atq p1 q1 a1) := fun h => by
    unfold cq at h
    rw [km_ge0] at h ⊢
    exact m2 h
  generalize cm (ab (p * a1 - atq p q a1 * q + (p * a1 - atq p q a1 * q))) q = x0 at *
  generalize p * a1 - atq p q a1 * q + (p * a1 - atq p q a1 * q) = d2 at *
  generalize p * a1 - atq p q a1 * q = d at *
  generalize atq p q a1 * q = B at *
  generalize cm (atq p q a1) (atq p1 q1 a1) = x at *
  generalize atq p q a1 = A at *
  generalize atq p1 q1 a1 = A1 at *
  generalize cq p q p1 q1 = y at *
  generalize p * a1 = N at *
  clear hnear nb b1 b2 b3 m1 m2
  repeat' (first | simp (disch := omega) only [sxE, w03_RatioNear.E, Nat.reduceAdd, Nat.reduceEqDiff, Nat.reduceMul, Nat.reduceSub, Int.reduceAdd, Int.reduceSub, Int.reduceMul, Int.reduceNeg, Int.reduceLT, Int.reduceLE, Int.reduceEq, Int.reduceToNat, ↓reduceIte, Int.reducePow, Nat.reduceLeDiff, Nat.reduceLT, ne_eq, eq_self, List.length_cons, List.length_nil, qxE] | (with_reducible refine Sx.call_at (f := 31) (fun W hW => rx_ofU h1 W) ?_) | (with_reducible refine Sx.call_at (f := 29) (fun W hW => mul1 W) ?_) | (with_reducible refine Sx.call_at (f := 29) (fun W hW => mul2 W) ?_) | (with_reducible refine Sx.call_at (f := 26) (fun W hW => sub1 W) ?_) | (with_reducible refine Sx.call_at (f := 32) (fun W hW => add1 W) ?_) | (with_reducible refine Sx.call_at (f := 33) (fun W hW => c2 W) ?_) | (with_reducible refine Sx.call_at (f := 33) (fun W hW => c3 W) ?_) | (with_reducible refine Sx.call_at (f := 27) (fun W hW => t1 W) ?_) | (with_reducible refine Sx.call_at (f := 27) (fun W hW => t2 W) ?_) | (with_reducible refine Sx.call_at (f := 30) (fun W hW => c4 W) ?_) | (with_reducible refine Sx.call_at (f := 22) (fun W hW => g_known03 W) ?_) | ((with_reducible first | apply cond_beq | apply gd_beq) <;> (intro hc; first | simp only [beq_iff_eq.2 hc] | simp only [beq_eq_false_iff_ne.2 hc] | skip)) | ((with_reducible first | apply cond_dec | apply gd_dec) <;> (intro hc; first | simp only [decide_eq_true hc] | simp only [decide_eq_false hc] | skip)) | ((with_reducible first | apply cond_of | apply gd_of) <;> (intro hc; try simp only [hc])))

  all_goals exact vb (decide_eq_true (k2 (by omega)))

/-! ### The row -/
set_option maxRecDepth 100000 in
theorem lifted (os : Os) (started : os.Started) (H : Type) (enc : TypeId × Value → H) :
    ReturnsInHanded {} Try.checked os 7 .any (Rows.ratioNearSpec.pre6 enc Try.prog Try.f7 Rows.ratioNearRow.domain false) (Rows.ratioNearSpec.post enc Try.prog Try.f7 false true false false) := by
  refine returnsInHanded_of_change_sized (C := Try.checked) own started (by kernel_rfl) Try.func7
    (ChangeSpec.witness6 (enc := enc) (C := Try.checked) false ⟨#[], #[.slice none 0 0, .int .u64 0], []⟩ 8 (by kernel_rfl) (by kernel_rfl) (by kernel_rfl) (by kernel_rfl)) ?_
  intro W base args ds gs before hval0 hW hcnd hsz _
  have hval : ∀ (j : Nat) t v, Try.f7.params[j]? = some t → args[j]? = some v → Value.okWide Try.prog W .any base t v := hval0
  have hW' := hW
  obtain ⟨p, q, hA0, hV, rfl, hfz, hnd⟩ := hW
  have hA : DataW.TrodAll enc Try.prog W 0 (fun _ => true) true Try.f7.params.toList args.toList ds p := hA0
  rw [Try.params7] at hA hval
  obtain ⟨v0, vs0, d0, ds0, p0, q0, hargs, rfl, rfl, g0, r0⟩ := trodAll_cons hA
  obtain ⟨v1, vs1, d1, ds1, p1, q1, rfl, rfl, rfl, g1, r1⟩ := trodAll_cons r0
  obtain ⟨rfl, rfl, rfl⟩ := trodAll_nil r1
  obtain rfl : args = #[v0, v1] := by cases args; simp_all
  obtain ⟨rfl, rfl⟩ := trodVars_none hV
  have hlt : ∀ x ∈ (p0 ++ (p1 ++ [])) ++ [], x.block < W.heap.size := fun x hx => hW'.lt x hx
  obtain ⟨z0, hs0⟩ := open_slz Try.underlying26 Try.underlying3 (by kernel_rfl) (hval 0 26 v0 rfl rfl) g0 (fun x hx => hlt x (by simp [hx]))
  have hs0' := hs0
  obtain ⟨s0, l0, c0, rfl, _⟩ := hs0'
  obtain ⟨a1, rfl, rfl, rfl, w1⟩ := open_int Try.underlying22 (hval 1 22 v1 rfl rfl) g1
  refine (walk W s0 l0 c0 z0 hs0 a1 (U64.of_wf w1)).mono fun e W' ⟨he, hb⟩ => ?_
  subst he
  exact ⟨_, rfl, law_post laidOut (by kernel_rfl) rfl rfl Try.underlying4 hW' rfl rfl rfl hb⟩

theorem over : Rows.ratioNearRow.holds Try.pinned (OpenSpec.ofChange Rows.ratioNearSpec) :=
  OpenClaim.holds_of_wide 7 Try.f7 rfl rfl rfl rfl rfl rfl rfl ⟨rfl, rfl, rfl, rfl, rfl⟩ rfl rfl rfl rfl rfl (by kernel_rfl) Try.func7 (by kernel_rfl)
    (of_decide_eq_true (by kernel_rfl)) (by unfold Func.isWrapper; first | (rw [if_pos (by decide +kernel)]; kernel_rfl) | (rw [if_neg (by decide +kernel)]; exact ⟨rfl, rfl⟩))
    (fun os started H enc _ => lifted os started H enc)

/-- The given statement. -/
theorem proved : Rows.RatioNearSaid :=
  over
#print axioms proved
end Go.Proofs.Ytlanoclibdhpmaa.ratioNear

