/- Proved: tscodeclaw04.SimplestZero returns true for all arguments. No condition. -/
import Derived.Test.YtlanoclibdhpmaaRows
import Derived.Test.YtlanoclibdhpmaaMuClSimplestZero
import Derived.OpenShut
import Derived.SizedLaws
import Derived.Laws.IdiomArrays
import Derived.WalkKit
import Derived.ProofKit
import Derived.Outline
import Derived.Test.YtlanoclibdhpmaaMu2
import Derived.Test.YtlanoclibdhpmaaMu4
import Derived.Test.YtlanoclibdhpmaaMu5
namespace Go.Proofs.Ytlanoclibdhpmaa.simplestZero
open Go.ChangeShapes Go.WideShapes Go.ChangeAt Go.RowKit Sx
set_option linter.unusedVariables false
set_option linter.unusedSimpArgs false


set_option maxHeartbeats 8000000 in
set_option maxRecDepth 100000 in
theorem walk (w : World) (s0 : Option Addr) (l0 c0 : Nat) (z0 : List Int) (h0 : SlZ w .i64 (.slice s0 l0 c0) z0) :
    Calls Try.prog 12 #[.slice s0 l0 c0] w fun e w' => e = .returned (.bool true) ∧ Below w.heap.size w w' := by

  refine known_of (enter Try.func12 w04_SimplestZero.ok (args := [_]) (by simp) ?_)
  repeat' (first | simp (disch := omega) only [sxE, w04_SimplestZero.E, Nat.reduceAdd, Nat.reduceEqDiff, Nat.reduceMul, Nat.reduceSub, Int.reduceAdd, Int.reduceSub, Int.reduceMul, Int.reduceNeg, Int.reduceLT, Int.reduceLE, Int.reduceEq, Int.reduceToNat, ↓reduceIte, Int.reducePow, Nat.reduceLeDiff, Nat.reduceLT, ne_eq, eq_self, List.length_cons, List.length_nil, qxE])
  refine asks_new (L := []) rfl (kX_nil _) h0 en_m_New fun tb htb => ?_; clear htb
  repeat' (first | simp (disch := omega) only [sxE, w04_SimplestZero.E, Nat.reduceAdd, Nat.reduceEqDiff, Nat.reduceMul, Nat.reduceSub, Int.reduceAdd, Int.reduceSub, Int.reduceMul, Int.reduceNeg, Int.reduceLT, Int.reduceLE, Int.reduceEq, Int.reduceToNat, ↓reduceIte, Int.reducePow, Nat.reduceLeDiff, Nat.reduceLT, ne_eq, eq_self, List.length_cons, List.length_nil, qxE])
  refine asks_tc rfl (tpk_t _ tb) (t_near tb) en_w04_near rfl (by first | exact List.mem_singleton.2 rfl | simp) rfl (by first | exact fun j hj => .inl (List.mem_singleton.1 hj) | simp) ?_
  rintro ⟨p, q, p1, q1⟩ ⟨hf, hg, hle⟩
  dsimp only at hf hg hle ⊢
  have sp := btx_spec hf hg hle
  have bt := fun W => gx_bt hf hg hle W
  have hle2 : -p1 * q ≤ -p * q1 := by rw [Int.neg_mul, Int.neg_mul]; omega
  have bt2 := fun W => gx_bt hg.neg hf.neg hle2 W
  obtain ⟨n1, n2⟩ := btx_turned p q p1 q1 hf hg hle
  rw [n1, n2] at bt2
  have zz := btx_zero hf hg hle
  have hs := sp.fq
  have fn := fits_neg hs.fp
  have sa := fun W => rx_sign hf.fp W
  have sb := fun W => rx_sign hg.fp W
  have sc := fun W => rx_sign hs.fp W
  have ka := km_le p 0
  have kb := km_ge0 p1 0
  have kc := cm_zero_iff (btx p q p1 q1).1
  generalize (btx p q p1 q1).1 = x at *
  generalize (btx p q p1 q1).2 = y at *
  generalize cm p 0 = za at *
  generalize cm p1 0 = zb at *
  generalize cm x 0 = zc at *
  have hz : (za ≤ 0 ∧ 0 ≤ zb) ↔ zc = 0 := by rw [ka, kb, kc]; exact zz
  clear sp ka kb kc zz n1 n2
  have key : (za ≤ 0 ∧ 0 ≤ zb ∧ (zc == 0) = true) ∨ (za ≤ 0 ∧ ¬ 0 ≤ zb ∧ (zc == 0) = false) ∨ (¬ za ≤ 0 ∧ (zc == 0) = false) := by
    by_cases c1 : za ≤ 0 <;> by_cases c2 : 0 ≤ zb <;> by_cases c3 : zc = 0 <;> simp [c1, c2, c3] at hz ⊢
  clear hz
  rcases key with ⟨c1, c2, e⟩ | ⟨c1, c2, e⟩ | ⟨c1, e⟩
  · repeat' (first | simp (disch := omega) only [sxE, w04_SimplestZero.E, Nat.reduceAdd, Nat.reduceEqDiff, Nat.reduceMul, Nat.reduceSub, Int.reduceAdd, Int.reduceSub, Int.reduceMul, Int.reduceNeg, Int.reduceLT, Int.reduceLE, Int.reduceEq, Int.reduceToNat, ↓reduceIte, Int.reducePow, Nat.reduceLeDiff, Nat.reduceLT, ne_eq, eq_self, List.length_cons, List.length_nil, qxE, beq_self_eq_true, Bool.true_beq, Bool.false_beq, e] | (with_reducible refine Sx.call_at (f := 48) (fun W hW => rx_neg hf.fp W) ?_) | (with_reducible refine Sx.call_at (f := 48) (fun W hW => rx_neg hg.fp W) ?_) | (with_reducible refine Sx.call_at (f := 48) (fun W hW => rx_neg hs.fp W) ?_) | (with_reducible refine Sx.call_at (f := 41) (fun W hW => bt W) ?_) | (with_reducible refine Sx.call_at (f := 41) (fun W hW => bt2 W) ?_) | (with_reducible refine Sx.call_at (f := 39) (fun W hW => g_known04 W) ?_) | (with_reducible refine Sx.call_at (f := 47) (fun W hW => sa W) ?_) | (with_reducible refine Sx.call_at (f := 47) (fun W hW => sb W) ?_) | (with_reducible refine Sx.call_at (f := 47) (fun W hW => sc W) ?_) | (with_reducible refine eq_is (fun W => by first | exact eqx_run fn fn W | exact eqx_run hs.fq hs.fq W) ?_) | ((with_reducible first | apply cond_beq | apply gd_beq) <;> (intro hc; first | simp only [beq_iff_eq.2 hc] | simp only [beq_eq_false_iff_ne.2 hc] | skip)) | ((with_reducible first | apply cond_dec | apply gd_dec) <;> (intro hc; first | simp only [decide_eq_true hc] | simp only [decide_eq_false hc] | skip)) | ((with_reducible first | apply cond_of | apply gd_of) <;> (intro hc; try simp only [hc])))
    all_goals (exfalso; simp [c1, c2] at hc)
  · repeat' (first | simp (disch := omega) only [sxE, w04_SimplestZero.E, Nat.reduceAdd, Nat.reduceEqDiff, Nat.reduceMul, Nat.reduceSub, Int.reduceAdd, Int.reduceSub, Int.reduceMul, Int.reduceNeg, Int.reduceLT, Int.reduceLE, Int.reduceEq, Int.reduceToNat, ↓reduceIte, Int.reducePow, Nat.reduceLeDiff, Nat.reduceLT, ne_eq, eq_self, List.length_cons, List.length_nil, qxE, beq_self_eq_true, Bool.true_beq, Bool.false_beq, e] | (with_reducible refine Sx.call_at (f := 48) (fun W hW => rx_neg hf.fp W) ?_) | (with_reducible refine Sx.call_at (f := 48) (fun W hW => rx_neg hg.fp W) ?_) | (with_reducible refine Sx.call_at (f := 48) (fun W hW => rx_neg hs.fp W) ?_) | (with_reducible refine Sx.call_at (f := 41) (fun W hW => bt W) ?_) | (with_reducible refine Sx.call_at (f := 41) (fun W hW => bt2 W) ?_) | (with_reducible refine Sx.call_at (f := 39) (fun W hW => g_known04 W) ?_) | (with_reducible refine Sx.call_at (f := 47) (fun W hW => sa W) ?_) | (with_reducible refine Sx.call_at (f := 47) (fun W hW => sb W) ?_) | (with_reducible refine Sx.call_at (f := 47) (fun W hW => sc W) ?_) | (with_reducible refine eq_is (fun W => by first | exact eqx_run fn fn W | exact eqx_run hs.fq hs.fq W) ?_) | ((with_reducible first | apply cond_beq | apply gd_beq) <;> (intro hc; first | simp only [beq_iff_eq.2 hc] | simp only [beq_eq_false_iff_ne.2 hc] | skip)) | ((with_reducible first | apply cond_dec | apply gd_dec) <;> (intro hc; first | simp only [decide_eq_true hc] | simp only [decide_eq_false hc] | skip)) | ((with_reducible first | apply cond_of | apply gd_of) <;> (intro hc; try simp only [hc])))
    all_goals (exfalso; simp [c1, c2] at hc)
  · repeat' (first | simp (disch := omega) only [sxE, w04_SimplestZero.E, Nat.reduceAdd, Nat.reduceEqDiff, Nat.reduceMul, Nat.reduceSub, Int.reduceAdd, Int.reduceSub, Int.reduceMul, Int.reduceNeg, Int.reduceLT, Int.reduceLE, Int.reduceEq, Int.reduceToNat, ↓reduceIte, Int.reducePow, Nat.reduceLeDiff, Nat.reduceLT, ne_eq, eq_self, List.length_cons, List.length_nil, qxE, beq_self_eq_true, Bool.true_beq, Bool.false_beq, e] | (with_reducible refine Sx.call_at (f := 48) (fun W hW => rx_neg hf.fp W) ?_) | (with_reducible refine Sx.call_at (f := 48) (fun W hW => rx_neg hg.fp W) ?_) | (with_reducible refine Sx.call_at (f := 48) (fun W hW => rx_neg hs.fp W) ?_) | (with_reducible refine Sx.call_at (f := 41) (fun W hW => bt W) ?_) | (with_reducible refine Sx.call_at (f := 41) (fun W hW => bt2 W) ?_) | (with_reducible refine Sx.call_at (f := 39) (fun W hW => g_known04 W) ?_) | (with_reducible refine Sx.call_at (f := 47) (fun W hW => sa W) ?_) | (with_reducible refine Sx.call_at (f := 47) (fun W hW => sb W) ?_) | (with_reducible refine Sx.call_at (f := 47) (fun W hW => sc W) ?_) | (with_reducible refine eq_is (fun W => by first | exact eqx_run fn fn W | exact eqx_run hs.fq hs.fq W) ?_) | ((with_reducible first | apply cond_beq | apply gd_beq) <;> (intro hc; first | simp only [beq_iff_eq.2 hc] | simp only [beq_eq_false_iff_ne.2 hc] | skip)) | ((with_reducible first | apply cond_dec | apply gd_dec) <;> (intro hc; first | simp only [decide_eq_true hc] | simp only [decide_eq_false hc] | skip)) | ((with_reducible first | apply cond_of | apply gd_of) <;> (intro hc; try simp only [hc])))

/-! ### The row -/
set_option maxRecDepth 100000 in
theorem lifted (os : Os) (started : os.Started) (H : Type) (enc : TypeId × Value → H) :
    ReturnsInHanded {} Try.checked os 12 .any (Rows.simplestZeroSpec.pre6 enc Try.prog Try.f12 Rows.simplestZeroRow.domain false) (Rows.simplestZeroSpec.post enc Try.prog Try.f12 false true false false) := by
  refine returnsInHanded_of_change_sized (C := Try.checked) own started (by kernel_rfl) Try.func12
    (ChangeSpec.witness6 (enc := enc) (C := Try.checked) false ⟨#[], #[.slice none 0 0], []⟩ 8 (by kernel_rfl) (by kernel_rfl) (by kernel_rfl) (by kernel_rfl)) ?_
  intro W base args ds gs before hval0 hW hcnd hsz _
  have hval : ∀ (j : Nat) t v, Try.f12.params[j]? = some t → args[j]? = some v → Value.okWide Try.prog W .any base t v := hval0
  have hW' := hW
  obtain ⟨p, q, hA0, hV, rfl, hfz, hnd⟩ := hW
  have hA : DataW.TrodAll enc Try.prog W 0 (fun _ => true) true Try.f12.params.toList args.toList ds p := hA0
  rw [Try.params12] at hA hval
  obtain ⟨v0, vs0, d0, ds0, p0, q0, hargs, rfl, rfl, g0, r0⟩ := trodAll_cons hA
  obtain ⟨rfl, rfl, rfl⟩ := trodAll_nil r0
  obtain rfl : args = #[v0] := by cases args; simp_all
  obtain ⟨rfl, rfl⟩ := trodVars_none hV
  have hlt : ∀ x ∈ (p0 ++ []) ++ [], x.block < W.heap.size := fun x hx => hW'.lt x hx
  obtain ⟨z0, hs0⟩ := open_slz Try.underlying26 Try.underlying3 (by kernel_rfl) (hval 0 26 v0 rfl rfl) g0 (fun x hx => hlt x (by simp [hx]))
  have hs0' := hs0
  obtain ⟨s0, l0, c0, rfl, _⟩ := hs0'
  refine (walk W s0 l0 c0 z0 hs0).mono fun e W' ⟨he, hb⟩ => ?_
  subst he
  exact ⟨_, rfl, law_post laidOut (by kernel_rfl) rfl rfl Try.underlying4 hW' rfl rfl rfl hb⟩

theorem over : Rows.simplestZeroRow.holds Try.pinned (OpenSpec.ofChange Rows.simplestZeroSpec) :=
  OpenClaim.holds_of_wide 12 Try.f12 rfl rfl rfl rfl rfl rfl rfl ⟨rfl, rfl, rfl, rfl, rfl⟩ rfl rfl rfl rfl rfl (by kernel_rfl) Try.func12 (by kernel_rfl)
    (of_decide_eq_true (by kernel_rfl)) (by unfold Func.isWrapper; first | (rw [if_pos (by decide +kernel)]; kernel_rfl) | (rw [if_neg (by decide +kernel)]; exact ⟨rfl, rfl⟩))
    (fun os started H enc _ => lifted os started H enc)

/-- The given statement. -/
theorem proved : Rows.SimplestZeroSaid :=
  over
#print axioms proved
end Go.Proofs.Ytlanoclibdhpmaa.simplestZero

