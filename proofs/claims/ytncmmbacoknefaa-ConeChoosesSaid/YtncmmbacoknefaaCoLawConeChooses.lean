/- Proved: tscodeclaw13.ConeChooses returns true for all arguments. No condition. -/
import Derived.Test.YtncmmbacoknefaaRows
import Derived.Test.YtncmmbacoknefaaCoClConeChooses
import Derived.WalkKit
import Derived.ProofKit
import Derived.OpenShut
import Derived.SizedLaws
import Derived.Outline
import Derived.Test.YtncmmbacoknefaaCo4
import Derived.Test.YtncmmbacoknefaaCo5
namespace Go.Proofs.Ytncmmbacoknefaa.coneChooses
open Go.ChangeShapes Go.WideShapes Go.ChangeAt Go.RowKit Sx
set_option linter.unusedVariables false
set_option linter.unusedSimpArgs false


set_option maxHeartbeats 8000000 in
set_option maxRecDepth 100000 in
theorem walk (w : World) (s0 : Option Addr) (l0 c0 : Nat) (z0 : List Int) (h0 : SlZ w .i64 (.slice s0 l0 c0) z0) :
    Calls Try.prog 14 #[.slice s0 l0 c0] w fun e w' => e = .returned (.bool true) ∧ Below w.heap.size w w' := by

  have kn := fun W => g_known13 W
  refine known_of (enter Try.func14 w13_ConeChooses.ok (args := [_]) (by simp) ?_)
  repeat' (first | simp (disch := omega) only [sxE, w13_ConeChooses.E, Nat.reduceAdd, Nat.reduceEqDiff, Nat.reduceMul, Nat.reduceSub, Int.reduceAdd, Int.reduceSub, Int.reduceMul, Int.reduceNeg, Int.reduceLT, Int.reduceLE, Int.reduceEq, Int.reduceToNat, ↓reduceIte, Int.reducePow, Nat.reduceLeDiff, Nat.reduceLT, ne_eq, eq_self, List.length_cons, List.length_nil, qxE, kxE, bb_self, Bool.true_and, Bool.false_and])
  refine asks_new (L := []) rfl (kX_nil _) h0 en_m_New fun tb htb => ?_; clear htb
  repeat' (first | simp (disch := omega) only [sxE, w13_ConeChooses.E, Nat.reduceAdd, Nat.reduceEqDiff, Nat.reduceMul, Nat.reduceSub, Int.reduceAdd, Int.reduceSub, Int.reduceMul, Int.reduceNeg, Int.reduceLT, Int.reduceLE, Int.reduceEq, Int.reduceToNat, ↓reduceIte, Int.reducePow, Nat.reduceLeDiff, Nat.reduceLT, ne_eq, eq_self, List.length_cons, List.length_nil, qxE, kxE, bb_self, Bool.true_and, Bool.false_and])
  refine asks_tc rfl (tpk_t _ tb) (t_some tb) en_w13_some rfl (by first | exact List.mem_singleton.2 rfl | simp) rfl (by first | exact fun j hj => .inl (List.mem_singleton.1 hj) | simp) ?_
  rintro ⟨o, p, q, p1, q1⟩ ha
  try dsimp only at ha
  try dsimp only
  have A := kv_ok ha
  have ch := fun W => gx_choose A W
  have fq := cho_fq ha
  have hs := fun W => gx_has A fq.cq fq.v1 W
  have lst := fun u v => cho_least (u := u) (v := v) ha
  rw [cho_has ha] at hs
  generalize hC : Cn.mk o p q p1 q1 = C at *
  generalize cho true C = N at *
  obtain ⟨n, d⟩ := N
  subst hC
  try dsimp only [Cn.v] at A
  try dsimp only [Cn.v] at ch
  try dsimp only [Cn.v] at fq
  try dsimp only [Cn.v] at hs
  try dsimp only [Cn.v] at lst
  try dsimp only [Cn.v] at ⊢
  repeat' (first | simp (disch := omega) only [sxE, w13_ConeChooses.E, Nat.reduceAdd, Nat.reduceEqDiff, Nat.reduceMul, Nat.reduceSub, Int.reduceAdd, Int.reduceSub, Int.reduceMul, Int.reduceNeg, Int.reduceLT, Int.reduceLE, Int.reduceEq, Int.reduceToNat, ↓reduceIte, Int.reducePow, Nat.reduceLeDiff, Nat.reduceLT, ne_eq, eq_self, List.length_cons, List.length_nil, qxE, kxE, bb_self, Bool.true_and, Bool.false_and] | (with_reducible refine Sx.call_at (f := 56) (fun W hW => ch W) ?_))
  refine asks_tc rfl (tpk_t _ tb) (t_ratio tb) en_m_Tape__Ratio rfl (by first | exact List.mem_singleton.2 rfl | simp) rfl (by first | exact fun j hj => .inl (List.mem_singleton.1 hj) | simp) ?_
  rintro ⟨u, v⟩ hf
  dsimp only at hf ⊢
  have hr := fun W => gx_has A hf.cq hf.v1 W
  have sm := fun W => rx_simpler hf.cq fq.cq hf.v2 fq.v2 (fun _ => rfl) (fun _ => rfl) W
  have lst := lst u v hf
  generalize (Cn.mk o p q p1 q1).has u v = b at *
  clear A fq hf ha
  simp only [Bool.true_and] at hs hr sm
  cases b
  · repeat' (first | simp (disch := omega) only [sxE, w13_ConeChooses.E, Nat.reduceAdd, Nat.reduceEqDiff, Nat.reduceMul, Nat.reduceSub, Int.reduceAdd, Int.reduceSub, Int.reduceMul, Int.reduceNeg, Int.reduceLT, Int.reduceLE, Int.reduceEq, Int.reduceToNat, ↓reduceIte, Int.reducePow, Nat.reduceLeDiff, Nat.reduceLT, ne_eq, eq_self, List.length_cons, List.length_nil, qxE, kxE, bb_self, Bool.true_and, Bool.false_and] | (with_reducible refine Sx.call_at (f := 48) (fun W hW => kn W) ?_) | (with_reducible refine Sx.call_at (f := 59) (fun W hW => hs W) ?_) | (with_reducible refine Sx.call_at (f := 59) (fun W hW => hr W) ?_))
  · rw [lst rfl] at sm
    repeat' (first | simp (disch := omega) only [sxE, w13_ConeChooses.E, Nat.reduceAdd, Nat.reduceEqDiff, Nat.reduceMul, Nat.reduceSub, Int.reduceAdd, Int.reduceSub, Int.reduceMul, Int.reduceNeg, Int.reduceLT, Int.reduceLE, Int.reduceEq, Int.reduceToNat, ↓reduceIte, Int.reducePow, Nat.reduceLeDiff, Nat.reduceLT, ne_eq, eq_self, List.length_cons, List.length_nil, qxE, kxE, bb_self, Bool.true_and, Bool.false_and] | (with_reducible refine Sx.call_at (f := 48) (fun W hW => kn W) ?_) | (with_reducible refine Sx.call_at (f := 59) (fun W hW => hs W) ?_) | (with_reducible refine Sx.call_at (f := 59) (fun W hW => hr W) ?_) | (with_reducible refine Sx.call_at (f := 61) (fun W hW => sm W) ?_))

/-! ### The row -/
set_option maxRecDepth 100000 in
theorem lifted (os : Os) (started : os.Started) (H : Type) (enc : TypeId × Value → H) :
    ReturnsInHanded {} Try.checked os 14 .any (Rows.coneChoosesSpec.pre6 enc Try.prog Try.f14 Rows.coneChoosesRow.domain false) (Rows.coneChoosesSpec.post enc Try.prog Try.f14 false true false false) := by
  refine returnsInHanded_of_change_sized (C := Try.checked) own started (by kernel_rfl) Try.func14
    (ChangeSpec.witness6 (enc := enc) (C := Try.checked) false ⟨#[], #[.slice none 0 0], []⟩ 8 (by kernel_rfl) (by kernel_rfl) (by kernel_rfl) (by kernel_rfl)) ?_
  intro W base args ds gs before hval0 hW hcnd hsz _
  have hval : ∀ (j : Nat) t v, Try.f14.params[j]? = some t → args[j]? = some v → Value.okWide Try.prog W .any base t v := hval0
  have hW' := hW
  obtain ⟨p, q, hA0, hV, rfl, hfz, hnd⟩ := hW
  have hA : DataW.TrodAll enc Try.prog W 0 (fun _ => true) true Try.f14.params.toList args.toList ds p := hA0
  rw [Try.params14] at hA hval
  obtain ⟨v0, vs0, d0, ds0, p0, q0, hargs, rfl, rfl, g0, r0⟩ := trodAll_cons hA
  obtain ⟨rfl, rfl, rfl⟩ := trodAll_nil r0
  obtain rfl : args = #[v0] := by cases args; simp_all
  obtain ⟨rfl, rfl⟩ := trodVars_none hV
  have hlt : ∀ x ∈ (p0 ++ []) ++ [], x.block < W.heap.size := fun x hx => hW'.lt x hx
  obtain ⟨z0, hs0⟩ := open_slz Try.underlying23 Try.underlying3 (by kernel_rfl) (hval 0 23 v0 rfl rfl) g0 (fun x hx => hlt x (by simp [hx]))
  have hs0' := hs0
  obtain ⟨s0, l0, c0, rfl, _⟩ := hs0'
  refine (walk W s0 l0 c0 z0 hs0).mono fun e W' ⟨he, hb⟩ => ?_
  subst he
  exact ⟨_, rfl, law_post laidOut (by kernel_rfl) rfl rfl Try.underlying4 hW' rfl rfl rfl hb⟩

theorem over : Rows.coneChoosesRow.holds Try.pinned (OpenSpec.ofChange Rows.coneChoosesSpec) :=
  OpenClaim.holds_of_wide 14 Try.f14 rfl rfl rfl rfl rfl rfl rfl ⟨rfl, rfl, rfl, rfl, rfl⟩ rfl rfl rfl rfl rfl (by kernel_rfl) Try.func14 (by kernel_rfl)
    (of_decide_eq_true (by kernel_rfl)) (by unfold Func.isWrapper; first | (rw [if_pos (by decide +kernel)]; kernel_rfl) | (rw [if_neg (by decide +kernel)]; exact ⟨rfl, rfl⟩))
    (fun os started H enc _ => lifted os started H enc)

/-- The given statement. -/
theorem proved : Rows.ConeChoosesSaid :=
  over
#print axioms proved
end Go.Proofs.Ytncmmbacoknefaa.coneChooses

