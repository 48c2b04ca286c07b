/- Proved: tscodeclaw04.SimplestInside returns true for all arguments. No condition. -/
import Derived.Test.YtlanoclibdhpmaaRows
import Derived.Test.YtlanoclibdhpmaaMtClSimplestInside
import Derived.WalkKit
import Derived.ProofKit
import Derived.OpenShut
import Derived.SizedLaws
import Derived.Outline
import Derived.Test.YtlanoclibdhpmaaMt4
import Derived.Test.YtlanoclibdhpmaaMt5
namespace Go.Proofs.Ytlanoclibdhpmaa.simplestInside
open Go.ChangeShapes Go.WideShapes Go.ChangeAt Go.RowKit Sx
set_option linter.unusedVariables false
set_option linter.unusedSimpArgs false


set_option maxHeartbeats 8000000 in
set_option maxRecDepth 100000 in
theorem walk (w : World) (s0 : Option Addr) (l0 c0 : Nat) (z0 : List Int) (h0 : SlZ w .i64 (.slice s0 l0 c0) z0) :
    Calls Try.prog 10 #[.slice s0 l0 c0] w fun e w' => e = .returned (.bool true) ∧ Below w.heap.size w w' := by

  refine known_of (enter Try.func10 w04_SimplestInside.ok (args := [_]) (by simp) ?_)
  repeat' (first | simp (disch := omega) only [sxE, w04_SimplestInside.E, Nat.reduceAdd, Nat.reduceEqDiff, Nat.reduceMul, Nat.reduceSub, Int.reduceAdd, Int.reduceSub, Int.reduceMul, Int.reduceNeg, Int.reduceLT, Int.reduceLE, Int.reduceEq, Int.reduceToNat, ↓reduceIte, Int.reducePow, Nat.reduceLeDiff, Nat.reduceLT, ne_eq, eq_self, List.length_cons, List.length_nil, qxE])
  refine asks_new (L := []) rfl (kX_nil _) h0 en_m_New fun tb htb => ?_; clear htb
  repeat' (first | simp (disch := omega) only [sxE, w04_SimplestInside.E, Nat.reduceAdd, Nat.reduceEqDiff, Nat.reduceMul, Nat.reduceSub, Int.reduceAdd, Int.reduceSub, Int.reduceMul, Int.reduceNeg, Int.reduceLT, Int.reduceLE, Int.reduceEq, Int.reduceToNat, ↓reduceIte, Int.reducePow, Nat.reduceLeDiff, Nat.reduceLT, ne_eq, eq_self, List.length_cons, List.length_nil, qxE])
  refine asks_tc rfl (tpk_t _ tb) (t_near tb) en_w04_near rfl (by first | exact List.mem_singleton.2 rfl | simp) rfl (by first | exact fun j hj => .inl (List.mem_singleton.1 hj) | simp) ?_
  rintro ⟨p, q, p1, q1⟩ ⟨hf, hg, hle⟩
  dsimp only at hf hg hle ⊢
  have sp := btx_spec hf hg hle
  have bt := fun W => gx_bt hf hg hle W
  generalize (btx p q p1 q1).1 = x at *
  generalize (btx p q p1 q1).2 = y at *
  have hs := sp.fq
  have k1 := sp.least p q hf.pos (Int.le_refl _) hle
  have k2 := sp.least p1 q1 hg.pos hle (Int.le_refl _)
  have c1 : cq p q x y ≤ 0 := (km_le _ _).2 sp.lo
  have c2 : cq x y p1 q1 ≤ 0 := (km_le _ _).2 sp.hi
  have d1 : smp p q x y = false := by unfold smp; rw [decide_eq_false (show ¬ q < y by omega), decide_eq_false (show ¬ ab p < ab x by omega), Bool.and_false]; rfl
  have d2 : smp p1 q1 x y = false := by unfold smp; rw [decide_eq_false (show ¬ q1 < y by omega), decide_eq_false (show ¬ ab p1 < ab x by omega), Bool.and_false]; rfl
  have e1 := fun W => gx_smp hf hs W
  have e2 := fun W => gx_smp hg hs W
  rw [d1] at e1
  rw [d2] at e2
  have v := fun W => hs.v2 W
  have r1 := fun W => rx_rcompare hf.cq hs.cq W
  have r2 := fun W => rx_rcompare hs.cq hg.cq W
  clear sp k1 k2 d1 d2
  generalize cq p q x y = z1 at *
  generalize cq x y p1 q1 = z2 at *
  repeat' (first | simp (disch := omega) only [sxE, w04_SimplestInside.E, Nat.reduceAdd, Nat.reduceEqDiff, Nat.reduceMul, Nat.reduceSub, Int.reduceAdd, Int.reduceSub, Int.reduceMul, Int.reduceNeg, Int.reduceLT, Int.reduceLE, Int.reduceEq, Int.reduceToNat, ↓reduceIte, Int.reducePow, Nat.reduceLeDiff, Nat.reduceLT, ne_eq, eq_self, List.length_cons, List.length_nil, qxE] | (with_reducible refine Sx.call_at (f := 41) (fun W hW => bt W) ?_) | (with_reducible refine Sx.call_at (f := 39) (fun W hW => g_known04 W) ?_) | (with_reducible refine Sx.call_at (f := 42) (fun W hW => v W) ?_) | (with_reducible refine Sx.call_at (f := 28) (fun W hW => r1 W) ?_) | (with_reducible refine Sx.call_at (f := 28) (fun W hW => r2 W) ?_) | (with_reducible refine Sx.call_at (f := 43) (fun W hW => e1 W) ?_) | (with_reducible refine Sx.call_at (f := 43) (fun W hW => e2 W) ?_))

/-! ### The row -/
set_option maxRecDepth 100000 in
theorem lifted (os : Os) (started : os.Started) (H : Type) (enc : TypeId × Value → H) :
    ReturnsInHanded {} Try.checked os 10 .any (Rows.simplestInsideSpec.pre6 enc Try.prog Try.f10 Rows.simplestInsideRow.domain false) (Rows.simplestInsideSpec.post enc Try.prog Try.f10 false true false false) := by
  refine returnsInHanded_of_change_sized (C := Try.checked) own started (by kernel_rfl) Try.func10
    (ChangeSpec.witness6 (enc := enc) (C := Try.checked) false ⟨#[], #[.slice none 0 0], []⟩ 8 (by kernel_rfl) (by kernel_rfl) (by kernel_rfl) (by kernel_rfl)) ?_
  intro W base args ds gs before hval0 hW hcnd hsz _
  have hval : ∀ (j : Nat) t v, Try.f10.params[j]? = some t → args[j]? = some v → Value.okWide Try.prog W .any base t v := hval0
  have hW' := hW
  obtain ⟨p, q, hA0, hV, rfl, hfz, hnd⟩ := hW
  have hA : DataW.TrodAll enc Try.prog W 0 (fun _ => true) true Try.f10.params.toList args.toList ds p := hA0
  rw [Try.params10] at hA hval
  obtain ⟨v0, vs0, d0, ds0, p0, q0, hargs, rfl, rfl, g0, r0⟩ := trodAll_cons hA
  obtain ⟨rfl, rfl, rfl⟩ := trodAll_nil r0
  obtain rfl : args = #[v0] := by cases args; simp_all
  obtain ⟨rfl, rfl⟩ := trodVars_none hV
  have hlt : ∀ x ∈ (p0 ++ []) ++ [], x.block < W.heap.size := fun x hx => hW'.lt x hx
  obtain ⟨z0, hs0⟩ := open_slz Try.underlying26 Try.underlying3 (by kernel_rfl) (hval 0 26 v0 rfl rfl) g0 (fun x hx => hlt x (by simp [hx]))
  have hs0' := hs0
  obtain ⟨s0, l0, c0, rfl, _⟩ := hs0'
  refine (walk W s0 l0 c0 z0 hs0).mono fun e W' ⟨he, hb⟩ => ?_
  subst he
  exact ⟨_, rfl, law_post laidOut (by kernel_rfl) rfl rfl Try.underlying4 hW' rfl rfl rfl hb⟩

theorem over : Rows.simplestInsideRow.holds Try.pinned (OpenSpec.ofChange Rows.simplestInsideSpec) :=
  OpenClaim.holds_of_wide 10 Try.f10 rfl rfl rfl rfl rfl rfl rfl ⟨rfl, rfl, rfl, rfl, rfl⟩ rfl rfl rfl rfl rfl (by kernel_rfl) Try.func10 (by kernel_rfl)
    (of_decide_eq_true (by kernel_rfl)) (by unfold Func.isWrapper; first | (rw [if_pos (by decide +kernel)]; kernel_rfl) | (rw [if_neg (by decide +kernel)]; exact ⟨rfl, rfl⟩))
    (fun os started H enc _ => lifted os started H enc)

/-- The given statement. -/
theorem proved : Rows.SimplestInsideSaid :=
  over
#print axioms proved
end Go.Proofs.Ytlanoclibdhpmaa.simplestInside

