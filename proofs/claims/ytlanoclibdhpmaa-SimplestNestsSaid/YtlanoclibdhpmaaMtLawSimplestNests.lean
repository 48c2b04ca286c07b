/- Proved: tscodeclaw04.SimplestNests returns true for all arguments. No condition. -/
import Derived.Test.YtlanoclibdhpmaaRows
import Derived.Test.YtlanoclibdhpmaaMtClSimplestNests
import Derived.WalkKit
import Derived.ProofKit
import Derived.OpenShut
import Derived.SizedLaws
import Derived.Outline
import Derived.Test.YtlanoclibdhpmaaMt4
import Derived.Test.YtlanoclibdhpmaaMt5
namespace Go.Proofs.Ytlanoclibdhpmaa.simplestNests
open Go.ChangeShapes Go.WideShapes Go.ChangeAt Go.RowKit Sx
set_option linter.unusedVariables false
set_option linter.unusedSimpArgs false


set_option maxHeartbeats 8000000 in
set_option maxRecDepth 100000 in
theorem walk (w : World) (s0 : Option Addr) (l0 c0 : Nat) (z0 : List Int) (h0 : SlZ w .i64 (.slice s0 l0 c0) z0) :
    Calls Try.prog 13 #[.slice s0 l0 c0] w fun e w' => e = .returned (.bool true) ∧ Below w.heap.size w w' := by

  refine known_of (enter Try.func13 w04_SimplestNests.ok (args := [_]) (by simp) ?_)
  repeat' (first | simp (disch := omega) only [sxE, w04_SimplestNests.E, Nat.reduceAdd, Nat.reduceEqDiff, Nat.reduceMul, Nat.reduceSub, Int.reduceAdd, Int.reduceSub, Int.reduceMul, Int.reduceNeg, Int.reduceLT, Int.reduceLE, Int.reduceEq, Int.reduceToNat, ↓reduceIte, Int.reducePow, Nat.reduceLeDiff, Nat.reduceLT, ne_eq, eq_self, List.length_cons, List.length_nil, qxE])
  refine asks_new (L := []) rfl (kX_nil _) h0 en_m_New fun tb htb => ?_; clear htb
  repeat' (first | simp (disch := omega) only [sxE, w04_SimplestNests.E, Nat.reduceAdd, Nat.reduceEqDiff, Nat.reduceMul, Nat.reduceSub, Int.reduceAdd, Int.reduceSub, Int.reduceMul, Int.reduceNeg, Int.reduceLT, Int.reduceLE, Int.reduceEq, Int.reduceToNat, ↓reduceIte, Int.reducePow, Nat.reduceLeDiff, Nat.reduceLT, ne_eq, eq_self, List.length_cons, List.length_nil, qxE])
  refine asks_tc rfl (tpk_t _ tb) (t_near tb) en_w04_near rfl (by first | exact List.mem_singleton.2 rfl | simp) rfl (by first | exact fun j hj => .inl (List.mem_singleton.1 hj) | simp) ?_
  rintro ⟨p, q, p1, q1⟩ ⟨hf, hg, hle⟩
  dsimp only at hf hg hle ⊢
  repeat' (first | simp (disch := omega) only [sxE, w04_SimplestNests.E, Nat.reduceAdd, Nat.reduceEqDiff, Nat.reduceMul, Nat.reduceSub, Int.reduceAdd, Int.reduceSub, Int.reduceMul, Int.reduceNeg, Int.reduceLT, Int.reduceLE, Int.reduceEq, Int.reduceToNat, ↓reduceIte, Int.reducePow, Nat.reduceLeDiff, Nat.reduceLT, ne_eq, eq_self, List.length_cons, List.length_nil, qxE])
  refine asks_tc rfl (tpk_t _ tb) (t_ratio tb) en_m_Tape__Ratio rfl (by first | exact List.mem_singleton.2 rfl | simp) rfl (by first | exact fun j hj => .inl (List.mem_singleton.1 hj) | simp) ?_
  rintro ⟨m, n⟩ hm
  dsimp only at hm ⊢
  have r1 := fun W => rx_rcompare hm.cq hf.cq W
  have r2 := fun W => rx_rcompare hm.cq hg.cq W
  have j1 := km_lt (m * q) (p * n)
  have j2 := km_gt (m * q1) (p1 * n)
  have known := fun W => g_known04 W
  by_cases h1 : m * q < p * n
  · have c1 : cq m n p q < 0 := j1.2 h1
    clear j1 j2
    repeat' (first | simp (disch := omega) only [sxE, w04_SimplestNests.E, Nat.reduceAdd, Nat.reduceEqDiff, Nat.reduceMul, Nat.reduceSub, Int.reduceAdd, Int.reduceSub, Int.reduceMul, Int.reduceNeg, Int.reduceLT, Int.reduceLE, Int.reduceEq, Int.reduceToNat, ↓reduceIte, Int.reducePow, Nat.reduceLeDiff, Nat.reduceLT, ne_eq, eq_self, List.length_cons, List.length_nil, qxE] | (with_reducible refine Sx.call_at (f := 28) (fun W hW => r1 W) ?_) | (with_reducible refine Sx.call_at (f := 39) (fun W hW => known W) ?_))
  · have c1 : ¬ cq m n p q < 0 := fun h => h1 (j1.1 h)
    by_cases h2 : p1 * n < m * q1
    · have c2 : 0 < cq m n p1 q1 := j2.2 h2
      clear j1 j2
      repeat' (first | simp (disch := omega) only [sxE, w04_SimplestNests.E, Nat.reduceAdd, Nat.reduceEqDiff, Nat.reduceMul, Nat.reduceSub, Int.reduceAdd, Int.reduceSub, Int.reduceMul, Int.reduceNeg, Int.reduceLT, Int.reduceLE, Int.reduceEq, Int.reduceToNat, ↓reduceIte, Int.reducePow, Nat.reduceLeDiff, Nat.reduceLT, ne_eq, eq_self, List.length_cons, List.length_nil, qxE] | (with_reducible refine Sx.call_at (f := 28) (fun W hW => r1 W) ?_) | (with_reducible refine Sx.call_at (f := 28) (fun W hW => r2 W) ?_) | (with_reducible refine Sx.call_at (f := 39) (fun W hW => known W) ?_))
    · have c2 : ¬ 0 < cq m n p1 q1 := fun h => h2 (j2.1 h)
      have hlm : p * n ≤ m * q := by omega
      have bt := fun W => gx_bt hf hg hle W
      have bt2 := fun W => gx_bt hf hm hlm W
      obtain ⟨n1, n2⟩ := btx_nests hf hg hm hle hlm (by omega)
      have hs := (btx_spec hf hg hle).fq
      have hr := (btx_spec hf hm hlm).fq
      have e1 := fun W => gx_smp hr hs W
      rw [n1] at e1
      have r3 := fun W => rx_rcompare hs.cq hm.cq W
      have j3 := km_gt ((btx p q p1 q1).1 * n) (m * (btx p q p1 q1).2)
      generalize (btx p q p1 q1).1 = x at *
      generalize (btx p q p1 q1).2 = y at *
      generalize (btx p q m n).1 = u at *
      generalize (btx p q m n).2 = v at *
      clear j1 j2 n1
      by_cases h3 : m * y < x * n
      · have c3 : 0 < cq x y m n := j3.2 h3
        repeat' (first | simp (disch := omega) only [sxE, w04_SimplestNests.E, Nat.reduceAdd, Nat.reduceEqDiff, Nat.reduceMul, Nat.reduceSub, Int.reduceAdd, Int.reduceSub, Int.reduceMul, Int.reduceNeg, Int.reduceLT, Int.reduceLE, Int.reduceEq, Int.reduceToNat, ↓reduceIte, Int.reducePow, Nat.reduceLeDiff, Nat.reduceLT, ne_eq, eq_self, List.length_cons, List.length_nil, qxE] | (with_reducible refine Sx.call_at (f := 28) (fun W hW => r1 W) ?_) | (with_reducible refine Sx.call_at (f := 28) (fun W hW => r2 W) ?_) | (with_reducible refine Sx.call_at (f := 28) (fun W hW => r3 W) ?_) | (with_reducible refine Sx.call_at (f := 41) (fun W hW => bt W) ?_) | (with_reducible refine Sx.call_at (f := 41) (fun W hW => bt2 W) ?_) | (with_reducible refine Sx.call_at (f := 43) (fun W hW => e1 W) ?_) | (with_reducible refine Sx.call_at (f := 39) (fun W hW => known W) ?_))
      · have c3 : ¬ 0 < cq x y m n := fun h => h3 (j3.1 h)
        obtain ⟨rfl, rfl⟩ := n2 (by omega)
        repeat' (first | simp (disch := omega) only [sxE, w04_SimplestNests.E, Nat.reduceAdd, Nat.reduceEqDiff, Nat.reduceMul, Nat.reduceSub, Int.reduceAdd, Int.reduceSub, Int.reduceMul, Int.reduceNeg, Int.reduceLT, Int.reduceLE, Int.reduceEq, Int.reduceToNat, ↓reduceIte, Int.reducePow, Nat.reduceLeDiff, Nat.reduceLT, ne_eq, eq_self, List.length_cons, List.length_nil, qxE] | (with_reducible refine Sx.call_at (f := 28) (fun W hW => r1 W) ?_) | (with_reducible refine Sx.call_at (f := 28) (fun W hW => r2 W) ?_) | (with_reducible refine Sx.call_at (f := 28) (fun W hW => r3 W) ?_) | (with_reducible refine Sx.call_at (f := 41) (fun W hW => bt W) ?_) | (with_reducible refine Sx.call_at (f := 41) (fun W hW => bt2 W) ?_) | (with_reducible refine Sx.call_at (f := 43) (fun W hW => e1 W) ?_) | (with_reducible refine Sx.call_at (f := 39) (fun W hW => known W) ?_) | (with_reducible refine eq_is (fun W => by first | exact eqq_run hs.fp hs.fq hs.fp hs.fq W) ?_))

/-! ### The row -/
set_option maxRecDepth 100000 in
theorem lifted (os : Os) (started : os.Started) (H : Type) (enc : TypeId × Value → H) :
    ReturnsInHanded {} Try.checked os 13 .any (Rows.simplestNestsSpec.pre6 enc Try.prog Try.f13 Rows.simplestNestsRow.domain false) (Rows.simplestNestsSpec.post enc Try.prog Try.f13 false true false false) := by
  refine returnsInHanded_of_change_sized (C := Try.checked) own started (by kernel_rfl) Try.func13
    (ChangeSpec.witness6 (enc := enc) (C := Try.checked) false ⟨#[], #[.slice none 0 0], []⟩ 8 (by kernel_rfl) (by kernel_rfl) (by kernel_rfl) (by kernel_rfl)) ?_
  intro W base args ds gs before hval0 hW hcnd hsz _
  have hval : ∀ (j : Nat) t v, Try.f13.params[j]? = some t → args[j]? = some v → Value.okWide Try.prog W .any base t v := hval0
  have hW' := hW
  obtain ⟨p, q, hA0, hV, rfl, hfz, hnd⟩ := hW
  have hA : DataW.TrodAll enc Try.prog W 0 (fun _ => true) true Try.f13.params.toList args.toList ds p := hA0
  rw [Try.params13] at hA hval
  obtain ⟨v0, vs0, d0, ds0, p0, q0, hargs, rfl, rfl, g0, r0⟩ := trodAll_cons hA
  obtain ⟨rfl, rfl, rfl⟩ := trodAll_nil r0
  obtain rfl : args = #[v0] := by cases args; simp_all
  obtain ⟨rfl, rfl⟩ := trodVars_none hV
  have hlt : ∀ x ∈ (p0 ++ []) ++ [], x.block < W.heap.size := fun x hx => hW'.lt x hx
  obtain ⟨z0, hs0⟩ := open_slz Try.underlying26 Try.underlying3 (by kernel_rfl) (hval 0 26 v0 rfl rfl) g0 (fun x hx => hlt x (by simp [hx]))
  have hs0' := hs0
  obtain ⟨s0, l0, c0, rfl, _⟩ := hs0'
  refine (walk W s0 l0 c0 z0 hs0).mono fun e W' ⟨he, hb⟩ => ?_
  subst he
  exact ⟨_, rfl, law_post laidOut (by kernel_rfl) rfl rfl Try.underlying4 hW' rfl rfl rfl hb⟩

theorem over : Rows.simplestNestsRow.holds Try.pinned (OpenSpec.ofChange Rows.simplestNestsSpec) :=
  OpenClaim.holds_of_wide 13 Try.f13 rfl rfl rfl rfl rfl rfl rfl ⟨rfl, rfl, rfl, rfl, rfl⟩ rfl rfl rfl rfl rfl (by kernel_rfl) Try.func13 (by kernel_rfl)
    (of_decide_eq_true (by kernel_rfl)) (by unfold Func.isWrapper; first | (rw [if_pos (by decide +kernel)]; kernel_rfl) | (rw [if_neg (by decide +kernel)]; exact ⟨rfl, rfl⟩))
    (fun os started H enc _ => lifted os started H enc)

/-- The given statement. -/
theorem proved : Rows.SimplestNestsSaid :=
  over
#print axioms proved
end Go.Proofs.Ytlanoclibdhpmaa.simplestNests

