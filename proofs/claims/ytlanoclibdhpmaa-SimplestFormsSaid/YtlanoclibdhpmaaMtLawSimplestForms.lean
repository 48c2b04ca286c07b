/- Proved: tscodeclaw04.SimplestForms returns true for all arguments. No condition. -/
import Derived.Test.YtlanoclibdhpmaaRows
import Derived.Test.YtlanoclibdhpmaaMtClSimplestForms
import Derived.WalkKit
import Derived.ProofKit
import Derived.OpenShut
import Derived.SizedLaws
import Derived.Outline
import Derived.Test.YtlanoclibdhpmaaMt4
import Derived.Test.YtlanoclibdhpmaaMt5
namespace Go.Proofs.Ytlanoclibdhpmaa.simplestForms
open Go.ChangeShapes Go.WideShapes Go.ChangeAt Go.RowKit Sx
set_option linter.unusedVariables false
set_option linter.unusedSimpArgs false


set_option maxHeartbeats 8000000 in
set_option maxRecDepth 100000 in
theorem walk (w : World) (v0 : Value) (p0 q0 : Int) (hq0 : CQ v0 p0 q0) (v1 : Value) (p1 q1 : Int) (hq1 : CQ v1 p1 q1) (s2 : Option Addr) (l2 c2 : Nat) (z2 : List Int) (h2 : SlZ w .i64 (.slice s2 l2 c2) z2) :
    Calls Try.prog 9 #[v0, v1, .slice s2 l2 c2] w fun e w' => e = .returned (.bool true) ∧ Below w.heap.size w w' := by

  obtain ⟨c0, c1, c2', c3, c4, c5, c6, c7, c8, c9, rfl⟩ := hq0.ten
  obtain ⟨d0, d1, d2, d3, d4, d5, d6, d7, d8, d9, rfl⟩ := hq1.ten
  refine known_of (enter Try.func9 w04_SimplestForms.ok (args := [_, _, _]) (by simp) ?_)
  repeat' (first | simp (disch := omega) only [sxE, w04_SimplestForms.E, Nat.reduceAdd, Nat.reduceEqDiff, Nat.reduceMul, Nat.reduceSub, Int.reduceAdd, Int.reduceSub, Int.reduceMul, Int.reduceNeg, Int.reduceLT, Int.reduceLE, Int.reduceEq, Int.reduceToNat, ↓reduceIte, Int.reducePow, Nat.reduceLeDiff, Nat.reduceLT, ne_eq, eq_self, List.length_cons, List.length_nil, qxE])
  refine asks_new (L := []) rfl (kX_nil _) h2 en_m_New fun tb htb => ?_; clear htb
  repeat' (first | simp (disch := omega) only [sxE, w04_SimplestForms.E, Nat.reduceAdd, Nat.reduceEqDiff, Nat.reduceMul, Nat.reduceSub, Int.reduceAdd, Int.reduceSub, Int.reduceMul, Int.reduceNeg, Int.reduceLT, Int.reduceLE, Int.reduceEq, Int.reduceToNat, ↓reduceIte, Int.reducePow, Nat.reduceLeDiff, Nat.reduceLT, ne_eq, eq_self, List.length_cons, List.length_nil, qxE])
  refine asks_tc rfl (tpk_t _ tb) (t_near tb) en_w04_near rfl (by first | exact List.mem_singleton.2 rfl | simp) rfl (by first | exact fun j hj => .inl (List.mem_singleton.1 hj) | simp) ?_
  rintro ⟨p, q, p2, q2⟩ ⟨hf, hg, hle⟩
  dsimp only at hf hg hle ⊢
  repeat' (first | simp (disch := omega) only [sxE, w04_SimplestForms.E, Nat.reduceAdd, Nat.reduceEqDiff, Nat.reduceMul, Nat.reduceSub, Int.reduceAdd, Int.reduceSub, Int.reduceMul, Int.reduceNeg, Int.reduceLT, Int.reduceLE, Int.reduceEq, Int.reduceToNat, ↓reduceIte, Int.reducePow, Nat.reduceLeDiff, Nat.reduceLT, ne_eq, eq_self, List.length_cons, List.length_nil, qxE] | (with_reducible refine Sx.call_at (f := 39) (fun W hW => g_known04 W) ?_) | (with_reducible refine Sx.call_at (f := 40) (fun W hW => g_alike04 hq0 hq1 W) ?_) | (with_reducible refine Sx.call_at (f := 40) (fun W hW => g_alike04 hf.cq hg.cq W) ?_) | (with_reducible refine Sx.call_at (f := 40) (fun W hW => g_alike04 hg.cq hf.cq W) ?_) | (with_reducible refine Sx.call_at (f := 40) (fun W hW => g_alike04 hf.cq hf.cq W) ?_) | (with_reducible refine Sx.call_at (f := 40) (fun W hW => g_alike04 hq0 hf.cq W) ?_))

/-! ### The row -/
set_option maxRecDepth 100000 in
theorem lifted (os : Os) (started : os.Started) (H : Type) (enc : TypeId × Value → H) :
    ReturnsInHanded {} Try.checked os 9 .any (Rows.simplestFormsSpec.pre6 enc Try.prog Try.f9 Rows.simplestFormsRow.domain false) (Rows.simplestFormsSpec.post enc Try.prog Try.f9 false true false false) := by
  refine returnsInHanded_of_change_sized (C := Try.checked) own started (by kernel_rfl) Try.func9
    (ChangeSpec.witness6 (enc := enc) (C := Try.checked) false ⟨#[], #[.agg #[.bool false, .int .u64 0, .int .u64 0, .int .u64 0, .int .u64 0, .bool false, .int .u64 0, .int .u64 0, .int .u64 0, .int .u64 0], .agg #[.bool false, .int .u64 0, .int .u64 0, .int .u64 0, .int .u64 0, .bool false, .int .u64 0, .int .u64 0, .int .u64 0, .int .u64 0], .slice none 0 0], []⟩ 8 (by kernel_rfl) (by kernel_rfl) (by kernel_rfl) (by kernel_rfl)) ?_
  intro W base args ds gs before hval0 hW hcnd hsz _
  have hval : ∀ (j : Nat) t v, Try.f9.params[j]? = some t → args[j]? = some v → Value.okWide Try.prog W .any base t v := hval0
  have hW' := hW
  obtain ⟨p, q, hA0, hV, rfl, hfz, hnd⟩ := hW
  have hA : DataW.TrodAll enc Try.prog W 0 (fun _ => true) true Try.f9.params.toList args.toList ds p := hA0
  rw [Try.params9] at hA hval
  obtain ⟨v0, vs0, d0, ds0, p0, q0, hargs, rfl, rfl, g0, r0⟩ := trodAll_cons hA
  obtain ⟨v1, vs1, d1, ds1, p1, q1, rfl, rfl, rfl, g1, r1⟩ := trodAll_cons r0
  obtain ⟨v2, vs2, d2, ds2, p2, q2, rfl, rfl, rfl, g2, r2⟩ := trodAll_cons r1
  obtain ⟨rfl, rfl, rfl⟩ := trodAll_nil r2
  obtain rfl : args = #[v0, v1, v2] := by cases args; simp_all
  obtain ⟨rfl, rfl⟩ := trodVars_none hV
  have hlt : ∀ x ∈ (p0 ++ (p1 ++ (p2 ++ []))) ++ [], x.block < W.heap.size := fun x hx => hW'.lt x hx
  obtain ⟨nb0, xa0, xb0, xc0, xd0, ne0, ya0, yb0, yc0, yd0, rfl, ⟨ua0, ub0, uc0, ud0⟩, ⟨ta0, tb0, tc0, td0⟩⟩ := open_ratio (hval 0 35 v0 rfl rfl) g0
  obtain ⟨pp0, qq0, hcq0⟩ := cq_raw nb0 ne0 ua0 ub0 uc0 ud0 ta0 tb0 tc0 td0
  obtain ⟨nb1, xa1, xb1, xc1, xd1, ne1, ya1, yb1, yc1, yd1, rfl, ⟨ua1, ub1, uc1, ud1⟩, ⟨ta1, tb1, tc1, td1⟩⟩ := open_ratio (hval 1 35 v1 rfl rfl) g1
  obtain ⟨pp1, qq1, hcq1⟩ := cq_raw nb1 ne1 ua1 ub1 uc1 ud1 ta1 tb1 tc1 td1
  obtain ⟨z2, hs2⟩ := open_slz Try.underlying26 Try.underlying3 (by kernel_rfl) (hval 2 26 v2 rfl rfl) g2 (fun x hx => hlt x (by simp [hx]))
  have hs2' := hs2
  obtain ⟨s2, l2, c2, rfl, _⟩ := hs2'
  refine (walk W _ pp0 qq0 hcq0 _ pp1 qq1 hcq1 s2 l2 c2 z2 hs2).mono fun e W' ⟨he, hb⟩ => ?_
  subst he
  exact ⟨_, rfl, law_post laidOut (by kernel_rfl) rfl rfl Try.underlying4 hW' rfl rfl rfl hb⟩

theorem over : Rows.simplestFormsRow.holds Try.pinned (OpenSpec.ofChange Rows.simplestFormsSpec) :=
  OpenClaim.holds_of_wide 9 Try.f9 rfl rfl rfl rfl rfl rfl rfl ⟨rfl, rfl, rfl, rfl, rfl⟩ rfl rfl rfl rfl rfl (by kernel_rfl) Try.func9 (by kernel_rfl)
    (of_decide_eq_true (by kernel_rfl)) (by unfold Func.isWrapper; first | (rw [if_pos (by decide +kernel)]; kernel_rfl) | (rw [if_neg (by decide +kernel)]; exact ⟨rfl, rfl⟩))
    (fun os started H enc _ => lifted os started H enc)

/-- The given statement. -/
theorem proved : Rows.SimplestFormsSaid :=
  over
#print axioms proved
end Go.Proofs.Ytlanoclibdhpmaa.simplestForms

