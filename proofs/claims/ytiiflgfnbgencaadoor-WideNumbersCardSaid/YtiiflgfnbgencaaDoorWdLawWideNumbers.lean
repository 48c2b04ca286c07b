/- Proved: tscodeclaw02.WideNumbers returns true for all arguments. No condition. -/
import Derived.Test.YtiiflgfnbgencaaDoorRows
import Derived.Test.YtiiflgfnbgencaaDoorWdClWideNumbers
import Derived.Test.YtiiflgfnbgencaaDoorTie
import Derived.Test.YtiiflgfnbgencaaDoorCards
import Derived.WalkKit
import Derived.ProofKit
import Derived.OpenShut
import Derived.SizedLaws
import Derived.Outline
import Derived.Test.YtiiflgfnbgencaaDoorWd5
namespace Go.Proofs.YtiiflgfnbgencaaDoor.wideNumbers
open Go.ChangeShapes Go.WideShapes Go.ChangeAt Go.RowKit Sx
set_option linter.unusedVariables false
set_option linter.unusedSimpArgs false


set_option maxHeartbeats 8000000 in
set_option maxRecDepth 100000 in
theorem walk (w : World) (ht : tabs w) (a0 : Int) (h0 : I64 a0) (a1 : Int) (h1 : U64 a1) :
    Calls Tryd.prog 4 #[.int .i64 a0, .int .u64 a1] w fun e w' => e = .returned (.bool true) ∧ Below w.heap.size w w' := by

  have f0 := (bd_i64 h0).fits
  have f1 := (bd_u64 h1).fits
  have o1 := fun W => gx_of h0 W
  have o2 := fun W => rx_of h0 W
  have o3 := fun W => gx_ofU h1 W
  have o4 := fun W => rx_ofU h1 W
  have e1 : i6b a0 = true := decide_eq_true ⟨h0.1, h0.2⟩
  have e2 : i6v a0 = a0 := by unfold i6v; rw [e1]; rfl
  have e3 : unb a1 = true := decide_eq_true ⟨h1.1, by have := h1.2; omega⟩
  have e4 : unv a1 = a1 := by unfold unv; rw [e3]; rfl
  have n1 : ∀ W, Gives Tryd.prog 14 [WX a0] W (· = .tuple #[.int .i64 (i6v a0), .bool (i6b a0)]) := fun W => g_int64 f0.is W
  have n2 : ∀ W, Gives Tryd.prog 16 [WX a1] W (· = .tuple #[.int .u64 (unv a1), .bool (unb a1)]) := fun W => g_unsigned f1.is W
  have n3 : ∀ W, Gives Tryd.prog 16 [WX a0] W (· = .tuple #[.int .u64 (unv a0), .bool (unb a0)]) := fun W => g_unsigned f0.is W
  rw [e1, e2] at n1
  rw [e3, e4] at n2
  have kn := fun W' (hb : Below w.heap.size w W') => g_known02 W' (tabs_below ht rfl hb)
  clear e1 e2 e3 e4
  by_cases hs : 0 ≤ a0
  · have e5 : unb a0 = true := decide_eq_true ⟨hs, by have := h0.2; omega⟩
    have e6 : unv a0 = a0 := by unfold unv; rw [e5]; rfl
    rw [e5, e6] at n3
    have w1 : IntKind.u64.wrap a0 = a0 := u64_wrap_id a0 ⟨hs, by have := h0.2; omega⟩
    have d1 := decide_eq_true hs
    clear e5 e6
    refine known_of (enter Tryd.func4 w02_WideNumbers.ok (args := [_, _]) (by simp) ?_)
    repeat' (first | simp (disch := omega) only [sxE, w02_WideNumbers.E, Nat.reduceAdd, Nat.reduceEqDiff, Nat.reduceMul, Nat.reduceSub, Int.reduceAdd, Int.reduceSub, Int.reduceMul, Int.reduceNeg, Int.reduceLT, Int.reduceLE, Int.reduceEq, Int.reduceToNat, ↓reduceIte, Int.reducePow, Nat.reduceLeDiff, Nat.reduceLT, ne_eq, eq_self, List.length_cons, List.length_nil, qxE, d1, w1, beq_self_eq_true] | (with_reducible refine Sx.call_at (f := 15) (fun W hW => o1 W) ?_) | (with_reducible refine Sx.call_at (f := 18) (fun W hW => o2 W) ?_) | (with_reducible refine Sx.call_at (f := 17) (fun W hW => o3 W) ?_) | (with_reducible refine Sx.call_at (f := 19) (fun W hW => o4 W) ?_) | (with_reducible refine Sx.call_at (f := 14) (fun W hW => n1 W) ?_) | (with_reducible refine Sx.call_at (f := 16) (fun W hW => n2 W) ?_) | (with_reducible refine Sx.call_at (f := 16) (fun W hW => n3 W) ?_) | (with_reducible refine Sx.call_at (f := 13) (fun W hW => kn W hW) ?_) | (with_reducible refine eq_is (fun W => by first | exact eqx_run f0 f0 W | exact eqx_run f1 f1 W) ?_))
  · have e5 : unb a0 = false := decide_eq_false (by omega)
    have e6 : unv a0 = 0 := by unfold unv; rw [e5]; rfl
    rw [e5, e6] at n3
    have d1 := decide_eq_false hs
    clear e5 e6
    refine known_of (enter Tryd.func4 w02_WideNumbers.ok (args := [_, _]) (by simp) ?_)
    repeat' (first | simp (disch := omega) only [sxE, w02_WideNumbers.E, Nat.reduceAdd, Nat.reduceEqDiff, Nat.reduceMul, Nat.reduceSub, Int.reduceAdd, Int.reduceSub, Int.reduceMul, Int.reduceNeg, Int.reduceLT, Int.reduceLE, Int.reduceEq, Int.reduceToNat, ↓reduceIte, Int.reducePow, Nat.reduceLeDiff, Nat.reduceLT, ne_eq, eq_self, List.length_cons, List.length_nil, qxE, d1, beq_self_eq_true] | (with_reducible refine Sx.call_at (f := 15) (fun W hW => o1 W) ?_) | (with_reducible refine Sx.call_at (f := 18) (fun W hW => o2 W) ?_) | (with_reducible refine Sx.call_at (f := 17) (fun W hW => o3 W) ?_) | (with_reducible refine Sx.call_at (f := 19) (fun W hW => o4 W) ?_) | (with_reducible refine Sx.call_at (f := 14) (fun W hW => n1 W) ?_) | (with_reducible refine Sx.call_at (f := 16) (fun W hW => n2 W) ?_) | (with_reducible refine Sx.call_at (f := 16) (fun W hW => n3 W) ?_) | (with_reducible refine Sx.call_at (f := 13) (fun W hW => kn W hW) ?_) | (with_reducible refine eq_is (fun W => by first | exact eqx_run f0 f0 W | exact eqx_run f1 f1 W) ?_))

/-! ### The row -/
set_option maxRecDepth 100000 in
theorem lifted (os : Os) (started : os.Started) (H : Type) (enc : TypeId × Value → H) :
    ReturnsInHanded {} Tryd.checked os 4 .any (fun w args => (Rows.wideNumbersSpec.pre enc Tryd.prog Tryd.f4 Rows.wideNumbersRow.domain false w args ∧ laidMetH Tryd.prog laidD w) ∧ sizedMet enc Tryd.prog Tryd.f4 (OpenSpec.ofChange Rows.wideNumbersSpec) false w args) (Rows.wideNumbersSpec.post enc Tryd.prog Tryd.f4 false true false false) := by
  refine returnsInHanded_of_change_and (C := Tryd.checked) (X := fun w _ => laidMetH Tryd.prog laidD w) (fun _ _ _ hh h => h.of_heap hh) own started (by kernel_rfl) Tryd.func4
    (ChangeSpec.witness_shaped (enc := enc) (C := Tryd.checked) (os := os) (X := fun w _ => laidMetH Tryd.prog laidD w) false (World.doorLaid Tryd.prog 400 os) #[.int .i64 0, .int .u64 0] 8 rfl (World.shaped_of_RefB (by kernel_rfl) (by kernel_rfl)) (by kernel_rfl) (by kernel_rfl) (by kernel_rfl) (door_met os _)) ?_
  intro W base args ds gs before hval0 hW _ _ hL _
  have hval : ∀ (j : Nat) t v, Tryd.f4.params[j]? = some t → args[j]? = some v → Value.okWide Tryd.prog W .any base t v := hval0
  have hW' := hW
  obtain ⟨p, q, hA0, hV, rfl, hfz, hnd⟩ := hW
  have hA : DataW.TrodAll enc Tryd.prog W 0 (fun _ => true) true Tryd.f4.params.toList args.toList ds p := hA0
  rw [Tryd.params4] at hA hval
  obtain ⟨v0, vs0, d0, ds0, p0, q0, hargs, rfl, rfl, g0, r0⟩ := trodAll_cons hA
  obtain ⟨v1, vs1, d1, ds1, p1, q1, rfl, rfl, rfl, g1, r1⟩ := trodAll_cons r0
  obtain ⟨rfl, rfl, rfl⟩ := trodAll_nil r1
  obtain rfl : args = #[v0, v1] := by cases args; simp_all
  obtain ⟨rfl, rfl⟩ := trodVars_none hV
  have hlt : ∀ x ∈ (p0 ++ (p1 ++ [])) ++ [], x.block < W.heap.size := fun x hx => hW'.lt x hx
  obtain ⟨a0, rfl, rfl, rfl, w0⟩ := open_int Tryd.underlying2 (hval 0 2 v0 rfl rfl) g0
  obtain ⟨a1, rfl, rfl, rfl, w1⟩ := open_int Tryd.underlying25 (hval 1 25 v1 rfl rfl) g1
  refine (walk W (tabs_of_laid hL) a0 (I64.of_wf w0) a1 (U64.of_wf w1)).mono fun e W' ⟨he, hb⟩ => ?_
  subst he
  exact ⟨_, rfl, law_post laidOut (by kernel_rfl) rfl rfl Tryd.underlying4 hW' rfl rfl rfl hb⟩

theorem over : Rows.wideNumbersRow.holds Tryd.pinned (OpenSpec.ofChange Rows.wideNumbersSpec) :=
  OpenClaim.holds_of_wide 4 Tryd.f4 rfl rfl rfl rfl rfl rfl rfl ⟨rfl, rfl, rfl, rfl, rfl⟩ rfl rfl rfl rfl rfl (by kernel_rfl) Tryd.func4 (by kernel_rfl)
    (of_decide_eq_true (by kernel_rfl)) (by unfold Func.isWrapper; first | (rw [if_pos (by decide +kernel)]; kernel_rfl) | (rw [if_neg (by decide +kernel)]; exact ⟨rfl, rfl⟩))
    (fun os started H enc _ => lifted os started H enc)

/-- The given statement: the card. -/
theorem proved : Rows.WideNumbersCardSaid :=
  Claim7.holds_tied_plain_at .later [] [.data, .data, .data] true (true, "7c9154f34fe96b9c8cae6e0afcff1f718a6fe2a9e5ce1e2b7e9c687b7e7fe878") false
    over (fun _ h => by cases h) (by kernel_rfl) (fun _ h => by cases h) wideNumbers_row_tie rfl ⟨rfl, rfl⟩ (by kernel_rfl) rfl
    (fun f fn hf hfn => by
      obtain rfl : f = 4 := Option.some.inj ((show Tryd.prog.funcNamed "tscodec/tscodeclaw02.WideNumbers" = some 4 by kernel_rfl).symm.trans hf) |>.symm
      obtain rfl : fn = Tryd.f4 := (Option.some.inj (Tryd.func4.symm.trans hfn)).symm
      exact ⟨by kernel_rfl, fun j t ht => by
        rw [Tryd.params4] at ht
        have hm : t ∈ [2, 25] := by simpa using Array.mem_of_getElem? ht
        have hall : ([2, 25].all fun u => !Tryd.prog.wantsStandIn u) = true := by kernel_rfl
        exact (show Tryd.prog.wantsStandIn t = false by simpa using List.all_eq_true.1 hall t hm)⟩)
    (by kernel_rfl)
#print axioms proved
end Go.Proofs.YtiiflgfnbgencaaDoor.wideNumbers

