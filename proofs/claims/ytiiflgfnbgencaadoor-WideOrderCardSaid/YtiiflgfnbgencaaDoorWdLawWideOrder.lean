/- Proved: tscodeclaw02.WideOrder returns true for all arguments. No condition. -/
import Derived.Test.YtiiflgfnbgencaaDoorRows
import Derived.Test.YtiiflgfnbgencaaDoorWdClWideOrder
import Derived.Test.YtiiflgfnbgencaaDoorTie
import Derived.Test.YtiiflgfnbgencaaDoorCards
import Derived.WalkKit
import Derived.ProofKit
import Derived.OpenShut
import Derived.SizedLaws
import Derived.Outline
import Derived.Test.YtiiflgfnbgencaaDoorWd5
namespace Go.Proofs.YtiiflgfnbgencaaDoor.wideOrder
open Go.ChangeShapes Go.WideShapes Go.ChangeAt Go.RowKit Sx
set_option linter.unusedVariables false
set_option linter.unusedSimpArgs false


theorem cl_of {z : Int} (h : fb z = true) : cl z = z := by
  unfold fb at h
  unfold cl
  rw [if_pos (by simpa using h)]
set_option maxHeartbeats 8000000 in
set_option maxRecDepth 100000 in
theorem walk (w : World) (ht : tabs w) (s0 : Option Addr) (l0 c0 : Nat) (z0 : List Int) (h0 : SlZ w .i64 (.slice s0 l0 c0) z0) :
    Calls Tryd.prog 6 #[.slice s0 l0 c0] w fun e w' => e = .returned (.bool true) ∧ Below w.heap.size w w' := by

  have kn := fun W' (hb : Below w.heap.size w W') => g_known02 W' (tabs_below ht rfl hb)
  refine known_of (enter Tryd.func6 w02_WideOrder.ok (args := [_]) (by simp) ?_)
  repeat' (first | simp (disch := omega) only [sxE, w02_WideOrder.E, Nat.reduceAdd, Nat.reduceEqDiff, Nat.reduceMul, Nat.reduceSub, Int.reduceAdd, Int.reduceSub, Int.reduceMul, Int.reduceNeg, Int.reduceLT, Int.reduceLE, Int.reduceEq, Int.reduceToNat, ↓reduceIte, Int.reducePow, Nat.reduceLeDiff, Nat.reduceLT, ne_eq, eq_self, List.length_cons, List.length_nil, qxE])
  refine asks_new (L := []) rfl (kX_nil _) h0 en_m_New fun tb htb => ?_; clear htb
  repeat' (first | simp (disch := omega) only [sxE, w02_WideOrder.E, Nat.reduceAdd, Nat.reduceEqDiff, Nat.reduceMul, Nat.reduceSub, Int.reduceAdd, Int.reduceSub, Int.reduceMul, Int.reduceNeg, Int.reduceLT, Int.reduceLE, Int.reduceEq, Int.reduceToNat, ↓reduceIte, Int.reducePow, Nat.reduceLeDiff, Nat.reduceLT, ne_eq, eq_self, List.length_cons, List.length_nil, qxE])
  refine asks_tc rfl (tpk_t _ tb) (t_wideV tb) en_m_Tape__Wide rfl (by first | exact List.mem_singleton.2 rfl | simp) rfl (by first | exact fun j hj => .inl (List.mem_singleton.1 hj) | simp) ?_
  intro x hx
  try dsimp only at hx ⊢
  repeat' (first | simp (disch := omega) only [sxE, w02_WideOrder.E, Nat.reduceAdd, Nat.reduceEqDiff, Nat.reduceMul, Nat.reduceSub, Int.reduceAdd, Int.reduceSub, Int.reduceMul, Int.reduceNeg, Int.reduceLT, Int.reduceLE, Int.reduceEq, Int.reduceToNat, ↓reduceIte, Int.reducePow, Nat.reduceLeDiff, Nat.reduceLT, ne_eq, eq_self, List.length_cons, List.length_nil, qxE])
  refine asks_tc rfl (tpk_t _ tb) (t_wideV tb) en_m_Tape__Wide rfl (by first | exact List.mem_singleton.2 rfl | simp) rfl (by first | exact fun j hj => .inl (List.mem_singleton.1 hj) | simp) ?_
  intro y hy
  try dsimp only at hy ⊢
  repeat' (first | simp (disch := omega) only [sxE, w02_WideOrder.E, Nat.reduceAdd, Nat.reduceEqDiff, Nat.reduceMul, Nat.reduceSub, Int.reduceAdd, Int.reduceSub, Int.reduceMul, Int.reduceNeg, Int.reduceLT, Int.reduceLE, Int.reduceEq, Int.reduceToNat, ↓reduceIte, Int.reducePow, Nat.reduceLeDiff, Nat.reduceLT, ne_eq, eq_self, List.length_cons, List.length_nil, qxE])
  refine asks_tc rfl (tpk_t _ tb) (t_wideV tb) en_m_Tape__Wide rfl (by first | exact List.mem_singleton.2 rfl | simp) rfl (by first | exact fun j hj => .inl (List.mem_singleton.1 hj) | simp) ?_
  intro z hz
  try dsimp only at hz ⊢
  have sb : ∀ W, Gives Tryd.prog 23 [WX x, WX y] W (· = .tuple #[WX (cl (x - y)), .bool (fb (x - y))]) := fun W => g_sub hx.is hy.is W
  have p1 := fun W => gx_compare hx hy W
  have p2 := fun W => gx_compare hy hz W
  have p3 := fun W => gx_compare hx hz W
  have p4 := fun W => gx_compare hy hx W
  rw [km_neg y x] at p4
  have sg := fun W => gx_sign (fits_cl (x - y)) W
  have F : fb (x - y) = true → cm x y = cm (cl (x - y)) 0 := fun e => by
    rw [cl_of e]
    unfold cm
    (repeat' split) <;> omega
  have b1 := km_bd x y
  have w1 : IntKind.i64.wrap (0 - -cm x y) = cm x y := by
    have h : 0 - -cm x y = cm x y := by omega
    rw [h]
    have h3 : cm x y = -1 ∨ cm x y = 0 ∨ cm x y = 1 := by omega
    rcases h3 with e | e | e <;> rw [e] <;> rfl
  have d4 : (cm x y == 0) = decide (x = y) := by
    rw [Bool.eq_iff_iff, beq_iff_eq, decide_eq_true_eq]
    exact km_eq x y
  have b5 : ∀ b : Bool, (b == b) = true := fun b => by cases b <;> rfl
  have b6 := b5 (decide (x = y))
  have tr : ¬ 0 < cm x y → ¬ 0 < cm y z → cm x z ≤ 0 := fun h1 h2 => by
    have g1 : ¬ y < x := fun e => h1 ((km_gt x y).2 e)
    have g2 : ¬ z < y := fun e => h2 ((km_gt y z).2 e)
    exact (km_le x z).2 (by omega)
  generalize hd : decide (x = y) = dd at *
  generalize cl (x - y) = D at *
  generalize fb (x - y) = bd at *
  generalize cm D 0 = S at *
  generalize cm x y = X at *
  generalize cm y z = Y at *
  generalize cm x z = Z at *
  clear b1 b5
  cases bd
  case' true => obtain rfl := F rfl
  all_goals
    clear F
    by_cases h1 : 0 < X
    · have e1 := decide_eq_true h1
      repeat' (first | simp (disch := omega) only [sxE, w02_WideOrder.E, Nat.reduceAdd, Nat.reduceEqDiff, Nat.reduceMul, Nat.reduceSub, Int.reduceAdd, Int.reduceSub, Int.reduceMul, Int.reduceNeg, Int.reduceLT, Int.reduceLE, Int.reduceEq, Int.reduceToNat, ↓reduceIte, Int.reducePow, Nat.reduceLeDiff, Nat.reduceLT, ne_eq, eq_self, List.length_cons, List.length_nil, qxE, w1, d4, b6, hd, beq_self_eq_true, e1] | (with_reducible refine Sx.call_at (f := 23) (fun W hW => sb W) ?_) | (with_reducible refine Sx.call_at (f := 22) (fun W hW => p1 W) ?_) | (with_reducible refine Sx.call_at (f := 22) (fun W hW => p2 W) ?_) | (with_reducible refine Sx.call_at (f := 22) (fun W hW => p3 W) ?_) | (with_reducible refine Sx.call_at (f := 22) (fun W hW => p4 W) ?_) | (with_reducible refine Sx.call_at (f := 21) (fun W hW => sg W) ?_) | (with_reducible refine Sx.call_at (f := 13) (fun W hW => kn W hW) ?_) | (with_reducible refine eq_is (fun W => by first | exact eqx_run hx hy W) ?_))
    · have e1 := decide_eq_false h1
      by_cases h2 : 0 < Y
      · have e2 := decide_eq_true h2
        repeat' (first | simp (disch := omega) only [sxE, w02_WideOrder.E, Nat.reduceAdd, Nat.reduceEqDiff, Nat.reduceMul, Nat.reduceSub, Int.reduceAdd, Int.reduceSub, Int.reduceMul, Int.reduceNeg, Int.reduceLT, Int.reduceLE, Int.reduceEq, Int.reduceToNat, ↓reduceIte, Int.reducePow, Nat.reduceLeDiff, Nat.reduceLT, ne_eq, eq_self, List.length_cons, List.length_nil, qxE, w1, d4, b6, hd, beq_self_eq_true, e1, e2] | (with_reducible refine Sx.call_at (f := 23) (fun W hW => sb W) ?_) | (with_reducible refine Sx.call_at (f := 22) (fun W hW => p1 W) ?_) | (with_reducible refine Sx.call_at (f := 22) (fun W hW => p2 W) ?_) | (with_reducible refine Sx.call_at (f := 22) (fun W hW => p3 W) ?_) | (with_reducible refine Sx.call_at (f := 22) (fun W hW => p4 W) ?_) | (with_reducible refine Sx.call_at (f := 21) (fun W hW => sg W) ?_) | (with_reducible refine Sx.call_at (f := 13) (fun W hW => kn W hW) ?_) | (with_reducible refine eq_is (fun W => by first | exact eqx_run hx hy W) ?_))
      · have e2 := decide_eq_false h2
        have e3 := decide_eq_true (tr h1 h2)
        repeat' (first | simp (disch := omega) only [sxE, w02_WideOrder.E, Nat.reduceAdd, Nat.reduceEqDiff, Nat.reduceMul, Nat.reduceSub, Int.reduceAdd, Int.reduceSub, Int.reduceMul, Int.reduceNeg, Int.reduceLT, Int.reduceLE, Int.reduceEq, Int.reduceToNat, ↓reduceIte, Int.reducePow, Nat.reduceLeDiff, Nat.reduceLT, ne_eq, eq_self, List.length_cons, List.length_nil, qxE, w1, d4, b6, hd, beq_self_eq_true, e1, e2, e3] | (with_reducible refine Sx.call_at (f := 23) (fun W hW => sb W) ?_) | (with_reducible refine Sx.call_at (f := 22) (fun W hW => p1 W) ?_) | (with_reducible refine Sx.call_at (f := 22) (fun W hW => p2 W) ?_) | (with_reducible refine Sx.call_at (f := 22) (fun W hW => p3 W) ?_) | (with_reducible refine Sx.call_at (f := 22) (fun W hW => p4 W) ?_) | (with_reducible refine Sx.call_at (f := 21) (fun W hW => sg W) ?_) | (with_reducible refine Sx.call_at (f := 13) (fun W hW => kn W hW) ?_) | (with_reducible refine eq_is (fun W => by first | exact eqx_run hx hy W) ?_))

/-! ### The row -/
set_option maxRecDepth 100000 in
theorem lifted (os : Os) (started : os.Started) (H : Type) (enc : TypeId × Value → H) :
    ReturnsInHanded {} Tryd.checked os 6 .any (fun w args => (Rows.wideOrderSpec.pre enc Tryd.prog Tryd.f6 Rows.wideOrderRow.domain false w args ∧ laidMetH Tryd.prog laidD w) ∧ sizedMet enc Tryd.prog Tryd.f6 (OpenSpec.ofChange Rows.wideOrderSpec) false w args) (Rows.wideOrderSpec.post enc Tryd.prog Tryd.f6 false true false false) := by
  refine returnsInHanded_of_change_and (C := Tryd.checked) (X := fun w _ => laidMetH Tryd.prog laidD w) (fun _ _ _ hh h => h.of_heap hh) own started (by kernel_rfl) Tryd.func6
    (ChangeSpec.witness_shaped (enc := enc) (C := Tryd.checked) (os := os) (X := fun w _ => laidMetH Tryd.prog laidD w) false (World.doorLaid Tryd.prog 400 os) #[.slice none 0 0] 8 rfl (World.shaped_of_RefB (by kernel_rfl) (by kernel_rfl)) (by kernel_rfl) (by kernel_rfl) (by kernel_rfl) (door_met os _)) ?_
  intro W base args ds gs before hval0 hW _ _ hL _
  have hval : ∀ (j : Nat) t v, Tryd.f6.params[j]? = some t → args[j]? = some v → Value.okWide Tryd.prog W .any base t v := hval0
  have hW' := hW
  obtain ⟨p, q, hA0, hV, rfl, hfz, hnd⟩ := hW
  have hA : DataW.TrodAll enc Tryd.prog W 0 (fun _ => true) true Tryd.f6.params.toList args.toList ds p := hA0
  rw [Tryd.params6] at hA hval
  obtain ⟨v0, vs0, d0, ds0, p0, q0, hargs, rfl, rfl, g0, r0⟩ := trodAll_cons hA
  obtain ⟨rfl, rfl, rfl⟩ := trodAll_nil r0
  obtain rfl : args = #[v0] := by cases args; simp_all
  obtain ⟨rfl, rfl⟩ := trodVars_none hV
  have hlt : ∀ x ∈ (p0 ++ []) ++ [], x.block < W.heap.size := fun x hx => hW'.lt x hx
  obtain ⟨z0, hs0⟩ := open_slz Tryd.underlying22 Tryd.underlying3 (by kernel_rfl) (hval 0 22 v0 rfl rfl) g0 (fun x hx => hlt x (by simp [hx]))
  have hs0' := hs0
  obtain ⟨s0, l0, c0, rfl, _⟩ := hs0'
  refine (walk W (tabs_of_laid hL) s0 l0 c0 z0 hs0).mono fun e W' ⟨he, hb⟩ => ?_
  subst he
  exact ⟨_, rfl, law_post laidOut (by kernel_rfl) rfl rfl Tryd.underlying4 hW' rfl rfl rfl hb⟩

theorem over : Rows.wideOrderRow.holds Tryd.pinned (OpenSpec.ofChange Rows.wideOrderSpec) :=
  OpenClaim.holds_of_wide 6 Tryd.f6 rfl rfl rfl rfl rfl rfl rfl ⟨rfl, rfl, rfl, rfl, rfl⟩ rfl rfl rfl rfl rfl (by kernel_rfl) Tryd.func6 (by kernel_rfl)
    (of_decide_eq_true (by kernel_rfl)) (by unfold Func.isWrapper; first | (rw [if_pos (by decide +kernel)]; kernel_rfl) | (rw [if_neg (by decide +kernel)]; exact ⟨rfl, rfl⟩))
    (fun os started H enc _ => lifted os started H enc)

/-- The given statement: the card. -/
theorem proved : Rows.WideOrderCardSaid :=
  Claim7.holds_tied_plain_at .later [] [.data, .data, .data] true (true, "7c9154f34fe96b9c8cae6e0afcff1f718a6fe2a9e5ce1e2b7e9c687b7e7fe878") false
    over (fun _ h => by cases h) (by kernel_rfl) (fun _ h => by cases h) wideOrder_row_tie rfl ⟨rfl, rfl⟩ (by kernel_rfl) rfl
    (fun f fn hf hfn => by
      obtain rfl : f = 6 := Option.some.inj ((show Tryd.prog.funcNamed "tscodec/tscodeclaw02.WideOrder" = some 6 by kernel_rfl).symm.trans hf) |>.symm
      obtain rfl : fn = Tryd.f6 := (Option.some.inj (Tryd.func6.symm.trans hfn)).symm
      exact ⟨by kernel_rfl, fun j t ht => by
        rw [Tryd.params6] at ht
        have hm : t ∈ [22] := by simpa using Array.mem_of_getElem? ht
        have hall : ([22].all fun u => !Tryd.prog.wantsStandIn u) = true := by kernel_rfl
        exact (show Tryd.prog.wantsStandIn t = false by simpa using List.all_eq_true.1 hall t hm)⟩)
    (by kernel_rfl)
#print axioms proved
end Go.Proofs.YtiiflgfnbgencaaDoor.wideOrder

