/- Proved: tscodeclaw02.WideDivides returns true for all arguments. No condition. -/
import Derived.Test.YtiiflgfnbgencaaDoorRows
import Derived.Test.YtiiflgfnbgencaaDoorWdClWideDivides
import Derived.Test.YtiiflgfnbgencaaDoorTie
import Derived.Test.YtiiflgfnbgencaaDoorCards
import Derived.WalkKit
import Derived.ProofKit
import Derived.OpenShut
import Derived.SizedLaws
import Derived.Outline
import Derived.Test.YtiiflgfnbgencaaDoorWd5
namespace Go.Proofs.YtiiflgfnbgencaaDoor.wideDivides
open Go.ChangeShapes Go.WideShapes Go.ChangeAt Go.RowKit Sx
set_option linter.unusedVariables false
set_option linter.unusedSimpArgs false


theorem cl_of {z : Int} (h : fb z = true) : cl z = z := by
  unfold fb at h
  unfold cl
  rw [if_pos (by simpa using h)]
set_option maxHeartbeats 8000000 in
set_option maxRecDepth 100000 in
theorem walk (w : World) (ht : tabs w) (s0 : Option Addr) (l0 c0 : Nat) (z0 : List Int) (h0 : SlZ w .i64 (.slice s0 l0 c0) z0) :
    Calls Tryd.prog 5 #[.slice s0 l0 c0] w fun e w' => e = .returned (.bool true) ∧ Below w.heap.size w w' := by

  have kn := fun W' (hb : Below w.heap.size w W') => g_known02 W' (tabs_below ht rfl hb)
  refine known_of (enter Tryd.func5 w02_WideDivides.ok (args := [_]) (by simp) ?_)
  repeat' (first | simp (disch := omega) only [sxE, w02_WideDivides.E, Nat.reduceAdd, Nat.reduceEqDiff, Nat.reduceMul, Nat.reduceSub, Int.reduceAdd, Int.reduceSub, Int.reduceMul, Int.reduceNeg, Int.reduceLT, Int.reduceLE, Int.reduceEq, Int.reduceToNat, ↓reduceIte, Int.reducePow, Nat.reduceLeDiff, Nat.reduceLT, ne_eq, eq_self, List.length_cons, List.length_nil, qxE])
  refine asks_new (L := []) rfl (kX_nil _) h0 en_m_New fun tb htb => ?_; clear htb
  repeat' (first | simp (disch := omega) only [sxE, w02_WideDivides.E, Nat.reduceAdd, Nat.reduceEqDiff, Nat.reduceMul, Nat.reduceSub, Int.reduceAdd, Int.reduceSub, Int.reduceMul, Int.reduceNeg, Int.reduceLT, Int.reduceLE, Int.reduceEq, Int.reduceToNat, ↓reduceIte, Int.reducePow, Nat.reduceLeDiff, Nat.reduceLT, ne_eq, eq_self, List.length_cons, List.length_nil, qxE])
  refine asks_tc rfl (tpk_t _ tb) (t_wideV tb) en_m_Tape__Wide rfl (by first | exact List.mem_singleton.2 rfl | simp) rfl (by first | exact fun j hj => .inl (List.mem_singleton.1 hj) | simp) ?_
  intro x hx
  try dsimp only at hx ⊢
  repeat' (first | simp (disch := omega) only [sxE, w02_WideDivides.E, Nat.reduceAdd, Nat.reduceEqDiff, Nat.reduceMul, Nat.reduceSub, Int.reduceAdd, Int.reduceSub, Int.reduceMul, Int.reduceNeg, Int.reduceLT, Int.reduceLE, Int.reduceEq, Int.reduceToNat, ↓reduceIte, Int.reducePow, Nat.reduceLeDiff, Nat.reduceLT, ne_eq, eq_self, List.length_cons, List.length_nil, qxE])
  refine asks_tc rfl (tpk_t _ tb) (t_wideV tb) en_m_Tape__Wide rfl (by first | exact List.mem_singleton.2 rfl | simp) rfl (by first | exact fun j hj => .inl (List.mem_singleton.1 hj) | simp) ?_
  intro y hy
  try dsimp only at hy ⊢
  have dv : ∀ W, Gives Tryd.prog 20 [WX x, WX y] W (· = .tuple #[WX (x / y), WX (dr x y), .bool (decide (y ≠ 0))]) := fun W => g_divmod hx.is hy.is W
  have sy := fun W => gx_sign hy W
  by_cases h : y = 0
  · have c0 := (km_eq y 0).2 h
    rw [decide_eq_false (not_not_intro h)] at dv
    have d1 : (cm y 0 == 0) = true := beq_iff_eq.2 c0
    clear h c0
    generalize cm y 0 = c at *
    repeat' (first | simp (disch := omega) only [sxE, w02_WideDivides.E, Nat.reduceAdd, Nat.reduceEqDiff, Nat.reduceMul, Nat.reduceSub, Int.reduceAdd, Int.reduceSub, Int.reduceMul, Int.reduceNeg, Int.reduceLT, Int.reduceLE, Int.reduceEq, Int.reduceToNat, ↓reduceIte, Int.reducePow, Nat.reduceLeDiff, Nat.reduceLT, ne_eq, eq_self, List.length_cons, List.length_nil, qxE, d1] | (with_reducible refine Sx.call_at (f := 20) (fun W hW => dv W) ?_) | (with_reducible refine Sx.call_at (f := 21) (fun W hW => sy W) ?_) | (with_reducible refine Sx.call_at (f := 13) (fun W hW => kn W hW) ?_))
  · have dr' : dr x y = x % y := by unfold dr; rw [if_neg h]
    rw [decide_eq_true h, dr'] at dv
    have fe := fits_ediv hx h
    have fr := fits_emod (z := x) hy h
    have r0 : 0 ≤ x % y := Int.emod_nonneg x h
    have r1 : x % y < ab y := by
      have := Int.emod_lt x h
      unfold ab
      split <;> omega
    have es : x / y * y + x % y = x := Int.ediv_mul_add_emod x y
    have fay : Fits (ab y) := fits_le hy (by rw [ab_ab]; exact Int.le_refl _)
    have sr := fun W => gx_sign fr W
    have c1 : ¬ cm (x % y) 0 < 0 := fun e => by have := (km_lt _ _).1 e; omega
    have cp := fun W => gx_compare fr fay W
    have c2 : ¬ 0 ≤ cm (x % y) (ab y) := fun e => by have := (km_ge0 _ _).1 e; omega
    have mu : ∀ W, Gives Tryd.prog 12 [WX (x / y), WX y] W (· = .tuple #[WX (cl (x / y * y)), .bool (fb (x / y * y))]) := fun W => g_mul fe.is hy.is W
    have ad : ∀ W, Gives Tryd.prog 11 [WX (cl (x / y * y)), WX (x % y)] W (· = .tuple #[WX (cl (cl (x / y * y) + x % y)), .bool (fb (cl (x / y * y) + x % y))]) := fun W => g_add (fits_cl _).is fr.is W
    have F : fb (x / y * y) = true → cl (cl (x / y * y) + x % y) = x ∧ fb (cl (x / y * y) + x % y) = true := fun e => by
      rw [cl_of e, es]
      exact ⟨cl_fit hx, fb_fit hx⟩
    clear r0 r1 es dr' h fe
    generalize cm (x % y) 0 = k1 at *
    generalize cm (x % y) (ab y) = k2 at *
    generalize x % y = R at *
    generalize cl (cl (x / y * y) + R) = S at *
    generalize fb (cl (x / y * y) + R) = s at *
    generalize cl (x / y * y) = P at *
    generalize fb (x / y * y) = p at *
    generalize x / y = Q at *
    cases p
    · repeat' (first | simp (disch := omega) only [sxE, w02_WideDivides.E, Nat.reduceAdd, Nat.reduceEqDiff, Nat.reduceMul, Nat.reduceSub, Int.reduceAdd, Int.reduceSub, Int.reduceMul, Int.reduceNeg, Int.reduceLT, Int.reduceLE, Int.reduceEq, Int.reduceToNat, ↓reduceIte, Int.reducePow, Nat.reduceLeDiff, Nat.reduceLT, ne_eq, eq_self, List.length_cons, List.length_nil, qxE] | (with_reducible refine Sx.call_at (f := 20) (fun W hW => dv W) ?_) | (with_reducible refine Sx.call_at (f := 12) (fun W hW => mu W) ?_) | (with_reducible refine Sx.call_at (f := 21) (fun W hW => sr W) ?_) | (with_reducible refine Sx.call_at (f := 22) (fun W hW => cp W) ?_) | (with_reducible refine Sx.call_at (f := 11) (fun W hW => ad W) ?_) | (with_reducible refine Sx.call_at (f := 13) (fun W hW => kn W hW) ?_))
    · obtain ⟨rfl, rfl⟩ := F rfl
      repeat' (first | simp (disch := omega) only [sxE, w02_WideDivides.E, Nat.reduceAdd, Nat.reduceEqDiff, Nat.reduceMul, Nat.reduceSub, Int.reduceAdd, Int.reduceSub, Int.reduceMul, Int.reduceNeg, Int.reduceLT, Int.reduceLE, Int.reduceEq, Int.reduceToNat, ↓reduceIte, Int.reducePow, Nat.reduceLeDiff, Nat.reduceLT, ne_eq, eq_self, List.length_cons, List.length_nil, qxE, beq_self_eq_true] | (with_reducible refine Sx.call_at (f := 20) (fun W hW => dv W) ?_) | (with_reducible refine Sx.call_at (f := 12) (fun W hW => mu W) ?_) | (with_reducible refine Sx.call_at (f := 21) (fun W hW => sr W) ?_) | (with_reducible refine Sx.call_at (f := 22) (fun W hW => cp W) ?_) | (with_reducible refine Sx.call_at (f := 11) (fun W hW => ad W) ?_) | (with_reducible refine Sx.call_at (f := 13) (fun W hW => kn W hW) ?_) | (with_reducible refine eq_is (fun W => by first | exact eqx_run hx hx W) ?_))

/-! ### The row -/
set_option maxRecDepth 100000 in
theorem lifted (os : Os) (started : os.Started) (H : Type) (enc : TypeId × Value → H) :
    ReturnsInHanded {} Tryd.checked os 5 .any (fun w args => (Rows.wideDividesSpec.pre enc Tryd.prog Tryd.f5 Rows.wideDividesRow.domain false w args ∧ laidMetH Tryd.prog laidD w) ∧ sizedMet enc Tryd.prog Tryd.f5 (OpenSpec.ofChange Rows.wideDividesSpec) false w args) (Rows.wideDividesSpec.post enc Tryd.prog Tryd.f5 false true false false) := by
  refine returnsInHanded_of_change_and (C := Tryd.checked) (X := fun w _ => laidMetH Tryd.prog laidD w) (fun _ _ _ hh h => h.of_heap hh) own started (by kernel_rfl) Tryd.func5
    (ChangeSpec.witness_shaped (enc := enc) (C := Tryd.checked) (os := os) (X := fun w _ => laidMetH Tryd.prog laidD w) false (World.doorLaid Tryd.prog 400 os) #[.slice none 0 0] 8 rfl (World.shaped_of_RefB (by kernel_rfl) (by kernel_rfl)) (by kernel_rfl) (by kernel_rfl) (by kernel_rfl) (door_met os _)) ?_
  intro W base args ds gs before hval0 hW _ _ hL _
  have hval : ∀ (j : Nat) t v, Tryd.f5.params[j]? = some t → args[j]? = some v → Value.okWide Tryd.prog W .any base t v := hval0
  have hW' := hW
  obtain ⟨p, q, hA0, hV, rfl, hfz, hnd⟩ := hW
  have hA : DataW.TrodAll enc Tryd.prog W 0 (fun _ => true) true Tryd.f5.params.toList args.toList ds p := hA0
  rw [Tryd.params5] at hA hval
  obtain ⟨v0, vs0, d0, ds0, p0, q0, hargs, rfl, rfl, g0, r0⟩ := trodAll_cons hA
  obtain ⟨rfl, rfl, rfl⟩ := trodAll_nil r0
  obtain rfl : args = #[v0] := by cases args; simp_all
  obtain ⟨rfl, rfl⟩ := trodVars_none hV
  have hlt : ∀ x ∈ (p0 ++ []) ++ [], x.block < W.heap.size := fun x hx => hW'.lt x hx
  obtain ⟨z0, hs0⟩ := open_slz Tryd.underlying22 Tryd.underlying3 (by kernel_rfl) (hval 0 22 v0 rfl rfl) g0 (fun x hx => hlt x (by simp [hx]))
  have hs0' := hs0
  obtain ⟨s0, l0, c0, rfl, _⟩ := hs0'
  refine (walk W (tabs_of_laid hL) s0 l0 c0 z0 hs0).mono fun e W' ⟨he, hb⟩ => ?_
  subst he
  exact ⟨_, rfl, law_post laidOut (by kernel_rfl) rfl rfl Tryd.underlying4 hW' rfl rfl rfl hb⟩

theorem over : Rows.wideDividesRow.holds Tryd.pinned (OpenSpec.ofChange Rows.wideDividesSpec) :=
  OpenClaim.holds_of_wide 5 Tryd.f5 rfl rfl rfl rfl rfl rfl rfl ⟨rfl, rfl, rfl, rfl, rfl⟩ rfl rfl rfl rfl rfl (by kernel_rfl) Tryd.func5 (by kernel_rfl)
    (of_decide_eq_true (by kernel_rfl)) (by unfold Func.isWrapper; first | (rw [if_pos (by decide +kernel)]; kernel_rfl) | (rw [if_neg (by decide +kernel)]; exact ⟨rfl, rfl⟩))
    (fun os started H enc _ => lifted os started H enc)

/-- The given statement: the card. -/
theorem proved : Rows.WideDividesCardSaid :=
  Claim7.holds_tied_plain_at .later [] [.data, .data, .data] true (true, "7c9154f34fe96b9c8cae6e0afcff1f718a6fe2a9e5ce1e2b7e9c687b7e7fe878") false
    over (fun _ h => by cases h) (by kernel_rfl) (fun _ h => by cases h) wideDivides_row_tie rfl ⟨rfl, rfl⟩ (by kernel_rfl) rfl
    (fun f fn hf hfn => by
      obtain rfl : f = 5 := Option.some.inj ((show Tryd.prog.funcNamed "tscodec/tscodeclaw02.WideDivides" = some 5 by kernel_rfl).symm.trans hf) |>.symm
      obtain rfl : fn = Tryd.f5 := (Option.some.inj (Tryd.func5.symm.trans hfn)).symm
      exact ⟨by kernel_rfl, fun j t ht => by
        rw [Tryd.params5] at ht
        have hm : t ∈ [22] := by simpa using Array.mem_of_getElem? ht
        have hall : ([22].all fun u => !Tryd.prog.wantsStandIn u) = true := by kernel_rfl
        exact (show Tryd.prog.wantsStandIn t = false by simpa using List.all_eq_true.1 hall t hm)⟩)
    (by kernel_rfl)
#print axioms proved
end Go.Proofs.YtiiflgfnbgencaaDoor.wideDivides

