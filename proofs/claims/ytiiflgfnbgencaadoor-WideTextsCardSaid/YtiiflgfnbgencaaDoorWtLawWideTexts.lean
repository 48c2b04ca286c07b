/- Proved: tscodeclaw02.WideTexts returns true for all arguments. No condition. -/
import Derived.Test.YtiiflgfnbgencaaDoorRows
import Derived.Test.YtiiflgfnbgencaaDoorWtClWideTexts
import Derived.Test.YtiiflgfnbgencaaDoorTie
import Derived.Test.YtiiflgfnbgencaaDoorCards
import Derived.WalkKit
import Derived.ProofKit
import Derived.OpenShut
import Derived.SizedLaws
import Derived.Outline
import Derived.Test.YtiiflgfnbgencaaDoorWt4
namespace Go.Proofs.YtiiflgfnbgencaaDoor.wideTexts
open Go.ChangeShapes Go.WideShapes Go.ChangeAt Go.RowKit Sx
set_option linter.unusedVariables false
set_option linter.unusedSimpArgs false


set_option maxHeartbeats 8000000 in
set_option maxRecDepth 100000 in
theorem walk (w : World) (ht : tabs w) (v0 : Value) (t0 : Bool) (z0 : Int) (hw0 : RW v0 t0 z0) (a1 : Int) (h1 : I64 a1) (s2 : Option Addr) (l2 c2 : Nat) (z2 : List Int) (h2 : SlZ w .i64 (.slice s2 l2 c2) z2) :
    Calls Tryd.prog 7 #[v0, .int .i64 a1, .slice s2 l2 c2] w fun e w' => e = .returned (.bool true) ∧ Below w.heap.size w w' := by

  have o1 := fun W => gx_of h1 W
  have o2 := fun W => rx_of h1 W
  have f1 := (bd_i64 h1).fits
  have kn := fun W' (hb : Below w.heap.size w W') => g_known02 W' (tabs_below ht rfl hb)
  have x1 := fun W' (hb : Below w.heap.size w W') => g_textA hw0.is W' (tabs_below ht rfl hb)
  have y1 := fun W => rg_textA hw0.is W
  have x3 := fun W' (hb : Below w.heap.size w W') => g_textA f1.is W' (tabs_below ht rfl hb)
  have y3 := fun W => rg_textA f1.is W
  obtain ⟨c0, c1, c2', c3, c4, rfl⟩ := hw0.five
  refine known_of (enter Tryd.func7 w02_WideTexts.ok (args := [_, _, _]) (by simp) ?_)
  repeat' (first | simp (disch := omega) only [sxE, w02_WideTexts.E, Nat.reduceAdd, Nat.reduceEqDiff, Nat.reduceMul, Nat.reduceSub, Int.reduceAdd, Int.reduceSub, Int.reduceMul, Int.reduceNeg, Int.reduceLT, Int.reduceLE, Int.reduceEq, Int.reduceToNat, ↓reduceIte, Int.reducePow, Nat.reduceLeDiff, Nat.reduceLT, ne_eq, eq_self, List.length_cons, List.length_nil, qxE])
  refine asks_new (L := []) rfl (kX_nil _) h2 en_m_New fun tb htb => ?_; clear htb
  repeat' (first | simp (disch := omega) only [sxE, w02_WideTexts.E, Nat.reduceAdd, Nat.reduceEqDiff, Nat.reduceMul, Nat.reduceSub, Int.reduceAdd, Int.reduceSub, Int.reduceMul, Int.reduceNeg, Int.reduceLT, Int.reduceLE, Int.reduceEq, Int.reduceToNat, ↓reduceIte, Int.reducePow, Nat.reduceLeDiff, Nat.reduceLT, ne_eq, eq_self, List.length_cons, List.length_nil, qxE])
  refine asks_tc rfl (tpk_t _ tb) (t_wideV tb) en_m_Tape__Wide rfl (by first | exact List.mem_singleton.2 rfl | simp) rfl (by first | exact fun j hj => .inl (List.mem_singleton.1 hj) | simp) ?_
  intro z5 f5
  have x5 := fun W' (hb : Below w.heap.size w W') => g_textA f5.is W' (tabs_below ht rfl hb)
  have y5 := fun W => rg_textA f5.is W
  clear hw0
  repeat' (first | simp (disch := omega) only [sxE, w02_WideTexts.E, Nat.reduceAdd, Nat.reduceEqDiff, Nat.reduceMul, Nat.reduceSub, Int.reduceAdd, Int.reduceSub, Int.reduceMul, Int.reduceNeg, Int.reduceLT, Int.reduceLE, Int.reduceEq, Int.reduceToNat, ↓reduceIte, Int.reducePow, Nat.reduceLeDiff, Nat.reduceLT, ne_eq, eq_self, List.length_cons, List.length_nil, qxE, beq_self_eq_true, Bool.true_and] | (with_reducible refine Sx.call_at (f := 13) (fun W hW => kn W hW) ?_) | (with_reducible refine Sx.call_at (f := 15) (fun W hW => o1 W) ?_) | (with_reducible refine Sx.call_at (f := 18) (fun W hW => o2 W) ?_) | (with_reducible refine Sx.call_at (f := 24) (fun W hW => x1 W hW) ?_) | (with_reducible refine Sx.call_at (f := 24) (fun W hW => x3 W hW) ?_) | (with_reducible refine Sx.call_at (f := 24) (fun W hW => x5 W hW) ?_) | (with_reducible refine Sx.call_at (f := 25) (fun W hW => y1 W) ?_) | (with_reducible refine Sx.call_at (f := 25) (fun W hW => y3 W) ?_) | (with_reducible refine Sx.call_at (f := 25) (fun W hW => y5 W) ?_) | (with_reducible refine eq_is (fun W => by exact eqs_run _ W) ?_))

/-! ### The row -/
set_option maxRecDepth 100000 in
theorem lifted (os : Os) (started : os.Started) (H : Type) (enc : TypeId × Value → H) :
    ReturnsInHanded {} Tryd.checked os 7 .any (fun w args => (Rows.wideTextsSpec.pre enc Tryd.prog Tryd.f7 Rows.wideTextsRow.domain false w args ∧ laidMetH Tryd.prog laidD w) ∧ sizedMet enc Tryd.prog Tryd.f7 (OpenSpec.ofChange Rows.wideTextsSpec) false w args) (Rows.wideTextsSpec.post enc Tryd.prog Tryd.f7 false true false false) := by
  refine returnsInHanded_of_change_and (C := Tryd.checked) (X := fun w _ => laidMetH Tryd.prog laidD w) (fun _ _ _ hh h => h.of_heap hh) own started (by kernel_rfl) Tryd.func7
    (ChangeSpec.witness_shaped (enc := enc) (C := Tryd.checked) (os := os) (X := fun w _ => laidMetH Tryd.prog laidD w) false (World.doorLaid Tryd.prog 400 os) #[.agg #[.bool false, .int .u64 0, .int .u64 0, .int .u64 0, .int .u64 0], .int .i64 0, .slice none 0 0] 8 rfl (World.shaped_of_RefB (by kernel_rfl) (by kernel_rfl)) (by kernel_rfl) (by kernel_rfl) (by kernel_rfl) (door_met os _)) ?_
  intro W base args ds gs before hval0 hW _ _ hL _
  have hval : ∀ (j : Nat) t v, Tryd.f7.params[j]? = some t → args[j]? = some v → Value.okWide Tryd.prog W .any base t v := hval0
  have hW' := hW
  obtain ⟨p, q, hA0, hV, rfl, hfz, hnd⟩ := hW
  have hA : DataW.TrodAll enc Tryd.prog W 0 (fun _ => true) true Tryd.f7.params.toList args.toList ds p := hA0
  rw [Tryd.params7] at hA hval
  obtain ⟨v0, vs0, d0, ds0, p0, q0, hargs, rfl, rfl, g0, r0⟩ := trodAll_cons hA
  obtain ⟨v1, vs1, d1, ds1, p1, q1, rfl, rfl, rfl, g1, r1⟩ := trodAll_cons r0
  obtain ⟨v2, vs2, d2, ds2, p2, q2, rfl, rfl, rfl, g2, r2⟩ := trodAll_cons r1
  obtain ⟨rfl, rfl, rfl⟩ := trodAll_nil r2
  obtain rfl : args = #[v0, v1, v2] := by cases args; simp_all
  obtain ⟨rfl, rfl⟩ := trodVars_none hV
  have hlt : ∀ x ∈ (p0 ++ (p1 ++ (p2 ++ []))) ++ [], x.block < W.heap.size := fun x hx => hW'.lt x hx
  obtain ⟨nb0, xa0, xb0, xc0, xd0, rfl, ua0, ub0, uc0, ud0⟩ := open_wide (hval 0 28 v0 rfl rfl) g0
  obtain ⟨tt0, zz0, hrw0⟩ := rw_raw nb0 ua0 ub0 uc0 ud0
  obtain ⟨a1, rfl, rfl, rfl, w1⟩ := open_int Tryd.underlying2 (hval 1 2 v1 rfl rfl) g1
  obtain ⟨z2, hs2⟩ := open_slz Tryd.underlying22 Tryd.underlying3 (by kernel_rfl) (hval 2 22 v2 rfl rfl) g2 (fun x hx => hlt x (by simp [hx]))
  have hs2' := hs2
  obtain ⟨s2, l2, c2, rfl, _⟩ := hs2'
  refine (walk W (tabs_of_laid hL) _ tt0 zz0 hrw0 a1 (I64.of_wf w1) s2 l2 c2 z2 hs2).mono fun e W' ⟨he, hb⟩ => ?_
  subst he
  exact ⟨_, rfl, law_post laidOut (by kernel_rfl) rfl rfl Tryd.underlying4 hW' rfl rfl rfl hb⟩

theorem over : Rows.wideTextsRow.holds Tryd.pinned (OpenSpec.ofChange Rows.wideTextsSpec) :=
  OpenClaim.holds_of_wide 7 Tryd.f7 rfl rfl rfl rfl rfl rfl rfl ⟨rfl, rfl, rfl, rfl, rfl⟩ rfl rfl rfl rfl rfl (by kernel_rfl) Tryd.func7 (by kernel_rfl)
    (of_decide_eq_true (by kernel_rfl)) (by unfold Func.isWrapper; first | (rw [if_pos (by decide +kernel)]; kernel_rfl) | (rw [if_neg (by decide +kernel)]; exact ⟨rfl, rfl⟩))
    (fun os started H enc _ => lifted os started H enc)

/-- The given statement: the card. -/
theorem proved : Rows.WideTextsCardSaid :=
  Claim7.holds_tied_plain_at .later [] [.data, .data, .data] true (true, "7c9154f34fe96b9c8cae6e0afcff1f718a6fe2a9e5ce1e2b7e9c687b7e7fe878") false
    over (fun _ h => by cases h) (by kernel_rfl) (fun _ h => by cases h) wideTexts_row_tie rfl ⟨rfl, rfl⟩ (by kernel_rfl) rfl
    (fun f fn hf hfn => by
      obtain rfl : f = 7 := Option.some.inj ((show Tryd.prog.funcNamed "tscodec/tscodeclaw02.WideTexts" = some 7 by kernel_rfl).symm.trans hf) |>.symm
      obtain rfl : fn = Tryd.f7 := (Option.some.inj (Tryd.func7.symm.trans hfn)).symm
      exact ⟨by kernel_rfl, fun j t ht => by
        rw [Tryd.params7] at ht
        have hm : t ∈ [28, 2, 22] := by simpa using Array.mem_of_getElem? ht
        have hall : ([28, 2, 22].all fun u => !Tryd.prog.wantsStandIn u) = true := by kernel_rfl
        exact (show Tryd.prog.wantsStandIn t = false by simpa using List.all_eq_true.1 hall t hm)⟩)
    (by kernel_rfl)
#print axioms proved
end Go.Proofs.YtiiflgfnbgencaaDoor.wideTexts

