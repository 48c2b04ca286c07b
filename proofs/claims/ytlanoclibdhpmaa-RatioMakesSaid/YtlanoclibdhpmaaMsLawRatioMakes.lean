/- Proved: tscodeclaw03.RatioMakes returns true for all arguments. No condition. -/
import Derived.Test.YtlanoclibdhpmaaRows
import Derived.Test.YtlanoclibdhpmaaMsClRatioMakes
import Derived.WalkKit
import Derived.ProofKit
import Derived.OpenShut
import Derived.SizedLaws
import Derived.Outline
import Derived.Test.YtlanoclibdhpmaaMs4
import Derived.Test.YtlanoclibdhpmaaMs5
namespace Go.Proofs.Ytlanoclibdhpmaa.ratioMakes
open Go.ChangeShapes Go.WideShapes Go.ChangeAt Go.RowKit Sx
set_option linter.unusedVariables false
set_option linter.unusedSimpArgs false


set_option maxHeartbeats 8000000 in
set_option maxRecDepth 100000 in
theorem walk (w : World) (v0 : Value) (t0 : Bool) (z0 : Int) (hw0 : RW v0 t0 z0) (v1 : Value) (t1 : Bool) (z1 : Int) (hw1 : RW v1 t1 z1) (s2 : Option Addr) (l2 c2 : Nat) (z2 : List Int) (h2 : SlZ w .i64 (.slice s2 l2 c2) z2) :
    Calls Try.prog 3 #[v0, v1, .slice s2 l2 c2] w fun e w' => e = .returned (.bool true) ∧ Below w.heap.size w w' := by

  obtain ⟨c0, c1, c2', c3, c4, rfl⟩ := hw0.five
  obtain ⟨d0, d1, d2, d3, d4, rfl⟩ := hw1.five
  refine known_of (enter Try.func3 w03_RatioMakes.ok (args := [_, _, _]) (by simp) ?_)
  repeat' (first | simp (disch := omega) only [sxE, w03_RatioMakes.E, Nat.reduceAdd, Nat.reduceEqDiff, Nat.reduceMul, Nat.reduceSub, Int.reduceAdd, Int.reduceSub, Int.reduceMul, Int.reduceNeg, Int.reduceLT, Int.reduceLE, Int.reduceEq, Int.reduceToNat, ↓reduceIte, Int.reducePow, Nat.reduceLeDiff, Nat.reduceLT, ne_eq, eq_self, List.length_cons, List.length_nil, qxE])
  refine asks_new (L := []) rfl (kX_nil _) h2 en_m_New fun tb htb => ?_; clear htb
  repeat' (first | simp (disch := omega) only [sxE, w03_RatioMakes.E, Nat.reduceAdd, Nat.reduceEqDiff, Nat.reduceMul, Nat.reduceSub, Int.reduceAdd, Int.reduceSub, Int.reduceMul, Int.reduceNeg, Int.reduceLT, Int.reduceLE, Int.reduceEq, Int.reduceToNat, ↓reduceIte, Int.reducePow, Nat.reduceLeDiff, Nat.reduceLT, ne_eq, eq_self, List.length_cons, List.length_nil, qxE])
  refine asks_tc rfl (tpk_t _ tb) (t_wide tb) en_m_Tape__Wide rfl (by first | exact List.mem_singleton.2 rfl | simp) rfl (by first | exact fun j hj => .inl (List.mem_singleton.1 hj) | simp) ?_
  rintro ⟨e0, e1, e2, e3, e4⟩ ⟨t5, z5, hw5⟩
  dsimp only at hw5 ⊢
  repeat' (first | simp (disch := omega) only [sxE, w03_RatioMakes.E, Nat.reduceAdd, Nat.reduceEqDiff, Nat.reduceMul, Nat.reduceSub, Int.reduceAdd, Int.reduceSub, Int.reduceMul, Int.reduceNeg, Int.reduceLT, Int.reduceLE, Int.reduceEq, Int.reduceToNat, ↓reduceIte, Int.reducePow, Nat.reduceLeDiff, Nat.reduceLT, ne_eq, eq_self, List.length_cons, List.length_nil, qxE])
  refine asks_tc rfl (tpk_t _ tb) (t_wide tb) en_m_Tape__Wide rfl (by first | exact List.mem_singleton.2 rfl | simp) rfl (by first | exact fun j hj => .inl (List.mem_singleton.1 hj) | simp) ?_
  rintro ⟨g0, g1, g2, g3, g4⟩ ⟨t6, z6, hw6⟩
  dsimp only at hw6 ⊢
  repeat' (first | simp (disch := omega) only [sxE, w03_RatioMakes.E, Nat.reduceAdd, Nat.reduceEqDiff, Nat.reduceMul, Nat.reduceSub, Int.reduceAdd, Int.reduceSub, Int.reduceMul, Int.reduceNeg, Int.reduceLT, Int.reduceLE, Int.reduceEq, Int.reduceToNat, ↓reduceIte, Int.reducePow, Nat.reduceLeDiff, Nat.reduceLT, ne_eq, eq_self, List.length_cons, List.length_nil, qxE])
  refine asks_tc rfl (tpk_t _ tb) (t_int tb) en_m_Tape__Int rfl (by first | exact List.mem_singleton.2 rfl | simp) rfl (by first | exact fun j hj => .inl (List.mem_singleton.1 hj) | simp) ?_
  intro x hx
  repeat' (first | simp (disch := omega) only [sxE, w03_RatioMakes.E, Nat.reduceAdd, Nat.reduceEqDiff, Nat.reduceMul, Nat.reduceSub, Int.reduceAdd, Int.reduceSub, Int.reduceMul, Int.reduceNeg, Int.reduceLT, Int.reduceLE, Int.reduceEq, Int.reduceToNat, ↓reduceIte, Int.reducePow, Nat.reduceLeDiff, Nat.reduceLT, ne_eq, eq_self, List.length_cons, List.length_nil, qxE] | (with_reducible refine Sx.call_at (f := 16) (fun W hW => rx_of hx W) ?_))
  refine asks_tc rfl (tpk_t _ tb) (t_next tb (by decide) (by decide)) en_m_Tape__Next rfl (by first | exact List.mem_singleton.2 rfl | simp) rfl (by first | exact fun j hj => .inl (List.mem_singleton.1 hj) | simp) ?_
  rintro r ⟨r1, r2⟩
  have hr : I64 (r - 20) := ⟨by omega, by omega⟩
  have fx := fits_i64 hx
  have fr := fits_i64 hr
  repeat' (first | simp (disch := omega) only [sxE, w03_RatioMakes.E, Nat.reduceAdd, Nat.reduceEqDiff, Nat.reduceMul, Nat.reduceSub, Int.reduceAdd, Int.reduceSub, Int.reduceMul, Int.reduceNeg, Int.reduceLT, Int.reduceLE, Int.reduceEq, Int.reduceToNat, ↓reduceIte, Int.reducePow, Nat.reduceLeDiff, Nat.reduceLT, ne_eq, eq_self, List.length_cons, List.length_nil, qxE] | (with_reducible refine Sx.call_at (f := 16) (fun W hW => rx_of hr W) ?_))
  refine genA_c (L := [.g (tK tb)]) (cs := [c0, c1, c2', c3, c4, d0, d1, d2, d3, d4, e0, e1, e2, e3, e4, g0, g1, g2, g3, g4] ++ wc x ++ wc (r - 20)) (T := 25) (fun b => .slice (some ⟨b, 0, none⟩) 6 6) rfl (fun W => by kernel_rfl) fun b hb => ?_
  clear hb hr r1 r2 hx
  obtain ⟨cs, hcs⟩ : ∃ cs, cs = [c0, c1, c2', c3, c4, d0, d1, d2, d3, d4, e0, e1, e2, e3, e4, g0, g1, g2, g3, g4] ++ wc x ++ wc (r - 20) := ⟨_, rfl⟩
  obtain ⟨lv, tv, zv, hlv, hcell⟩ : ∃ (lv : Nat → RC) (tv : Nat → Bool) (zv : Nat → Int), (∀ i, i < 6 → RW (.agg #[(lv i).c0, (lv i).c1, (lv i).c2, (lv i).c3, (lv i).c4]) (tv i) (zv i)) ∧ ∀ i, i < 6 → ∀ (j : Nat) (v : Value), [(lv i).c0, (lv i).c1, (lv i).c2, (lv i).c3, (lv i).c4][j]? = some v → cs[i * 5 + j]? = some v := by
    refine ⟨fun i => match i with | 0 => ⟨c0, c1, c2', c3, c4⟩ | 1 => ⟨d0, d1, d2, d3, d4⟩ | 2 => ⟨e0, e1, e2, e3, e4⟩ | 3 => ⟨g0, g1, g2, g3, g4⟩ | 4 => ⟨.bool (sg x), .int .u64 (lb0 (ab x)), .int .u64 (lb1 (ab x)), .int .u64 (lb2 (ab x)), .int .u64 (lb3 (ab x))⟩ | _ => ⟨.bool (sg (r - 20)), .int .u64 (lb0 (ab (r - 20))), .int .u64 (lb1 (ab (r - 20))), .int .u64 (lb2 (ab (r - 20))), .int .u64 (lb3 (ab (r - 20)))⟩,
      fun i => match i with | 0 => t0 | 1 => t1 | 2 => t5 | 3 => t6 | _ => true, fun i => match i with | 0 => z0 | 1 => z1 | 2 => z5 | 3 => z6 | 4 => x | _ => r - 20, fun i hi => ?_, fun i hi j v h => ?_⟩
    · rcases i with _ | _ | _ | _ | _ | _ | i
      · exact hw0
      · exact hw1
      · exact hw5
      · exact hw6
      · exact fx.rw
      · exact fr.rw
      · omega
    · subst hcs
      rcases i with _ | _ | _ | _ | _ | _ | i
      rotate_right
      · omega
      all_goals (rcases j with _ | _ | _ | _ | _ | j <;> first | exact h | (simp at h))
  rw [← hcs]
  clear hw0 hw1 hw5 hw6 fx fr hcs
  have known := fun W => g_known03 W
  repeat' (first | simp (disch := omega) only [sxE, w03_RatioMakes.E, Nat.reduceAdd, Nat.reduceEqDiff, Nat.reduceMul, Nat.reduceSub, Int.reduceAdd, Int.reduceSub, Int.reduceMul, Int.reduceNeg, Int.reduceLT, Int.reduceLE, Int.reduceEq, Int.reduceToNat, ↓reduceIte, Int.reducePow, Nat.reduceLeDiff, Nat.reduceLT, ne_eq, eq_self, List.length_cons, List.length_nil, qxE])
  rw [w03_RatioMakes.p2_l]
  refine LX_inv (fun i : Nat => ⟨0, [(8, .v (.slice (some ⟨b, 0, none⟩) 6 6)), (9, .v (.int .i64 (i : Int)))], [], kX w.heap.size [.g (cK b cs)]⟩) (fun i => i ≤ 6) (fun i => 6 - i) ?round 0 (by decide) ?start
  case start =>
    simp (disch := omega) only [sxE, w03_RatioMakes.E, Nat.reduceAdd, Nat.reduceEqDiff, Nat.reduceMul, Nat.reduceSub, Int.reduceAdd, Int.reduceSub, Int.reduceMul, Int.reduceNeg, Int.reduceLT, Int.reduceLE, Int.reduceEq, Int.reduceToNat, ↓reduceIte, Int.reducePow, Nat.reduceLeDiff, Nat.reduceLT, ne_eq, eq_self, List.length_cons, List.length_nil]
    refine extS_kn fun k hk => ?_
    rw [List.mem_singleton.1 hk]; exact List.mem_cons_self
  case round =>
    intro i hi
    try dsimp only at hi ⊢
    by_cases hlt : i < 6
    · repeat' (first | simp (disch := omega) only [sxE, w03_RatioMakes.E, Nat.reduceAdd, Nat.reduceEqDiff, Nat.reduceMul, Nat.reduceSub, Int.reduceAdd, Int.reduceSub, Int.reduceMul, Int.reduceNeg, Int.reduceLT, Int.reduceLE, Int.reduceEq, Int.reduceToNat, ↓reduceIte, Int.reducePow, Nat.reduceLeDiff, Nat.reduceLT, ne_eq, eq_self, List.length_cons, List.length_nil, qxE])
      rw [w03_RatioMakes.p4_l]
      refine LX_inv (fun j : Nat => ⟨0, [(8, .v (.slice (some ⟨b, 0, none⟩) 6 6)), (9, .v (.int .i64 (i : Int))), (10, .v (.int .i64 (j : Int)))], [], kX w.heap.size [.g (cK b cs)]⟩) (fun j => j ≤ 6) (fun j => 6 - j) ?round2 0 (by decide) ?start2
      case start2 =>
        simp (disch := omega) only [sxE, w03_RatioMakes.E, Nat.reduceAdd, Nat.reduceEqDiff, Nat.reduceMul, Nat.reduceSub, Int.reduceAdd, Int.reduceSub, Int.reduceMul, Int.reduceNeg, Int.reduceLT, Int.reduceLE, Int.reduceEq, Int.reduceToNat, ↓reduceIte, Int.reducePow, Nat.reduceLeDiff, Nat.reduceLT, ne_eq, eq_self, List.length_cons, List.length_nil]
      case round2 =>
        intro j hj
        try dsimp only at hj ⊢
        by_cases hlj : j < 6
        · have ri := hlv i hlt
          have rj := hlv j hlj
          have ci := hcell i hlt
          have cj := hcell j hlj
          have m1 := fun W => gx_rmake ri rj W
          have m2 := fun W => rx_rmake ri rj W
          have hm := mkV_cases (b := tv i && tv j) (z := zv i) (y := zv j)
          generalize lv i = li at *
          generalize lv j = lj at *
          have ti : ((i : Int)).toNat * 5 = i * 5 := by omega
          have tj : ((j : Int)).toNat * 5 = j * 5 := by omega
          rcases hm with ⟨hk, e⟩ | ⟨hk, e⟩
          · have hq := mok_fq hk
            rw [e] at m1 m2
            have v1 := fun W => gx_rvalid hq.fp hq.fq W
            rw [show rok true (mn (zv i) (zv j)) (mD (zv i) (zv j)) = true from rok_iff.2 ⟨rfl, hq⟩] at v1
            clear e hk
            generalize mn (zv i) (zv j) = N at *
            generalize mD (zv i) (zv j) = D at *
            repeat' (first | simp (disch := omega) only [sxE, w03_RatioMakes.E, Nat.reduceAdd, Nat.reduceEqDiff, Nat.reduceMul, Nat.reduceSub, Int.reduceAdd, Int.reduceSub, Int.reduceMul, Int.reduceNeg, Int.reduceLT, Int.reduceLE, Int.reduceEq, Int.reduceToNat, ↓reduceIte, Int.reducePow, Nat.reduceLeDiff, Nat.reduceLT, ne_eq, eq_self, List.length_cons, List.length_nil, qxE, ti, tj, Nat.zero_add, beq_self_eq_true] | (refine ldP_c (l := [li.c0, li.c1, li.c2, li.c3, li.c4]) rfl (List.mem_singleton.2 rfl) rfl ci ?_) | (refine ldP_c (l := [lj.c0, lj.c1, lj.c2, lj.c3, lj.c4]) rfl (List.mem_singleton.2 rfl) rfl cj ?_) | (with_reducible refine Sx.call_at (f := 19) (fun W hW => m1 W) ?_) | (with_reducible refine Sx.call_at (f := 20) (fun W hW => m2 W) ?_) | (with_reducible refine Sx.call_at (f := 21) (fun W hW => v1 W) ?_) | (with_reducible refine eq_is (fun W => by first | exact eqq_run hq.fp hq.fq hq.fp hq.fq W) ?_))
            exact ⟨j + 1, by omega, by omega, vi (by omega)⟩
          · rw [e] at m1 m2
            clear e hk
            repeat' (first | simp (disch := omega) only [sxE, w03_RatioMakes.E, Nat.reduceAdd, Nat.reduceEqDiff, Nat.reduceMul, Nat.reduceSub, Int.reduceAdd, Int.reduceSub, Int.reduceMul, Int.reduceNeg, Int.reduceLT, Int.reduceLE, Int.reduceEq, Int.reduceToNat, ↓reduceIte, Int.reducePow, Nat.reduceLeDiff, Nat.reduceLT, ne_eq, eq_self, List.length_cons, List.length_nil, qxE, ti, tj, Nat.zero_add, beq_self_eq_true] | (refine ldP_c (l := [li.c0, li.c1, li.c2, li.c3, li.c4]) rfl (List.mem_singleton.2 rfl) rfl ci ?_) | (refine ldP_c (l := [lj.c0, lj.c1, lj.c2, lj.c3, lj.c4]) rfl (List.mem_singleton.2 rfl) rfl cj ?_) | (with_reducible refine Sx.call_at (f := 19) (fun W hW => m1 W) ?_) | (with_reducible refine Sx.call_at (f := 20) (fun W hW => m2 W) ?_) | (with_reducible refine eq_is (fun W => by first | exact eqq_run fits_zero fits_zero fits_zero fits_zero W) ?_))
            exact ⟨j + 1, by omega, by omega, vi (by omega)⟩
        · repeat' (first | simp (disch := omega) only [sxE, w03_RatioMakes.E, Nat.reduceAdd, Nat.reduceEqDiff, Nat.reduceMul, Nat.reduceSub, Int.reduceAdd, Int.reduceSub, Int.reduceMul, Int.reduceNeg, Int.reduceLT, Int.reduceLE, Int.reduceEq, Int.reduceToNat, ↓reduceIte, Int.reducePow, Nat.reduceLeDiff, Nat.reduceLT, ne_eq, eq_self, List.length_cons, List.length_nil, qxE])
          exact ⟨i + 1, by omega, by omega, vi (by omega)⟩
    · repeat' (first | simp (disch := omega) only [sxE, w03_RatioMakes.E, Nat.reduceAdd, Nat.reduceEqDiff, Nat.reduceMul, Nat.reduceSub, Int.reduceAdd, Int.reduceSub, Int.reduceMul, Int.reduceNeg, Int.reduceLT, Int.reduceLE, Int.reduceEq, Int.reduceToNat, ↓reduceIte, Int.reducePow, Nat.reduceLeDiff, Nat.reduceLT, ne_eq, eq_self, List.length_cons, List.length_nil, qxE] | (with_reducible refine Sx.call_at (f := 22) (fun W hW => known W) ?_))

/-! ### The row -/
set_option maxRecDepth 100000 in
theorem lifted (os : Os) (started : os.Started) (H : Type) (enc : TypeId × Value → H) :
    ReturnsInHanded {} Try.checked os 3 .any (Rows.ratioMakesSpec.pre6 enc Try.prog Try.f3 Rows.ratioMakesRow.domain false) (Rows.ratioMakesSpec.post enc Try.prog Try.f3 false true false false) := by
  refine returnsInHanded_of_change_sized (C := Try.checked) own started (by kernel_rfl) Try.func3
    (ChangeSpec.witness6 (enc := enc) (C := Try.checked) false ⟨#[], #[.agg #[.bool false, .int .u64 0, .int .u64 0, .int .u64 0, .int .u64 0], .agg #[.bool false, .int .u64 0, .int .u64 0, .int .u64 0, .int .u64 0], .slice none 0 0], []⟩ 8 (by kernel_rfl) (by kernel_rfl) (by kernel_rfl) (by kernel_rfl)) ?_
  intro W base args ds gs before hval0 hW hcnd hsz _
  have hval : ∀ (j : Nat) t v, Try.f3.params[j]? = some t → args[j]? = some v → Value.okWide Try.prog W .any base t v := hval0
  have hW' := hW
  obtain ⟨p, q, hA0, hV, rfl, hfz, hnd⟩ := hW
  have hA : DataW.TrodAll enc Try.prog W 0 (fun _ => true) true Try.f3.params.toList args.toList ds p := hA0
  rw [Try.params3] at hA hval
  obtain ⟨v0, vs0, d0, ds0, p0, q0, hargs, rfl, rfl, g0, r0⟩ := trodAll_cons hA
  obtain ⟨v1, vs1, d1, ds1, p1, q1, rfl, rfl, rfl, g1, r1⟩ := trodAll_cons r0
  obtain ⟨v2, vs2, d2, ds2, p2, q2, rfl, rfl, rfl, g2, r2⟩ := trodAll_cons r1
  obtain ⟨rfl, rfl, rfl⟩ := trodAll_nil r2
  obtain rfl : args = #[v0, v1, v2] := by cases args; simp_all
  obtain ⟨rfl, rfl⟩ := trodVars_none hV
  have hlt : ∀ x ∈ (p0 ++ (p1 ++ (p2 ++ []))) ++ [], x.block < W.heap.size := fun x hx => hW'.lt x hx
  obtain ⟨nb0, xa0, xb0, xc0, xd0, rfl, ua0, ub0, uc0, ud0⟩ := open_wide (hval 0 25 v0 rfl rfl) g0
  obtain ⟨tt0, zz0, hrw0⟩ := rw_raw nb0 ua0 ub0 uc0 ud0
  obtain ⟨nb1, xa1, xb1, xc1, xd1, rfl, ua1, ub1, uc1, ud1⟩ := open_wide (hval 1 25 v1 rfl rfl) g1
  obtain ⟨tt1, zz1, hrw1⟩ := rw_raw nb1 ua1 ub1 uc1 ud1
  obtain ⟨z2, hs2⟩ := open_slz Try.underlying26 Try.underlying3 (by kernel_rfl) (hval 2 26 v2 rfl rfl) g2 (fun x hx => hlt x (by simp [hx]))
  have hs2' := hs2
  obtain ⟨s2, l2, c2, rfl, _⟩ := hs2'
  refine (walk W _ tt0 zz0 hrw0 _ tt1 zz1 hrw1 s2 l2 c2 z2 hs2).mono fun e W' ⟨he, hb⟩ => ?_
  subst he
  exact ⟨_, rfl, law_post laidOut (by kernel_rfl) rfl rfl Try.underlying4 hW' rfl rfl rfl hb⟩

theorem over : Rows.ratioMakesRow.holds Try.pinned (OpenSpec.ofChange Rows.ratioMakesSpec) :=
  OpenClaim.holds_of_wide 3 Try.f3 rfl rfl rfl rfl rfl rfl rfl ⟨rfl, rfl, rfl, rfl, rfl⟩ rfl rfl rfl rfl rfl (by kernel_rfl) Try.func3 (by kernel_rfl)
    (of_decide_eq_true (by kernel_rfl)) (by unfold Func.isWrapper; first | (rw [if_pos (by decide +kernel)]; kernel_rfl) | (rw [if_neg (by decide +kernel)]; exact ⟨rfl, rfl⟩))
    (fun os started H enc _ => lifted os started H enc)

/-- The given statement. -/
theorem proved : Rows.RatioMakesSaid :=
  over
#print axioms proved
end Go.Proofs.Ytlanoclibdhpmaa.ratioMakes

