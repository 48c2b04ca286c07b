/- Proved: tscodeclaw03.RatioRounds returns true for all arguments. No condition. -/
import Derived.Test.YtlanoclibdhpmaaRows
import Derived.Test.YtlanoclibdhpmaaMsClRatioRounds
import Derived.WalkKit
import Derived.ProofKit
import Derived.OpenShut
import Derived.SizedLaws
import Derived.Outline
import Derived.Test.YtlanoclibdhpmaaMs4
import Derived.Test.YtlanoclibdhpmaaMs5
namespace Go.Proofs.Ytlanoclibdhpmaa.ratioRounds
open Go.ChangeShapes Go.WideShapes Go.ChangeAt Go.RowKit Sx
set_option linter.unusedVariables false
set_option linter.unusedSimpArgs false

set_option maxHeartbeats 4000000 in
set_option maxRecDepth 100000 in
theorem walk (w : World) (s0 : Option Addr) (l0 c0 : Nat) (z0 : List Int) (h0 : SlZ w .i64 (.slice s0 l0 c0) z0) :
    Calls Try.prog 4 #[.slice s0 l0 c0] w fun e w' => e = .returned (.bool true) ∧ Below w.heap.size w w' := by
  refine known_of (enter Try.func4 w03_RatioRounds.ok (args := [.slice s0 l0 c0]) (by simp) ?_)
  repeat' (first | simp (disch := omega) only [sxE, w03_RatioRounds.E, Nat.reduceAdd, Nat.reduceEqDiff, Nat.reduceMul, Nat.reduceSub, Int.reduceAdd, Int.reduceSub, Int.reduceMul, Int.reduceNeg, Int.reduceLT, Int.reduceLE, Int.reduceEq, Int.reduceToNat, ↓reduceIte, Int.reducePow, Nat.reduceLeDiff, Nat.reduceLT, ne_eq, eq_self, List.length_cons, List.length_nil, qxE])
  refine asks_new (L := []) rfl (kX_nil _) h0 en_m_New fun tb htb => ?_
  clear htb
  repeat' (first | simp (disch := omega) only [sxE, w03_RatioRounds.E, Nat.reduceAdd, Nat.reduceEqDiff, Nat.reduceMul, Nat.reduceSub, Int.reduceAdd, Int.reduceSub, Int.reduceMul, Int.reduceNeg, Int.reduceLT, Int.reduceLE, Int.reduceEq, Int.reduceToNat, ↓reduceIte, Int.reducePow, Nat.reduceLeDiff, Nat.reduceLT, ne_eq, eq_self, List.length_cons, List.length_nil, qxE])
  refine asks_tc rfl (tpk_t _ tb) (t_ratio tb) en_m_Tape__Ratio rfl (by first | exact List.mem_singleton.2 rfl | simp) rfl (by first | exact fun j hj => .inl (List.mem_singleton.1 hj) | simp) ?_
  rintro ⟨p, q⟩ hf
  dsimp only at hf ⊢
  have hq := hf.pos
  have f1 := fits_ediv hf.fp hf.ne
  have f2 := fits_neg (fits_ediv hf.neg.fp hf.ne)
  have l1 := fl_le (x := p) hq
  have l2 := ceil_le (p := p) hq
  have hd := div_one_iff hf
  have ha := at_one (p := p) hq
  have bl : Bd 127 (p / q) := bd_of_le hf.bp (ab_fdiv_le p hq)
  have bh : Bd 127 (-(-p / q)) := bd_neg (bd_of_le (bd_neg hf.bp) (ab_fdiv_le (-p) hq))
  have m1 := fun W => rx_make f1 fits_one W
  have m2 := fun W => rx_make f2 fits_one W
  rw [mkV_yes (mk_one bl).2.2, (mk_one bl).1, (mk_one bl).2.1] at m1
  rw [mkV_yes (mk_one bh).2.2, (mk_one bh).1, (mk_one bh).2.1] at m2
  have q1 := fq_int bl
  have q2 := fq_int bh
  have c1 := fun W => rx_rcompare q1.cq hf.cq W
  have c2 := fun W => rx_rcompare hf.cq q2.cq W
  have d1 : cq (p / q) 1 p q ≤ 0 := by unfold cq; rw [km_le, Int.mul_one]; exact l1.1
  have d2 : cq p q (-(-p / q)) 1 ≤ 0 := by unfold cq; rw [km_le, Int.mul_one]; exact l2.1
  have fl := fun W => gx_rfloor hf.cq W
  have ce := fun W => gx_rceil hf.cq W
  have at1 := fun W => gx_rat hf.cq (n := 1) ⟨by decide, by decide⟩ W
  have fa := fits_at hf (n := 1) ⟨by decide, by decide⟩
  have fs : Fits (-(-p / q) - p / q) := (bd_sub (c := 128) bh bl (by decide) (by decide)).fits
  have ss := fun W => rx_sub f2 f1 fs W
  have bat : (atq p q 1 = p / q ∨ atq p q 1 = -(-p / q)) := ha
  clear l1 l2 bl bh
  generalize cq (p / q) 1 p q = x1 at *
  generalize cq p q (-(-p / q)) 1 = x2 at *
  generalize -(-p / q) - p / q = dd at *
  generalize -(-p / q) = hi at *
  generalize p / q = lo at *
  generalize atq p q 1 = aa at *
  have fd0 : Fits 0 := fits_zero
  by_cases hq1 : q = 1
  · have hqd : decide (q = 1) = true := decide_eq_true hq1
    rw [if_pos hq1] at hd
    subst hd
    have E1 := fun xo yo W => eqx_run (ng := false) (xo := xo) (yo := yo) hf.fq fits_one W
    have E2 := fun xo yo W => eqx_run (ng := false) (xo := xo) (yo := yo) fd0 fd0 W
    have E3 := fun xo yo W => eqx_run (ng := false) (xo := xo) (yo := yo) fd0 fits_one W
    have E4 := fun xo yo W => eqx_run (ng := false) (xo := xo) (yo := yo) fa f1 W
    have E5 := fun xo yo W => eqx_run (ng := false) (xo := xo) (yo := yo) fa f2 W
    rcases bat with rfl | rfl
    all_goals
      repeat' (first | simp (disch := omega) only [sxE, w03_RatioRounds.E, Nat.reduceAdd, Nat.reduceEqDiff, Nat.reduceMul, Nat.reduceSub, Int.reduceAdd, Int.reduceSub, Int.reduceMul, Int.reduceNeg, Int.reduceLT, Int.reduceLE, Int.reduceEq, Int.reduceToNat, ↓reduceIte, Int.reducePow, Nat.reduceLeDiff, Nat.reduceLT, ne_eq, eq_self, List.length_cons, List.length_nil, qxE, hqd, beq_self_eq_true] | (with_reducible refine Sx.call_at (f := 24) (fun W hW => fl W) ?_) | (with_reducible refine Sx.call_at (f := 25) (fun W hW => ce W) ?_) | (with_reducible refine Sx.call_at (f := 26) (fun W hW => ss W) ?_) | (with_reducible refine Sx.call_at (f := 16) (fun W hW => rx_of i64_one W) ?_) | (with_reducible refine Sx.call_at (f := 16) (fun W hW => rx_of i64_zero W) ?_) | (with_reducible refine Sx.call_at (f := 20) (fun W hW => m1 W) ?_) | (with_reducible refine Sx.call_at (f := 20) (fun W hW => m2 W) ?_) | (with_reducible refine Sx.call_at (f := 27) (fun W hW => at1 W) ?_) | (with_reducible refine Sx.call_at (f := 22) (fun W hW => g_known03 W) ?_) | (with_reducible refine Sx.call_at (f := 28) (fun W hW => c1 W) ?_) | (with_reducible refine Sx.call_at (f := 28) (fun W hW => c2 W) ?_) | ((with_reducible apply Sx.eq_is); (case h => with_reducible first | exact fun W => E1 _ _ W | exact fun W => E2 _ _ W | exact fun W => E3 _ _ W | exact fun W => E4 _ _ W | exact fun W => E5 _ _ W); (case' hk => skip)) | ((with_reducible first | apply cond_beq | apply gd_beq) <;> (intro hc; first | simp only [beq_iff_eq.2 hc] | simp only [beq_eq_false_iff_ne.2 hc] | skip)) | ((with_reducible first | apply cond_dec | apply gd_dec) <;> (intro hc; first | simp only [decide_eq_true hc] | simp only [decide_eq_false hc] | skip)) | ((with_reducible first | apply cond_of | apply gd_of) <;> (intro hc; try simp only [hc])))

  · have hqd : decide (q = 1) = false := decide_eq_false hq1
    rw [if_neg hq1] at hd
    subst hd
    have E1 := fun xo yo W => eqx_run (ng := false) (xo := xo) (yo := yo) hf.fq fits_one W
    have E2 := fun xo yo W => eqx_run (ng := false) (xo := xo) (yo := yo) fits_one fd0 W
    have E3 := fun xo yo W => eqx_run (ng := false) (xo := xo) (yo := yo) fits_one fits_one W
    have E4 := fun xo yo W => eqx_run (ng := false) (xo := xo) (yo := yo) fa f1 W
    have E5 := fun xo yo W => eqx_run (ng := false) (xo := xo) (yo := yo) fa f2 W
    rcases bat with rfl | rfl
    all_goals
      repeat' (first | simp (disch := omega) only [sxE, w03_RatioRounds.E, Nat.reduceAdd, Nat.reduceEqDiff, Nat.reduceMul, Nat.reduceSub, Int.reduceAdd, Int.reduceSub, Int.reduceMul, Int.reduceNeg, Int.reduceLT, Int.reduceLE, Int.reduceEq, Int.reduceToNat, ↓reduceIte, Int.reducePow, Nat.reduceLeDiff, Nat.reduceLT, ne_eq, eq_self, List.length_cons, List.length_nil, qxE, hqd, beq_self_eq_true] | (with_reducible refine Sx.call_at (f := 24) (fun W hW => fl W) ?_) | (with_reducible refine Sx.call_at (f := 25) (fun W hW => ce W) ?_) | (with_reducible refine Sx.call_at (f := 26) (fun W hW => ss W) ?_) | (with_reducible refine Sx.call_at (f := 16) (fun W hW => rx_of i64_one W) ?_) | (with_reducible refine Sx.call_at (f := 16) (fun W hW => rx_of i64_zero W) ?_) | (with_reducible refine Sx.call_at (f := 20) (fun W hW => m1 W) ?_) | (with_reducible refine Sx.call_at (f := 20) (fun W hW => m2 W) ?_) | (with_reducible refine Sx.call_at (f := 27) (fun W hW => at1 W) ?_) | (with_reducible refine Sx.call_at (f := 22) (fun W hW => g_known03 W) ?_) | (with_reducible refine Sx.call_at (f := 28) (fun W hW => c1 W) ?_) | (with_reducible refine Sx.call_at (f := 28) (fun W hW => c2 W) ?_) | ((with_reducible apply Sx.eq_is); (case h => with_reducible first | exact fun W => E1 _ _ W | exact fun W => E2 _ _ W | exact fun W => E3 _ _ W | exact fun W => E4 _ _ W | exact fun W => E5 _ _ W); (case' hk => skip)) | ((with_reducible first | apply cond_beq | apply gd_beq) <;> (intro hc; first | simp only [beq_iff_eq.2 hc] | simp only [beq_eq_false_iff_ne.2 hc] | skip)) | ((with_reducible first | apply cond_dec | apply gd_dec) <;> (intro hc; first | simp only [decide_eq_true hc] | simp only [decide_eq_false hc] | skip)) | ((with_reducible first | apply cond_of | apply gd_of) <;> (intro hc; try simp only [hc])))


/-! ### The row -/
set_option maxRecDepth 100000 in
theorem lifted (os : Os) (started : os.Started) (H : Type) (enc : TypeId × Value → H) :
    ReturnsInHanded {} Try.checked os 4 .any (Rows.ratioRoundsSpec.pre6 enc Try.prog Try.f4 Rows.ratioRoundsRow.domain false) (Rows.ratioRoundsSpec.post enc Try.prog Try.f4 false true false false) := by
  refine returnsInHanded_of_change_sized (C := Try.checked) own started (by kernel_rfl) Try.func4
    (ChangeSpec.witness6 (enc := enc) (C := Try.checked) false ⟨#[], #[.slice none 0 0], []⟩ 8 (by kernel_rfl) (by kernel_rfl) (by kernel_rfl) (by kernel_rfl)) ?_
  intro W base args ds gs before hval0 hW hcnd hsz _
  have hval : ∀ (j : Nat) t v, Try.f4.params[j]? = some t → args[j]? = some v → Value.okWide Try.prog W .any base t v := hval0
  have hW' := hW
  obtain ⟨p, q, hA0, hV, rfl, hfz, hnd⟩ := hW
  have hA : DataW.TrodAll enc Try.prog W 0 (fun _ => true) true Try.f4.params.toList args.toList ds p := hA0
  rw [Try.params4] at hA hval
  obtain ⟨v0, vs0, d0, ds0, p0, q0, hargs, rfl, rfl, g0, r0⟩ := trodAll_cons hA
  obtain ⟨rfl, rfl, rfl⟩ := trodAll_nil r0
  obtain rfl : args = #[v0] := by cases args; simp_all
  obtain ⟨rfl, rfl⟩ := trodVars_none hV
  have hlt : ∀ x ∈ (p0 ++ []) ++ [], x.block < W.heap.size := fun x hx => hW'.lt x hx
  obtain ⟨z0, hs0⟩ := open_slz Try.underlying26 Try.underlying3 (by kernel_rfl) (hval 0 26 v0 rfl rfl) g0 (fun x hx => hlt x (by simp [hx]))
  have hs0' := hs0
  obtain ⟨s0, l0, c0, rfl, _⟩ := hs0'
  refine (walk W s0 l0 c0 z0 hs0).mono fun e W' ⟨he, hb⟩ => ?_
  subst he
  exact ⟨_, rfl, law_post laidOut (by kernel_rfl) rfl rfl Try.underlying4 hW' rfl rfl rfl hb⟩

theorem over : Rows.ratioRoundsRow.holds Try.pinned (OpenSpec.ofChange Rows.ratioRoundsSpec) :=
  OpenClaim.holds_of_wide 4 Try.f4 rfl rfl rfl rfl rfl rfl rfl ⟨rfl, rfl, rfl, rfl, rfl⟩ rfl rfl rfl rfl rfl (by kernel_rfl) Try.func4 (by kernel_rfl)
    (of_decide_eq_true (by kernel_rfl)) (by unfold Func.isWrapper; first | (rw [if_pos (by decide +kernel)]; kernel_rfl) | (rw [if_neg (by decide +kernel)]; exact ⟨rfl, rfl⟩))
    (fun os started H enc _ => lifted os started H enc)

/-- The given statement. -/
theorem proved : Rows.RatioRoundsSaid :=
  over
#print axioms proved
end Go.Proofs.Ytlanoclibdhpmaa.ratioRounds
