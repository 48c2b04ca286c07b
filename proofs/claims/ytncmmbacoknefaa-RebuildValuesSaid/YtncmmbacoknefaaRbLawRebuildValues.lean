/- Proved: tscodeclaw20.RebuildValues returns true for all arguments. No condition. -/
import Derived.Test.YtncmmbacoknefaaRows
import Derived.Test.YtncmmbacoknefaaRbClRebuildValues
import Derived.WalkKit
import Derived.ProofKit
import Derived.OpenShut
import Derived.SizedLaws
import Derived.Outline
import Derived.Test.YtncmmbacoknefaaRb4
import Derived.Test.YtncmmbacoknefaaRb5
import Derived.Test.YtncmmbacoknefaaRb6
namespace Go.Proofs.Ytncmmbacoknefaa.rebuildValues
open Go.ChangeShapes Go.WideShapes Go.ChangeAt Go.RowKit Sx
set_option linter.unusedVariables false
set_option linter.unusedSimpArgs false


theorem shr_u64 {x : Int} (h : U64 x) (n : Nat) : U64 (x.fdiv (2 ^ n)) := by
  rw [Int.fdiv_eq_ediv_of_nonneg _ (Int.le_of_lt (Int.pow_pos (by decide)))]
  have h2 : (0 : Int) < 2 ^ n := Int.pow_pos (by decide)
  refine ⟨Int.ediv_nonneg h.1 (Int.le_of_lt h2), ?_⟩
  have := Int.ediv_le_self (2 ^ n) h.1
  have := h.2
  omega
theorem rw_ones20 {c0 c1 c2 c3 c4 : Value} {t : Bool} {z : Int} (h : RW (.agg #[c0, c1, c2, c3, c4]) t z) : one c0 = true ∧ one c1 = true ∧ one c2 = true ∧ one c3 = true ∧ one c4 = true := by
  rcases h with ⟨-, e, -⟩ | ⟨-, e, -⟩ <;> (cases e; exact ⟨rfl, rfl, rfl, rfl, rfl⟩)
set_option maxHeartbeats 8000000 in
set_option maxRecDepth 100000 in
theorem walk (w : World) (v0 : Value) (t0 : Bool) (z0 : Int) (hw0 : RW v0 t0 z0) (v1 : Value) (p1 q1 : Int) (hq1 : CQ v1 p1 q1) (a2 : Int) (h2 : U64 a2) (s3 : Option Addr) (l3 c3 : Nat) (z3 : List Int) (h3 : SlZ w .i64 (.slice s3 l3 c3) z3) :
    Calls Try.prog 6 #[v0, v1, .int .u64 a2, .slice s3 l3 c3] w fun e w' => e = .returned (.bool true) ∧ Below w.heap.size w w' := by

  have kn := fun W => g_known20 W
  have va := fun W => gx_value hw0 hq1 h2 W
  have vb := fun W => rx_value hw0 hq1 h2 W
  obtain ⟨c0, c1, c2, c3', c4, rfl⟩ := hw0.five
  obtain ⟨d0, d1, d2, d3, d4, d5, d6, d7, d8, d9, rfl⟩ := hq1.ten
  refine known_of (enter Try.func6 w20_RebuildValues.ok (args := [_, _, _, _]) (by simp) ?_)
  repeat' (first | simp (disch := omega) only [sxE, w20_RebuildValues.E, Nat.reduceAdd, Nat.reduceEqDiff, Nat.reduceMul, Nat.reduceSub, Int.reduceAdd, Int.reduceSub, Int.reduceMul, Int.reduceNeg, Int.reduceLT, Int.reduceLE, Int.reduceEq, Int.reduceToNat, ↓reduceIte, Int.reducePow, Nat.reduceLeDiff, Nat.reduceLT, ne_eq, eq_self, List.length_cons, List.length_nil, qxE])
  refine asks_new (L := []) rfl (kX_nil _) h3 en_m_New fun tb htb => ?_; clear htb
  repeat' (first | simp (disch := omega) only [sxE, w20_RebuildValues.E, Nat.reduceAdd, Nat.reduceEqDiff, Nat.reduceMul, Nat.reduceSub, Int.reduceAdd, Int.reduceSub, Int.reduceMul, Int.reduceNeg, Int.reduceLT, Int.reduceLE, Int.reduceEq, Int.reduceToNat, ↓reduceIte, Int.reducePow, Nat.reduceLeDiff, Nat.reduceLT, ne_eq, eq_self, List.length_cons, List.length_nil, qxE])
  refine asks_tc rfl (tpk_t _ tb) (t_wide tb) en_m_Tape__Wide rfl (by first | exact List.mem_singleton.2 rfl | simp) rfl (by first | exact fun j hj => .inl (List.mem_singleton.1 hj) | simp) ?_
  rintro ⟨e0, e1, e2, e3, e4⟩ ⟨t5, z5, hw5⟩
  dsimp only at hw5 ⊢
  repeat' (first | simp (disch := omega) only [sxE, w20_RebuildValues.E, Nat.reduceAdd, Nat.reduceEqDiff, Nat.reduceMul, Nat.reduceSub, Int.reduceAdd, Int.reduceSub, Int.reduceMul, Int.reduceNeg, Int.reduceLT, Int.reduceLE, Int.reduceEq, Int.reduceToNat, ↓reduceIte, Int.reducePow, Nat.reduceLeDiff, Nat.reduceLT, ne_eq, eq_self, List.length_cons, List.length_nil, qxE])
  refine asks_tc rfl (tpk_t _ tb) (t_ratio tb) en_m_Tape__Ratio rfl (by first | exact List.mem_singleton.2 rfl | simp) rfl (by first | exact fun j hj => .inl (List.mem_singleton.1 hj) | simp) ?_
  rintro ⟨p, q⟩ hf
  dsimp only at hf ⊢
  repeat' (first | simp (disch := omega) only [sxE, w20_RebuildValues.E, Nat.reduceAdd, Nat.reduceEqDiff, Nat.reduceMul, Nat.reduceSub, Int.reduceAdd, Int.reduceSub, Int.reduceMul, Int.reduceNeg, Int.reduceLT, Int.reduceLE, Int.reduceEq, Int.reduceToNat, ↓reduceIte, Int.reducePow, Nat.reduceLeDiff, Nat.reduceLT, ne_eq, eq_self, List.length_cons, List.length_nil, qxE])
  refine asks_tc rfl (tpk_t _ tb) (t_word tb) en_m_Tape__Word rfl (by first | exact List.mem_singleton.2 rfl | simp) rfl (by first | exact fun j hj => .inl (List.mem_singleton.1 hj) | simp) ?_
  intro x hx
  repeat' (first | simp (disch := omega) only [sxE, w20_RebuildValues.E, Nat.reduceAdd, Nat.reduceEqDiff, Nat.reduceMul, Nat.reduceSub, Int.reduceAdd, Int.reduceSub, Int.reduceMul, Int.reduceNeg, Int.reduceLT, Int.reduceLE, Int.reduceEq, Int.reduceToNat, ↓reduceIte, Int.reducePow, Nat.reduceLeDiff, Nat.reduceLT, ne_eq, eq_self, List.length_cons, List.length_nil, qxE])
  refine asks_tc rfl (tpk_t _ tb) (t_next tb (by decide) (by decide)) en_m_Tape__Next rfl (by first | exact List.mem_singleton.2 rfl | simp) rfl (by first | exact fun j hj => .inl (List.mem_singleton.1 hj) | simp) ?_
  rintro r ⟨r1, r2⟩
  have hd := shr_u64 hx r.toNat
  obtain ⟨n0, n1, n2, n3, n4⟩ := rw_ones20 hw5
  repeat' (first | simp (disch := omega) only [sxE, w20_RebuildValues.E, Nat.reduceAdd, Nat.reduceEqDiff, Nat.reduceMul, Nat.reduceSub, Int.reduceAdd, Int.reduceSub, Int.reduceMul, Int.reduceNeg, Int.reduceLT, Int.reduceLE, Int.reduceEq, Int.reduceToNat, ↓reduceIte, Int.reducePow, Nat.reduceLeDiff, Nat.reduceLT, ne_eq, eq_self, List.length_cons, List.length_nil, qxE, n0, n1, n2, n3, n4, Bool.true_and])
  refine asks_tc rfl (tpk_t _ tb) (t_int tb) en_m_Tape__Int rfl (by first | exact List.mem_singleton.2 rfl | simp) rfl (by first | exact fun j hj => .inl (List.mem_singleton.1 hj) | simp) ?_
  intro i hi
  have fi := (bd_i64 hi).fits
  have oi := fun W => rx_of hi W
  have v1 := fun W => gx_value hw5 hf.cq hd W
  have w1 := fun W => rx_value hw5 hf.cq hd W
  have v2 := fun W => gx_value fi.rw hf.cq hd W
  have w2 := fun W => rx_value fi.rw hf.cq hd W
  have v3 := fun W => gx_value fi.rw hq1 hd W
  have w3 := fun W => rx_value fi.rw hq1 hd W
  clear hw0 hq1 hw5
  repeat' (first | simp (disch := omega) only [sxE, w20_RebuildValues.E, Nat.reduceAdd, Nat.reduceEqDiff, Nat.reduceMul, Nat.reduceSub, Int.reduceAdd, Int.reduceSub, Int.reduceMul, Int.reduceNeg, Int.reduceLT, Int.reduceLE, Int.reduceEq, Int.reduceToNat, ↓reduceIte, Int.reducePow, Nat.reduceLeDiff, Nat.reduceLT, ne_eq, eq_self, List.length_cons, List.length_nil, qxE, beq_self_eq_true, n0, n1, n2, n3, n4, Bool.true_and] | (with_reducible refine Sx.call_at (f := 20) (fun W hW => oi W) ?_) | (with_reducible refine Sx.call_at (f := 33) (fun W hW => kn W) ?_) | (with_reducible refine Sx.call_at (f := 34) (fun W hW => va W) ?_) | (with_reducible refine Sx.call_at (f := 35) (fun W hW => vb W) ?_) | (with_reducible refine Sx.call_at (f := 34) (fun W hW => v1 W) ?_) | (with_reducible refine Sx.call_at (f := 35) (fun W hW => w1 W) ?_) | (with_reducible refine Sx.call_at (f := 34) (fun W hW => v2 W) ?_) | (with_reducible refine Sx.call_at (f := 35) (fun W hW => w2 W) ?_) | (with_reducible refine Sx.call_at (f := 34) (fun W hW => v3 W) ?_) | (with_reducible refine Sx.call_at (f := 35) (fun W hW => w3 W) ?_))

/-! ### The row -/
set_option maxRecDepth 100000 in
theorem lifted (os : Os) (started : os.Started) (H : Type) (enc : TypeId × Value → H) :
    ReturnsInHanded {} Try.checked os 6 .any (Rows.rebuildValuesSpec.pre6 enc Try.prog Try.f6 Rows.rebuildValuesRow.domain false) (Rows.rebuildValuesSpec.post enc Try.prog Try.f6 false true false false) := by
  refine returnsInHanded_of_change_sized (C := Try.checked) own started (by kernel_rfl) Try.func6
    (ChangeSpec.witness6 (enc := enc) (C := Try.checked) false ⟨#[], #[.agg #[.bool false, .int .u64 0, .int .u64 0, .int .u64 0, .int .u64 0], .agg #[.bool false, .int .u64 0, .int .u64 0, .int .u64 0, .int .u64 0, .bool false, .int .u64 0, .int .u64 0, .int .u64 0, .int .u64 0], .int .u64 0, .slice none 0 0], []⟩ 8 (by kernel_rfl) (by kernel_rfl) (by kernel_rfl) (by kernel_rfl)) ?_
  intro W base args ds gs before hval0 hW hcnd hsz _
  have hval : ∀ (j : Nat) t v, Try.f6.params[j]? = some t → args[j]? = some v → Value.okWide Try.prog W .any base t v := hval0
  have hW' := hW
  obtain ⟨p, q, hA0, hV, rfl, hfz, hnd⟩ := hW
  have hA : DataW.TrodAll enc Try.prog W 0 (fun _ => true) true Try.f6.params.toList args.toList ds p := hA0
  rw [Try.params6] at hA hval
  obtain ⟨v0, vs0, d0, ds0, p0, q0, hargs, rfl, rfl, g0, r0⟩ := trodAll_cons hA
  obtain ⟨v1, vs1, d1, ds1, p1, q1, rfl, rfl, rfl, g1, r1⟩ := trodAll_cons r0
  obtain ⟨v2, vs2, d2, ds2, p2, q2, rfl, rfl, rfl, g2, r2⟩ := trodAll_cons r1
  obtain ⟨v3, vs3, d3, ds3, p3, q3, rfl, rfl, rfl, g3, r3⟩ := trodAll_cons r2
  obtain ⟨rfl, rfl, rfl⟩ := trodAll_nil r3
  obtain rfl : args = #[v0, v1, v2, v3] := by cases args; simp_all
  obtain ⟨rfl, rfl⟩ := trodVars_none hV
  have hlt : ∀ x ∈ (p0 ++ (p1 ++ (p2 ++ (p3 ++ [])))) ++ [], x.block < W.heap.size := fun x hx => hW'.lt x hx
  obtain ⟨nb0, xa0, xb0, xc0, xd0, rfl, ua0, ub0, uc0, ud0⟩ := open_wide (hval 0 38 v0 rfl rfl) g0
  obtain ⟨tt0, zz0, hrw0⟩ := rw_raw nb0 ua0 ub0 uc0 ud0
  obtain ⟨nb1, xa1, xb1, xc1, xd1, ne1, ya1, yb1, yc1, yd1, rfl, ⟨ua1, ub1, uc1, ud1⟩, ⟨ta1, tb1, tc1, td1⟩⟩ := open_ratio (hval 1 53 v1 rfl rfl) g1
  obtain ⟨pp1, qq1, hcq1⟩ := cq_raw nb1 ne1 ua1 ub1 uc1 ud1 ta1 tb1 tc1 td1
  obtain ⟨a2, rfl, rfl, rfl, w2⟩ := open_int Try.underlying35 (hval 2 35 v2 rfl rfl) g2
  obtain ⟨z3, hs3⟩ := open_slz Try.underlying23 Try.underlying3 (by kernel_rfl) (hval 3 23 v3 rfl rfl) g3 (fun x hx => hlt x (by simp [hx]))
  have hs3' := hs3
  obtain ⟨s3, l3, c3, rfl, _⟩ := hs3'
  refine (walk W _ tt0 zz0 hrw0 _ pp1 qq1 hcq1 a2 (U64.of_wf w2) s3 l3 c3 z3 hs3).mono fun e W' ⟨he, hb⟩ => ?_
  subst he
  exact ⟨_, rfl, law_post laidOut (by kernel_rfl) rfl rfl Try.underlying4 hW' rfl rfl rfl hb⟩

theorem over : Rows.rebuildValuesRow.holds Try.pinned (OpenSpec.ofChange Rows.rebuildValuesSpec) :=
  OpenClaim.holds_of_wide 6 Try.f6 rfl rfl rfl rfl rfl rfl rfl ⟨rfl, rfl, rfl, rfl, rfl⟩ rfl rfl rfl rfl rfl (by kernel_rfl) Try.func6 (by kernel_rfl)
    (of_decide_eq_true (by kernel_rfl)) (by unfold Func.isWrapper; first | (rw [if_pos (by decide +kernel)]; kernel_rfl) | (rw [if_neg (by decide +kernel)]; exact ⟨rfl, rfl⟩))
    (fun os started H enc _ => lifted os started H enc)

/-- The given statement. -/
theorem proved : Rows.RebuildValuesSaid :=
  over
#print axioms proved
end Go.Proofs.Ytncmmbacoknefaa.rebuildValues

