/- Proved: tscodeclaw20.RebuildClamps returns true for all arguments. No condition. -/
import Derived.Test.YtncmmbacoknefaaRows
import Derived.Test.YtncmmbacoknefaaRbClRebuildClamps
import Derived.WalkKit
import Derived.ProofKit
import Derived.OpenShut
import Derived.SizedLaws
import Derived.Outline
import Derived.Test.YtncmmbacoknefaaRb4
import Derived.Test.YtncmmbacoknefaaRb5
import Derived.Test.YtncmmbacoknefaaRb6
namespace Go.Proofs.Ytncmmbacoknefaa.rebuildClamps
open Go.ChangeShapes Go.WideShapes Go.ChangeAt Go.RowKit Sx
set_option linter.unusedVariables false
set_option linter.unusedSimpArgs false


theorem shr_u64 {x : Int} (h : U64 x) (n : Nat) : U64 (x.fdiv (2 ^ n)) := by
  rw [Int.fdiv_eq_ediv_of_nonneg _ (Int.le_of_lt (Int.pow_pos (by decide)))]
  have h2 : (0 : Int) < 2 ^ n := Int.pow_pos (by decide)
  refine ⟨Int.ediv_nonneg h.1 (Int.le_of_lt h2), ?_⟩
  have := Int.ediv_le_self (2 ^ n) h.1
  have := h.2
  omega
theorem vz_i64 {z : Int} (h : I64 z) : vz z = z := by
  unfold vz
  rw [if_pos (by have := h.1; have := h.2; unfold ab; split <;> omega)]
theorem vl_mono {s t : Int} (h : s ≤ t) : vl s ≤ vl t := by
  unfold vl
  (repeat' split) <;> omega
theorem vl_i64 (s : Int) : I64 (vl s) := by
  unfold vl
  (repeat' split) <;> exact ⟨by omega, by omega⟩
theorem vl_near {s v eps : Int} (hv : I64 v) (h : ab (s - v) ≤ eps) : ab (vl s - v) ≤ eps := by
  have := hv.1
  have := hv.2
  unfold ab at *
  unfold vl
  (repeat' split at h) <;> (repeat' split) <;> omega
/-! ### Near of the reference -/
theorem wrap_sub {a b : Int} (ha : I64 a) (hb : I64 b) (h : a ≤ b) : IntKind.u64.wrap (IntKind.u64.wrap b - IntKind.u64.wrap a) = b - a := by
  have h1 := ha.1
  have h2 := ha.2
  have h3 := hb.1
  have h4 := hb.2
  rw [IntKind.wrap_u64, IntKind.wrap_u64, IntKind.wrap_u64]
  omega
theorem rx_dist {a b : Int} (ha : I64 a) (hb : I64 b) (W : World) : Gives Try.prog 71 [.int .i64 a, .int .i64 b] W (· = .int .u64 (ab (a - b))) := by
  refine gives_known en_r01_Distance ?_
  by_cases h : a < b
  · have e : ab (a - b) = b - a := by unfold ab; split <;> omega
    have w1 := wrap_sub ha hb (by omega)
    rw [e]
    clear e ha hb
    refine known_of (enter Try.func71 r01_Distance.ok (args := [_, _]) (by simp) ?_)
    repeat' (first | simp (disch := omega) only [sxE, r01_Distance.E, Nat.reduceAdd, Nat.reduceEqDiff, Nat.reduceMul, Nat.reduceSub, Int.reduceAdd, Int.reduceSub, Int.reduceMul, Int.reduceNeg, Int.reduceLT, Int.reduceLE, Int.reduceEq, Int.reduceToNat, ↓reduceIte, Int.reducePow, Nat.reduceLeDiff, Nat.reduceLT, ne_eq, eq_self, List.length_cons, List.length_nil, w1])
  · have e : ab (a - b) = a - b := by unfold ab; split <;> omega
    have w1 := wrap_sub hb ha (by omega)
    rw [e]
    clear e ha hb
    refine known_of (enter Try.func71 r01_Distance.ok (args := [_, _]) (by simp) ?_)
    repeat' (first | simp (disch := omega) only [sxE, r01_Distance.E, Nat.reduceAdd, Nat.reduceEqDiff, Nat.reduceMul, Nat.reduceSub, Int.reduceAdd, Int.reduceSub, Int.reduceMul, Int.reduceNeg, Int.reduceLT, Int.reduceLE, Int.reduceEq, Int.reduceToNat, ↓reduceIte, Int.reducePow, Nat.reduceLeDiff, Nat.reduceLT, ne_eq, eq_self, List.length_cons, List.length_nil, w1])
theorem rx_near {a b eps : Int} (ha : I64 a) (hb : I64 b) (he : 0 ≤ eps ∧ eps ≤ 4611686018427387904) (h : ab (a - b) ≤ eps) (W : World) : Gives Try.prog 21 [.int .i64 a, .int .i64 b, .int .i64 eps] W (· = .bool true) := by
  have d := fun W => rx_dist ha hb W
  have w1 : IntKind.u64.wrap eps = eps := u64_wrap_id eps ⟨he.1, by omega⟩
  have e1 := decide_eq_true h
  obtain ⟨h0, -⟩ := he
  have e0 := decide_eq_true h0
  refine gives_known en_r01_Near ?_
  clear ha hb
  generalize ab (a - b) = D at *
  refine known_of (enter Try.func21 r01_Near.ok (args := [_, _, _]) (by simp) ?_)
  repeat' (first | simp (disch := omega) only [sxE, r01_Near.E, Nat.reduceAdd, Nat.reduceEqDiff, Nat.reduceMul, Nat.reduceSub, Int.reduceAdd, Int.reduceSub, Int.reduceMul, Int.reduceNeg, Int.reduceLT, Int.reduceLE, Int.reduceEq, Int.reduceToNat, ↓reduceIte, Int.reducePow, Nat.reduceLeDiff, Nat.reduceLT, ne_eq, eq_self, List.length_cons, List.length_nil, w1, e1, e0] | (with_reducible refine Sx.call_at (f := 71) (fun W hW => d W) ?_))
set_option maxHeartbeats 8000000 in
set_option maxRecDepth 100000 in
theorem walk (w : World) (a0 : Int) (h0 : I64 a0) (a1 : Int) (h1 : I64 a1) (s2 : Option Addr) (l2 c2 : Nat) (z2 : List Int) (h2 : SlZ w .i64 (.slice s2 l2 c2) z2) :
    Calls Try.prog 8 #[.int .i64 a0, .int .i64 a1, .slice s2 l2 c2] w fun e w' => e = .returned (.bool true) ∧ Below w.heap.size w w' := by

  have kn := fun W => g_known20 W
  have f0 := (bd_i64 h0).fits
  have f1 := (bd_i64 h1).fits
  have o0 := fun W => rx_of h0 W
  have o1 := fun W => rx_of h1 W
  refine known_of (enter Try.func8 w20_RebuildClamps.ok (args := [_, _, _]) (by simp) ?_)
  repeat' (first | simp (disch := omega) only [sxE, w20_RebuildClamps.E, Nat.reduceAdd, Nat.reduceEqDiff, Nat.reduceMul, Nat.reduceSub, Int.reduceAdd, Int.reduceSub, Int.reduceMul, Int.reduceNeg, Int.reduceLT, Int.reduceLE, Int.reduceEq, Int.reduceToNat, ↓reduceIte, Int.reducePow, Nat.reduceLeDiff, Nat.reduceLT, ne_eq, eq_self, List.length_cons, List.length_nil, qxE])
  refine asks_new (L := []) rfl (kX_nil _) h2 en_m_New fun tb htb => ?_; clear htb
  repeat' (first | simp (disch := omega) only [sxE, w20_RebuildClamps.E, Nat.reduceAdd, Nat.reduceEqDiff, Nat.reduceMul, Nat.reduceSub, Int.reduceAdd, Int.reduceSub, Int.reduceMul, Int.reduceNeg, Int.reduceLT, Int.reduceLE, Int.reduceEq, Int.reduceToNat, ↓reduceIte, Int.reducePow, Nat.reduceLeDiff, Nat.reduceLT, ne_eq, eq_self, List.length_cons, List.length_nil, qxE])
  refine asks_tc rfl (tpk_t _ tb) (t_ratio tb) en_m_Tape__Ratio rfl (by first | exact List.mem_singleton.2 rfl | simp) rfl (by first | exact fun j hj => .inl (List.mem_singleton.1 hj) | simp) ?_
  rintro ⟨p, q⟩ hf
  dsimp only at hf ⊢
  repeat' (first | simp (disch := omega) only [sxE, w20_RebuildClamps.E, Nat.reduceAdd, Nat.reduceEqDiff, Nat.reduceMul, Nat.reduceSub, Int.reduceAdd, Int.reduceSub, Int.reduceMul, Int.reduceNeg, Int.reduceLT, Int.reduceLE, Int.reduceEq, Int.reduceToNat, ↓reduceIte, Int.reducePow, Nat.reduceLeDiff, Nat.reduceLT, ne_eq, eq_self, List.length_cons, List.length_nil, qxE])
  refine asks_tc rfl (tpk_t _ tb) (t_word tb) en_m_Tape__Word rfl (by first | exact List.mem_singleton.2 rfl | simp) rfl (by first | exact fun j hj => .inl (List.mem_singleton.1 hj) | simp) ?_
  intro x hx
  repeat' (first | simp (disch := omega) only [sxE, w20_RebuildClamps.E, Nat.reduceAdd, Nat.reduceEqDiff, Nat.reduceMul, Nat.reduceSub, Int.reduceAdd, Int.reduceSub, Int.reduceMul, Int.reduceNeg, Int.reduceLT, Int.reduceLE, Int.reduceEq, Int.reduceToNat, ↓reduceIte, Int.reducePow, Nat.reduceLeDiff, Nat.reduceLT, ne_eq, eq_self, List.length_cons, List.length_nil, qxE])
  refine asks_tc rfl (tpk_t _ tb) (t_next tb (by decide) (by decide)) en_m_Tape__Next rfl (by first | exact List.mem_singleton.2 rfl | simp) rfl (by first | exact fun j hj => .inl (List.mem_singleton.1 hj) | simp) ?_
  rintro r ⟨r1, r2⟩
  have hd := shr_u64 hx r.toNat
  repeat' (first | simp (disch := omega) only [sxE, w20_RebuildClamps.E, Nat.reduceAdd, Nat.reduceEqDiff, Nat.reduceMul, Nat.reduceSub, Int.reduceAdd, Int.reduceSub, Int.reduceMul, Int.reduceNeg, Int.reduceLT, Int.reduceLE, Int.reduceEq, Int.reduceToNat, ↓reduceIte, Int.reducePow, Nat.reduceLeDiff, Nat.reduceLT, ne_eq, eq_self, List.length_cons, List.length_nil, qxE])
  refine asks_tc rfl (tpk_t _ tb) (t_tol tb) en_m_Tape__Tolerance rfl (by first | exact List.mem_singleton.2 rfl | simp) rfl (by first | exact fun j hj => .inl (List.mem_singleton.1 hj) | simp) ?_
  intro eps he
  obtain ⟨he1, he2⟩ := he
  have ie : I64 eps := ⟨by omega, by omega⟩
  have v0 := fun W => gx_value f0.rw hf.cq hd W
  have v1 := fun W => gx_value f1.rw hf.cq hd W
  rw [vz_i64 h0] at v0
  rw [vz_i64 h1] at v1
  have at1 := fun W => rx_rat hf.cq hd W
  have ba := bd_at hf hd
  have fa := ba.fits
  have fs : Fits (a0 + atq p q (x.fdiv (2 ^ r.toNat))) := (bd_add (c := 195) (bd_le (bd_i64 h0) (show 64 ≤ 194 by decide)) ba (by decide) (by decide)).fits
  have bs : Bd 195 (a0 + atq p q (x.fdiv (2 ^ r.toNat))) := bd_add (bd_le (bd_i64 h0) (show 64 ≤ 194 by decide)) ba (by decide) (by decide)
  have ad := fun W => rx_add f0 fa fs W
  have mono : a0 ≤ a1 → vl (a0 + atq p q (x.fdiv (2 ^ r.toNat))) ≤ vl (a1 + atq p q (x.fdiv (2 ^ r.toNat))) := fun h => vl_mono (by omega)
  have mono' : a1 ≤ a0 → vl (a1 + atq p q (x.fdiv (2 ^ r.toNat))) ≤ vl (a0 + atq p q (x.fdiv (2 ^ r.toNat))) := fun h => vl_mono (by omega)
  have near : ∀ v, I64 v → ab (a0 + atq p q (x.fdiv (2 ^ r.toNat)) - v) ≤ eps → ab (vl (a0 + atq p q (x.fdiv (2 ^ r.toNat))) - v) ≤ eps := fun v hv h => vl_near hv h
  have iV := vl_i64 (a0 + atq p q (x.fdiv (2 ^ r.toNat)))
  generalize vl (a1 + atq p q (x.fdiv (2 ^ r.toNat))) = V1 at *
  generalize vl (a0 + atq p q (x.fdiv (2 ^ r.toNat))) = V0 at *
  generalize a0 + atq p q (x.fdiv (2 ^ r.toNat)) = S0 at *
  generalize atq p q (x.fdiv (2 ^ r.toNat)) = A at *
  have oe := fun W => rx_of ie W
  have fe := (bd_i64 ie).fits
  clear hx hd ba hf f1 h1
  rcases Int.lt_trichotomy a0 a1 with hlt | heq | hgt
  case' inl =>
    have hm : ¬ a1 < a0 := by omega
    have hm2 : a0 < a1 := hlt
    have m1 := decide_eq_true (mono (by omega))
  case' inr.inl =>
    have hm : ¬ a1 < a0 := by omega
    have hm2 : ¬ a0 < a1 := by omega
    have m1 := decide_eq_true (Int.le_refl V0)
  case' inr.inr =>
    have hm : a1 < a0 := hgt
    have hm2 : ¬ a0 < a1 := by omega
    have m1 := decide_eq_true (mono' (by omega))
  all_goals
    clear mono mono'
    repeat' (first | simp (disch := omega) only [sxE, w20_RebuildClamps.E, Nat.reduceAdd, Nat.reduceEqDiff, Nat.reduceMul, Nat.reduceSub, Int.reduceAdd, Int.reduceSub, Int.reduceMul, Int.reduceNeg, Int.reduceLT, Int.reduceLE, Int.reduceEq, Int.reduceToNat, ↓reduceIte, Int.reducePow, Nat.reduceLeDiff, Nat.reduceLT, ne_eq, eq_self, List.length_cons, List.length_nil, qxE, beq_self_eq_true, hm, hm2] | (with_reducible refine Sx.call_at (f := 20) (fun W hW => o0 W) ?_) | (with_reducible refine Sx.call_at (f := 20) (fun W hW => o1 W) ?_) | (with_reducible refine Sx.call_at (f := 34) (fun W hW => v0 W) ?_) | (with_reducible refine Sx.call_at (f := 34) (fun W hW => v1 W) ?_) | (with_reducible refine Sx.call_at (f := 40) (fun W hW => at1 W) ?_) | (with_reducible refine Sx.call_at (f := 22) (fun W hW => ad W) ?_))
    refine asks_tc rfl (tpk_t _ tb) (t_int tb) en_m_Tape__Int rfl (by first | exact List.mem_singleton.2 rfl | simp) rfl (by first | exact fun j hj => .inl (List.mem_singleton.1 hj) | simp) ?_
    intro v hv
    have near := near v hv
    have fv := (bd_i64 hv).fits
    have ov := fun W => rx_of hv W
    have fd : Fits (S0 - v) := (bd_sub bs (bd_le (bd_i64 hv) (show 64 ≤ 195 by decide)) (c := 196) (by decide) (by decide)).fits
    have sb := fun W => rx_sub fs fv fd W
    have fad : Fits (ab (S0 - v)) := fits_le fd (by rw [ab_ab]; exact Int.le_refl _)
    have cp := fun W => rx_compare fad fe W
    have kl := km_le (ab (S0 - v)) eps
    by_cases hn : ab (S0 - v) ≤ eps
    · have c1 := decide_eq_true (kl.2 hn)
      have nr := fun W => rx_near iV hv ⟨he1, he2⟩ (near hn) W
      clear near kl hn iV hv
      generalize cm (ab (S0 - v)) eps = cc at *
      generalize S0 - v = dd at *
      repeat' (first | simp (disch := omega) only [sxE, w20_RebuildClamps.E, Nat.reduceAdd, Nat.reduceEqDiff, Nat.reduceMul, Nat.reduceSub, Int.reduceAdd, Int.reduceSub, Int.reduceMul, Int.reduceNeg, Int.reduceLT, Int.reduceLE, Int.reduceEq, Int.reduceToNat, ↓reduceIte, Int.reducePow, Nat.reduceLeDiff, Nat.reduceLT, ne_eq, eq_self, List.length_cons, List.length_nil, qxE, beq_self_eq_true, c1, m1] | (with_reducible refine Sx.call_at (f := 20) (fun W hW => o0 W) ?_) | (with_reducible refine Sx.call_at (f := 20) (fun W hW => o1 W) ?_) | (with_reducible refine Sx.call_at (f := 20) (fun W hW => ov W) ?_) | (with_reducible refine Sx.call_at (f := 20) (fun W hW => oe W) ?_) | (with_reducible refine Sx.call_at (f := 34) (fun W hW => v0 W) ?_) | (with_reducible refine Sx.call_at (f := 41) (fun W hW => sb W) ?_) | (with_reducible refine Sx.call_at (f := 42) (fun W hW => cp W) ?_) | (with_reducible refine Sx.call_at (f := 21) (fun W hW => nr W) ?_) | (with_reducible refine Sx.call_at (f := 33) (fun W hW => kn W) ?_))
    · have c1 := decide_eq_false (fun e => hn (kl.1 e))
      clear near kl hn iV hv
      generalize cm (ab (S0 - v)) eps = cc at *
      generalize S0 - v = dd at *
      repeat' (first | simp (disch := omega) only [sxE, w20_RebuildClamps.E, Nat.reduceAdd, Nat.reduceEqDiff, Nat.reduceMul, Nat.reduceSub, Int.reduceAdd, Int.reduceSub, Int.reduceMul, Int.reduceNeg, Int.reduceLT, Int.reduceLE, Int.reduceEq, Int.reduceToNat, ↓reduceIte, Int.reducePow, Nat.reduceLeDiff, Nat.reduceLT, ne_eq, eq_self, List.length_cons, List.length_nil, qxE, beq_self_eq_true, c1, m1] | (with_reducible refine Sx.call_at (f := 20) (fun W hW => o0 W) ?_) | (with_reducible refine Sx.call_at (f := 20) (fun W hW => o1 W) ?_) | (with_reducible refine Sx.call_at (f := 20) (fun W hW => ov W) ?_) | (with_reducible refine Sx.call_at (f := 20) (fun W hW => oe W) ?_) | (with_reducible refine Sx.call_at (f := 34) (fun W hW => v0 W) ?_) | (with_reducible refine Sx.call_at (f := 41) (fun W hW => sb W) ?_) | (with_reducible refine Sx.call_at (f := 42) (fun W hW => cp W) ?_) | (with_reducible refine Sx.call_at (f := 33) (fun W hW => kn W) ?_))

/-! ### The row -/
set_option maxRecDepth 100000 in
theorem lifted (os : Os) (started : os.Started) (H : Type) (enc : TypeId × Value → H) :
    ReturnsInHanded {} Try.checked os 8 .any (Rows.rebuildClampsSpec.pre6 enc Try.prog Try.f8 Rows.rebuildClampsRow.domain false) (Rows.rebuildClampsSpec.post enc Try.prog Try.f8 false true false false) := by
  refine returnsInHanded_of_change_sized (C := Try.checked) own started (by kernel_rfl) Try.func8
    (ChangeSpec.witness6 (enc := enc) (C := Try.checked) false ⟨#[], #[.int .i64 0, .int .i64 0, .slice none 0 0], []⟩ 8 (by kernel_rfl) (by kernel_rfl) (by kernel_rfl) (by kernel_rfl)) ?_
  intro W base args ds gs before hval0 hW hcnd hsz _
  have hval : ∀ (j : Nat) t v, Try.f8.params[j]? = some t → args[j]? = some v → Value.okWide Try.prog W .any base t v := hval0
  have hW' := hW
  obtain ⟨p, q, hA0, hV, rfl, hfz, hnd⟩ := hW
  have hA : DataW.TrodAll enc Try.prog W 0 (fun _ => true) true Try.f8.params.toList args.toList ds p := hA0
  rw [Try.params8] at hA hval
  obtain ⟨v0, vs0, d0, ds0, p0, q0, hargs, rfl, rfl, g0, r0⟩ := trodAll_cons hA
  obtain ⟨v1, vs1, d1, ds1, p1, q1, rfl, rfl, rfl, g1, r1⟩ := trodAll_cons r0
  obtain ⟨v2, vs2, d2, ds2, p2, q2, rfl, rfl, rfl, g2, r2⟩ := trodAll_cons r1
  obtain ⟨rfl, rfl, rfl⟩ := trodAll_nil r2
  obtain rfl : args = #[v0, v1, v2] := by cases args; simp_all
  obtain ⟨rfl, rfl⟩ := trodVars_none hV
  have hlt : ∀ x ∈ (p0 ++ (p1 ++ (p2 ++ []))) ++ [], x.block < W.heap.size := fun x hx => hW'.lt x hx
  obtain ⟨a0, rfl, rfl, rfl, w0⟩ := open_int Try.underlying2 (hval 0 2 v0 rfl rfl) g0
  obtain ⟨a1, rfl, rfl, rfl, w1⟩ := open_int Try.underlying2 (hval 1 2 v1 rfl rfl) g1
  obtain ⟨z2, hs2⟩ := open_slz Try.underlying23 Try.underlying3 (by kernel_rfl) (hval 2 23 v2 rfl rfl) g2 (fun x hx => hlt x (by simp [hx]))
  have hs2' := hs2
  obtain ⟨s2, l2, c2, rfl, _⟩ := hs2'
  refine (walk W a0 (I64.of_wf w0) a1 (I64.of_wf w1) s2 l2 c2 z2 hs2).mono fun e W' ⟨he, hb⟩ => ?_
  subst he
  exact ⟨_, rfl, law_post laidOut (by kernel_rfl) rfl rfl Try.underlying4 hW' rfl rfl rfl hb⟩

theorem over : Rows.rebuildClampsRow.holds Try.pinned (OpenSpec.ofChange Rows.rebuildClampsSpec) :=
  OpenClaim.holds_of_wide 8 Try.f8 rfl rfl rfl rfl rfl rfl rfl ⟨rfl, rfl, rfl, rfl, rfl⟩ rfl rfl rfl rfl rfl (by kernel_rfl) Try.func8 (by kernel_rfl)
    (of_decide_eq_true (by kernel_rfl)) (by unfold Func.isWrapper; first | (rw [if_pos (by decide +kernel)]; kernel_rfl) | (rw [if_neg (by decide +kernel)]; exact ⟨rfl, rfl⟩))
    (fun os started H enc _ => lifted os started H enc)

/-- The given statement. -/
theorem proved : Rows.RebuildClampsSaid :=
  over
#print axioms proved
end Go.Proofs.Ytncmmbacoknefaa.rebuildClamps

