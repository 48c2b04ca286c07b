/- Proved: tscodeclaw13.ConeFits returns true for all arguments. No condition. -/
import Derived.Test.YtncmmbacoknefaaRows
import Derived.Test.YtncmmbacoknefaaCoClConeFits
import Derived.WalkKit
import Derived.ProofKit
import Derived.OpenShut
import Derived.SizedLaws
import Derived.Outline
import Derived.Test.YtncmmbacoknefaaCo4
import Derived.Test.YtncmmbacoknefaaCo5
namespace Go.Proofs.Ytncmmbacoknefaa.coneFits
open Go.ChangeShapes Go.WideShapes Go.ChangeAt Go.RowKit Sx
set_option linter.unusedVariables false
set_option linter.unusedSimpArgs false


abbrev qc (p q : Int) : List Value := wc p ++ wc q
theorem shr_u64 {x : Int} (h : U64 x) (n : Nat) : U64 (x.fdiv (2 ^ n)) := by
  rw [Int.fdiv_eq_ediv_of_nonneg _ (Int.le_of_lt (Int.pow_pos (by decide)))]
  have h2 : (0 : Int) < 2 ^ n := Int.pow_pos (by decide)
  refine ⟨Int.ediv_nonneg h.1 (Int.le_of_lt h2), ?_⟩
  have := Int.ediv_le_self (2 ^ n) h.1
  have := h.2
  omega
theorem shr_half {x : Int} (h : U64 x) {n : Nat} (hn : 1 ≤ n) : 0 ≤ x.fdiv (2 ^ n) ∧ x.fdiv (2 ^ n) < 9223372036854775808 := by
  rw [Int.fdiv_eq_ediv_of_nonneg _ (Int.le_of_lt (Int.pow_pos (by decide)))]
  have h2 : (0 : Int) < 2 ^ n := Int.pow_pos (by decide)
  refine ⟨Int.ediv_nonneg h.1 (Int.le_of_lt h2), Int.ediv_lt_of_lt_mul h2 ?_⟩
  obtain ⟨m, rfl⟩ : ∃ m, n = m + 1 := ⟨n - 1, by omega⟩
  have h3 : (0 : Int) < 2 ^ m := Int.pow_pos (by decide)
  rw [Int.pow_succ]
  have := h.2
  omega
/-- What is reckoned for a slope. -/
structure RdP (b v eps dt p q : Int) : Prop where
  a1 : Fits (p * dt)
  a2 : Fits (v - b)
  a3 : Fits ((v - b) * q)
  a4 : Fits (p * dt - (v - b) * q)
  a5 : Fits (eps * q)
  a6 : Fits (atq p q dt)
  a7 : Fits (b + atq p q dt)
  a8 : Fits (b + atq p q dt - v)
theorem rd_p {b v eps dt p q : Int} (hb : I64 b) (hv : I64 v) (he : I64 eps) (hd : U64 dt) (f : Fq p q) : RdP b v eps dt p q := by
  have b1 : Bd 191 (p * dt) := bd_mul f.bp (bd_u64 hd)
  have b2 : Bd 65 (v - b) := bd_sub (bd_i64 hv) (bd_i64 hb) (by decide) (by decide)
  have b3 : Bd 192 ((v - b) * q) := bd_mul b2 f.bq
  have b4 : Bd 193 (p * dt - (v - b) * q) := bd_sub b1 b3 (by decide) (by decide)
  have b5 : Bd 191 (eps * q) := bd_mul (bd_i64 he) f.bq
  have b6 : Bd 194 (2 * (p * dt) + q) := bd_add (bd_mul bd_two b1) f.bq (by decide) (by decide)
  have b7 : Bd 194 (atq p q dt) := bd_of_le b6 (ab_fdiv_le _ (by have := f.pos; omega))
  have b8 : Bd 195 (b + atq p q dt) := bd_add (bd_i64 hb) b7 (by decide) (by decide)
  have b9 : Bd 196 (b + atq p q dt - v) := bd_sub b8 (bd_i64 hv) (by decide) (by decide)
  exact ⟨b1.fits, b2.fits, b3.fits, b4.fits, b5.fits, b7.fits, b8.fits, b9.fits⟩
set_option maxHeartbeats 8000000 in
set_option maxRecDepth 100000 in
theorem walk (w : World) (s0 : Option Addr) (l0 c0 : Nat) (z0 : List Int) (h0 : SlZ w .i64 (.slice s0 l0 c0) z0) :
    Calls Try.prog 12 #[.slice s0 l0 c0] w fun e w' => e = .returned (.bool true) ∧ Below w.heap.size w w' := by

  have kn := fun W => g_known13 W
  refine known_of (enter Try.func12 w13_ConeFits.ok (args := [_]) (by simp) ?_)
  repeat' (first | simp (disch := omega) only [sxE, w13_ConeFits.E, Nat.reduceAdd, Nat.reduceEqDiff, Nat.reduceMul, Nat.reduceSub, Int.reduceAdd, Int.reduceSub, Int.reduceMul, Int.reduceNeg, Int.reduceLT, Int.reduceLE, Int.reduceEq, Int.reduceToNat, ↓reduceIte, Int.reducePow, Nat.reduceLeDiff, Nat.reduceLT, ne_eq, eq_self, List.length_cons, List.length_nil, qxE, kxE, bb_self, Bool.true_and, Bool.false_and])
  refine asks_new (L := []) rfl (kX_nil _) h0 en_m_New fun tb htb => ?_; clear htb
  repeat' (first | simp (disch := omega) only [sxE, w13_ConeFits.E, Nat.reduceAdd, Nat.reduceEqDiff, Nat.reduceMul, Nat.reduceSub, Int.reduceAdd, Int.reduceSub, Int.reduceMul, Int.reduceNeg, Int.reduceLT, Int.reduceLE, Int.reduceEq, Int.reduceToNat, ↓reduceIte, Int.reducePow, Nat.reduceLeDiff, Nat.reduceLT, ne_eq, eq_self, List.length_cons, List.length_nil, qxE, kxE, bb_self, Bool.true_and, Bool.false_and])
  refine asks_tc rfl (tpk_t _ tb) (t_int tb) en_m_Tape__Int rfl (by first | exact List.mem_singleton.2 rfl | simp) rfl (by first | exact fun j hj => .inl (List.mem_singleton.1 hj) | simp) ?_
  intro b hb
  repeat' (first | simp (disch := omega) only [sxE, w13_ConeFits.E, Nat.reduceAdd, Nat.reduceEqDiff, Nat.reduceMul, Nat.reduceSub, Int.reduceAdd, Int.reduceSub, Int.reduceMul, Int.reduceNeg, Int.reduceLT, Int.reduceLE, Int.reduceEq, Int.reduceToNat, ↓reduceIte, Int.reducePow, Nat.reduceLeDiff, Nat.reduceLT, ne_eq, eq_self, List.length_cons, List.length_nil, qxE, kxE, bb_self, Bool.true_and, Bool.false_and])
  refine asks_tc rfl (tpk_t _ tb) (t_int tb) en_m_Tape__Int rfl (by first | exact List.mem_singleton.2 rfl | simp) rfl (by first | exact fun j hj => .inl (List.mem_singleton.1 hj) | simp) ?_
  intro v hv
  repeat' (first | simp (disch := omega) only [sxE, w13_ConeFits.E, Nat.reduceAdd, Nat.reduceEqDiff, Nat.reduceMul, Nat.reduceSub, Int.reduceAdd, Int.reduceSub, Int.reduceMul, Int.reduceNeg, Int.reduceLT, Int.reduceLE, Int.reduceEq, Int.reduceToNat, ↓reduceIte, Int.reducePow, Nat.reduceLeDiff, Nat.reduceLT, ne_eq, eq_self, List.length_cons, List.length_nil, qxE, kxE, bb_self, Bool.true_and, Bool.false_and])
  refine asks_tc rfl (tpk_t _ tb) (t_tol tb) en_m_Tape__Tolerance rfl (by first | exact List.mem_singleton.2 rfl | simp) rfl (by first | exact fun j hj => .inl (List.mem_singleton.1 hj) | simp) ?_
  intro eps he
  repeat' (first | simp (disch := omega) only [sxE, w13_ConeFits.E, Nat.reduceAdd, Nat.reduceEqDiff, Nat.reduceMul, Nat.reduceSub, Int.reduceAdd, Int.reduceSub, Int.reduceMul, Int.reduceNeg, Int.reduceLT, Int.reduceLE, Int.reduceEq, Int.reduceToNat, ↓reduceIte, Int.reducePow, Nat.reduceLeDiff, Nat.reduceLT, ne_eq, eq_self, List.length_cons, List.length_nil, qxE, kxE, bb_self, Bool.true_and, Bool.false_and])
  refine asks_tc rfl (tpk_t _ tb) (t_word tb) en_m_Tape__Word rfl (by first | exact List.mem_singleton.2 rfl | simp) rfl (by first | exact fun j hj => .inl (List.mem_singleton.1 hj) | simp) ?_
  intro x hx
  repeat' (first | simp (disch := omega) only [sxE, w13_ConeFits.E, Nat.reduceAdd, Nat.reduceEqDiff, Nat.reduceMul, Nat.reduceSub, Int.reduceAdd, Int.reduceSub, Int.reduceMul, Int.reduceNeg, Int.reduceLT, Int.reduceLE, Int.reduceEq, Int.reduceToNat, ↓reduceIte, Int.reducePow, Nat.reduceLeDiff, Nat.reduceLT, ne_eq, eq_self, List.length_cons, List.length_nil, qxE, kxE, bb_self, Bool.true_and, Bool.false_and])
  refine asks_tc rfl (tpk_t _ tb) (t_next tb (by decide) (by decide)) en_m_Tape__Next rfl (by first | exact List.mem_singleton.2 rfl | simp) rfl (by first | exact fun j hj => .inl (List.mem_singleton.1 hj) | simp) ?_
  rintro r ⟨r1, r2⟩
  repeat' (first | simp (disch := omega) only [sxE, w13_ConeFits.E, Nat.reduceAdd, Nat.reduceEqDiff, Nat.reduceMul, Nat.reduceSub, Int.reduceAdd, Int.reduceSub, Int.reduceMul, Int.reduceNeg, Int.reduceLT, Int.reduceLE, Int.reduceEq, Int.reduceToNat, ↓reduceIte, Int.reducePow, Nat.reduceLeDiff, Nat.reduceLT, ne_eq, eq_self, List.length_cons, List.length_nil, qxE, kxE, bb_self, Bool.true_and, Bool.false_and])
  obtain ⟨s1, s2⟩ := shr_half hx (n := (1 + r).toNat) (by omega)
  obtain ⟨dt, hdt⟩ : ∃ dt, dt = IntKind.u64.wrap (1 + x.fdiv (2 ^ (1 + r).toNat)) := ⟨_, rfl⟩
  have hd : U64 dt ∧ 0 < dt := by
    rw [hdt, show IntKind.u64.wrap (1 + x.fdiv (2 ^ (1 + r).toNat)) = 1 + x.fdiv (2 ^ (1 + r).toNat) by unfold IntKind.wrap; simp [IntKind.bits, IntKind.signed]; omega]
    exact ⟨⟨by omega, by omega⟩, by omega⟩
  rw [← hdt]
  clear hdt s1 s2 hx r1 r2
  obtain ⟨hd, hd0⟩ := hd
  obtain ⟨he1, he2⟩ := he
  have he : I64 eps := ⟨by omega, by omega⟩
  have z66 : ab b < 73786976294838206464 := by have := hb.1; have := hb.2; unfold ab; split <;> omega
  have P := th_p z66 hv ⟨he1, he2⟩ hd (by omega)
  have t1 := fun W => gx_through (fits_i64 hb).rw hv he hd W
  rw [thV_yes z66 he1 he2 (by omega)] at t1
  have ok := P.cl.ok
  have hh : ∀ p q, (Cn.mk false (mn (v - b - eps) dt) (mD (v - b - eps) dt) (mn (v - b + eps) dt) (mD (v - b + eps) dt)).has p q = decide (ab (p * dt - (v - b) * q) ≤ eps * q) := fun p q => by
    rw [Bool.eq_iff_iff, decide_eq_true_eq]
    exact th_has hd0
  have F1 := P.cl.f
  have F2 := P.cl.g
  clear P z66
  generalize mn (v - b - eps) dt = N1 at *
  generalize mD (v - b - eps) dt = D1 at *
  generalize mn (v - b + eps) dt = N2 at *
  generalize mD (v - b + eps) dt = D2 at *
  have ch : ∀ W, Gives Try.prog 56 [KX false N1 D1 N2 D2] W (· = RX (cho true ⟨false, N1, D1, N2, D2⟩).1 (cho true ⟨false, N1, D1, N2, D2⟩).2) := fun W => gx_choose (kv_ok ok) W
  have F3 := cho_fq ok
  have hc : ∀ p q, Fq p q → ∀ W, Gives Try.prog 59 [KX false N1 D1 N2 D2, RX p q] W (· = .bool (decide (ab (p * dt - (v - b) * q) ≤ eps * q))) := fun p q f W => by
    rw [← hh]
    exact gx_has (kv_ok ok) f.cq f.v1 W
  clear hh ok
  generalize cho true ⟨false, N1, D1, N2, D2⟩ = N at *
  obtain ⟨N3, D3⟩ := N
  dsimp only at ch F3
  have o1 := fun W => rx_of hb W
  repeat' (first | simp (disch := omega) only [sxE, w13_ConeFits.E, Nat.reduceAdd, Nat.reduceEqDiff, Nat.reduceMul, Nat.reduceSub, Int.reduceAdd, Int.reduceSub, Int.reduceMul, Int.reduceNeg, Int.reduceLT, Int.reduceLE, Int.reduceEq, Int.reduceToNat, ↓reduceIte, Int.reducePow, Nat.reduceLeDiff, Nat.reduceLT, ne_eq, eq_self, List.length_cons, List.length_nil, qxE, kxE, bb_self, Bool.true_and, Bool.false_and] | (with_reducible refine Sx.call_at (f := 20) (fun W hW => o1 W) ?_) | (with_reducible refine Sx.call_at (f := 55) (fun W hW => t1 W) ?_) | (with_reducible refine Sx.call_at (f := 56) (fun W hW => ch W) ?_))
  refine asks_tc rfl (tpk_t _ tb) (t_ratio tb) en_m_Tape__Ratio rfl (by first | exact List.mem_singleton.2 rfl | simp) rfl (by first | exact fun j hj => .inl (List.mem_singleton.1 hj) | simp) ?_
  rintro ⟨N4, D4⟩ F4
  dsimp only at F4 ⊢
  repeat' (first | simp (disch := omega) only [sxE, w13_ConeFits.E, Nat.reduceAdd, Nat.reduceEqDiff, Nat.reduceMul, Nat.reduceSub, Int.reduceAdd, Int.reduceSub, Int.reduceMul, Int.reduceNeg, Int.reduceLT, Int.reduceLE, Int.reduceEq, Int.reduceToNat, ↓reduceIte, Int.reducePow, Nat.reduceLeDiff, Nat.reduceLT, ne_eq, eq_self, List.length_cons, List.length_nil, qxE, kxE, bb_self, Bool.true_and, Bool.false_and])
  refine genA_c (L := [.g (tK tb)]) (cs := qc N1 D1 ++ qc N2 D2 ++ qc N3 D3 ++ qc N4 D4) (T := 53) (fun b => .slice (some ⟨b, 0, none⟩) 4 4) rfl (fun W => by kernel_rfl) fun sb hsb => ?_
  clear hsb ch t1
  obtain ⟨cs, hcs⟩ : ∃ cs, cs = qc N1 D1 ++ qc N2 D2 ++ qc N3 D3 ++ qc N4 D4 := ⟨_, rfl⟩
  obtain ⟨lp, lq, hlf, hcell⟩ : ∃ lp lq : Nat → Int, (∀ i, i < 4 → Fq (lp i) (lq i)) ∧ ∀ i, i < 4 → ∀ (j : Nat) (v : Value), (qc (lp i) (lq i))[j]? = some v → cs[i * 10 + j]? = some v := by
    refine ⟨fun i => match i with | 0 => N1 | 1 => N2 | 2 => N3 | _ => N4, fun i => match i with | 0 => D1 | 1 => D2 | 2 => D3 | _ => D4, fun i hi => ?_, fun i hi j v h => ?_⟩
    · rcases i with _ | _ | _ | _ | i
      · exact F1
      · exact F2
      · exact F3
      · exact F4
      · omega
    · subst hcs
      rcases i with _ | _ | _ | _ | i
      rotate_right
      · omega
      all_goals (rcases j with _ | _ | _ | _ | _ | _ | _ | _ | _ | _ | j <;> first | exact h | (simp at h))
  rw [← hcs]
  clear hcs F1 F2 F3 F4
  repeat' (first | simp (disch := omega) only [sxE, w13_ConeFits.E, Nat.reduceAdd, Nat.reduceEqDiff, Nat.reduceMul, Nat.reduceSub, Int.reduceAdd, Int.reduceSub, Int.reduceMul, Int.reduceNeg, Int.reduceLT, Int.reduceLE, Int.reduceEq, Int.reduceToNat, ↓reduceIte, Int.reducePow, Nat.reduceLeDiff, Nat.reduceLT, ne_eq, eq_self, List.length_cons, List.length_nil, qxE, kxE, bb_self, Bool.true_and, Bool.false_and])
  rw [w13_ConeFits.p2_l]
  refine LX_inv (fun i : Nat => ⟨1, [(4, .v (.int .i64 b)), (5, .v (.int .i64 v)), (6, .v (.int .i64 eps)), (7, .v (.int .u64 dt)), (8, .p 0 0), (10, .v (.slice (some ⟨sb, 0, none⟩) 4 4)), (11, .v (.int .i64 (i : Int)))], [(0, [.bool false, .bool (sg N1), .int .u64 (lb0 (ab N1)), .int .u64 (lb1 (ab N1)), .int .u64 (lb2 (ab N1)), .int .u64 (lb3 (ab N1)), .bool (sg D1), .int .u64 (lb0 (ab D1)), .int .u64 (lb1 (ab D1)), .int .u64 (lb2 (ab D1)), .int .u64 (lb3 (ab D1)), .bool (sg N2), .int .u64 (lb0 (ab N2)), .int .u64 (lb1 (ab N2)), .int .u64 (lb2 (ab N2)), .int .u64 (lb3 (ab N2)), .bool (sg D2), .int .u64 (lb0 (ab D2)), .int .u64 (lb1 (ab D2)), .int .u64 (lb2 (ab D2)), .int .u64 (lb3 (ab D2))])], kX w.heap.size [.g (cK sb cs)]⟩) (fun i => i ≤ 4) (fun i => 4 - i) ?round 0 (by decide) ?start
  case start =>
    simp (disch := omega) only [sxE, w13_ConeFits.E, Nat.reduceAdd, Nat.reduceEqDiff, Nat.reduceMul, Nat.reduceSub, Int.reduceAdd, Int.reduceSub, Int.reduceMul, Int.reduceNeg, Int.reduceLT, Int.reduceLE, Int.reduceEq, Int.reduceToNat, ↓reduceIte, Int.reducePow, Nat.reduceLeDiff, Nat.reduceLT, ne_eq, eq_self, List.length_cons, List.length_nil]
    refine extS_kn fun k hk => ?_
    rw [List.mem_singleton.1 hk]; exact List.mem_cons_self
  case round =>
    intro i hi
    try dsimp only at hi ⊢
    by_cases hlt : i < 4
    · have f := hlf i hlt
      have ci := hcell i hlt
      have hc := hc _ _ f
      have P := rd_p hb hv he hd f
      have hrn := th_round (b := b) (v := v) (eps := eps) (dt := dt) (p := lp i) f.pos
      have hat := fun W => rx_rat f.cq hd W
      have ffp := f.fp
      have ffq := f.fq
      clear hlf hcell f
      generalize lp i = p at *
      generalize lq i = q at *
      have ti : ((i : Int)).toNat * 10 = i * 10 := by omega
      have fd := (bd_u64 hd).fits
      have fe := (bd_i64 he).fits
      have fv := (bd_i64 hv).fits
      have fb := (bd_i64 hb).fits
      have k1 := fun W => rx_ofU hd W
      have k2 := fun W => rx_mul ffp fd P.a1 W
      have k3 := fun W => rx_of hv W
      have k4 := fun W => rx_of hb W
      have k5 := fun W => rx_sub fv fb P.a2 W
      have k6 := fun W => rx_mul P.a2 ffq P.a3 W
      have k7 := fun W => rx_sub P.a1 P.a3 P.a4 W
      have k8 := fun W => rx_of he W
      have k9 := fun W => rx_mul fe ffq P.a5 W
      have k10 := fun W => rx_compare (fits_ab P.a4) P.a5 W
      have k11 := fun W => rx_add fb P.a6 P.a7 W
      have k12 := fun W => rx_sub P.a7 fv P.a8 W
      have k13 := fun W => rx_compare (fits_ab P.a8) fe W
      have l1 := km_le (ab (p * dt - (v - b) * q)) (eps * q)
      have l2 := km_gt (ab (b + atq p q dt - v)) eps
      clear P
      generalize cm (ab (p * dt - (v - b) * q)) (eps * q) = C1 at *
      generalize cm (ab (b + atq p q dt - v)) eps = C2 at *
      by_cases h : ab (p * dt - (v - b) * q) ≤ eps * q
      · have c1 : C1 ≤ 0 := l1.2 h
        have c2 : ¬ 0 < C2 := fun e => by have := l2.1 e; have := hrn h; omega
        have d1 := decide_eq_true c1
        rw [decide_eq_true h] at hc
        clear h l1 l2 hrn
        generalize p * dt - (v - b) * q = X1 at *
        generalize b + atq p q dt - v = X2 at *
        generalize b + atq p q dt = X3 at *
        generalize atq p q dt = X4 at *
        generalize (v - b) * q = X5 at *
        generalize eps * q = X6 at *
        generalize p * dt = X7 at *
        repeat' (first | simp (disch := omega) only [sxE, w13_ConeFits.E, Nat.reduceAdd, Nat.reduceEqDiff, Nat.reduceMul, Nat.reduceSub, Int.reduceAdd, Int.reduceSub, Int.reduceMul, Int.reduceNeg, Int.reduceLT, Int.reduceLE, Int.reduceEq, Int.reduceToNat, ↓reduceIte, Int.reducePow, Nat.reduceLeDiff, Nat.reduceLT, ne_eq, eq_self, List.length_cons, List.length_nil, qxE, kxE, bb_self, Bool.true_and, Bool.false_and, ti, Nat.zero_add, d1] | (refine ldP_c (l := [.bool (sg p), .int .u64 (lb0 (ab p)), .int .u64 (lb1 (ab p)), .int .u64 (lb2 (ab p)), .int .u64 (lb3 (ab p)), .bool (sg q), .int .u64 (lb0 (ab q)), .int .u64 (lb1 (ab q)), .int .u64 (lb2 (ab q)), .int .u64 (lb3 (ab q))]) rfl (List.mem_singleton.2 rfl) rfl ci ?_) | (with_reducible refine Sx.call_at (f := 58) (fun W hW => k1 W) ?_) | (with_reducible refine Sx.call_at (f := 57) (fun W hW => k2 W) ?_) | (with_reducible refine Sx.call_at (f := 20) (fun W hW => k3 W) ?_) | (with_reducible refine Sx.call_at (f := 20) (fun W hW => k4 W) ?_) | (with_reducible refine Sx.call_at (f := 41) (fun W hW => k5 W) ?_) | (with_reducible refine Sx.call_at (f := 57) (fun W hW => k6 W) ?_) | (with_reducible refine Sx.call_at (f := 41) (fun W hW => k7 W) ?_) | (with_reducible refine Sx.call_at (f := 20) (fun W hW => k8 W) ?_) | (with_reducible refine Sx.call_at (f := 57) (fun W hW => k9 W) ?_) | (with_reducible refine Sx.call_at (f := 42) (fun W hW => k10 W) ?_) | (with_reducible refine Sx.call_at (f := 59) (fun W hW => hc W) ?_) | (with_reducible refine Sx.call_at (f := 40) (fun W hW => hat W) ?_) | (with_reducible refine Sx.call_at (f := 22) (fun W hW => k11 W) ?_) | (with_reducible refine Sx.call_at (f := 41) (fun W hW => k12 W) ?_) | (with_reducible refine Sx.call_at (f := 42) (fun W hW => k13 W) ?_))
        exact ⟨i + 1, by omega, by omega, vi rfl⟩
      · have c1 : ¬ C1 ≤ 0 := fun e => h (l1.1 e)
        have d1 := decide_eq_false c1
        rw [decide_eq_false h] at hc
        clear h l1 l2 hrn
        generalize p * dt - (v - b) * q = X1 at *
        generalize b + atq p q dt - v = X2 at *
        generalize b + atq p q dt = X3 at *
        generalize atq p q dt = X4 at *
        generalize (v - b) * q = X5 at *
        generalize eps * q = X6 at *
        generalize p * dt = X7 at *
        repeat' (first | simp (disch := omega) only [sxE, w13_ConeFits.E, Nat.reduceAdd, Nat.reduceEqDiff, Nat.reduceMul, Nat.reduceSub, Int.reduceAdd, Int.reduceSub, Int.reduceMul, Int.reduceNeg, Int.reduceLT, Int.reduceLE, Int.reduceEq, Int.reduceToNat, ↓reduceIte, Int.reducePow, Nat.reduceLeDiff, Nat.reduceLT, ne_eq, eq_self, List.length_cons, List.length_nil, qxE, kxE, bb_self, Bool.true_and, Bool.false_and, ti, Nat.zero_add, d1] | (refine ldP_c (l := [.bool (sg p), .int .u64 (lb0 (ab p)), .int .u64 (lb1 (ab p)), .int .u64 (lb2 (ab p)), .int .u64 (lb3 (ab p)), .bool (sg q), .int .u64 (lb0 (ab q)), .int .u64 (lb1 (ab q)), .int .u64 (lb2 (ab q)), .int .u64 (lb3 (ab q))]) rfl (List.mem_singleton.2 rfl) rfl ci ?_) | (with_reducible refine Sx.call_at (f := 58) (fun W hW => k1 W) ?_) | (with_reducible refine Sx.call_at (f := 57) (fun W hW => k2 W) ?_) | (with_reducible refine Sx.call_at (f := 20) (fun W hW => k3 W) ?_) | (with_reducible refine Sx.call_at (f := 20) (fun W hW => k4 W) ?_) | (with_reducible refine Sx.call_at (f := 41) (fun W hW => k5 W) ?_) | (with_reducible refine Sx.call_at (f := 57) (fun W hW => k6 W) ?_) | (with_reducible refine Sx.call_at (f := 41) (fun W hW => k7 W) ?_) | (with_reducible refine Sx.call_at (f := 20) (fun W hW => k8 W) ?_) | (with_reducible refine Sx.call_at (f := 57) (fun W hW => k9 W) ?_) | (with_reducible refine Sx.call_at (f := 42) (fun W hW => k10 W) ?_) | (with_reducible refine Sx.call_at (f := 59) (fun W hW => hc W) ?_) | (with_reducible refine Sx.call_at (f := 40) (fun W hW => hat W) ?_) | (with_reducible refine Sx.call_at (f := 22) (fun W hW => k11 W) ?_) | (with_reducible refine Sx.call_at (f := 41) (fun W hW => k12 W) ?_) | (with_reducible refine Sx.call_at (f := 42) (fun W hW => k13 W) ?_))
        exact ⟨i + 1, by omega, by omega, vi rfl⟩
    · repeat' (first | simp (disch := omega) only [sxE, w13_ConeFits.E, Nat.reduceAdd, Nat.reduceEqDiff, Nat.reduceMul, Nat.reduceSub, Int.reduceAdd, Int.reduceSub, Int.reduceMul, Int.reduceNeg, Int.reduceLT, Int.reduceLE, Int.reduceEq, Int.reduceToNat, ↓reduceIte, Int.reducePow, Nat.reduceLeDiff, Nat.reduceLT, ne_eq, eq_self, List.length_cons, List.length_nil, qxE, kxE, bb_self, Bool.true_and, Bool.false_and] | (with_reducible refine Sx.call_at (f := 48) (fun W hW => kn W) ?_))

/-! ### The row -/
set_option maxRecDepth 100000 in
theorem lifted (os : Os) (started : os.Started) (H : Type) (enc : TypeId × Value → H) :
    ReturnsInHanded {} Try.checked os 12 .any (Rows.coneFitsSpec.pre6 enc Try.prog Try.f12 Rows.coneFitsRow.domain false) (Rows.coneFitsSpec.post enc Try.prog Try.f12 false true false false) := by
  refine returnsInHanded_of_change_sized (C := Try.checked) own started (by kernel_rfl) Try.func12
    (ChangeSpec.witness6 (enc := enc) (C := Try.checked) false ⟨#[], #[.slice none 0 0], []⟩ 8 (by kernel_rfl) (by kernel_rfl) (by kernel_rfl) (by kernel_rfl)) ?_
  intro W base args ds gs before hval0 hW hcnd hsz _
  have hval : ∀ (j : Nat) t v, Try.f12.params[j]? = some t → args[j]? = some v → Value.okWide Try.prog W .any base t v := hval0
  have hW' := hW
  obtain ⟨p, q, hA0, hV, rfl, hfz, hnd⟩ := hW
  have hA : DataW.TrodAll enc Try.prog W 0 (fun _ => true) true Try.f12.params.toList args.toList ds p := hA0
  rw [Try.params12] at hA hval
  obtain ⟨v0, vs0, d0, ds0, p0, q0, hargs, rfl, rfl, g0, r0⟩ := trodAll_cons hA
  obtain ⟨rfl, rfl, rfl⟩ := trodAll_nil r0
  obtain rfl : args = #[v0] := by cases args; simp_all
  obtain ⟨rfl, rfl⟩ := trodVars_none hV
  have hlt : ∀ x ∈ (p0 ++ []) ++ [], x.block < W.heap.size := fun x hx => hW'.lt x hx
  obtain ⟨z0, hs0⟩ := open_slz Try.underlying23 Try.underlying3 (by kernel_rfl) (hval 0 23 v0 rfl rfl) g0 (fun x hx => hlt x (by simp [hx]))
  have hs0' := hs0
  obtain ⟨s0, l0, c0, rfl, _⟩ := hs0'
  refine (walk W s0 l0 c0 z0 hs0).mono fun e W' ⟨he, hb⟩ => ?_
  subst he
  exact ⟨_, rfl, law_post laidOut (by kernel_rfl) rfl rfl Try.underlying4 hW' rfl rfl rfl hb⟩

theorem over : Rows.coneFitsRow.holds Try.pinned (OpenSpec.ofChange Rows.coneFitsSpec) :=
  OpenClaim.holds_of_wide 12 Try.f12 rfl rfl rfl rfl rfl rfl rfl ⟨rfl, rfl, rfl, rfl, rfl⟩ rfl rfl rfl rfl rfl (by kernel_rfl) Try.func12 (by kernel_rfl)
    (of_decide_eq_true (by kernel_rfl)) (by unfold Func.isWrapper; first | (rw [if_pos (by decide +kernel)]; kernel_rfl) | (rw [if_neg (by decide +kernel)]; exact ⟨rfl, rfl⟩))
    (fun os started H enc _ => lifted os started H enc)

/-- The given statement. -/
theorem proved : Rows.ConeFitsSaid :=
  over
#print axioms proved
end Go.Proofs.Ytncmmbacoknefaa.coneFits

