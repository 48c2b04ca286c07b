/- Proved: tscodeclaw14.SwingSimplest returns true for all arguments. No condition. -/
import Derived.Test.YtncmmbacoknefaaGreatRows
import Derived.Test.YtncmmbacoknefaaGreatSnClSwingSimplest
import Derived.OpenShut
import Derived.SizedLaws
import Derived.Laws.IdiomArrays
import Derived.WalkKit
import Derived.ProofKit
import Derived.Outline
import Derived.Test.YtncmmbacoknefaaGreatSn2
import Derived.Test.YtncmmbacoknefaaGreatSn3
import Derived.Test.YtncmmbacoknefaaGreatSn5
import Derived.Test.YtncmmbacoknefaaGreatSn6
namespace Go.Proofs.YtncmmbacoknefaaGreat.swingSimplest
open Go.ChangeShapes Go.WideShapes Go.ChangeAt Go.RowKit Sx
set_option linter.unusedVariables false
set_option linter.unusedSimpArgs false


set_option maxHeartbeats 8000000 in
set_option maxRecDepth 100000 in
theorem walk (w : World) (s0 : Option Addr) (l0 c0 : Nat) (z0 : List Int) (h0 : SlZ w .i64 (.slice s0 l0 c0) z0) :
    Calls Tryz.prog 12 #[.slice s0 l0 c0] w fun e w' => e = .returned (.bool true) ∧ Below w.heap.size w w' := by

  have kn := fun W => gives_known en_w14_known (g_known14 W)
  refine known_of (enter Tryz.func12 w14_SwingSimplest.ok (args := [_]) (by simp) ?_)
  repeat' (first | simp (disch := omega) only [sxE, w14_SwingSimplest.E, Nat.reduceAdd, Nat.reduceEqDiff, Nat.reduceMul, Nat.reduceSub, Int.reduceAdd, Int.reduceSub, Int.reduceMul, Int.reduceNeg, Int.reduceLT, Int.reduceLE, Int.reduceEq, Int.reduceToNat, ↓reduceIte, Int.reducePow, Nat.reduceLeDiff, Nat.reduceLT, ne_eq, eq_self, List.length_cons, List.length_nil, qxE] | (with_reducible refine cregF ?_))
  refine asks_new (L := []) rfl (kX_nil _) h0 en_m_New fun tb htb => ?_; clear htb
  repeat' (first | simp (disch := omega) only [sxE, w14_SwingSimplest.E, Nat.reduceAdd, Nat.reduceEqDiff, Nat.reduceMul, Nat.reduceSub, Int.reduceAdd, Int.reduceSub, Int.reduceMul, Int.reduceNeg, Int.reduceLT, Int.reduceLE, Int.reduceEq, Int.reduceToNat, ↓reduceIte, Int.reducePow, Nat.reduceLeDiff, Nat.reduceLT, ne_eq, eq_self, List.length_cons, List.length_nil, qxE] | (with_reducible refine cregF ?_))
  refine asks_rowT (L := [.g (tK tb)]) (e := 58) (s := 2) (fun ss : Smps => Smp ss ∧ (ss.length : Int) ≤ 30) (fun ss => ss.length) (fun ss => scells ss) (fun ss v => v) (tpk_t _ tb) en_m_Tape__Samples rfl (List.mem_singleton.2 rfl) (List.mem_singleton.2 rfl) rfl (fun j hj => .inl (List.mem_singleton.1 hj)) (fun W hW => by
    refine (samples_any tb 30 (by decide) (by decide) W hW).mono ?_
    rintro e w' ⟨v, ss, h1, h2, h3, h4, h5⟩
    exact ⟨ss, v, h1, h2, h3, h4, h5⟩) ?_
  rintro ss al cl_ ⟨hsm, hs30⟩ hcl - hal hnb
  have htb : tb ∉ (Kn.g (wK 58 2 (.slice al ss.length cl_) ss.length (scells ss))).bs := fun h => hnb tb h (List.mem_singleton.2 rfl)
  clear hnb h0
  have hin := smp_inI hsm
  have hinc := smp_incr hsm
  repeat' (first | simp (disch := omega) only [sxE, w14_SwingSimplest.E, Nat.reduceAdd, Nat.reduceEqDiff, Nat.reduceMul, Nat.reduceSub, Int.reduceAdd, Int.reduceSub, Int.reduceMul, Int.reduceNeg, Int.reduceLT, Int.reduceLE, Int.reduceEq, Int.reduceToNat, ↓reduceIte, Int.reducePow, Nat.reduceLeDiff, Nat.reduceLT, ne_eq, eq_self, List.length_cons, List.length_nil, qxE] | (with_reducible refine cregF ?_))
  refine asks_tc rfl (tpk_t _ tb) (t_tol tb) en_m_Tape__Tolerance rfl (by simp) rfl (fun j hj => ?_) ?_
  · rcases List.mem_cons.1 hj with rfl | hj
    · exact .inr htb
    · exact .inl (List.mem_singleton.1 hj)
  rintro t ⟨t0, t1⟩
  have ht : tolz t = true := tolz_iff.2 ⟨t0, t1⟩
  repeat' (first | simp (disch := omega) only [sxE, w14_SwingSimplest.E, Nat.reduceAdd, Nat.reduceEqDiff, Nat.reduceMul, Nat.reduceSub, Int.reduceAdd, Int.reduceSub, Int.reduceMul, Int.reduceNeg, Int.reduceLT, Int.reduceLE, Int.reduceEq, Int.reduceToNat, ↓reduceIte, Int.reducePow, Nat.reduceLeDiff, Nat.reduceLT, ne_eq, eq_self, List.length_cons, List.length_nil, qxE] | (with_reducible refine cregF ?_))
  refine asks_rowB (L := [.g (wK 58 2 (.slice al ss.length cl_) ss.length (scells ss)), .g (tK tb)]) (e := 41) (s := 12) (ι := Unit) (fun _ => True) (fun _ => (swall t ss).length) (fun _ => lcells (swall t ss)) (fun _ v => .tuple #[v, .int .i64 0]) en_swing_All rfl (fun W hW hok => ?_) ?_
  · have hs : SlS W _ ss := sls_own (hok _ List.mem_cons_self) hin
    obtain ⟨e1, e2⟩ := erz_ok ht hinc (by omega)
    have := sw_all (t := t) hs ⟨by omega, by omega⟩ (by omega)
    rw [e1, e2] at this
    exact this.mono fun e w' ⟨v, h1, h2, h3⟩ => ⟨(), v, trivial, h1, h2, h3⟩
  have hO := swall_ok t ss
  have hl30 := hO.len
  generalize swall t ss = ls at *
  rintro - av2 c2 - hcl2 hcm2 hav2 -
  simp only [maxLen] at hcm2
  have mL : (Kn.g (wK 41 12 (.slice av2 ls.length c2) ls.length (lcells ls))) ∈ ([.g (wK 41 12 (.slice av2 ls.length c2) ls.length (lcells ls)), .g (wK 58 2 (.slice al ss.length cl_) ss.length (scells ss)), .g (tK tb)] : List Kn) := List.mem_cons_self
  have mS : (Kn.g (wK 58 2 (.slice al ss.length cl_) ss.length (scells ss))) ∈ ([.g (wK 41 12 (.slice av2 ls.length c2) ls.length (lcells ls)), .g (wK 58 2 (.slice al ss.length cl_) ss.length (scells ss)), .g (tK tb)] : List Kn) := List.mem_cons_of_mem _ List.mem_cons_self
  clear htb hsm
  repeat' (first | simp (disch := omega) only [sxE, w14_SwingSimplest.E, Nat.reduceAdd, Nat.reduceEqDiff, Nat.reduceMul, Nat.reduceSub, Int.reduceAdd, Int.reduceSub, Int.reduceMul, Int.reduceNeg, Int.reduceLT, Int.reduceLE, Int.reduceEq, Int.reduceToNat, ↓reduceIte, Int.reducePow, Nat.reduceLeDiff, Nat.reduceLT, ne_eq, eq_self, List.length_cons, List.length_nil, qxE] | (with_reducible refine cregF ?_))
  rw [w14_SwingSimplest.p2_l]
  refine LX_inv (fun x : Nat × Nat => ⟨0, [(4, .v (.slice al ss.length cl_)), (5, .v (.int .i64 t)), (6, .v (.slice av2 ls.length c2)), (7, .v (.int .i64 0)), (8, .v (.int .i64 (x.2 : Int))), (9, .v (.int .i64 (x.1 : Int)))], [], kX w.heap.size [.g (wK 41 12 (.slice av2 ls.length c2) ls.length (lcells ls)), .g (wK 58 2 (.slice al ss.length cl_) ss.length (scells ss)), .g (tK tb)]⟩) (fun x => x.1 ≤ ls.length ∧ LOk t ss x.2 (ls.drop x.1) ss.length) (fun x => ls.length - x.1) ?round (0, 0) ⟨Nat.zero_le _, hO⟩ ?start
  case start =>
    have c0 : ((0 : Nat) : Int) = 0 := rfl
    simp (disch := omega) only [sxE, w14_SwingSimplest.E, Nat.reduceAdd, Nat.reduceEqDiff, Nat.reduceMul, Nat.reduceSub, Int.reduceAdd, Int.reduceSub, Int.reduceMul, Int.reduceNeg, Int.reduceLT, Int.reduceLE, Int.reduceEq, Int.reduceToNat, ↓reduceIte, Int.reducePow, Nat.reduceLeDiff, Nat.reduceLT, ne_eq, eq_self, List.length_cons, List.length_nil, c0]
  case round =>
    clear hO
    rintro ⟨i, a⟩ ⟨hi, hO⟩
    try dsimp only at hi hO ⊢
    by_cases hlt : i < ls.length
    · obtain ⟨g, rfl⟩ := hav2 (by omega)
      rw [drop_cons' hlt] at hO
      obtain ⟨m, hx, hle, hf, hnx, hO⟩ := hO
      obtain ⟨b, rfl⟩ := hal (by omega)
      unfold sgl at hx
      repeat' (first | simp (disch := omega) only [sxE, w14_SwingSimplest.E, Nat.reduceAdd, Nat.reduceEqDiff, Nat.reduceMul, Nat.reduceSub, Int.reduceAdd, Int.reduceSub, Int.reduceMul, Int.reduceNeg, Int.reduceLT, Int.reduceLE, Int.reduceEq, Int.reduceToNat, ↓reduceIte, Int.reducePow, Nat.reduceLeDiff, Nat.reduceLT, ne_eq, eq_self, List.length_cons, List.length_nil, qxE, kxE] | (with_reducible refine ldP_self false 1 g ?_; refine ldP_lN i _ rfl mL ?_ hlt hx ?_; omega) | (with_reducible refine Sx.call_at (f := 55) (fun W hW => (rx_kstart W)) ?_) | (with_reducible refine cregF ?_))
      rw [w14_SwingSimplest.p8_l]
      refine LX_inv (fun x : Nat => ⟨1, [(4, .v (.slice (some ⟨b, 0, none⟩) ss.length cl_)), (5, .v (.int .i64 t)), (6, .v (.slice (some ⟨g, 0, none⟩) ls.length c2)), (7, .v (.int .i64 0)), (8, .v (.int .i64 (a : Int))), (9, .v (.int .i64 (i : Int))), (10, .v (.int .i64 ((m : Int) + 1))), (11, .p 0 0), (12, .v (.int .i64 ((x : Int) + 1)))], [(0, [.bool (sgk t ss a x).o, .bool (sg (sgk t ss a x).p), .int .u64 (lb0 (ab (sgk t ss a x).p)), .int .u64 (lb1 (ab (sgk t ss a x).p)), .int .u64 (lb2 (ab (sgk t ss a x).p)), .int .u64 (lb3 (ab (sgk t ss a x).p)), .bool (sg (sgk t ss a x).q), .int .u64 (lb0 (ab (sgk t ss a x).q)), .int .u64 (lb1 (ab (sgk t ss a x).q)), .int .u64 (lb2 (ab (sgk t ss a x).q)), .int .u64 (lb3 (ab (sgk t ss a x).q)), .bool (sg (sgk t ss a x).p1), .int .u64 (lb0 (ab (sgk t ss a x).p1)), .int .u64 (lb1 (ab (sgk t ss a x).p1)), .int .u64 (lb2 (ab (sgk t ss a x).p1)), .int .u64 (lb3 (ab (sgk t ss a x).p1)), .bool (sg (sgk t ss a x).q1), .int .u64 (lb0 (ab (sgk t ss a x).q1)), .int .u64 (lb1 (ab (sgk t ss a x).q1)), .int .u64 (lb2 (ab (sgk t ss a x).q1)), .int .u64 (lb3 (ab (sgk t ss a x).q1))])], kX w.heap.size [.g (wK 41 12 (.slice (some ⟨g, 0, none⟩) ls.length c2) ls.length (lcells ls)), .g (wK 58 2 (.slice (some ⟨b, 0, none⟩) ss.length cl_) ss.length (scells ss)), .g (tK tb)]⟩) (fun x => x ≤ m) (fun x => m - x) ?round2 0 (Nat.zero_le _) ?start2
      case start2 =>
        have c0 : ((0 : Nat) : Int) + 1 = 1 := rfl
        simp (disch := omega) only [sxE, w14_SwingSimplest.E, Nat.reduceAdd, Nat.reduceEqDiff, Nat.reduceMul, Nat.reduceSub, Int.reduceAdd, Int.reduceSub, Int.reduceMul, Int.reduceNeg, Int.reduceLT, Int.reduceLE, Int.reduceEq, Int.reduceToNat, ↓reduceIte, Int.reducePow, Nat.reduceLeDiff, Nat.reduceLT, ne_eq, eq_self, List.length_cons, List.length_nil, c0]
        rfl
      case round2 =>
        intro x hxm
        try dsimp only at hxm ⊢
        by_cases hxl : x < m
        · have hth := sgd_th ht hin hinc (a := a) (j := x) (by omega)
          have hc := sgk_ok ht hin hinc (a := a) (j := x) (fun i hi => hf i (by omega)) (by omega)
          have i1 := smp_i64 hin a
          have i2 := smp_i64 hin (a + x + 1)
          have hlt' := incr_lt hinc (a := a) (j := x) (by omega)
          have o1 := fun W => rx_of i1.2 W
          have d1 := fun W => rx_sdist i2.1 i1.1 (Int.le_of_lt hlt') W
          have th := fun W => rx_through (i64_fits i1.2).rw i2.2 ⟨by omega, by omega⟩ hth.2.1 (eps := t) W
          rw [thV_yes (ab_66 i1.2) t0 t1 hth.2.2] at th
          have mt := fun W => rx_meet (kv_ok hc) (kv_ok hth.1.cl.ok) W
          have eK : sgk t ss a (x + 1) = (cmt (sgk t ss a x) ⟨false, mn ((ss.getD (a + x + 1) (0, 0)).2 - (ss.getD a (0, 0)).2 - t) ((ss.getD (a + x + 1) (0, 0)).1 - (ss.getD a (0, 0)).1), mD ((ss.getD (a + x + 1) (0, 0)).2 - (ss.getD a (0, 0)).2 - t) ((ss.getD (a + x + 1) (0, 0)).1 - (ss.getD a (0, 0)).1), mn ((ss.getD (a + x + 1) (0, 0)).2 - (ss.getD a (0, 0)).2 + t) ((ss.getD (a + x + 1) (0, 0)).1 - (ss.getD a (0, 0)).1), mD ((ss.getD (a + x + 1) (0, 0)).2 - (ss.getD a (0, 0)).2 + t) ((ss.getD (a + x + 1) (0, 0)).1 - (ss.getD a (0, 0)).1)⟩).1 := rfl
          have eB : sgb t ss a x = (cmt (sgk t ss a x) ⟨false, mn ((ss.getD (a + x + 1) (0, 0)).2 - (ss.getD a (0, 0)).2 - t) ((ss.getD (a + x + 1) (0, 0)).1 - (ss.getD a (0, 0)).1), mD ((ss.getD (a + x + 1) (0, 0)).2 - (ss.getD a (0, 0)).2 - t) ((ss.getD (a + x + 1) (0, 0)).1 - (ss.getD a (0, 0)).1), mn ((ss.getD (a + x + 1) (0, 0)).2 - (ss.getD a (0, 0)).2 + t) ((ss.getD (a + x + 1) (0, 0)).1 - (ss.getD a (0, 0)).1), mD ((ss.getD (a + x + 1) (0, 0)).2 - (ss.getD a (0, 0)).2 + t) ((ss.getD (a + x + 1) (0, 0)).1 - (ss.getD a (0, 0)).1)⟩).2 := rfl
          unfold mtV mtv at mt
          rw [Bool.true_and, if_pos rfl, ← eK, ← eB] at mt
          clear hth hc i1 i2 eK eB
          generalize mn ((ss.getD (a + x + 1) (0, 0)).2 - (ss.getD a (0, 0)).2 - t) ((ss.getD (a + x + 1) (0, 0)).1 - (ss.getD a (0, 0)).1) = a1 at *
          generalize mD ((ss.getD (a + x + 1) (0, 0)).2 - (ss.getD a (0, 0)).2 - t) ((ss.getD (a + x + 1) (0, 0)).1 - (ss.getD a (0, 0)).1) = a2 at *
          generalize mn ((ss.getD (a + x + 1) (0, 0)).2 - (ss.getD a (0, 0)).2 + t) ((ss.getD (a + x + 1) (0, 0)).1 - (ss.getD a (0, 0)).1) = a3 at *
          generalize mD ((ss.getD (a + x + 1) (0, 0)).2 - (ss.getD a (0, 0)).2 + t) ((ss.getD (a + x + 1) (0, 0)).1 - (ss.getD a (0, 0)).1) = a4 at *
          generalize hK1 : sgk t ss a (x + 1) = K1 at *
          generalize sgb t ss a x = B1 at *
          generalize sgk t ss a x = K0 at *
          obtain ⟨o, p, q, p1, q1⟩ := K0
          obtain ⟨o', p', q', p1', q1'⟩ := K1
          have mt : ∀ W, Gives Tryz.prog 45 [KX o p q p1 q1, KX false a1 a2 a3 a4] W (· = .tuple #[KX o' p' q' p1' q1', .bool B1]) := mt
          clear hf hx hO hnx ht hin hinc hlt'
          repeat' (first | simp (disch := omega) only [sxE, w14_SwingSimplest.E, Nat.reduceAdd, Nat.reduceEqDiff, Nat.reduceMul, Nat.reduceSub, Int.reduceAdd, Int.reduceSub, Int.reduceMul, Int.reduceNeg, Int.reduceLT, Int.reduceLE, Int.reduceEq, Int.reduceToNat, ↓reduceIte, Int.reducePow, Nat.reduceLeDiff, Nat.reduceLT, ne_eq, eq_self, List.length_cons, List.length_nil, qxE, kxE] | (with_reducible refine ldP_self false 1 b ?_; refine ldP_sV a rfl mS ?_ ?_ ?_; omega; omega) | (with_reducible refine ldP_self false 1 b ?_; refine ldP_sV (a + x + 1) rfl mS ?_ ?_ ?_; omega; omega) | (with_reducible refine ldP_self false 1 b ?_; refine ldP_sT a rfl mS ?_ ?_ ?_; omega; omega) | (with_reducible refine ldP_self false 1 b ?_; refine ldP_sT (a + x + 1) rfl mS ?_ ?_ ?_; omega; omega) | (with_reducible refine Sx.call_at (f := 50) (fun W hW => o1 W) ?_) | (with_reducible refine Sx.call_at (f := 42) (fun W hW => d1 W) ?_) | (with_reducible refine Sx.call_at (f := 40) (fun W hW => th W) ?_) | (with_reducible refine Sx.call_at (f := 45) (fun W hW => mt W) ?_) | (with_reducible refine cregF ?_))
          have e0 : (x : Int) + 1 + 1 = ((x + 1 : Nat) : Int) + 1 := by omega
          rw [e0]
          refine ⟨x + 1, by omega, by omega, ?_⟩
          rw [hK1]
          exact ⟨rfl, rfl⟩
        · obtain rfl : x = m := by omega
          have hc := sgk_ok ht hin hinc (a := a) (j := x) hf (by omega)
          have ch := fun W => rx_choose (kv_ok hc) W
          generalize (cho true (sgk t ss a x)).1 = P at *
          generalize (cho true (sgk t ss a x)).2 = Q at *
          generalize sgk t ss a x = K0 at *
          obtain ⟨o, p, q, p1, q1⟩ := K0
          have ch : ∀ W, Gives Tryz.prog 44 [KX o p q p1 q1] W (· = RX P Q) := ch
          clear hc
          repeat' (first | simp (disch := omega) only [sxE, w14_SwingSimplest.E, Nat.reduceAdd, Nat.reduceEqDiff, Nat.reduceMul, Nat.reduceSub, Int.reduceAdd, Int.reduceSub, Int.reduceMul, Int.reduceNeg, Int.reduceLT, Int.reduceLE, Int.reduceEq, Int.reduceToNat, ↓reduceIte, Int.reducePow, Nat.reduceLeDiff, Nat.reduceLT, ne_eq, eq_self, List.length_cons, List.length_nil, qxE, kxE, Bool.not_true] | (with_reducible refine ldP_self true 10 g ?_; refine ldP_lS i _ rfl mL ?_ hlt hx ?_; omega) | (with_reducible refine Sx.call_at (f := 44) (fun W hW => ch W) ?_) | (with_reducible refine eq_is (fun W => by exact eqs_run W) ?_) | (with_reducible refine cregF ?_))
          have e0 : (a : Int) + ((x : Int) + 1) = ((a + x + 1 : Nat) : Int) := by omega
          have e1 : (i : Int) + 1 = ((i + 1 : Nat) : Int) := by omega
          rw [e0, e1]
          exact ⟨(i + 1, a + x + 1), ⟨by dsimp only; omega, hO⟩, by dsimp only; omega, rfl, rfl⟩
    · obtain rfl : i = ls.length := by omega
      rw [List.drop_length] at hO
      obtain rfl : a = ss.length := hO
      repeat' (first | simp (disch := omega) only [sxE, w14_SwingSimplest.E, Nat.reduceAdd, Nat.reduceEqDiff, Nat.reduceMul, Nat.reduceSub, Int.reduceAdd, Int.reduceSub, Int.reduceMul, Int.reduceNeg, Int.reduceLT, Int.reduceLE, Int.reduceEq, Int.reduceToNat, ↓reduceIte, Int.reducePow, Nat.reduceLeDiff, Nat.reduceLT, ne_eq, eq_self, List.length_cons, List.length_nil, qxE, beq_self_eq_true] | (with_reducible refine Sx.call_at (f := 47) (fun W hW => kn W) ?_) | (with_reducible refine cregF ?_))
/-! ### The row -/
set_option maxRecDepth 100000 in
theorem lifted (os : Os) (started : os.Started) (H : Type) (enc : TypeId × Value → H) :
    ReturnsInHanded {} Tryz.checked os 12 .any (Rows.swingSimplestSpec.pre6 enc Tryz.prog Tryz.f12 Rows.swingSimplestRow.domain false) (Rows.swingSimplestSpec.post enc Tryz.prog Tryz.f12 false true false false) := by
  refine returnsInHanded_of_change_sized (C := Tryz.checked) own started (by kernel_rfl) Tryz.func12
    (ChangeSpec.witness6 (enc := enc) (C := Tryz.checked) false ⟨#[], #[.slice none 0 0], []⟩ 8 (by kernel_rfl) (by kernel_rfl) (by kernel_rfl) (by kernel_rfl)) ?_
  intro W base args ds gs before hval0 hW hcnd hsz _
  have hval : ∀ (j : Nat) t v, Tryz.f12.params[j]? = some t → args[j]? = some v → Value.okWide Tryz.prog W .any base t v := hval0
  have hW' := hW
  obtain ⟨p, q, hA0, hV, rfl, hfz, hnd⟩ := hW
  have hA : DataW.TrodAll enc Tryz.prog W 0 (fun _ => true) true Tryz.f12.params.toList args.toList ds p := hA0
  rw [Tryz.params12] at hA hval
  obtain ⟨v0, vs0, d0, ds0, p0, q0, hargs, rfl, rfl, g0, r0⟩ := trodAll_cons hA
  obtain ⟨rfl, rfl, rfl⟩ := trodAll_nil r0
  obtain rfl : args = #[v0] := by cases args; simp_all
  obtain ⟨rfl, rfl⟩ := trodVars_none hV
  have hlt : ∀ x ∈ (p0 ++ []) ++ [], x.block < W.heap.size := fun x hx => hW'.lt x hx
  obtain ⟨z0, hs0⟩ := open_slz Tryz.underlying24 Tryz.underlying3 (by kernel_rfl) (hval 0 24 v0 rfl rfl) g0 (fun x hx => hlt x (by simp [hx]))
  have hs0' := hs0
  obtain ⟨s0, l0, c0, rfl, _⟩ := hs0'
  refine (walk W s0 l0 c0 z0 hs0).mono fun e W' ⟨he, hb⟩ => ?_
  subst he
  exact ⟨_, rfl, law_post laidOut (by kernel_rfl) rfl rfl Tryz.underlying4 hW' rfl rfl rfl hb⟩

theorem over : Rows.swingSimplestRow.holds Tryz.pinned (OpenSpec.ofChange Rows.swingSimplestSpec) :=
  OpenClaim.holds_of_wide 12 Tryz.f12 rfl rfl rfl rfl rfl rfl rfl ⟨rfl, rfl, rfl, rfl, rfl⟩ rfl rfl rfl rfl rfl (by kernel_rfl) Tryz.func12 (by kernel_rfl)
    (of_decide_eq_true (by kernel_rfl)) (by unfold Func.isWrapper; first | (rw [if_pos (by decide +kernel)]; kernel_rfl) | (rw [if_neg (by decide +kernel)]; exact ⟨rfl, rfl⟩))
    (fun os started H enc _ => lifted os started H enc)

/-- The given statement. -/
theorem proved : Rows.SwingSimplestSaid :=
  over
#print axioms proved
end Go.Proofs.YtncmmbacoknefaaGreat.swingSimplest

