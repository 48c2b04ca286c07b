/- Proved: tscodeclaw14.SwingWithin returns true for all arguments. No condition. -/
import Derived.Test.YtncmmbacoknefaaGreatRows
import Derived.Test.YtncmmbacoknefaaGreatSnClSwingWithin
import Derived.OpenShut
import Derived.SizedLaws
import Derived.Laws.IdiomArrays
import Derived.WalkKit
import Derived.ProofKit
import Derived.Outline
import Derived.Test.YtncmmbacoknefaaGreatSn2
import Derived.Test.YtncmmbacoknefaaGreatSn3
import Derived.Test.YtncmmbacoknefaaGreatSn5
import Derived.Test.YtncmmbacoknefaaGreatSn6
namespace Go.Proofs.YtncmmbacoknefaaGreat.swingWithin
open Go.ChangeShapes Go.WideShapes Go.ChangeAt Go.RowKit Sx
set_option linter.unusedVariables false
set_option linter.unusedSimpArgs false


set_option maxHeartbeats 8000000 in
set_option maxRecDepth 100000 in
theorem walk (w : World) (s0 : Option Addr) (l0 c0 : Nat) (z0 : List Int) (h0 : SlZ w .i64 (.slice s0 l0 c0) z0) :
    Calls Tryz.prog 10 #[.slice s0 l0 c0] w fun e w' => e = .returned (.bool true) ∧ Below w.heap.size w w' := by

  have kn := fun W => gives_known en_w14_known (g_known14 W)
  refine known_of (enter Tryz.func10 w14_SwingWithin.ok (args := [_]) (by simp) ?_)
  repeat' (first | simp (disch := omega) only [sxE, w14_SwingWithin.E, Nat.reduceAdd, Nat.reduceEqDiff, Nat.reduceMul, Nat.reduceSub, Int.reduceAdd, Int.reduceSub, Int.reduceMul, Int.reduceNeg, Int.reduceLT, Int.reduceLE, Int.reduceEq, Int.reduceToNat, ↓reduceIte, Int.reducePow, Nat.reduceLeDiff, Nat.reduceLT, ne_eq, eq_self, List.length_cons, List.length_nil, qxE] | (with_reducible refine cregF ?_))
  refine asks_new (L := []) rfl (kX_nil _) h0 en_m_New fun tb htb => ?_; clear htb
  repeat' (first | simp (disch := omega) only [sxE, w14_SwingWithin.E, Nat.reduceAdd, Nat.reduceEqDiff, Nat.reduceMul, Nat.reduceSub, Int.reduceAdd, Int.reduceSub, Int.reduceMul, Int.reduceNeg, Int.reduceLT, Int.reduceLE, Int.reduceEq, Int.reduceToNat, ↓reduceIte, Int.reducePow, Nat.reduceLeDiff, Nat.reduceLT, ne_eq, eq_self, List.length_cons, List.length_nil, qxE] | (with_reducible refine cregF ?_))
  refine asks_rowT (L := [.g (tK tb)]) (e := 58) (s := 2) (fun ss : Smps => Smp ss ∧ (ss.length : Int) ≤ 30) (fun ss => ss.length) (fun ss => scells ss) (fun ss v => v) (tpk_t _ tb) en_m_Tape__Samples rfl (List.mem_singleton.2 rfl) (List.mem_singleton.2 rfl) rfl (fun j hj => .inl (List.mem_singleton.1 hj)) (fun W hW => by
    refine (samples_any tb 30 (by decide) (by decide) W hW).mono ?_
    rintro e w' ⟨v, ss, h1, h2, h3, h4, h5⟩
    exact ⟨ss, v, h1, h2, h3, h4, h5⟩) ?_
  rintro ss al cl_ ⟨hsm, hs30⟩ hcl - hal hnb
  have htb : tb ∉ (Kn.g (wK 58 2 (.slice al ss.length cl_) ss.length (scells ss))).bs := fun h => hnb tb h (List.mem_singleton.2 rfl)
  clear hnb h0
  have hin := smp_inI hsm
  have hinc := smp_incr hsm
  repeat' (first | simp (disch := omega) only [sxE, w14_SwingWithin.E, Nat.reduceAdd, Nat.reduceEqDiff, Nat.reduceMul, Nat.reduceSub, Int.reduceAdd, Int.reduceSub, Int.reduceMul, Int.reduceNeg, Int.reduceLT, Int.reduceLE, Int.reduceEq, Int.reduceToNat, ↓reduceIte, Int.reducePow, Nat.reduceLeDiff, Nat.reduceLT, ne_eq, eq_self, List.length_cons, List.length_nil, qxE] | (with_reducible refine cregF ?_))
  refine asks_tc rfl (tpk_t _ tb) (t_tol tb) en_m_Tape__Tolerance rfl (by simp) rfl (fun j hj => ?_) ?_
  · rcases List.mem_cons.1 hj with rfl | hj
    · exact .inr htb
    · exact .inl (List.mem_singleton.1 hj)
  rintro t ⟨t0, t1⟩
  have ht : tolz t = true := tolz_iff.2 ⟨t0, t1⟩
  repeat' (first | simp (disch := omega) only [sxE, w14_SwingWithin.E, Nat.reduceAdd, Nat.reduceEqDiff, Nat.reduceMul, Nat.reduceSub, Int.reduceAdd, Int.reduceSub, Int.reduceMul, Int.reduceNeg, Int.reduceLT, Int.reduceLE, Int.reduceEq, Int.reduceToNat, ↓reduceIte, Int.reducePow, Nat.reduceLeDiff, Nat.reduceLT, ne_eq, eq_self, List.length_cons, List.length_nil, qxE] | (with_reducible refine cregF ?_))
  refine asks_rowB (L := [.g (wK 58 2 (.slice al ss.length cl_) ss.length (scells ss)), .g (tK tb)]) (e := 41) (s := 12) (ι := Unit) (fun _ => True) (fun _ => (swall t ss).length) (fun _ => lcells (swall t ss)) (fun _ v => .tuple #[v, .int .i64 0]) en_swing_All rfl (fun W hW hok => ?_) ?_
  · have hs : SlS W _ ss := sls_own (hok _ List.mem_cons_self) hin
    obtain ⟨e1, e2⟩ := erz_ok ht hinc (by omega)
    have := sw_all (t := t) hs ⟨by omega, by omega⟩ (by omega)
    rw [e1, e2] at this
    exact this.mono fun e w' ⟨v, h1, h2, h3⟩ => ⟨(), v, trivial, h1, h2, h3⟩
  have hO := swall_ok t ss
  have hl30 := hO.len
  generalize swall t ss = ls at *
  rintro - av2 c2 - hcl2 hcm2 hav2 -
  simp only [maxLen] at hcm2
  have mL : (Kn.g (wK 41 12 (.slice av2 ls.length c2) ls.length (lcells ls))) ∈ ([.g (wK 41 12 (.slice av2 ls.length c2) ls.length (lcells ls)), .g (wK 58 2 (.slice al ss.length cl_) ss.length (scells ss)), .g (tK tb)] : List Kn) := List.mem_cons_self
  have mS : (Kn.g (wK 58 2 (.slice al ss.length cl_) ss.length (scells ss))) ∈ ([.g (wK 41 12 (.slice av2 ls.length c2) ls.length (lcells ls)), .g (wK 58 2 (.slice al ss.length cl_) ss.length (scells ss)), .g (tK tb)] : List Kn) := List.mem_cons_of_mem _ List.mem_cons_self
  clear htb hsm
  repeat' (first | simp (disch := omega) only [sxE, w14_SwingWithin.E, Nat.reduceAdd, Nat.reduceEqDiff, Nat.reduceMul, Nat.reduceSub, Int.reduceAdd, Int.reduceSub, Int.reduceMul, Int.reduceNeg, Int.reduceLT, Int.reduceLE, Int.reduceEq, Int.reduceToNat, ↓reduceIte, Int.reducePow, Nat.reduceLeDiff, Nat.reduceLT, ne_eq, eq_self, List.length_cons, List.length_nil, qxE] | (with_reducible refine cregF ?_))
  rw [w14_SwingWithin.p2_l]
  refine LX_inv (fun x : Nat × Nat => ⟨0, [(4, .v (.slice al ss.length cl_)), (5, .v (.int .i64 t)), (6, .v (.slice av2 ls.length c2)), (7, .v (.int .i64 0)), (8, .v (.int .i64 (x.2 : Int))), (9, .v (.int .i64 (x.1 : Int)))], [], kX w.heap.size [.g (wK 41 12 (.slice av2 ls.length c2) ls.length (lcells ls)), .g (wK 58 2 (.slice al ss.length cl_) ss.length (scells ss)), .g (tK tb)]⟩) (fun x => x.1 ≤ ls.length ∧ LOk t ss x.2 (ls.drop x.1) ss.length) (fun x => ls.length - x.1) ?round (0, 0) ⟨Nat.zero_le _, hO⟩ ?start
  case start =>
    have c0 : ((0 : Nat) : Int) = 0 := rfl
    simp (disch := omega) only [sxE, w14_SwingWithin.E, Nat.reduceAdd, Nat.reduceEqDiff, Nat.reduceMul, Nat.reduceSub, Int.reduceAdd, Int.reduceSub, Int.reduceMul, Int.reduceNeg, Int.reduceLT, Int.reduceLE, Int.reduceEq, Int.reduceToNat, ↓reduceIte, Int.reducePow, Nat.reduceLeDiff, Nat.reduceLT, ne_eq, eq_self, List.length_cons, List.length_nil, c0]
  case round =>
    clear hO
    rintro ⟨i, a⟩ ⟨hi, hO⟩
    try dsimp only at hi hO ⊢
    by_cases hlt : i < ls.length
    · obtain ⟨g, rfl⟩ := hav2 (by omega)
      rw [drop_cons' hlt] at hO
      obtain ⟨m, hx, hle, hf, hnx, hO⟩ := hO
      obtain ⟨b, rfl⟩ := hal (by omega)
      unfold sgl at hx
      have hck := sgk_ok ht hin hinc (a := a) (j := m) hf (by omega)
      have hfq := cho_fq hck
      have hhas := sgk_has ht hin hinc hfq hf (by omega) (cho_has hck)
      generalize (cho true (sgk t ss a m)).1 = P at *
      generalize (cho true (sgk t ss a m)).2 = Q at *
      have bnV : ((ss.getD a (0, 0)).2 != (ss.getD a (0, 0)).2) = false := bne_self_eq_false _
      clear hck hnx hf
      repeat' (first | simp (disch := omega) only [sxE, w14_SwingWithin.E, Nat.reduceAdd, Nat.reduceEqDiff, Nat.reduceMul, Nat.reduceSub, Int.reduceAdd, Int.reduceSub, Int.reduceMul, Int.reduceNeg, Int.reduceLT, Int.reduceLE, Int.reduceEq, Int.reduceToNat, ↓reduceIte, Int.reducePow, Nat.reduceLeDiff, Nat.reduceLT, ne_eq, eq_self, List.length_cons, List.length_nil, qxE, kxE, bnV, beq_self_eq_true] | (with_reducible refine ldP_self true 12 g ?_; refine ldP_l12 i _ rfl mL ?_ hlt hx ?_; omega) | (with_reducible refine ldP_self false 1 b ?_; refine ldP_sV a rfl mS ?_ ?_ ?_; omega; omega) | (with_reducible refine Sx.call_at (f := 49) (fun W hW => (hfq.v2 W)) ?_) | (with_reducible refine cregF ?_))
      rw [w14_SwingWithin.p5_l]
      refine LX_inv (fun x : Nat => ⟨1, [(4, .v (.slice (some ⟨b, 0, none⟩) ss.length cl_)), (5, .v (.int .i64 t)), (6, .v (.slice (some ⟨g, 0, none⟩) ls.length c2)), (7, .v (.int .i64 0)), (8, .v (.int .i64 (a : Int))), (9, .v (.int .i64 (i : Int))), (10, .p 0 0), (11, .v (.int .i64 ((x : Int) + 1)))], [(0, [.int .i64 ((m : Int) + 1), .int .i64 (ss.getD a (0, 0)).2, .bool (sg P), .int .u64 (lb0 (ab P)), .int .u64 (lb1 (ab P)), .int .u64 (lb2 (ab P)), .int .u64 (lb3 (ab P)), .bool (sg Q), .int .u64 (lb0 (ab Q)), .int .u64 (lb1 (ab Q)), .int .u64 (lb2 (ab Q)), .int .u64 (lb3 (ab Q))])], kX w.heap.size [.g (wK 41 12 (.slice (some ⟨g, 0, none⟩) ls.length c2) ls.length (lcells ls)), .g (wK 58 2 (.slice (some ⟨b, 0, none⟩) ss.length cl_) ss.length (scells ss)), .g (tK tb)]⟩) (fun x => x ≤ m) (fun x => m - x) ?round2 0 (Nat.zero_le _) ?start2
      case start2 =>
        have c0 : ((0 : Nat) : Int) + 1 = 1 := rfl
        simp (disch := omega) only [sxE, w14_SwingWithin.E, Nat.reduceAdd, Nat.reduceEqDiff, Nat.reduceMul, Nat.reduceSub, Int.reduceAdd, Int.reduceSub, Int.reduceMul, Int.reduceNeg, Int.reduceLT, Int.reduceLE, Int.reduceEq, Int.reduceToNat, ↓reduceIte, Int.reducePow, Nat.reduceLeDiff, Nat.reduceLT, ne_eq, eq_self, List.length_cons, List.length_nil, c0]
      case round2 =>
        intro x hxm
        try dsimp only at hxm ⊢
        by_cases hxl : x < m
        · have hth := sgd_th ht hin hinc (a := a) (j := x) (by omega)
          have i1 := smp_i64 hin a
          have i2 := smp_i64 hin (a + x + 1)
          have hlt' := incr_lt hinc (a := a) (j := x) (by omega)
          have hh := hhas x hxl
          have hh' : (Cn.mk false (mn ((ss.getD (a + x + 1) (0, 0)).2 - (ss.getD a (0, 0)).2 - t) ((ss.getD (a + x + 1) (0, 0)).1 - (ss.getD a (0, 0)).1)) (mD ((ss.getD (a + x + 1) (0, 0)).2 - (ss.getD a (0, 0)).2 - t) ((ss.getD (a + x + 1) (0, 0)).1 - (ss.getD a (0, 0)).1)) (mn ((ss.getD (a + x + 1) (0, 0)).2 - (ss.getD a (0, 0)).2 + t) ((ss.getD (a + x + 1) (0, 0)).1 - (ss.getD a (0, 0)).1)) (mD ((ss.getD (a + x + 1) (0, 0)).2 - (ss.getD a (0, 0)).2 + t) ((ss.getD (a + x + 1) (0, 0)).1 - (ss.getD a (0, 0)).1))).has P Q = true := hh
          have hr := th_round hfq.pos ((th_has (b := (ss.getD a (0, 0)).2) (v := (ss.getD (a + x + 1) (0, 0)).2) (eps := t) (dt := (ss.getD (a + x + 1) (0, 0)).1 - (ss.getD a (0, 0)).1) (by omega)).1 hh)
          have o1 := fun W => rx_of i1.2 W
          have o2 := fun W => rx_of i2.2 W
          have ie : I64 t := ⟨by omega, by omega⟩
          have o3 := fun W => rx_of ie W
          have d1 := fun W => rx_sdist i2.1 i1.1 (Int.le_of_lt hlt') W
          have th := fun W => rx_through (i64_fits i1.2).rw i2.2 ie hth.2.1 (eps := t) W
          rw [thV_yes (ab_66 i1.2) t0 t1 hth.2.2] at th
          have hc := fun W => rx_has (kv_ok hth.1.cl.ok) hfq.cq hfq.v2 W
          rw [hh'] at hc
          have R := rd_w i1.2 i2.2 hth.2.1 hfq
          have hat := fun W => rx_rat hfq.cq hth.2.1 W
          have k11 := fun W => rx_add (i64_fits i1.2) R.a6 R.a7 W
          have k12 := fun W => rx_sub R.a7 (i64_fits i2.2) R.a8 W
          have k13 := fun W => rx_compare (fits_ab R.a8) (i64_fits ie) W
          have c2 := cm_no hr
          clear hth i1 i2 hh hh' hr R ie
          generalize (ss.getD (a + x + 1) (0, 0)).1 - (ss.getD a (0, 0)).1 = dt at *
          generalize mn ((ss.getD (a + x + 1) (0, 0)).2 - (ss.getD a (0, 0)).2 - t) dt = a1 at *
          generalize mD ((ss.getD (a + x + 1) (0, 0)).2 - (ss.getD a (0, 0)).2 - t) dt = a2 at *
          generalize mn ((ss.getD (a + x + 1) (0, 0)).2 - (ss.getD a (0, 0)).2 + t) dt = a3 at *
          generalize mD ((ss.getD (a + x + 1) (0, 0)).2 - (ss.getD a (0, 0)).2 + t) dt = a4 at *
          generalize cm (ab ((ss.getD a (0, 0)).2 + atq P Q dt - (ss.getD (a + x + 1) (0, 0)).2)) t = C2 at *
          generalize (ss.getD a (0, 0)).2 + atq P Q dt - (ss.getD (a + x + 1) (0, 0)).2 = X1 at *
          generalize (ss.getD a (0, 0)).2 + atq P Q dt = X2 at *
          generalize atq P Q dt = X3 at *
          have e0 : (x : Int) + 1 + 1 = ((x + 1 : Nat) : Int) + 1 := by omega
          have hc : ∀ W, Gives Tryz.prog 43 [KX false a1 a2 a3 a4, RX P Q] W (· = .bool true) := hc
          clear hfq hhas hx hO ht hin hinc hlt'
          repeat' (first | simp (disch := omega) only [sxE, w14_SwingWithin.E, Nat.reduceAdd, Nat.reduceEqDiff, Nat.reduceMul, Nat.reduceSub, Int.reduceAdd, Int.reduceSub, Int.reduceMul, Int.reduceNeg, Int.reduceLT, Int.reduceLE, Int.reduceEq, Int.reduceToNat, ↓reduceIte, Int.reducePow, Nat.reduceLeDiff, Nat.reduceLT, ne_eq, eq_self, List.length_cons, List.length_nil, qxE, kxE] | (with_reducible refine ldP_self false 1 b ?_; refine ldP_sV a rfl mS ?_ ?_ ?_; omega; omega) | (with_reducible refine ldP_self false 1 b ?_; refine ldP_sV (a + x + 1) rfl mS ?_ ?_ ?_; omega; omega) | (with_reducible refine ldP_self false 1 b ?_; refine ldP_sT a rfl mS ?_ ?_ ?_; omega; omega) | (with_reducible refine ldP_self false 1 b ?_; refine ldP_sT (a + x + 1) rfl mS ?_ ?_ ?_; omega; omega) | (with_reducible refine Sx.call_at (f := 50) (fun W hW => o1 W) ?_) | (with_reducible refine Sx.call_at (f := 50) (fun W hW => o2 W) ?_) | (with_reducible refine Sx.call_at (f := 50) (fun W hW => o3 W) ?_) | (with_reducible refine Sx.call_at (f := 42) (fun W hW => d1 W) ?_) | (with_reducible refine Sx.call_at (f := 40) (fun W hW => th W) ?_) | (with_reducible refine Sx.call_at (f := 43) (fun W hW => hc W) ?_) | (with_reducible refine Sx.call_at (f := 52) (fun W hW => hat W) ?_) | (with_reducible refine Sx.call_at (f := 51) (fun W hW => k11 W) ?_) | (with_reducible refine Sx.call_at (f := 53) (fun W hW => k12 W) ?_) | (with_reducible refine Sx.call_at (f := 54) (fun W hW => k13 W) ?_) | (with_reducible refine cregF ?_))
          rw [e0]
          exact ⟨x + 1, by omega, by omega, rfl⟩
        · obtain rfl : x = m := by omega
          repeat' (first | simp (disch := omega) only [sxE, w14_SwingWithin.E, Nat.reduceAdd, Nat.reduceEqDiff, Nat.reduceMul, Nat.reduceSub, Int.reduceAdd, Int.reduceSub, Int.reduceMul, Int.reduceNeg, Int.reduceLT, Int.reduceLE, Int.reduceEq, Int.reduceToNat, ↓reduceIte, Int.reducePow, Nat.reduceLeDiff, Nat.reduceLT, ne_eq, eq_self, List.length_cons, List.length_nil, qxE, kxE] | (with_reducible refine cregF ?_))
          have e0 : (a : Int) + ((x : Int) + 1) = ((a + x + 1 : Nat) : Int) := by omega
          have e1 : (i : Int) + 1 = ((i + 1 : Nat) : Int) := by omega
          rw [e0, e1]
          exact ⟨(i + 1, a + x + 1), ⟨by dsimp only; omega, hO⟩, by dsimp only; omega, rfl, rfl⟩
    · obtain rfl : i = ls.length := by omega
      rw [List.drop_length] at hO
      obtain rfl : a = ss.length := hO
      repeat' (first | simp (disch := omega) only [sxE, w14_SwingWithin.E, Nat.reduceAdd, Nat.reduceEqDiff, Nat.reduceMul, Nat.reduceSub, Int.reduceAdd, Int.reduceSub, Int.reduceMul, Int.reduceNeg, Int.reduceLT, Int.reduceLE, Int.reduceEq, Int.reduceToNat, ↓reduceIte, Int.reducePow, Nat.reduceLeDiff, Nat.reduceLT, ne_eq, eq_self, List.length_cons, List.length_nil, qxE, beq_self_eq_true] | (with_reducible refine Sx.call_at (f := 47) (fun W hW => kn W) ?_) | (with_reducible refine cregF ?_))
/-! ### The row -/
set_option maxRecDepth 100000 in
theorem lifted (os : Os) (started : os.Started) (H : Type) (enc : TypeId × Value → H) :
    ReturnsInHanded {} Tryz.checked os 10 .any (Rows.swingWithinSpec.pre6 enc Tryz.prog Tryz.f10 Rows.swingWithinRow.domain false) (Rows.swingWithinSpec.post enc Tryz.prog Tryz.f10 false true false false) := by
  refine returnsInHanded_of_change_sized (C := Tryz.checked) own started (by kernel_rfl) Tryz.func10
    (ChangeSpec.witness6 (enc := enc) (C := Tryz.checked) false ⟨#[], #[.slice none 0 0], []⟩ 8 (by kernel_rfl) (by kernel_rfl) (by kernel_rfl) (by kernel_rfl)) ?_
  intro W base args ds gs before hval0 hW hcnd hsz _
  have hval : ∀ (j : Nat) t v, Tryz.f10.params[j]? = some t → args[j]? = some v → Value.okWide Tryz.prog W .any base t v := hval0
  have hW' := hW
  obtain ⟨p, q, hA0, hV, rfl, hfz, hnd⟩ := hW
  have hA : DataW.TrodAll enc Tryz.prog W 0 (fun _ => true) true Tryz.f10.params.toList args.toList ds p := hA0
  rw [Tryz.params10] at hA hval
  obtain ⟨v0, vs0, d0, ds0, p0, q0, hargs, rfl, rfl, g0, r0⟩ := trodAll_cons hA
  obtain ⟨rfl, rfl, rfl⟩ := trodAll_nil r0
  obtain rfl : args = #[v0] := by cases args; simp_all
  obtain ⟨rfl, rfl⟩ := trodVars_none hV
  have hlt : ∀ x ∈ (p0 ++ []) ++ [], x.block < W.heap.size := fun x hx => hW'.lt x hx
  obtain ⟨z0, hs0⟩ := open_slz Tryz.underlying24 Tryz.underlying3 (by kernel_rfl) (hval 0 24 v0 rfl rfl) g0 (fun x hx => hlt x (by simp [hx]))
  have hs0' := hs0
  obtain ⟨s0, l0, c0, rfl, _⟩ := hs0'
  refine (walk W s0 l0 c0 z0 hs0).mono fun e W' ⟨he, hb⟩ => ?_
  subst he
  exact ⟨_, rfl, law_post laidOut (by kernel_rfl) rfl rfl Tryz.underlying4 hW' rfl rfl rfl hb⟩

theorem over : Rows.swingWithinRow.holds Tryz.pinned (OpenSpec.ofChange Rows.swingWithinSpec) :=
  OpenClaim.holds_of_wide 10 Tryz.f10 rfl rfl rfl rfl rfl rfl rfl ⟨rfl, rfl, rfl, rfl, rfl⟩ rfl rfl rfl rfl rfl (by kernel_rfl) Tryz.func10 (by kernel_rfl)
    (of_decide_eq_true (by kernel_rfl)) (by unfold Func.isWrapper; first | (rw [if_pos (by decide +kernel)]; kernel_rfl) | (rw [if_neg (by decide +kernel)]; exact ⟨rfl, rfl⟩))
    (fun os started H enc _ => lifted os started H enc)

/-- The given statement. -/
theorem proved : Rows.SwingWithinSaid :=
  over
#print axioms proved
end Go.Proofs.YtncmmbacoknefaaGreat.swingWithin

