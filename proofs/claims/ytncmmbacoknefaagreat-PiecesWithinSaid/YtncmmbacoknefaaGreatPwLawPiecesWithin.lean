/- Proved: tscodeclaw19.PiecesWithin returns true for all arguments. No condition. -/
import Derived.Test.YtncmmbacoknefaaGreatRows
import Derived.Test.YtncmmbacoknefaaGreatPwClPiecesWithin
import Derived.OpenShut
import Derived.SizedLaws
import Derived.Laws.IdiomArrays
import Derived.WalkKit
import Derived.ProofKit
import Derived.Outline
import Derived.Test.YtncmmbacoknefaaGreatPw2
import Derived.Test.YtncmmbacoknefaaGreatPw3
import Derived.Test.YtncmmbacoknefaaGreatPw4
import Derived.Test.YtncmmbacoknefaaGreatPw5
namespace Go.Proofs.YtncmmbacoknefaaGreat.piecesWithin
open Go.ChangeShapes Go.WideShapes Go.ChangeAt Go.RowKit Sx
set_option linter.unusedVariables false
set_option linter.unusedSimpArgs false


set_option maxHeartbeats 8000000 in
set_option maxRecDepth 100000 in
theorem walk (w : World) (s0 : Option Addr) (l0 c0 : Nat) (z0 : List Int) (h0 : SlZ w .i64 (.slice s0 l0 c0) z0) :
    Calls Tryz.prog 7 #[.slice s0 l0 c0] w fun e w' => e = .returned (.bool true) ∧ Below w.heap.size w w' := by

  have kn := fun W => gives_known en_w19_known (g_known19 W)
  refine known_of (enter Tryz.func7 w19_PiecesWithin.ok (args := [_]) (by simp) ?_)
  repeat' (first | simp (disch := omega) only [sxE, w19_PiecesWithin.E, Nat.reduceAdd, Nat.reduceEqDiff, Nat.reduceMul, Nat.reduceSub, Int.reduceAdd, Int.reduceSub, Int.reduceMul, Int.reduceNeg, Int.reduceLT, Int.reduceLE, Int.reduceEq, Int.reduceToNat, ↓reduceIte, Int.reducePow, Nat.reduceLeDiff, Nat.reduceLT, ne_eq, eq_self, List.length_cons, List.length_nil, qxE] | (with_reducible refine cregF ?_))
  refine asks_new (L := []) rfl (kX_nil _) h0 en_m_New fun tb htb => ?_; clear htb
  repeat' (first | simp (disch := omega) only [sxE, w19_PiecesWithin.E, Nat.reduceAdd, Nat.reduceEqDiff, Nat.reduceMul, Nat.reduceSub, Int.reduceAdd, Int.reduceSub, Int.reduceMul, Int.reduceNeg, Int.reduceLT, Int.reduceLE, Int.reduceEq, Int.reduceToNat, ↓reduceIte, Int.reducePow, Nat.reduceLeDiff, Nat.reduceLT, ne_eq, eq_self, List.length_cons, List.length_nil, qxE] | (with_reducible refine cregF ?_))
  refine asks_rowT (L := [.g (tK tb)]) (e := 58) (s := 2) (fun ss : Smps => Smp ss ∧ (ss.length : Int) ≤ 30) (fun ss => ss.length) (fun ss => scells ss) (fun ss v => v) (tpk_t _ tb) en_m_Tape__Samples rfl (List.mem_singleton.2 rfl) (List.mem_singleton.2 rfl) rfl (fun j hj => .inl (List.mem_singleton.1 hj)) (fun W hW => by
    refine (samples_any tb 30 (by decide) (by decide) W hW).mono ?_
    rintro e w' ⟨v, ss, h1, h2, h3, h4, h5⟩
    exact ⟨ss, v, h1, h2, h3, h4, h5⟩) ?_
  rintro ss al cl_ ⟨hsm, hs30⟩ hcl - hal hnb
  have htb : tb ∉ (Kn.g (wK 58 2 (.slice al ss.length cl_) ss.length (scells ss))).bs := fun h => hnb tb h (List.mem_singleton.2 rfl)
  clear hnb h0
  have hin := smp_inI hsm
  have hinc := smp_incr hsm
  repeat' (first | simp (disch := omega) only [sxE, w19_PiecesWithin.E, Nat.reduceAdd, Nat.reduceEqDiff, Nat.reduceMul, Nat.reduceSub, Int.reduceAdd, Int.reduceSub, Int.reduceMul, Int.reduceNeg, Int.reduceLT, Int.reduceLE, Int.reduceEq, Int.reduceToNat, ↓reduceIte, Int.reducePow, Nat.reduceLeDiff, Nat.reduceLT, ne_eq, eq_self, List.length_cons, List.length_nil, qxE] | (with_reducible refine cregF ?_))
  refine asks_tc rfl (tpk_t _ tb) (t_tol tb) en_m_Tape__Tolerance rfl (by simp) rfl (fun j hj => ?_) ?_
  · rcases List.mem_cons.1 hj with rfl | hj
    · exact .inr htb
    · exact .inl (List.mem_singleton.1 hj)
  rintro t ⟨t0, t1⟩
  have ht : tolz t = true := tolz_iff.2 ⟨t0, t1⟩
  repeat' (first | simp (disch := omega) only [sxE, w19_PiecesWithin.E, Nat.reduceAdd, Nat.reduceEqDiff, Nat.reduceMul, Nat.reduceSub, Int.reduceAdd, Int.reduceSub, Int.reduceMul, Int.reduceNeg, Int.reduceLT, Int.reduceLE, Int.reduceEq, Int.reduceToNat, ↓reduceIte, Int.reducePow, Nat.reduceLeDiff, Nat.reduceLT, ne_eq, eq_self, List.length_cons, List.length_nil, qxE] | (with_reducible refine cregF ?_))
  refine asks_tc rfl (tpk_t _ tb) (t_ratio tb) en_m_Tape__Ratio rfl (by simp) rfl (fun j hj => ?_) ?_
  · rcases List.mem_cons.1 hj with rfl | hj
    · exact .inr htb
    · exact .inl (List.mem_singleton.1 hj)
  rintro ⟨p0, q0⟩ hpq
  dsimp only at hpq
  repeat' (first | simp (disch := omega) only [sxE, w19_PiecesWithin.E, Nat.reduceAdd, Nat.reduceEqDiff, Nat.reduceMul, Nat.reduceSub, Int.reduceAdd, Int.reduceSub, Int.reduceMul, Int.reduceNeg, Int.reduceLT, Int.reduceLE, Int.reduceEq, Int.reduceToNat, ↓reduceIte, Int.reducePow, Nat.reduceLeDiff, Nat.reduceLT, ne_eq, eq_self, List.length_cons, List.length_nil, qxE] | (with_reducible refine cregF ?_))
  refine asks_rowB (L := [.g (wK 58 2 (.slice al ss.length cl_) ss.length (scells ss)), .g (tK tb)]) (e := 75) (s := 24) (ι := Unit) (fun _ => True) (fun _ => (pcall t ss).length) (fun _ => pcells (pcall t ss)) (fun _ v => .tuple #[v, .int .i64 0]) en_pieces_All rfl (fun W hW hok => ?_) ?_
  · have hs : SlS W _ ss := sls_own (hok _ List.mem_cons_self) hin
    obtain ⟨e1, e2⟩ := perz_ok ht hinc (by omega)
    have := pc_all (t := t) hs ⟨by omega, by omega⟩ (by omega)
    rw [e1, e2] at this
    exact this.mono fun e w' ⟨v, h1, h2, h3⟩ => ⟨(), v, trivial, h1, h2, h3⟩
  have hO := pcall_ok t ss
  have hl30 := hO.len
  generalize pcall t ss = ls at *
  rintro - av2 c2 - hcl2 hcm2 hav2 -
  simp only [maxLen] at hcm2
  have mP : (Kn.g (wK 75 24 (.slice av2 ls.length c2) ls.length (pcells ls))) ∈ ([.g (wK 75 24 (.slice av2 ls.length c2) ls.length (pcells ls)), .g (wK 58 2 (.slice al ss.length cl_) ss.length (scells ss)), .g (tK tb)] : List Kn) := List.mem_cons_self
  have mS : (Kn.g (wK 58 2 (.slice al ss.length cl_) ss.length (scells ss))) ∈ ([.g (wK 75 24 (.slice av2 ls.length c2) ls.length (pcells ls)), .g (wK 58 2 (.slice al ss.length cl_) ss.length (scells ss)), .g (tK tb)] : List Kn) := List.mem_cons_of_mem _ List.mem_cons_self
  clear htb hsm
  repeat' (first | simp (disch := omega) only [sxE, w19_PiecesWithin.E, Nat.reduceAdd, Nat.reduceEqDiff, Nat.reduceMul, Nat.reduceSub, Int.reduceAdd, Int.reduceSub, Int.reduceMul, Int.reduceNeg, Int.reduceLT, Int.reduceLE, Int.reduceEq, Int.reduceToNat, ↓reduceIte, Int.reducePow, Nat.reduceLeDiff, Nat.reduceLT, ne_eq, eq_self, List.length_cons, List.length_nil, qxE] | (with_reducible refine cregF ?_))
  rw [w19_PiecesWithin.p2_l]
  refine LX_inv (fun x : Nat × Nat => ⟨1, [(4, .v (.slice al ss.length cl_)), (5, .v (.int .i64 t)), (6, .p 0 0), (7, .v (.slice av2 ls.length c2)), (8, .v (.int .i64 0)), (9, .v (.int .i64 (x.2 : Int))), (10, .v (.int .i64 (x.1 : Int)))], [(0, [.bool (sg p0), .int .u64 (lb0 (ab p0)), .int .u64 (lb1 (ab p0)), .int .u64 (lb2 (ab p0)), .int .u64 (lb3 (ab p0)), .bool (sg q0), .int .u64 (lb0 (ab q0)), .int .u64 (lb1 (ab q0)), .int .u64 (lb2 (ab q0)), .int .u64 (lb3 (ab q0))])], kX w.heap.size [.g (wK 75 24 (.slice av2 ls.length c2) ls.length (pcells ls)), .g (wK 58 2 (.slice al ss.length cl_) ss.length (scells ss)), .g (tK tb)]⟩) (fun x => x.1 ≤ ls.length ∧ POk t ss x.2 (ls.drop x.1) ss.length) (fun x => ls.length - x.1) ?round (0, 0) ⟨Nat.zero_le _, hO⟩ ?start
  case start =>
    have c0 : ((0 : Nat) : Int) = 0 := rfl
    simp (disch := omega) only [sxE, w19_PiecesWithin.E, Nat.reduceAdd, Nat.reduceEqDiff, Nat.reduceMul, Nat.reduceSub, Int.reduceAdd, Int.reduceSub, Int.reduceMul, Int.reduceNeg, Int.reduceLT, Int.reduceLE, Int.reduceEq, Int.reduceToNat, ↓reduceIte, Int.reducePow, Nat.reduceLeDiff, Nat.reduceLT, ne_eq, eq_self, List.length_cons, List.length_nil, c0]
    try rfl
  case round =>
    clear hO
    rintro ⟨i, a⟩ ⟨hi, hO⟩
    try dsimp only at hi hO ⊢
    by_cases hlt : i < ls.length
    · obtain ⟨g, rfl⟩ := hav2 (by omega)
      rw [pdrop_cons hlt] at hO
      obtain ⟨m, hx, hle, hf, hnx, hO⟩ := hO
      obtain ⟨b, rfl⟩ := hal (by omega)
      have hck := pgk_ok ht hin hinc (a := a) (j := m) hf (by omega)
      have i1 := smp_i64 hin a
      have ie : I64 t := ⟨by omega, by omega⟩
      have kk := fun W => rx_key (t := t) i1.2 ie W
      have kvv := (kv_ok hck).v2
      have hcs := cho_fq hck
      have hch := cho_has hck
      have kch := fun W => rx_choose (kv_ok hck) W
      have hhas := pgk_has ht hin hinc hcs hf (by omega) hch
      have hfs := pgf_has ht hin hinc hpq hf (by omega)
      have kct := fun W => rx_has (kv_ok hck) hpq.cq hpq.v2 W
      rw [Bool.true_and, Bool.true_and, ← hfs] at kct
      unfold pgl at hx
      generalize (cho true (pgk t ss a m)).1 = P at *
      generalize (cho true (pgk t ss a m)).2 = Q at *
      generalize hKe : ke (ss.getD a (0, 0)).2 t = K at *
      generalize hK0 : pgk t ss a m = K0 at *
      obtain ⟨o, p, q, p1, q1⟩ := K0
      have kvv : ∀ W, Gives Tryz.prog 39 [KX o p q p1 q1] W (· = .bool true) := kvv
      have kch : ∀ W, Gives Tryz.prog 44 [KX o p q p1 q1] W (· = RX P Q) := kch
      have kct : ∀ W, Gives Tryz.prog 43 [KX o p q p1 q1, RX p0 q0] W (· = .bool (pgf t ss a p0 q0 m)) := kct
      have iK : I64 K := by rw [← hKe]; exact ke_i64 i1.2
      clear hck hch hfs
      repeat' (first | simp (disch := omega) only [sxE, w19_PiecesWithin.E, Nat.reduceAdd, Nat.reduceEqDiff, Nat.reduceMul, Nat.reduceSub, Int.reduceAdd, Int.reduceSub, Int.reduceMul, Int.reduceNeg, Int.reduceLT, Int.reduceLE, Int.reduceEq, Int.reduceToNat, ↓reduceIte, Int.reducePow, Nat.reduceLeDiff, Nat.reduceLT, ne_eq, eq_self, List.length_cons, List.length_nil, qxE, kxE, beq_self_eq_true, Bool.not_true, pcell] | (with_reducible refine ldP_self true 24 g ?_; refine ldP_q24 i _ rfl mP ?_ hlt hx ?_; omega) | (with_reducible refine ldP_self false 1 b ?_; refine ldP_sV a rfl mS ?_ ?_ ?_; omega; omega) | (with_reducible refine Sx.call_at (f := 38) (fun W hW => kk W) ?_) | (with_reducible refine Sx.call_at (f := 39) (fun W hW => kvv W) ?_) | (with_reducible refine cregF ?_))
      rw [w19_PiecesWithin.p8_l]
      refine LX_inv (fun x : Nat => ⟨2, [(4, .v (.slice (some ⟨b, 0, none⟩) ss.length cl_)), (5, .v (.int .i64 t)), (6, .p 0 0), (7, .v (.slice (some ⟨g, 0, none⟩) ls.length c2)), (8, .v (.int .i64 0)), (9, .v (.int .i64 (a : Int))), (10, .v (.int .i64 (i : Int))), (11, .p 1 0), (12, .v (.bool (pgf t ss a p0 q0 x))), (13, .v (.int .i64 ((x : Int) + 1)))], [(1, [.int .i64 (a : Int), .int .i64 ((m : Int) + 1), .int .i64 K, .bool o, .bool (sg p), .int .u64 (lb0 (ab p)), .int .u64 (lb1 (ab p)), .int .u64 (lb2 (ab p)), .int .u64 (lb3 (ab p)), .bool (sg q), .int .u64 (lb0 (ab q)), .int .u64 (lb1 (ab q)), .int .u64 (lb2 (ab q)), .int .u64 (lb3 (ab q)), .bool (sg p1), .int .u64 (lb0 (ab p1)), .int .u64 (lb1 (ab p1)), .int .u64 (lb2 (ab p1)), .int .u64 (lb3 (ab p1)), .bool (sg q1), .int .u64 (lb0 (ab q1)), .int .u64 (lb1 (ab q1)), .int .u64 (lb2 (ab q1)), .int .u64 (lb3 (ab q1))]), (0, [.bool (sg p0), .int .u64 (lb0 (ab p0)), .int .u64 (lb1 (ab p0)), .int .u64 (lb2 (ab p0)), .int .u64 (lb3 (ab p0)), .bool (sg q0), .int .u64 (lb0 (ab q0)), .int .u64 (lb1 (ab q0)), .int .u64 (lb2 (ab q0)), .int .u64 (lb3 (ab q0))])], kX w.heap.size [.g (wK 75 24 (.slice (some ⟨g, 0, none⟩) ls.length c2) ls.length (pcells ls)), .g (wK 58 2 (.slice (some ⟨b, 0, none⟩) ss.length cl_) ss.length (scells ss)), .g (tK tb)]⟩) (fun x => x ≤ m) (fun x => m - x) ?round2 0 (Nat.zero_le _) ?start2
      case start2 =>
        have c0 : ((0 : Nat) : Int) + 1 = 1 := rfl
        simp (disch := omega) only [sxE, w19_PiecesWithin.E, Nat.reduceAdd, Nat.reduceEqDiff, Nat.reduceMul, Nat.reduceSub, Int.reduceAdd, Int.reduceSub, Int.reduceMul, Int.reduceNeg, Int.reduceLT, Int.reduceLE, Int.reduceEq, Int.reduceToNat, ↓reduceIte, Int.reducePow, Nat.reduceLeDiff, Nat.reduceLT, ne_eq, eq_self, List.length_cons, List.length_nil, c0]
        try rfl
      case round2 =>
        intro x hxm
        try dsimp only at hxm ⊢
        by_cases hxl : x < m
        · have hth := pgd_th ht hin hinc (a := a) (j := x) (by omega)
          have i2 := smp_i64 hin (a + x + 1)
          have hlt' := incr_lt hinc (a := a) (j := x) (by omega)
          have hh := hhas x hxl
          have kb := fun W => rx_base iK ie W
          have fz : Fits (K * un t) := (bd_mul (bd_i64 iK) (bd_i64 (un_i64 ie))).fits
          have d1 := fun W => rx_sdist i2.1 i1.1 (Int.le_of_lt hlt') W
          have th := fun W => rx_through fz.rw i2.2 ie hth.2.1 (eps := t) W
          rw [thV_yes (by rw [← hKe]; exact ke_small i1.2 t0 t1) t0 t1 hth.2.2] at th
          have hc := fun W => rx_has (kv_ok hth.1.cl.ok) hcs.cq hcs.v2 W
          have hcp := fun W => rx_has (kv_ok hth.1.cl.ok) hpq.cq hpq.v2 W
          have hh' : (Cn.mk false (mn ((ss.getD (a + x + 1) (0, 0)).2 - ke (ss.getD a (0, 0)).2 t * un t - t) ((ss.getD (a + x + 1) (0, 0)).1 - (ss.getD a (0, 0)).1)) (mD ((ss.getD (a + x + 1) (0, 0)).2 - ke (ss.getD a (0, 0)).2 t * un t - t) ((ss.getD (a + x + 1) (0, 0)).1 - (ss.getD a (0, 0)).1)) (mn ((ss.getD (a + x + 1) (0, 0)).2 - ke (ss.getD a (0, 0)).2 t * un t + t) ((ss.getD (a + x + 1) (0, 0)).1 - (ss.getD a (0, 0)).1)) (mD ((ss.getD (a + x + 1) (0, 0)).2 - ke (ss.getD a (0, 0)).2 t * un t + t) ((ss.getD (a + x + 1) (0, 0)).1 - (ss.getD a (0, 0)).1))).has P Q = true := hh
          have eP : pgf t ss a p0 q0 (x + 1) = (pgf t ss a p0 q0 x && (Cn.mk false (mn ((ss.getD (a + x + 1) (0, 0)).2 - ke (ss.getD a (0, 0)).2 t * un t - t) ((ss.getD (a + x + 1) (0, 0)).1 - (ss.getD a (0, 0)).1)) (mD ((ss.getD (a + x + 1) (0, 0)).2 - ke (ss.getD a (0, 0)).2 t * un t - t) ((ss.getD (a + x + 1) (0, 0)).1 - (ss.getD a (0, 0)).1)) (mn ((ss.getD (a + x + 1) (0, 0)).2 - ke (ss.getD a (0, 0)).2 t * un t + t) ((ss.getD (a + x + 1) (0, 0)).1 - (ss.getD a (0, 0)).1)) (mD ((ss.getD (a + x + 1) (0, 0)).2 - ke (ss.getD a (0, 0)).2 t * un t + t) ((ss.getD (a + x + 1) (0, 0)).1 - (ss.getD a (0, 0)).1))).has p0 q0) := rfl
          rw [hKe] at hh' eP hc hcp
          rw [Bool.true_and, Bool.true_and, hh'] at hc
          rw [Bool.true_and, Bool.true_and] at hcp
          clear hth i2 hh hh' fz
          generalize K * un t = B0 at *
          generalize mn ((ss.getD (a + x + 1) (0, 0)).2 - B0 - t) ((ss.getD (a + x + 1) (0, 0)).1 - (ss.getD a (0, 0)).1) = a1 at *
          generalize mD ((ss.getD (a + x + 1) (0, 0)).2 - B0 - t) ((ss.getD (a + x + 1) (0, 0)).1 - (ss.getD a (0, 0)).1) = a2 at *
          generalize mn ((ss.getD (a + x + 1) (0, 0)).2 - B0 + t) ((ss.getD (a + x + 1) (0, 0)).1 - (ss.getD a (0, 0)).1) = a3 at *
          generalize mD ((ss.getD (a + x + 1) (0, 0)).2 - B0 + t) ((ss.getD (a + x + 1) (0, 0)).1 - (ss.getD a (0, 0)).1) = a4 at *
          have hc : ∀ W, Gives Tryz.prog 43 [KX false a1 a2 a3 a4, RX P Q] W (· = .bool true) := hc
          have hcp : ∀ W, Gives Tryz.prog 43 [KX false a1 a2 a3 a4, RX p0 q0] W (· = .bool ((Cn.mk false a1 a2 a3 a4).has p0 q0)) := hcp
          generalize (Cn.mk false a1 a2 a3 a4).has p0 q0 = F1 at *
          generalize hB1 : pgf t ss a p0 q0 (x + 1) = B1 at *
          generalize pgf t ss a p0 q0 x = F0 at *
          have e0 : (x : Int) + 1 + 1 = ((x + 1 : Nat) : Int) + 1 := by omega
          clear hhas hx hO ht hin hinc hlt' hcs kct iK i1 ie hKe hK0 kvv kk hpq hnx hf
          cases F0 <;> (
            repeat' (first | simp (disch := omega) only [sxE, w19_PiecesWithin.E, Nat.reduceAdd, Nat.reduceEqDiff, Nat.reduceMul, Nat.reduceSub, Int.reduceAdd, Int.reduceSub, Int.reduceMul, Int.reduceNeg, Int.reduceLT, Int.reduceLE, Int.reduceEq, Int.reduceToNat, ↓reduceIte, Int.reducePow, Nat.reduceLeDiff, Nat.reduceLT, ne_eq, eq_self, List.length_cons, List.length_nil, qxE, kxE, Bool.not_true, Bool.not_false] | (with_reducible refine ldP_self false 1 b ?_; refine ldP_sV (a + x + 1) rfl mS ?_ ?_ ?_; omega; omega) | (with_reducible refine ldP_self false 1 b ?_; refine ldP_sT a rfl mS ?_ ?_ ?_; omega; omega) | (with_reducible refine ldP_self false 1 b ?_; refine ldP_sT (a + x + 1) rfl mS ?_ ?_ ?_; omega; omega) | (with_reducible refine Sx.call_at (f := 41) (fun W hW => kb W) ?_) | (with_reducible refine Sx.call_at (f := 42) (fun W hW => d1 W) ?_) | (with_reducible refine Sx.call_at (f := 40) (fun W hW => th W) ?_) | (with_reducible refine Sx.call_at (f := 43) (fun W hW => hc W) ?_) | (with_reducible refine Sx.call_at (f := 43) (fun W hW => hcp W) ?_) | (with_reducible refine Sx.call_at (f := 44) (fun W hW => kch W) ?_) | (with_reducible refine cregF ?_))
            rw [e0]
            refine ⟨x + 1, by omega, by omega, ?_⟩
            rw [hB1, eP]
            exact ⟨rfl, rfl⟩)
        · obtain rfl : x = m := by omega
          clear hhas hcs kch
          generalize pgf t ss a p0 q0 x = F0 at *
          repeat' (first | simp (disch := omega) only [sxE, w19_PiecesWithin.E, Nat.reduceAdd, Nat.reduceEqDiff, Nat.reduceMul, Nat.reduceSub, Int.reduceAdd, Int.reduceSub, Int.reduceMul, Int.reduceNeg, Int.reduceLT, Int.reduceLE, Int.reduceEq, Int.reduceToNat, ↓reduceIte, Int.reducePow, Nat.reduceLeDiff, Nat.reduceLT, ne_eq, eq_self, List.length_cons, List.length_nil, qxE, kxE, beq_self_eq_true, Bool.not_true] | (with_reducible refine Sx.call_at (f := 43) (fun W hW => kct W) ?_) | (with_reducible refine cregF ?_))
          have e0 : (a : Int) + ((x : Int) + 1) = ((a + x + 1 : Nat) : Int) := by omega
          have e1 : (i : Int) + 1 = ((i + 1 : Nat) : Int) := by omega
          rw [e0, e1]
          refine ⟨(i + 1, a + x + 1), ⟨by dsimp only; omega, hO⟩, by dsimp only; omega, ?_⟩
          exact ⟨rfl, rfl⟩
    · obtain rfl : i = ls.length := by omega
      rw [List.drop_length] at hO
      obtain rfl : a = ss.length := hO
      repeat' (first | simp (disch := omega) only [sxE, w19_PiecesWithin.E, Nat.reduceAdd, Nat.reduceEqDiff, Nat.reduceMul, Nat.reduceSub, Int.reduceAdd, Int.reduceSub, Int.reduceMul, Int.reduceNeg, Int.reduceLT, Int.reduceLE, Int.reduceEq, Int.reduceToNat, ↓reduceIte, Int.reducePow, Nat.reduceLeDiff, Nat.reduceLT, ne_eq, eq_self, List.length_cons, List.length_nil, qxE, beq_self_eq_true] | (with_reducible refine Sx.call_at (f := 36) (fun W hW => kn W) ?_) | (with_reducible refine cregF ?_))
/-! ### The row -/
set_option maxRecDepth 100000 in
theorem lifted (os : Os) (started : os.Started) (H : Type) (enc : TypeId × Value → H) :
    ReturnsInHanded {} Tryz.checked os 7 .any (Rows.piecesWithinSpec.pre6 enc Tryz.prog Tryz.f7 Rows.piecesWithinRow.domain false) (Rows.piecesWithinSpec.post enc Tryz.prog Tryz.f7 false true false false) := by
  refine returnsInHanded_of_change_sized (C := Tryz.checked) own started (by kernel_rfl) Tryz.func7
    (ChangeSpec.witness6 (enc := enc) (C := Tryz.checked) false ⟨#[], #[.slice none 0 0], []⟩ 8 (by kernel_rfl) (by kernel_rfl) (by kernel_rfl) (by kernel_rfl)) ?_
  intro W base args ds gs before hval0 hW hcnd hsz _
  have hval : ∀ (j : Nat) t v, Tryz.f7.params[j]? = some t → args[j]? = some v → Value.okWide Tryz.prog W .any base t v := hval0
  have hW' := hW
  obtain ⟨p, q, hA0, hV, rfl, hfz, hnd⟩ := hW
  have hA : DataW.TrodAll enc Tryz.prog W 0 (fun _ => true) true Tryz.f7.params.toList args.toList ds p := hA0
  rw [Tryz.params7] at hA hval
  obtain ⟨v0, vs0, d0, ds0, p0, q0, hargs, rfl, rfl, g0, r0⟩ := trodAll_cons hA
  obtain ⟨rfl, rfl, rfl⟩ := trodAll_nil r0
  obtain rfl : args = #[v0] := by cases args; simp_all
  obtain ⟨rfl, rfl⟩ := trodVars_none hV
  have hlt : ∀ x ∈ (p0 ++ []) ++ [], x.block < W.heap.size := fun x hx => hW'.lt x hx
  obtain ⟨z0, hs0⟩ := open_slz Tryz.underlying24 Tryz.underlying3 (by kernel_rfl) (hval 0 24 v0 rfl rfl) g0 (fun x hx => hlt x (by simp [hx]))
  have hs0' := hs0
  obtain ⟨s0, l0, c0, rfl, _⟩ := hs0'
  refine (walk W s0 l0 c0 z0 hs0).mono fun e W' ⟨he, hb⟩ => ?_
  subst he
  exact ⟨_, rfl, law_post laidOut (by kernel_rfl) rfl rfl Tryz.underlying4 hW' rfl rfl rfl hb⟩

theorem over : Rows.piecesWithinRow.holds Tryz.pinned (OpenSpec.ofChange Rows.piecesWithinSpec) :=
  OpenClaim.holds_of_wide 7 Tryz.f7 rfl rfl rfl rfl rfl rfl rfl ⟨rfl, rfl, rfl, rfl, rfl⟩ rfl rfl rfl rfl rfl (by kernel_rfl) Tryz.func7 (by kernel_rfl)
    (of_decide_eq_true (by kernel_rfl)) (by unfold Func.isWrapper; first | (rw [if_pos (by decide +kernel)]; kernel_rfl) | (rw [if_neg (by decide +kernel)]; exact ⟨rfl, rfl⟩))
    (fun os started H enc _ => lifted os started H enc)

/-- The given statement. -/
theorem proved : Rows.PiecesWithinSaid :=
  over
#print axioms proved
end Go.Proofs.YtncmmbacoknefaaGreat.piecesWithin

