/- Proved: tscodeclaw19.PiecesMaximal returns true for all arguments. No condition. -/
import Derived.Test.YtncmmbacoknefaaGreatRows
import Derived.Test.YtncmmbacoknefaaGreatProg
import Derived.Test.YtncmmbacoknefaaGreatPnClPiecesMaximal
import Derived.OpenShut
import Derived.SizedLaws
import Derived.Laws.IdiomArrays
import Derived.WalkKit
import Derived.ProofKit
import Derived.Outline
import Derived.Test.YtncmmbacoknefaaGreatPn2
import Derived.Test.YtncmmbacoknefaaGreatPn3
import Derived.Test.YtncmmbacoknefaaGreatPn4
import Derived.Test.YtncmmbacoknefaaGreatPn5
import Derived.Test.YtncmmbacoknefaaGreatPn6
namespace Go.Proofs.YtncmmbacoknefaaGreat.piecesMaximal
open Go.ChangeShapes Go.WideShapes Go.ChangeAt Go.RowKit Sx
set_option linter.unusedVariables false
set_option linter.unusedSimpArgs false


set_option maxHeartbeats 8000000 in
set_option maxRecDepth 100000 in
theorem walk (w : World) (s0 : Option Addr) (l0 c0 : Nat) (z0 : List Int) (h0 : SlZ w .i64 (.slice s0 l0 c0) z0) :
    Calls Tryz.prog 8 #[.slice s0 l0 c0] w fun e w' => e = .returned (.bool true) ∧ Below w.heap.size w w' := by

  have kn := fun W => gives_known en_w19_known (g_known19 W)
  refine known_of (enter Tryz.func8 w19_PiecesMaximal.ok (args := [_]) (by simp) ?_)
  repeat' (first | simp (disch := omega) only [sxE, w19_PiecesMaximal.E, Nat.reduceAdd, Nat.reduceEqDiff, Nat.reduceMul, Nat.reduceSub, Int.reduceAdd, Int.reduceSub, Int.reduceMul, Int.reduceNeg, Int.reduceLT, Int.reduceLE, Int.reduceEq, Int.reduceToNat, ↓reduceIte, Int.reducePow, Nat.reduceLeDiff, Nat.reduceLT, ne_eq, eq_self, List.length_cons, List.length_nil, qxE] | (with_reducible refine cregF ?_))
  refine asks_new (L := []) rfl (kX_nil _) h0 en_m_New fun tb htb => ?_; clear htb
  repeat' (first | simp (disch := omega) only [sxE, w19_PiecesMaximal.E, Nat.reduceAdd, Nat.reduceEqDiff, Nat.reduceMul, Nat.reduceSub, Int.reduceAdd, Int.reduceSub, Int.reduceMul, Int.reduceNeg, Int.reduceLT, Int.reduceLE, Int.reduceEq, Int.reduceToNat, ↓reduceIte, Int.reducePow, Nat.reduceLeDiff, Nat.reduceLT, ne_eq, eq_self, List.length_cons, List.length_nil, qxE] | (with_reducible refine cregF ?_))
  refine asks_rowT (L := [.g (tK tb)]) (e := 58) (s := 2) (fun ss : Smps => Smp ss ∧ (ss.length : Int) ≤ 30) (fun ss => ss.length) (fun ss => scells ss) (fun ss v => v) (tpk_t _ tb) en_m_Tape__Samples rfl (List.mem_singleton.2 rfl) (List.mem_singleton.2 rfl) rfl (fun j hj => .inl (List.mem_singleton.1 hj)) (fun W hW => by
    refine (samples_any tb 30 (by decide) (by decide) W hW).mono ?_
    rintro e w' ⟨v, ss, h1, h2, h3, h4, h5⟩
    exact ⟨ss, v, h1, h2, h3, h4, h5⟩) ?_
  rintro ss al cl_ ⟨hsm, hs30⟩ hcl - hal hnb
  have htb : tb ∉ (Kn.g (wK 58 2 (.slice al ss.length cl_) ss.length (scells ss))).bs := fun h => hnb tb h (List.mem_singleton.2 rfl)
  clear hnb h0
  have hin := smp_inI hsm
  have hinc := smp_incr hsm
  repeat' (first | simp (disch := omega) only [sxE, w19_PiecesMaximal.E, Nat.reduceAdd, Nat.reduceEqDiff, Nat.reduceMul, Nat.reduceSub, Int.reduceAdd, Int.reduceSub, Int.reduceMul, Int.reduceNeg, Int.reduceLT, Int.reduceLE, Int.reduceEq, Int.reduceToNat, ↓reduceIte, Int.reducePow, Nat.reduceLeDiff, Nat.reduceLT, ne_eq, eq_self, List.length_cons, List.length_nil, qxE] | (with_reducible refine cregF ?_))
  refine asks_tc rfl (tpk_t _ tb) (t_tol tb) en_m_Tape__Tolerance rfl (by simp) rfl (fun j hj => ?_) ?_
  · rcases List.mem_cons.1 hj with rfl | hj
    · exact .inr htb
    · exact .inl (List.mem_singleton.1 hj)
  rintro t ⟨t0, t1⟩
  have ht : tolz t = true := tolz_iff.2 ⟨t0, t1⟩
  repeat' (first | simp (disch := omega) only [sxE, w19_PiecesMaximal.E, Nat.reduceAdd, Nat.reduceEqDiff, Nat.reduceMul, Nat.reduceSub, Int.reduceAdd, Int.reduceSub, Int.reduceMul, Int.reduceNeg, Int.reduceLT, Int.reduceLE, Int.reduceEq, Int.reduceToNat, ↓reduceIte, Int.reducePow, Nat.reduceLeDiff, Nat.reduceLT, ne_eq, eq_self, List.length_cons, List.length_nil, qxE] | (with_reducible refine cregF ?_))
  refine asks_rowB (L := [.g (wK 58 2 (.slice al ss.length cl_) ss.length (scells ss)), .g (tK tb)]) (e := 75) (s := 24) (ι := Unit) (fun _ => True) (fun _ => (pcall t ss).length) (fun _ => pcells (pcall t ss)) (fun _ v => .tuple #[v, .int .i64 0]) en_pieces_All rfl (fun W hW hok => ?_) ?_
  · have hs : SlS W _ ss := sls_own (hok _ List.mem_cons_self) hin
    obtain ⟨e1, e2⟩ := perz_ok ht hinc (by omega)
    have := pc_all (t := t) hs ⟨by omega, by omega⟩ (by omega)
    rw [e1, e2] at this
    exact this.mono fun e w' ⟨v, h1, h2, h3⟩ => ⟨(), v, trivial, h1, h2, h3⟩
  have hO := pcall_ok t ss
  have hl30 := hO.len
  generalize pcall t ss = ls at *
  rintro - av2 c2 - hcl2 hcm2 hav2 -
  simp only [maxLen] at hcm2
  have mP : (Kn.g (wK 75 24 (.slice av2 ls.length c2) ls.length (pcells ls))) ∈ ([.g (wK 75 24 (.slice av2 ls.length c2) ls.length (pcells ls)), .g (wK 58 2 (.slice al ss.length cl_) ss.length (scells ss)), .g (tK tb)] : List Kn) := List.mem_cons_self
  have mS : (Kn.g (wK 58 2 (.slice al ss.length cl_) ss.length (scells ss))) ∈ ([.g (wK 75 24 (.slice av2 ls.length c2) ls.length (pcells ls)), .g (wK 58 2 (.slice al ss.length cl_) ss.length (scells ss)), .g (tK tb)] : List Kn) := List.mem_cons_of_mem _ List.mem_cons_self
  clear htb hsm
  repeat' (first | simp (disch := omega) only [sxE, w19_PiecesMaximal.E, Nat.reduceAdd, Nat.reduceEqDiff, Nat.reduceMul, Nat.reduceSub, Int.reduceAdd, Int.reduceSub, Int.reduceMul, Int.reduceNeg, Int.reduceLT, Int.reduceLE, Int.reduceEq, Int.reduceToNat, ↓reduceIte, Int.reducePow, Nat.reduceLeDiff, Nat.reduceLT, ne_eq, eq_self, List.length_cons, List.length_nil, qxE] | (with_reducible refine cregF ?_))
  rw [w19_PiecesMaximal.p2_l]
  refine LX_inv (fun x : Nat × Nat => ⟨0, [(4, .v (.slice al ss.length cl_)), (5, .v (.int .i64 t)), (6, .v (.slice av2 ls.length c2)), (7, .v (.int .i64 0)), (8, .v (.int .i64 (x.2 : Int))), (9, .v (.int .i64 (x.1 : Int)))], [], kX w.heap.size [.g (wK 75 24 (.slice av2 ls.length c2) ls.length (pcells ls)), .g (wK 58 2 (.slice al ss.length cl_) ss.length (scells ss)), .g (tK tb)]⟩) (fun x => x.1 ≤ ls.length ∧ POk t ss x.2 (ls.drop x.1) ss.length) (fun x => ls.length - x.1) ?round (0, 0) ⟨Nat.zero_le _, hO⟩ ?start
  case start =>
    have c0 : ((0 : Nat) : Int) = 0 := rfl
    simp (disch := omega) only [sxE, w19_PiecesMaximal.E, Nat.reduceAdd, Nat.reduceEqDiff, Nat.reduceMul, Nat.reduceSub, Int.reduceAdd, Int.reduceSub, Int.reduceMul, Int.reduceNeg, Int.reduceLT, Int.reduceLE, Int.reduceEq, Int.reduceToNat, ↓reduceIte, Int.reducePow, Nat.reduceLeDiff, Nat.reduceLT, ne_eq, eq_self, List.length_cons, List.length_nil, c0]
  case round =>
    clear hO
    rintro ⟨i, a⟩ ⟨hi, hO⟩
    try dsimp only at hi hO ⊢
    by_cases hlt : i + 1 < ls.length
    · obtain ⟨g, rfl⟩ := hav2 (by omega)
      have hli : i < ls.length := by omega
      rw [pdrop_cons hli] at hO
      obtain ⟨m, hx, hle, hf, hnx, hO⟩ := hO
      obtain ⟨hle2, hmb⟩ := hnx (fun e => by have := congrArg List.length e; simp at this; omega)
      obtain ⟨b, rfl⟩ := hal (by omega)
      have hm1 : 1 ≤ m := by
        rcases m with _ | m
        · rw [pgb_0] at hmb; cases hmb
        · omega
      have hth := pgd_th ht hin hinc (a := a) (j := m) (by omega)
      have hc := pgk_ok ht hin hinc (a := a) (j := m) hf (by omega)
      have i1 := smp_i64 hin a
      have i2 := smp_i64 hin (a + m + 1)
      have hlt' := incr_lt hinc (a := a) (j := m) (by omega)
      have ie : I64 t := ⟨by omega, by omega⟩
      have kb := fun W => rx_base (ke_i64 (t := t) i1.2) ie W
      have fz : Fits (ke (ss.getD a (0, 0)).2 t * un t) := (bd_mul (bd_i64 (ke_i64 i1.2)) (bd_i64 (un_i64 ie))).fits
      have d1 := fun W => rx_sdist i2.1 i1.1 (Int.le_of_lt hlt') W
      have th := fun W => rx_through fz.rw i2.2 ie hth.2.1 (eps := t) W
      rw [thV_yes (ke_small i1.2 t0 t1) t0 t1 hth.2.2] at th
      have mt := fun W => rx_meet (kv_ok hc) (kv_ok hth.1.cl.ok) W
      have eB : pgb t ss a m = (cmt (pgk t ss a m) ⟨false, mn ((ss.getD (a + m + 1) (0, 0)).2 - ke (ss.getD a (0, 0)).2 t * un t - t) ((ss.getD (a + m + 1) (0, 0)).1 - (ss.getD a (0, 0)).1), mD ((ss.getD (a + m + 1) (0, 0)).2 - ke (ss.getD a (0, 0)).2 t * un t - t) ((ss.getD (a + m + 1) (0, 0)).1 - (ss.getD a (0, 0)).1), mn ((ss.getD (a + m + 1) (0, 0)).2 - ke (ss.getD a (0, 0)).2 t * un t + t) ((ss.getD (a + m + 1) (0, 0)).1 - (ss.getD a (0, 0)).1), mD ((ss.getD (a + m + 1) (0, 0)).2 - ke (ss.getD a (0, 0)).2 t * un t + t) ((ss.getD (a + m + 1) (0, 0)).1 - (ss.getD a (0, 0)).1)⟩).2 := rfl
      unfold mtV mtv at mt
      rw [Bool.true_and, if_pos rfl, ← eB, hmb] at mt
      unfold pgl at hx
      clear hth hc i1 i2 eB
      generalize ke (ss.getD a (0, 0)).2 t = K at *
      generalize K * un t = B0 at *
      generalize mn ((ss.getD (a + m + 1) (0, 0)).2 - B0 - t) ((ss.getD (a + m + 1) (0, 0)).1 - (ss.getD a (0, 0)).1) = a1 at *
      generalize mD ((ss.getD (a + m + 1) (0, 0)).2 - B0 - t) ((ss.getD (a + m + 1) (0, 0)).1 - (ss.getD a (0, 0)).1) = a2 at *
      generalize mn ((ss.getD (a + m + 1) (0, 0)).2 - B0 + t) ((ss.getD (a + m + 1) (0, 0)).1 - (ss.getD a (0, 0)).1) = a3 at *
      generalize mD ((ss.getD (a + m + 1) (0, 0)).2 - B0 + t) ((ss.getD (a + m + 1) (0, 0)).1 - (ss.getD a (0, 0)).1) = a4 at *
      generalize pgk t ss a m = K0 at *
      obtain ⟨o, p, q, p1, q1⟩ := K0
      generalize (cmt ⟨o, p, q, p1, q1⟩ ⟨false, a1, a2, a3, a4⟩).1 = M at *
      obtain ⟨mo, mp, mq, mp1, mq1⟩ := M
      have mt : ∀ W, Gives Tryz.prog 45 [KX o p q p1 q1, KX false a1 a2 a3 a4] W (· = .tuple #[KX mo mp mq mp1 mq1, .bool false]) := mt
      clear hf hnx ht hin hinc hlt' fz ie
      repeat' (first | simp (disch := omega) only [sxE, w19_PiecesMaximal.E, Nat.reduceAdd, Nat.reduceEqDiff, Nat.reduceMul, Nat.reduceSub, Int.reduceAdd, Int.reduceSub, Int.reduceMul, Int.reduceNeg, Int.reduceLT, Int.reduceLE, Int.reduceEq, Int.reduceToNat, ↓reduceIte, Int.reducePow, Nat.reduceLeDiff, Nat.reduceLT, ne_eq, eq_self, List.length_cons, List.length_nil, qxE, kxE, Bool.not_true, Bool.not_false] | (with_reducible refine ldP_self false 1 g ?_; first | (refine ldP_q1 i 1 _ rfl mP ?_ hli hx rfl ?_; omega) | (refine ldP_q1 i 2 _ rfl mP ?_ hli hx rfl ?_; omega)) | (with_reducible refine ldP_self true 21 g ?_; refine ldP_qC i _ rfl mP ?_ hli hx ?_; omega) | (with_reducible refine ldP_self false 1 b ?_; refine ldP_sV (a + m + 1) rfl mS ?_ ?_ ?_; omega; omega) | (with_reducible refine ldP_self false 1 b ?_; refine ldP_sT a rfl mS ?_ ?_ ?_; omega; omega) | (with_reducible refine ldP_self false 1 b ?_; refine ldP_sT (a + m + 1) rfl mS ?_ ?_ ?_; omega; omega) | (with_reducible refine Sx.call_at (f := 41) (fun W hW => kb W) ?_) | (with_reducible refine Sx.call_at (f := 42) (fun W hW => d1 W) ?_) | (with_reducible refine Sx.call_at (f := 40) (fun W hW => th W) ?_) | (with_reducible refine Sx.call_at (f := 45) (fun W hW => mt W) ?_) | (with_reducible refine cregF ?_))
      have e0 : (a : Int) + ((m : Int) + 1) = ((a + m + 1 : Nat) : Int) := by omega
      have e1 : (i : Int) + 1 = ((i + 1 : Nat) : Int) := by omega
      rw [e0, e1]
      exact ⟨(i + 1, a + m + 1), ⟨by dsimp only; omega, by assumption⟩, by dsimp only; omega, rfl, rfl⟩
    · repeat' (first | simp (disch := omega) only [sxE, w19_PiecesMaximal.E, Nat.reduceAdd, Nat.reduceEqDiff, Nat.reduceMul, Nat.reduceSub, Int.reduceAdd, Int.reduceSub, Int.reduceMul, Int.reduceNeg, Int.reduceLT, Int.reduceLE, Int.reduceEq, Int.reduceToNat, ↓reduceIte, Int.reducePow, Nat.reduceLeDiff, Nat.reduceLT, ne_eq, eq_self, List.length_cons, List.length_nil, qxE, beq_self_eq_true] | (with_reducible refine Sx.call_at (f := 36) (fun W hW => kn W) ?_) | (with_reducible refine cregF ?_))
/-! ### The row -/
set_option maxRecDepth 100000 in
theorem lifted (os : Os) (started : os.Started) (H : Type) (enc : TypeId × Value → H) :
    ReturnsInHanded {} Tryz.checked os 8 .any (Rows.piecesMaximalSpec.pre6 enc Tryz.prog Tryz.f8 Rows.piecesMaximalRow.domain false) (Rows.piecesMaximalSpec.post enc Tryz.prog Tryz.f8 false true false false) := by
  refine returnsInHanded_of_change_sized (C := Tryz.checked) own started (by kernel_rfl) Tryz.func8
    (ChangeSpec.witness6 (enc := enc) (C := Tryz.checked) false ⟨#[], #[.slice none 0 0], []⟩ 8 (by kernel_rfl) (by kernel_rfl) (by kernel_rfl) (by kernel_rfl)) ?_
  intro W base args ds gs before hval0 hW hcnd hsz _
  have hval : ∀ (j : Nat) t v, Tryz.f8.params[j]? = some t → args[j]? = some v → Value.okWide Tryz.prog W .any base t v := hval0
  have hW' := hW
  obtain ⟨p, q, hA0, hV, rfl, hfz, hnd⟩ := hW
  have hA : DataW.TrodAll enc Tryz.prog W 0 (fun _ => true) true Tryz.f8.params.toList args.toList ds p := hA0
  rw [Tryz.params8] at hA hval
  obtain ⟨v0, vs0, d0, ds0, p0, q0, hargs, rfl, rfl, g0, r0⟩ := trodAll_cons hA
  obtain ⟨rfl, rfl, rfl⟩ := trodAll_nil r0
  obtain rfl : args = #[v0] := by cases args; simp_all
  obtain ⟨rfl, rfl⟩ := trodVars_none hV
  have hlt : ∀ x ∈ (p0 ++ []) ++ [], x.block < W.heap.size := fun x hx => hW'.lt x hx
  obtain ⟨z0, hs0⟩ := open_slz Tryz.underlying24 Tryz.underlying3 (by kernel_rfl) (hval 0 24 v0 rfl rfl) g0 (fun x hx => hlt x (by simp [hx]))
  have hs0' := hs0
  obtain ⟨s0, l0, c0, rfl, _⟩ := hs0'
  refine (walk W s0 l0 c0 z0 hs0).mono fun e W' ⟨he, hb⟩ => ?_
  subst he
  exact ⟨_, rfl, law_post laidOut (by kernel_rfl) rfl rfl Tryz.underlying4 hW' rfl rfl rfl hb⟩

theorem over : Rows.piecesMaximalRow.holds Tryz.pinned (OpenSpec.ofChange Rows.piecesMaximalSpec) :=
  OpenClaim.holds_of_wide 8 Tryz.f8 rfl rfl rfl rfl rfl rfl rfl ⟨rfl, rfl, rfl, rfl, rfl⟩ rfl rfl rfl rfl rfl (by kernel_rfl) Tryz.func8 (by kernel_rfl)
    (of_decide_eq_true (by kernel_rfl)) (by unfold Func.isWrapper; first | (rw [if_pos (by decide +kernel)]; kernel_rfl) | (rw [if_neg (by decide +kernel)]; exact ⟨rfl, rfl⟩))
    (fun os started H enc _ => lifted os started H enc)

/-- The given statement. -/
theorem proved : Rows.PiecesMaximalSaid :=
  over
#print axioms proved
end Go.Proofs.YtncmmbacoknefaaGreat.piecesMaximal

