/- Proved: tscodeclaw19.PiecesAlls returns true for all arguments. No condition. -/
import Derived.Test.YtncmmbacoknefaaGreatRows
import Derived.Test.YtncmmbacoknefaaGreatPnClPiecesAlls
import Derived.OpenShut
import Derived.SizedLaws
import Derived.Laws.IdiomArrays
import Derived.WalkKit
import Derived.ProofKit
import Derived.Outline
import Derived.Test.YtncmmbacoknefaaGreatPn2
import Derived.Test.YtncmmbacoknefaaGreatPn3
import Derived.Test.YtncmmbacoknefaaGreatPn5
import Derived.Test.YtncmmbacoknefaaGreatPn6
namespace Go.Proofs.YtncmmbacoknefaaGreat.piecesAlls
open Go.ChangeShapes Go.WideShapes Go.ChangeAt Go.RowKit Sx
set_option linter.unusedVariables false
set_option linter.unusedSimpArgs false


set_option maxHeartbeats 8000000 in
set_option maxRecDepth 100000 in
theorem walk (w : World) (s0 : Option Addr) (l0 c0 : Nat) (z0 : List (Int × Int)) (h0 : SlS w (.slice s0 l0 c0) z0) (hb0 : 16 * z0.length ≤ 140737488351232) (a1 : Int) (h1 : I64 a1) (s2 : Option Addr) (l2 c2 : Nat) (z2 : List Int) (h2 : SlZ w .i64 (.slice s2 l2 c2) z2) :
    Calls Tryz.prog 6 #[.slice s0 l0 c0, .int .i64 a1, .slice s2 l2 c2] w fun e w' => e = .returned (.bool true) ∧ Below w.heap.size w w' := by

  have kn := fun W => gives_known en_w19_known (g_known19 W)
  have hz : SlS w (.slice s0 z0.length c0) z0 := by
    obtain ⟨a, cap, e, -⟩ := id h0
    cases e
    exact h0
  obtain rfl : l0 = z0.length := by
    obtain ⟨a, cap, e, -⟩ := id h0
    cases e
    rfl
  refine known_of (enter Tryz.func6 w19_PiecesAlls.ok (args := [_, _, _]) (by simp) ?_)
  repeat' (first | simp (disch := omega) only [sxE, w19_PiecesAlls.E, Nat.reduceAdd, Nat.reduceEqDiff, Nat.reduceMul, Nat.reduceSub, Int.reduceAdd, Int.reduceSub, Int.reduceMul, Int.reduceNeg, Int.reduceLT, Int.reduceLE, Int.reduceEq, Int.reduceToNat, ↓reduceIte, Int.reducePow, Nat.reduceLeDiff, Nat.reduceLT, ne_eq, eq_self, List.length_cons, List.length_nil, qxE] | (with_reducible refine cregF ?_))
  refine asks_new (L := []) rfl (kX_nil _) h2 en_m_New fun tb htb => ?_; clear htb
  repeat' (first | simp (disch := omega) only [sxE, w19_PiecesAlls.E, Nat.reduceAdd, Nat.reduceEqDiff, Nat.reduceMul, Nat.reduceSub, Int.reduceAdd, Int.reduceSub, Int.reduceMul, Int.reduceNeg, Int.reduceLT, Int.reduceLE, Int.reduceEq, Int.reduceToNat, ↓reduceIte, Int.reducePow, Nat.reduceLeDiff, Nat.reduceLT, ne_eq, eq_self, List.length_cons, List.length_nil, qxE] | (with_reducible refine cregF ?_))
  refine asks_rowT (L := [.g (tK tb)]) (e := 58) (s := 2) (fun ss : Smps => Smp ss ∧ (ss.length : Int) ≤ 30) (fun ss => ss.length) (fun ss => scells ss) (fun ss v => v) (tpk_t _ tb) en_m_Tape__Samples rfl (List.mem_singleton.2 rfl) (List.mem_singleton.2 rfl) rfl (fun j hj => .inl (List.mem_singleton.1 hj)) (fun W hW => by
    refine (samples_any tb 30 (by decide) (by decide) W hW).mono ?_
    rintro e w' ⟨v, ss, h1, h2, h3, h4, h5⟩
    exact ⟨ss, v, h1, h2, h3, h4, h5⟩) ?_
  rintro ss al cl_ ⟨hsm, hs30⟩ hcl - hal hnb
  have htb : tb ∉ (Kn.g (wK 58 2 (.slice al ss.length cl_) ss.length (scells ss))).bs := fun h => hnb tb h (List.mem_singleton.2 rfl)
  clear hnb
  have hin := smp_inI hsm
  repeat' (first | simp (disch := omega) only [sxE, w19_PiecesAlls.E, Nat.reduceAdd, Nat.reduceEqDiff, Nat.reduceMul, Nat.reduceSub, Int.reduceAdd, Int.reduceSub, Int.reduceMul, Int.reduceNeg, Int.reduceLT, Int.reduceLE, Int.reduceEq, Int.reduceToNat, ↓reduceIte, Int.reducePow, Nat.reduceLeDiff, Nat.reduceLT, ne_eq, eq_self, List.length_cons, List.length_nil, qxE] | (with_reducible refine cregF ?_))
  refine asks_tc rfl (tpk_t _ tb) (t_tol tb) en_m_Tape__Tolerance rfl (by simp) rfl (fun j hj => ?_) ?_
  · rcases List.mem_cons.1 hj with rfl | hj
    · exact .inr htb
    · exact .inl (List.mem_singleton.1 hj)
  rintro t ⟨t0, t1⟩
  have it : I64 t := ⟨by omega, by omega⟩
  clear htb hsm hal hcl
  
  
  
  repeat' (first | simp (disch := omega) only [sxE, w19_PiecesAlls.E, Nat.reduceAdd, Nat.reduceEqDiff, Nat.reduceMul, Nat.reduceSub, Int.reduceAdd, Int.reduceSub, Int.reduceMul, Int.reduceNeg, Int.reduceLT, Int.reduceLE, Int.reduceEq, Int.reduceToNat, ↓reduceIte, Int.reducePow, Nat.reduceLeDiff, Nat.reduceLT, ne_eq, eq_self, List.length_cons, List.length_nil, qxE] | (with_reducible refine cregF ?_))
  refine asks_rowB (e := 75) (s := 24) (ι := Unit) (fun _ => True) (fun _ => (piecz a1 z0).length) (fun _ => pcells (piecz a1 z0)) (fun _ v => .tuple #[v, .int .i64 (perz a1 z0)]) en_pieces_All rfl (fun W hW hok => ?_) ?_
  · refine (pc_all (t := a1) (hz.below hW) h1 (by omega)).mono ?_
    exact fun e w' ⟨v, h1, h2, h3⟩ => ⟨(), v, trivial, h1, h2, h3⟩
  rintro - b1 k1 - - - - -
  repeat' (first | simp (disch := omega) only [sxE, w19_PiecesAlls.E, Nat.reduceAdd, Nat.reduceEqDiff, Nat.reduceMul, Nat.reduceSub, Int.reduceAdd, Int.reduceSub, Int.reduceMul, Int.reduceNeg, Int.reduceLT, Int.reduceLE, Int.reduceEq, Int.reduceToNat, ↓reduceIte, Int.reducePow, Nat.reduceLeDiff, Nat.reduceLT, ne_eq, eq_self, List.length_cons, List.length_nil, qxE] | (with_reducible refine cregF ?_))
  refine asks_rowB (e := 75) (s := 24) (ι := Unit) (fun _ => True) (fun _ => (piecz a1 z0).length) (fun _ => pcells (piecz a1 z0)) (fun _ v => .tuple #[v, .int .i64 (perz a1 z0)]) en_r19_All rfl (fun W hW hok => ?_) ?_
  · refine (rx_pcall (t := a1) (hz.below hW) h1 (by omega)).mono ?_
    exact fun e w' ⟨v, h1, h2, h3⟩ => ⟨(), v, trivial, h1, h2, h3⟩
  rintro - b2 k2 - - - - -
  repeat' (first | simp (disch := omega) only [sxE, w19_PiecesAlls.E, Nat.reduceAdd, Nat.reduceEqDiff, Nat.reduceMul, Nat.reduceSub, Int.reduceAdd, Int.reduceSub, Int.reduceMul, Int.reduceNeg, Int.reduceLT, Int.reduceLE, Int.reduceEq, Int.reduceToNat, ↓reduceIte, Int.reducePow, Nat.reduceLeDiff, Nat.reduceLT, ne_eq, eq_self, List.length_cons, List.length_nil, qxE] | (with_reducible refine cregF ?_))
  refine asks_rowB (e := 75) (s := 24) (ι := Unit) (fun _ => True) (fun _ => (piecz t ss).length) (fun _ => pcells (piecz t ss)) (fun _ v => .tuple #[v, .int .i64 (perz t ss)]) en_pieces_All rfl (fun W hW hok => ?_) ?_
  · refine (pc_all (t := t) (sls_own (hok (.g (wK 58 2 (.slice al ss.length cl_) ss.length (scells ss))) (by repeat (first | with_reducible exact List.mem_cons_self | refine List.mem_cons_of_mem _ ?_))) hin) it (by omega)).mono ?_
    exact fun e w' ⟨v, h1, h2, h3⟩ => ⟨(), v, trivial, h1, h2, h3⟩
  rintro - b3 k3 - - - - -
  repeat' (first | simp (disch := omega) only [sxE, w19_PiecesAlls.E, Nat.reduceAdd, Nat.reduceEqDiff, Nat.reduceMul, Nat.reduceSub, Int.reduceAdd, Int.reduceSub, Int.reduceMul, Int.reduceNeg, Int.reduceLT, Int.reduceLE, Int.reduceEq, Int.reduceToNat, ↓reduceIte, Int.reducePow, Nat.reduceLeDiff, Nat.reduceLT, ne_eq, eq_self, List.length_cons, List.length_nil, qxE] | (with_reducible refine cregF ?_))
  refine asks_rowB (e := 75) (s := 24) (ι := Unit) (fun _ => True) (fun _ => (piecz t ss).length) (fun _ => pcells (piecz t ss)) (fun _ v => .tuple #[v, .int .i64 (perz t ss)]) en_r19_All rfl (fun W hW hok => ?_) ?_
  · refine (rx_pcall (t := t) (sls_own (hok (.g (wK 58 2 (.slice al ss.length cl_) ss.length (scells ss))) (by repeat (first | with_reducible exact List.mem_cons_self | refine List.mem_cons_of_mem _ ?_))) hin) it (by omega)).mono ?_
    exact fun e w' ⟨v, h1, h2, h3⟩ => ⟨(), v, trivial, h1, h2, h3⟩
  rintro - b4 k4 - - - - -
  clear hz h0 h1 h2 hin it hb0
  generalize piecz a1 z0 = A1 at *
  generalize piecz t ss = A2 at *
  generalize perz a1 z0 = E1 at *
  generalize perz t ss = E2 at *
  
  
  
  
  repeat' (first | simp (disch := omega) only [sxE, w19_PiecesAlls.E, Nat.reduceAdd, Nat.reduceEqDiff, Nat.reduceMul, Nat.reduceSub, Int.reduceAdd, Int.reduceSub, Int.reduceMul, Int.reduceNeg, Int.reduceLT, Int.reduceLE, Int.reduceEq, Int.reduceToNat, ↓reduceIte, Int.reducePow, Nat.reduceLeDiff, Nat.reduceLT, ne_eq, eq_self, List.length_cons, List.length_nil, qxE, beq_self_eq_true] | (with_reducible refine Sx.call_at (f := 36) (fun W hW => kn W) ?_) | (with_reducible refine cregF ?_))
  refine asks_ext (fun W hW hok => gives_known en_r19_Same (rx_same19 (hok (.g (wK 75 24 (.slice b1 A1.length k1) A1.length (pcells A1))) (by repeat (first | with_reducible exact List.mem_cons_self | refine List.mem_cons_of_mem _ ?_))) (hok (.g (wK 75 24 (.slice b2 A1.length k2) A1.length (pcells A1))) (by repeat (first | with_reducible exact List.mem_cons_self | refine List.mem_cons_of_mem _ ?_))))) ?_
  repeat' (first | simp (disch := omega) only [sxE, w19_PiecesAlls.E, Nat.reduceAdd, Nat.reduceEqDiff, Nat.reduceMul, Nat.reduceSub, Int.reduceAdd, Int.reduceSub, Int.reduceMul, Int.reduceNeg, Int.reduceLT, Int.reduceLE, Int.reduceEq, Int.reduceToNat, ↓reduceIte, Int.reducePow, Nat.reduceLeDiff, Nat.reduceLT, ne_eq, eq_self, List.length_cons, List.length_nil, qxE, beq_self_eq_true] | (with_reducible refine cregF ?_))
  refine asks_ext (fun W hW hok => gives_known en_r19_Same (rx_same19 (hok (.g (wK 75 24 (.slice b3 A2.length k3) A2.length (pcells A2))) (by repeat (first | with_reducible exact List.mem_cons_self | refine List.mem_cons_of_mem _ ?_))) (hok (.g (wK 75 24 (.slice b4 A2.length k4) A2.length (pcells A2))) (by repeat (first | with_reducible exact List.mem_cons_self | refine List.mem_cons_of_mem _ ?_))))) ?_
  repeat' (first | simp (disch := omega) only [sxE, w19_PiecesAlls.E, Nat.reduceAdd, Nat.reduceEqDiff, Nat.reduceMul, Nat.reduceSub, Int.reduceAdd, Int.reduceSub, Int.reduceMul, Int.reduceNeg, Int.reduceLT, Int.reduceLE, Int.reduceEq, Int.reduceToNat, ↓reduceIte, Int.reducePow, Nat.reduceLeDiff, Nat.reduceLT, ne_eq, eq_self, List.length_cons, List.length_nil, qxE, beq_self_eq_true] | (with_reducible refine cregF ?_))
/-! ### The row -/
set_option maxRecDepth 100000 in
theorem lifted (os : Os) (started : os.Started) (H : Type) (enc : TypeId × Value → H) :
    ReturnsInHanded {} Tryz.checked os 6 .any (Rows.piecesAllsSpec.pre6 enc Tryz.prog Tryz.f6 Rows.piecesAllsRow.domain false) (Rows.piecesAllsSpec.post enc Tryz.prog Tryz.f6 false true false false) := by
  refine returnsInHanded_of_change_sized (C := Tryz.checked) own started (by kernel_rfl) Tryz.func6
    (ChangeSpec.witness6 (enc := enc) (C := Tryz.checked) false ⟨#[], #[.slice none 0 0, .int .i64 0, .slice none 0 0], []⟩ 8 (by kernel_rfl) (by kernel_rfl) (by kernel_rfl) (by kernel_rfl)) ?_
  intro W base args ds gs before hval0 hW hcnd hsz _
  have hval : ∀ (j : Nat) t v, Tryz.f6.params[j]? = some t → args[j]? = some v → Value.okWide Tryz.prog W .any base t v := hval0
  have hW' := hW
  obtain ⟨p, q, hA0, hV, rfl, hfz, hnd⟩ := hW
  have hA : DataW.TrodAll enc Tryz.prog W 0 (fun _ => true) true Tryz.f6.params.toList args.toList ds p := hA0
  rw [Tryz.params6] at hA hval
  obtain ⟨v0, vs0, d0, ds0, p0, q0, hargs, rfl, rfl, g0, r0⟩ := trodAll_cons hA
  obtain ⟨v1, vs1, d1, ds1, p1, q1, rfl, rfl, rfl, g1, r1⟩ := trodAll_cons r0
  obtain ⟨v2, vs2, d2, ds2, p2, q2, rfl, rfl, rfl, g2, r2⟩ := trodAll_cons r1
  obtain ⟨rfl, rfl, rfl⟩ := trodAll_nil r2
  obtain rfl : args = #[v0, v1, v2] := by cases args; simp_all
  obtain ⟨rfl, rfl⟩ := trodVars_none hV
  have hlt : ∀ x ∈ (p0 ++ (p1 ++ (p2 ++ []))) ++ [], x.block < W.heap.size := fun x hx => hW'.lt x hx
  obtain ⟨z0, hs0, hd0⟩ := open_slsn (hval 0 27 v0 rfl rfl) g0 (fun x hx => hlt x (by simp [hx]))
  have hs0' := hs0
  obtain ⟨s0, c0, rfl, _⟩ := hs0'
  have hb0 : 16 * z0.length ≤ 140737488351232 := by
    rcases hd0 with rfl | ⟨es, sp, rfl, el⟩
    · decide
    · have hr := sized_slice hsz (j := 0) (t := 27) (e := 58) rfl rfl Tryz.underlying27
      rw [show Tryz.checked.prog.bytesOf 58 = 16 by kernel_rfl] at hr
      simp only [reachBytes] at hr
      omega
  obtain ⟨a1, rfl, rfl, rfl, w1⟩ := open_int Tryz.underlying2 (hval 1 2 v1 rfl rfl) g1
  obtain ⟨z2, hs2⟩ := open_slz Tryz.underlying24 Tryz.underlying3 (by kernel_rfl) (hval 2 24 v2 rfl rfl) g2 (fun x hx => hlt x (by simp [hx]))
  have hs2' := hs2
  obtain ⟨s2, l2, c2, rfl, _⟩ := hs2'
  refine (walk W s0 _ c0 z0 hs0 hb0 a1 (I64.of_wf w1) s2 l2 c2 z2 hs2).mono fun e W' ⟨he, hb⟩ => ?_
  subst he
  exact ⟨_, rfl, law_post laidOut (by kernel_rfl) rfl rfl Tryz.underlying4 hW' rfl rfl rfl hb⟩

theorem over : Rows.piecesAllsRow.holds Tryz.pinned (OpenSpec.ofChange Rows.piecesAllsSpec) :=
  OpenClaim.holds_of_wide 6 Tryz.f6 rfl rfl rfl rfl rfl rfl rfl ⟨rfl, rfl, rfl, rfl, rfl⟩ rfl rfl rfl rfl rfl (by kernel_rfl) Tryz.func6 (by kernel_rfl)
    (of_decide_eq_true (by kernel_rfl)) (by unfold Func.isWrapper; first | (rw [if_pos (by decide +kernel)]; kernel_rfl) | (rw [if_neg (by decide +kernel)]; exact ⟨rfl, rfl⟩))
    (fun os started H enc _ => lifted os started H enc)

/-- The given statement. -/
theorem proved : Rows.PiecesAllsSaid :=
  over
#print axioms proved
end Go.Proofs.YtncmmbacoknefaaGreat.piecesAlls

