/- Several texts in one: Pf, Kp, Pc, Pl. -/
import Derived.Test.YtncmmbacoknefaaGreatPn5
set_option linter.defProp false

/- Pf: pieces: the reference's Step, Finish, All and Same. -/
namespace Go.Proofs.YtncmmbacoknefaaGreat
open Go Go.RowKit Sx
set_option linter.unusedVariables false
set_option linter.unusedSimpArgs false
theorem pcells_1 (ls : List PcV) : all1 (pcells ls) = true := by
 induction ls with
 | nil => rfl
 | cons x l ih =>
  show all1 (pcell x ++ pcells l) = true
  rw [all1_app, ih]
  rfl
def pstz (s : PcS) (xt xv : Int) : Value × List PcV × Int := if 0 < s.n ∧ xt ≤ s.L then (pcZ 0, [], 7) else if 1073741824 ≤ s.i + s.n then (pcZ 0, [], 3) else (pcv (pcn s xt xv), pce s xt xv, 0)
theorem pstz_ok {s : PcS} {xt xv : Int} (h1 : ¬ (0 < s.n ∧ xt ≤ s.L)) (h2 : ¬ 1073741824 ≤ s.i + s.n) : pstz s xt xv = (pcv (pcn s xt xv), pce s xt xv, 0) := by
 unfold pstz
 rw [if_neg h1, if_neg h2]
def PtpB (w : World) (r : Value × List PcV × Int) (en : Ending) (w' : World) : Prop := ∃ v, en = .returned (.tuple #[r.1, v, .int .i64 r.2.2]) ∧ w'.ownsRow w.heap.size 75 24 v r.2.1.length (pcells r.2.1) ∧ Below w.heap.size w w'
set_option maxRecDepth 100000 in
theorem rx_pcfin {w : World} {s : PcS} (h : PcG s) : Calls Tryz.prog 90 #[pcv s] w (PllB w (pcl s) 0) := by
 refine (enterX Tryz.func90 r19_Finish.ok (args := [pcv s]) (R := fun u X => ∃ v L, u = .tuple #[v, .int .i64 0] ∧ X = kX w.heap.size L ∧ rowOf L 75 24 v (pcl s).length (pcells (pcl s))) (by simp) ?run).mono ?fin
 case fin =>
  rintro e w' ⟨u, X, rfl, ⟨v, L, rfl, rfl, hr⟩, hX, hbl, -⟩
  exact ⟨v, rfl, hr.own hX, hbl⟩
 case run =>
  have kv := fun W => rx_pcvalid h W
  by_cases hn : 0 < s.n
  ·have e : pcl s = [⟨s.i, s.n, s.k, s.c⟩] := if_pos hn
   rw [e]
   clear e h
   obtain ⟨st, si, sn, sT, sV, sL, sk, ⟨o, p, q, p1, q1⟩⟩ := s
   dsimp only at *
   repeat' (first | simp (disch := omega) only [sxE, r19_Finish.E, Nat.reduceAdd, Nat.reduceEqDiff, Nat.reduceMul, Nat.reduceSub, Int.reduceAdd, Int.reduceSub, Int.reduceMul, Int.reduceNeg, Int.reduceLT, Int.reduceLE, Int.reduceEq, Int.reduceToNat, ↓reduceIte, Int.reducePow, Nat.reduceLeDiff, Nat.reduceLT, ne_eq, eq_self, List.length_cons, List.length_nil, qxE, kxE, Bool.not_true, Bool.not_false] | (with_reducible refine Sx.call_at (f := 123) (fun W hW => kv W) ?_) | (refine genA_w (L := []) (cs := pcell ⟨si, sn, sk, ⟨o, p, q, p1, q1⟩⟩) (e := 75) (s := 24) (n := 1) (kX_nil _) (by simp [maxLen]) rfl (fun W => by kernel_rfl) fun b hb => ?_) | (with_reducible refine cregF ?_))
   exact ⟨_, _, rfl, rfl, .inr (List.mem_singleton.2 rfl)⟩
  ·have e : pcl s = [] := if_neg hn
   rw [e]
   have hz : s.n = 0 := by have := h.n0; omega
   rw [h.z hz, pcv_y] at kv ⊢
   generalize s.t = t at *
   generalize s.i = i0 at *
   clear e h hn hz
   repeat' (first | simp (disch := omega) only [sxE, r19_Finish.E, Nat.reduceAdd, Nat.reduceEqDiff, Nat.reduceMul, Nat.reduceSub, Int.reduceAdd, Int.reduceSub, Int.reduceMul, Int.reduceNeg, Int.reduceLT, Int.reduceLE, Int.reduceEq, Int.reduceToNat, ↓reduceIte, Int.reducePow, Nat.reduceLeDiff, Nat.reduceLT, ne_eq, eq_self, List.length_cons, List.length_nil, qxE, kxE, Bool.not_true, beq_self_eq_true] | (with_reducible refine Sx.call_at (f := 123) (fun W hW => kv W) ?_) | (with_reducible refine cregF ?_))
   exact ⟨.slice none 0 0, [], rfl, kX_nil _, .inl ⟨rfl, rfl, rfl⟩⟩
set_option maxRecDepth 100000 in
set_option maxHeartbeats 2000000 in
theorem rx_pcstep {w : World} {s : PcS} {xt xv : Int} (h : PcG s) (hxt : I64 xt) (hxv : I64 xv) : Calls Tryz.prog 89 #[pcv s, .agg #[.int .i64 xt, .int .i64 xv]] w (PtpB w (pstz s xt xv)) := by
 refine (enterX Tryz.func89 r19_Step.ok (args := [pcv s, .agg #[.int .i64 xt, .int .i64 xv]]) (R := fun u X => ∃ v L, u = .tuple #[(pstz s xt xv).1, v, .int .i64 (pstz s xt xv).2.2] ∧ X = kX w.heap.size L ∧ rowOf L 75 24 v (pstz s xt xv).2.1.length (pcells (pstz s xt xv).2.1)) (by simp) ?run).mono ?fin
 case fin =>
  rintro e w' ⟨u, X, rfl, ⟨v, L, rfl, rfl, hr⟩, hX, hbl, -⟩
  exact ⟨v, rfl, hr.own hX, hbl⟩
 case run =>
  have kv := fun W => rx_pcvalid h W
  obtain ⟨t0, t1⟩ := tolz_iff.1 h.t
  have it : I64 s.t := ⟨by omega, by omega⟩
  have i1 := h.i1
  have i0 := h.i0
  have kb := fun W => rx_pcbegin (s := s) it h.i0 h.i1 h.n0 h.n1 (xt := xt) hxv W
  have m1 := h.n1
  have m0 := h.n0
  by_cases hn : 0 < s.n
  ·by_cases hle : xt ≤ s.L
   ·have e : pstz s xt xv = (pcZ 0, [], 7) := if_pos ⟨hn, hle⟩
    rw [e]
    clear e h kb
    obtain ⟨st, si, sn, sT, sV, sL, sk, ⟨o, p, q, p1, q1⟩⟩ := s
    dsimp only at *
    repeat' (first | simp (disch := omega) only [sxE, r19_Step.E, Nat.reduceAdd, Nat.reduceEqDiff, Nat.reduceMul, Nat.reduceSub, Int.reduceAdd, Int.reduceSub, Int.reduceMul, Int.reduceNeg, Int.reduceLT, Int.reduceLE, Int.reduceEq, Int.reduceToNat, ↓reduceIte, Int.reducePow, Nat.reduceLeDiff, Nat.reduceLT, ne_eq, eq_self, List.length_cons, List.length_nil, qxE, kxE, Bool.not_true] | (with_reducible refine Sx.call_at (f := 123) (fun W hW => kv W) ?_) | (with_reducible refine cregF ?_))
    exact ⟨.slice none 0 0, [], rfl, kX_nil _, .inl ⟨rfl, rfl, rfl⟩⟩
   ·by_cases hmax : 1073741824 ≤ s.i + s.n
    ·have e : pstz s xt xv = (pcZ 0, [], 3) := by unfold pstz; rw [if_neg (fun h => hle h.2), if_pos hmax]
     rw [e]
     clear e h kb
     obtain ⟨st, si, sn, sT, sV, sL, sk, ⟨o, p, q, p1, q1⟩⟩ := s
     dsimp only at *
     repeat' (first | simp (disch := omega) only [sxE, r19_Step.E, Nat.reduceAdd, Nat.reduceEqDiff, Nat.reduceMul, Nat.reduceSub, Int.reduceAdd, Int.reduceSub, Int.reduceMul, Int.reduceNeg, Int.reduceLT, Int.reduceLE, Int.reduceEq, Int.reduceToNat, ↓reduceIte, Int.reducePow, Nat.reduceLeDiff, Nat.reduceLT, ne_eq, eq_self, List.length_cons, List.length_nil, qxE, kxE, Bool.not_true] | (with_reducible refine Sx.call_at (f := 123) (fun W hW => kv W) ?_) | (with_reducible refine cregF ?_))
     exact ⟨.slice none 0 0, [], rfl, kX_nil _, .inl ⟨rfl, rfl, rfl⟩⟩
    ·rw [pstz_ok (fun h => hle h.2) hmax]
     have hc := h.c hn
     have iT := h.T
     have hk := h.k hn
     have hz : ab (s.k * un s.t) < 73786976294838206464 := by rw [hk]; exact ke_small h.V t0 t1
     have iK : I64 s.k := by rw [hk]; exact ke_i64 h.V
     have fi : ∀ W, Calls Tryz.prog 90 #[pcv s] W (PllB W (pcl s) 0) := fun W => rx_pcfin h
     have hTL : s.T ≤ s.L := by
      by_cases h1 : s.n = 1
      ·exact Int.le_of_eq (h.one h1).1.symm
      ·exact Int.le_of_lt (h.more (by omega)).1
     have hx : s.T < xt := by omega
     clear h hk
     obtain ⟨st, si, sn, sT, sV, sL, sk, ⟨o, p, q, p1, q1⟩⟩ := s
     dsimp only at *
     have d1 := fun W => rx_sdist hxt iT (Int.le_of_lt hx) W
     have o1 := fun W => rx_base iK it W
     have fz : Fits (sk * un st) := (bd_mul (bd_i64 iK) (bd_i64 (un_i64 it))).fits
     have iDt : U64 (xt - sT) := ⟨by omega, by have := hxt.2; have := iT.1; omega⟩
     have th := fun W => rx_through fz.rw hxv ⟨by omega, by omega⟩ iDt (eps := st) W
     rw [thV_yes hz t0 t1 (by omega)] at th
     have tp := th_p hz hxv ⟨t0, t1⟩ iDt (by omega)
     have mt := fun W => rx_meet (kv_ok hc) (kv_ok tp.cl.ok) W
     have hsm : pcm ⟨st, si, sn, sT, sV, sL, sk, ⟨o, p, q, p1, q1⟩⟩ xt xv = cmt ⟨o, p, q, p1, q1⟩ ⟨false, mn (xv - sk * un st - st) (xt - sT), mD (xv - sk * un st - st) (xt - sT), mn (xv - sk * un st + st) (xt - sT), mD (xv - sk * un st + st) (xt - sT)⟩ := rfl
     unfold mtV mtv at mt
     rw [Bool.true_and, if_pos rfl] at mt
     have hE1 : pcn ⟨st, si, sn, sT, sV, sL, sk, ⟨o, p, q, p1, q1⟩⟩ xt xv = if pcg ⟨st, si, sn, sT, sV, sL, sk, ⟨o, p, q, p1, q1⟩⟩ xt xv = true then ⟨st, si, sn + 1, sT, sV, xt, sk, (pcm ⟨st, si, sn, sT, sV, sL, sk, ⟨o, p, q, p1, q1⟩⟩ xt xv).1⟩ else pcb st (si + sn) xt xv := rfl
     have hE2 : pce ⟨st, si, sn, sT, sV, sL, sk, ⟨o, p, q, p1, q1⟩⟩ xt xv = if pcg ⟨st, si, sn, sT, sV, sL, sk, ⟨o, p, q, p1, q1⟩⟩ xt xv = true then [] else pcl ⟨st, si, sn, sT, sV, sL, sk, ⟨o, p, q, p1, q1⟩⟩ := rfl
     have hE3 : pcg ⟨st, si, sn, sT, sV, sL, sk, ⟨o, p, q, p1, q1⟩⟩ xt xv = (pcm ⟨st, si, sn, sT, sV, sL, sk, ⟨o, p, q, p1, q1⟩⟩ xt xv).2 := by unfold pcg; rw [decide_eq_true hn, Bool.true_and]
     have hE4 : pcl ⟨st, si, sn, sT, sV, sL, sk, ⟨o, p, q, p1, q1⟩⟩ = [⟨si, sn, sk, ⟨o, p, q, p1, q1⟩⟩] := if_pos hn
     rw [hE4] at hE2 fi
     rw [hsm] at hE1 hE3
     clear tp hsm hE4
     generalize sk * un st = B0 at *
     generalize mn (xv - B0 - st) (xt - sT) = a1 at *
     generalize mD (xv - B0 - st) (xt - sT) = a2 at *
     generalize mn (xv - B0 + st) (xt - sT) = a3 at *
     generalize mD (xv - B0 + st) (xt - sT) = a4 at *
     generalize cmt ⟨o, p, q, p1, q1⟩ ⟨false, a1, a2, a3, a4⟩ = M at *
     obtain ⟨⟨mo, mp, mq, mp1, mq1⟩, mb⟩ := M
     dsimp only at hE1 hE3 mt
     have mt : ∀ W, Gives Tryz.prog 45 [KX o p q p1 q1, KX false a1 a2 a3 a4] W (· = .tuple #[KX mo mp mq mp1 mq1, .bool mb]) := mt
     cases mb
     ·rw [if_neg (by rw [hE3]; decide)] at hE1 hE2
      rw [hE1, hE2]
      clear hE1 hE2 hE3 hc hTL
      repeat' (first | simp (disch := omega) only [sxE, r19_Step.E, Nat.reduceAdd, Nat.reduceEqDiff, Nat.reduceMul, Nat.reduceSub, Int.reduceAdd, Int.reduceSub, Int.reduceMul, Int.reduceNeg, Int.reduceLT, Int.reduceLE, Int.reduceEq, Int.reduceToNat, ↓reduceIte, Int.reducePow, Nat.reduceLeDiff, Nat.reduceLT, ne_eq, eq_self, List.length_cons, List.length_nil, qxE, kxE, Bool.not_true, Bool.not_false] | (with_reducible refine Sx.call_at (f := 123) (fun W hW => kv W) ?_) | (with_reducible refine Sx.call_at (f := 41) (fun W hW => o1 W) ?_) | (with_reducible refine Sx.call_at (f := 42) (fun W hW => d1 W) ?_) | (with_reducible refine Sx.call_at (f := 40) (fun W hW => th W) ?_) | (with_reducible refine Sx.call_at (f := 45) (fun W hW => mt W) ?_) | (with_reducible refine cregF ?_))
      refine asks_rowB (L := []) (e := 75) (s := 24) (ι := Unit) (fun _ => True) (fun _ => 1) (fun _ => pcell ⟨si, sn, sk, ⟨o, p, q, p1, q1⟩⟩) (fun _ v => .tuple #[v, .int .i64 0]) en_r19_Finish (kX_nil _) (fun W hW hok => ?_) ?_
      ·refine (fi W).mono ?_
       rintro e w' ⟨v, q1, q2, q3⟩
       rw [pcells_one] at q2
       exact ⟨(), v, trivial, q1, q2, q3⟩
      rintro - a5 c5 - - - - -
      repeat' (first | simp (disch := omega) only [sxE, r19_Step.E, Nat.reduceAdd, Nat.reduceEqDiff, Nat.reduceMul, Nat.reduceSub, Int.reduceAdd, Int.reduceSub, Int.reduceMul, Int.reduceNeg, Int.reduceLT, Int.reduceLE, Int.reduceEq, Int.reduceToNat, ↓reduceIte, Int.reducePow, Nat.reduceLeDiff, Nat.reduceLT, ne_eq, eq_self, List.length_cons, List.length_nil, qxE, kxE, Bool.not_true, Bool.not_false] | (with_reducible refine Sx.call_at (f := 145) (fun W hW => kb W) ?_) | (with_reducible refine cregF ?_))
      exact ⟨_, _, rfl, rfl, .inr (List.mem_singleton.2 rfl)⟩
     ·rw [if_pos hE3] at hE1 hE2
      rw [hE1, hE2]
      clear hE1 hE2 hE3 hc hTL fi kb
      repeat' (first | simp (disch := omega) only [sxE, r19_Step.E, Nat.reduceAdd, Nat.reduceEqDiff, Nat.reduceMul, Nat.reduceSub, Int.reduceAdd, Int.reduceSub, Int.reduceMul, Int.reduceNeg, Int.reduceLT, Int.reduceLE, Int.reduceEq, Int.reduceToNat, ↓reduceIte, Int.reducePow, Nat.reduceLeDiff, Nat.reduceLT, ne_eq, eq_self, List.length_cons, List.length_nil, qxE, kxE, Bool.not_true, Bool.not_false] | (with_reducible refine Sx.call_at (f := 123) (fun W hW => kv W) ?_) | (with_reducible refine Sx.call_at (f := 41) (fun W hW => o1 W) ?_) | (with_reducible refine Sx.call_at (f := 42) (fun W hW => d1 W) ?_) | (with_reducible refine Sx.call_at (f := 40) (fun W hW => th W) ?_) | (with_reducible refine Sx.call_at (f := 45) (fun W hW => mt W) ?_) | (with_reducible refine cregF ?_))
      exact ⟨.slice none 0 0, [], rfl, kX_nil _, .inl ⟨rfl, rfl, rfl⟩⟩
  ·have hz : s.n = 0 := by omega
   by_cases hmax : 1073741824 ≤ s.i + s.n
   ·have e : pstz s xt xv = (pcZ 0, [], 3) := by unfold pstz; rw [if_neg (fun h => hn h.1), if_pos hmax]
    rw [e]
    rw [h.z hz, pcv_y] at kv ⊢
    rw [hz] at hmax
    generalize s.t = t at *
    generalize s.i = i at *
    clear e h hn hz m0 m1 kb
    repeat' (first | simp (disch := omega) only [sxE, r19_Step.E, Nat.reduceAdd, Nat.reduceEqDiff, Nat.reduceMul, Nat.reduceSub, Int.reduceAdd, Int.reduceSub, Int.reduceMul, Int.reduceNeg, Int.reduceLT, Int.reduceLE, Int.reduceEq, Int.reduceToNat, ↓reduceIte, Int.reducePow, Nat.reduceLeDiff, Nat.reduceLT, ne_eq, eq_self, List.length_cons, List.length_nil, qxE, kxE, Bool.not_true, beq_self_eq_true] | (with_reducible refine Sx.call_at (f := 123) (fun W hW => kv W) ?_) | (with_reducible refine cregF ?_))
    exact ⟨.slice none 0 0, [], rfl, kX_nil _, .inl ⟨rfl, rfl, rfl⟩⟩
   have e : pstz s xt xv = (pcv (pcb s.t (s.i + s.n) xt xv), [], 0) := by
    have eg : pcg s xt xv = false := by unfold pcg; rw [decide_eq_false hn]; rfl
    rw [pstz_ok (fun h => hn h.1) hmax]
    unfold pcn pce pcl
    rw [eg, if_neg (by decide), if_neg (by decide), if_neg hn]
   rw [e]
   rw [hz] at hmax
   have ez : s.i + s.n = s.i + 0 := by rw [hz]
   rw [ez] at kb ⊢
   rw [h.z hz, pcv_y] at kv kb ⊢
   generalize s.t = t at *
   generalize s.i = i at *
   clear e h hn hz m0 m1 ez
   repeat' (first | simp (disch := omega) only [sxE, r19_Step.E, Nat.reduceAdd, Nat.reduceEqDiff, Nat.reduceMul, Nat.reduceSub, Int.reduceAdd, Int.reduceSub, Int.reduceMul, Int.reduceNeg, Int.reduceLT, Int.reduceLE, Int.reduceEq, Int.reduceToNat, ↓reduceIte, Int.reducePow, Nat.reduceLeDiff, Nat.reduceLT, ne_eq, eq_self, List.length_cons, List.length_nil, qxE, kxE, Bool.not_true, beq_self_eq_true] | (with_reducible refine Sx.call_at (f := 123) (fun W hW => kv W) ?_) | (with_reducible refine Sx.call_at (f := 145) (fun W hW => kb W) ?_) | (with_reducible refine cregF ?_))
   exact ⟨.slice none 0 0, [], rfl, kX_nil _, .inl ⟨rfl, rfl, rfl⟩⟩
set_option maxRecDepth 100000 in
set_option maxHeartbeats 2000000 in
theorem rx_pcall {w : World} {v : Value} {ss : Smps} {t : Int} (h : SlS w v ss) (hi : I64 t) (hn : 8 * ss.length ≤ 140737488355328) : Calls Tryz.prog 31 #[v, .int .i64 t] w (PllB w (piecz t ss) (perz t ss)) := by
 obtain ⟨a, cap, rfl, h1, h2, h3, h4⟩ := id h
 have h2' := h2
 simp only [maxLen] at h2'
 refine (enterX Tryz.func31 r19_All.ok (args := [.slice a ss.length cap, .int .i64 t]) (R := fun u X => ∃ v L, u = .tuple #[v, .int .i64 (perz t ss)] ∧ X = kX w.heap.size L ∧ rowOf L 75 24 v (piecz t ss).length (pcells (piecz t ss))) (by simp) ?run).mono ?fin
 case fin =>
  rintro e w' ⟨u, X, rfl, ⟨v, L, rfl, rfl, hr⟩, hX, hbl, -⟩
  exact ⟨v, rfl, hr.own hX, hbl⟩
 case run =>
  have k1 := fun W => rx_pcstart hi W
  have c1 : ∀ W, Below w.heap.size w W → Gives Tryz.prog 71 [.slice a ss.length cap] W (· = .int .i64 (if incr ss then 0 else 7)) := fun W hW => gives_known en_r12_Check (r_check (SlS.below h hW) hn)
  by_cases ht : tolz t = true
  ·rw [if_pos ht] at k1
   by_cases hinc : incr ss = true
   ·rw [if_pos hinc] at c1
    by_cases hl : ss.length ≤ 1073741824
    ·obtain ⟨e1, e2⟩ := perz_ok ht hinc hl
     rw [e1, e2]
     clear e1 e2
     repeat' (first | simp (disch := omega) only [sxE, r19_All.E, Nat.reduceAdd, Nat.reduceEqDiff, Nat.reduceMul, Nat.reduceSub, Int.reduceAdd, Int.reduceSub, Int.reduceMul, Int.reduceNeg, Int.reduceLT, Int.reduceLE, Int.reduceEq, Int.reduceToNat, ↓reduceIte, Int.reducePow, Nat.reduceLeDiff, Nat.reduceLT, ne_eq, eq_self, List.length_cons, List.length_nil, qxE] | (with_reducible refine Sx.call_at (f := 58) (fun W hW => k1 W) ?_) | (with_reducible refine cregF ?_))
     refine asks_at (fun W hW => c1 W hW) ?_
     repeat' (first | simp (disch := omega) only [sxE, r19_All.E, Nat.reduceAdd, Nat.reduceEqDiff, Nat.reduceMul, Nat.reduceSub, Int.reduceAdd, Int.reduceSub, Int.reduceMul, Int.reduceNeg, Int.reduceLT, Int.reduceLE, Int.reduceEq, Int.reduceToNat, ↓reduceIte, Int.reducePow, Nat.reduceLeDiff, Nat.reduceLT, ne_eq, eq_self, List.length_cons, List.length_nil, qxE] | (with_reducible refine cregF ?_))
     rw [r19_All.p3_l]
     have HI := fun i hi => pci_at ht h3 hinc i hi
     have t01 := tolz_iff.1 ht
     refine LX_inv (fun x : Nat × Value => ⟨1, [(0, .v (.slice a ss.length cap)), (6, .p 0 0), (8, .v x.2), (9, .v (.int .i64 (x.1 : Int)))], [(0, [.int .i64 (pcf t (ss.take x.1)).1.t, .int .i64 (pcf t (ss.take x.1)).1.i, .int .i64 (pcf t (ss.take x.1)).1.n, .int .i64 (pcf t (ss.take x.1)).1.T, .int .i64 (pcf t (ss.take x.1)).1.V, .int .i64 (pcf t (ss.take x.1)).1.L, .int .i64 (pcf t (ss.take x.1)).1.k, .bool (pcf t (ss.take x.1)).1.c.o, .bool (sg (pcf t (ss.take x.1)).1.c.p), .int .u64 (lb0 (ab (pcf t (ss.take x.1)).1.c.p)), .int .u64 (lb1 (ab (pcf t (ss.take x.1)).1.c.p)), .int .u64 (lb2 (ab (pcf t (ss.take x.1)).1.c.p)), .int .u64 (lb3 (ab (pcf t (ss.take x.1)).1.c.p)), .bool (sg (pcf t (ss.take x.1)).1.c.q), .int .u64 (lb0 (ab (pcf t (ss.take x.1)).1.c.q)), .int .u64 (lb1 (ab (pcf t (ss.take x.1)).1.c.q)), .int .u64 (lb2 (ab (pcf t (ss.take x.1)).1.c.q)), .int .u64 (lb3 (ab (pcf t (ss.take x.1)).1.c.q)), .bool (sg (pcf t (ss.take x.1)).1.c.p1), .int .u64 (lb0 (ab (pcf t (ss.take x.1)).1.c.p1)), .int .u64 (lb1 (ab (pcf t (ss.take x.1)).1.c.p1)), .int .u64 (lb2 (ab (pcf t (ss.take x.1)).1.c.p1)), .int .u64 (lb3 (ab (pcf t (ss.take x.1)).1.c.p1)), .bool (sg (pcf t (ss.take x.1)).1.c.q1), .int .u64 (lb0 (ab (pcf t (ss.take x.1)).1.c.q1)), .int .u64 (lb1 (ab (pcf t (ss.take x.1)).1.c.q1)), .int .u64 (lb2 (ab (pcf t (ss.take x.1)).1.c.q1)), .int .u64 (lb3 (ab (pcf t (ss.take x.1)).1.c.q1))])], kX w.heap.size [.g (wK 75 24 x.2 (pcf t (ss.take x.1)).2.length (pcells (pcf t (ss.take x.1)).2))]⟩) (fun x => x.1 ≤ ss.length) (fun x => ss.length - x.1) ?round (0, .slice none 0 0) (Nat.zero_le _) ?start
     case start =>
      have c0 : ((0 : Nat) : Int) = 0 := rfl
      simp (disch := omega) only [sxE, r19_All.E, Nat.reduceAdd, Nat.reduceEqDiff, Nat.reduceMul, Nat.reduceSub, Int.reduceAdd, Int.reduceSub, Int.reduceMul, Int.reduceNeg, Int.reduceLT, Int.reduceLE, Int.reduceEq, Int.reduceToNat, ↓reduceIte, Int.reducePow, Nat.reduceLeDiff, Nat.reduceLT, ne_eq, eq_self, List.length_cons, List.length_nil, c0]
      refine ⟨?_, ?_⟩
      ·exact (congrArg (fun v : Value => v.cells.toList) (pcv_0 t)).symm
      ·rw [kX_nil w.heap.size]
       refine extS_of (L := []) fun k hk => ?_
       rw [List.mem_singleton.1 hk]
       exact .inr ⟨rfl, fun W => wK_nil _ _ _ W⟩
     case round =>
      rintro ⟨i, v⟩ hi'
      try dsimp only at hi' ⊢
      by_cases hlt : i < ss.length
      ·obtain ⟨b', off, rfl, -, -⟩ := h4 (by omega)
       have hsi := HI i hi'
       have hnx := pci_next hsi ht hlt h3 hinc
       have enx : pcf t (ss.take (i + 1)) = pca (pcf t (ss.take i)) (ss.getD i (0, 0)) := by rw [take_snoc' hlt, pcf_snoc]
       have hx := smp_i64 h3 i
       have e0 : (i : Int) + 1 = ((i + 1 : Nat) : Int) := by omega
       have hG := pci_g hsi ht (by omega)
       have hord : ¬ (0 < (pcf t (ss.take i)).1.n ∧ (ss.getD i (0, 0)).1 ≤ (pcf t (ss.take i)).1.L) := fun ⟨q1, q2⟩ => by
        have hi0 : 0 < i := by have := hsi.n1; omega
        have q3 := (hsi.l hi0).2
        have q4 := of_decide_eq_true hinc (i - 1) (by omega)
        rw [show i - 1 + 1 = i by omega] at q4
        omega
       have hz := pstz_ok (xv := (ss.getD i (0, 0)).2) hord (by have := hsi.ix; omega)
       have hlen := hnx.1.len
       rw [← enx] at hlen
       clear hord hnx
       rw [enx] at hlen
       unfold pca at hlen enx
       generalize hA : pcf t (ss.take i) = A at *
       obtain ⟨⟨st, si, sn, sT, sV, sL, sk, ⟨o, p, q, p1, q1⟩⟩, ls⟩ := A
       clear hA h3 h4 hsi
       dsimp only at hG hlen enx hz ⊢
       rw [List.length_append] at hlen
       repeat' (first | simp (disch := omega) only [sxE, r19_All.E, Nat.reduceAdd, Nat.reduceEqDiff, Nat.reduceMul, Nat.reduceSub, Int.reduceAdd, Int.reduceSub, Int.reduceMul, Int.reduceNeg, Int.reduceLT, Int.reduceLE, Int.reduceEq, Int.reduceToNat, ↓reduceIte, Int.reducePow, Nat.reduceLeDiff, Nat.reduceLT, ne_eq, eq_self, List.length_cons, List.length_nil, qxE] | (with_reducible refine ldP_blk b' ?_; refine ldP_S2 i h ?_ ?_ ?_; omega; omega) | (with_reducible refine cregF ?_))
       refine asks_rowB (L := [.g (wK 75 24 v ls.length (pcells ls))]) (e := 75) (s := 24) (ι := Unit) (fun _ => True) (fun _ => (pce ⟨st, si, sn, sT, sV, sL, sk, ⟨o, p, q, p1, q1⟩⟩ (ss.getD i (0, 0)).1 (ss.getD i (0, 0)).2).length) (fun _ => pcells (pce ⟨st, si, sn, sT, sV, sL, sk, ⟨o, p, q, p1, q1⟩⟩ (ss.getD i (0, 0)).1 (ss.getD i (0, 0)).2)) (fun _ v => .tuple #[pcv (pcn ⟨st, si, sn, sT, sV, sL, sk, ⟨o, p, q, p1, q1⟩⟩ (ss.getD i (0, 0)).1 (ss.getD i (0, 0)).2), v, .int .i64 0]) en_r19_Step rfl (fun W hW hok => ?_) ?_
       ·have := rx_pcstep (w := W) hG hx.1 hx.2
        rw [hz] at this
        exact this.mono fun e w' ⟨v, h1, h2, h3⟩ => ⟨(), v, trivial, h1, h2, h3⟩
       rintro - a2 c2 - - - - -
       generalize pce ⟨st, si, sn, sT, sV, sL, sk, ⟨o, p, q, p1, q1⟩⟩ (ss.getD i (0, 0)).1 (ss.getD i (0, 0)).2 = es at *
       generalize pcn ⟨st, si, sn, sT, sV, sL, sk, ⟨o, p, q, p1, q1⟩⟩ (ss.getD i (0, 0)).1 (ss.getD i (0, 0)).2 = s' at *
       clear hz hG hx
       obtain ⟨st', si', sn', sT', sV', sL', sk', ⟨o', p', q', p1', q1'⟩⟩ := s'
       repeat' (first | simp (disch := omega) only [sxE, r19_All.E, Nat.reduceAdd, Nat.reduceEqDiff, Nat.reduceMul, Nat.reduceSub, Int.reduceAdd, Int.reduceSub, Int.reduceMul, Int.reduceNeg, Int.reduceLT, Int.reduceLE, Int.reduceEq, Int.reduceToNat, ↓reduceIte, Int.reducePow, Nat.reduceLeDiff, Nat.reduceLT, ne_eq, eq_self, List.length_cons, List.length_nil, qxE] | (refine genA_appR rfl [] elt_piece rfl (.inr (List.mem_cons_of_mem _ List.mem_cons_self)) (.inr List.mem_cons_self) (.inl fun _ h => h) (pcells_1 _) (by simp only [maxLen]; omega) (by omega) (fun k hk => by cases hk) fun a3 c3 _ _ _ _ => ?_) | (with_reducible refine cregF ?_))
       rw [e0]
       refine ⟨(i + 1, .slice a3 (ls.length + es.length) c3), by dsimp only; omega, by dsimp only; omega, ⟨rfl, rfl⟩, ?_, .inl ?_⟩
       ·dsimp only
        rw [enx]
       ·dsimp only
        rw [enx]
        dsimp only
        rw [List.length_append, pcells_app]
      ·obtain rfl : i = ss.length := by omega
       have hsi := HI _ (Nat.le_refl _)
       rw [List.take_length] at hsi ⊢
       have hG := pci_g hsi ht hl
       have hlen := hsi.len
       have hll := pcl_len (pcf t ss).1
       unfold pcall
       generalize hA : pcf t ss = A at *
       obtain ⟨⟨st, si, sn, sT, sV, sL, sk, ⟨o, p, q, p1, q1⟩⟩, ls⟩ := A
       clear hA h3 h4 hsi
       dsimp only at hG hlen hll ⊢
       repeat' (first | simp (disch := omega) only [sxE, r19_All.E, Nat.reduceAdd, Nat.reduceEqDiff, Nat.reduceMul, Nat.reduceSub, Int.reduceAdd, Int.reduceSub, Int.reduceMul, Int.reduceNeg, Int.reduceLT, Int.reduceLE, Int.reduceEq, Int.reduceToNat, ↓reduceIte, Int.reducePow, Nat.reduceLeDiff, Nat.reduceLT, ne_eq, eq_self, List.length_cons, List.length_nil, qxE] | (with_reducible refine cregF ?_))
       refine asks_rowB (L := [.g (wK 75 24 v ls.length (pcells ls))]) (e := 75) (s := 24) (ι := Unit) (fun _ => True) (fun _ => (pcl ⟨st, si, sn, sT, sV, sL, sk, ⟨o, p, q, p1, q1⟩⟩).length) (fun _ => pcells (pcl ⟨st, si, sn, sT, sV, sL, sk, ⟨o, p, q, p1, q1⟩⟩)) (fun _ v => .tuple #[v, .int .i64 0]) en_r19_Finish rfl (fun W hW hok => ?_) ?_
       ·exact (rx_pcfin (w := W) hG).mono fun e w' ⟨v, h1, h2, h3⟩ => ⟨(), v, trivial, h1, h2, h3⟩
       rintro - a2 c2 - - - - -
       generalize pcl ⟨st, si, sn, sT, sV, sL, sk, ⟨o, p, q, p1, q1⟩⟩ = es at *
       clear hG
       repeat' (first | simp (disch := omega) only [sxE, r19_All.E, Nat.reduceAdd, Nat.reduceEqDiff, Nat.reduceMul, Nat.reduceSub, Int.reduceAdd, Int.reduceSub, Int.reduceMul, Int.reduceNeg, Int.reduceLT, Int.reduceLE, Int.reduceEq, Int.reduceToNat, ↓reduceIte, Int.reducePow, Nat.reduceLeDiff, Nat.reduceLT, ne_eq, eq_self, List.length_cons, List.length_nil, qxE] | (refine genA_appR rfl [] elt_piece rfl (.inr (List.mem_cons_of_mem _ List.mem_cons_self)) (.inr List.mem_cons_self) (.inl fun _ h => h) (pcells_1 _) (by simp only [maxLen]; omega) (by omega) (fun k hk => by cases hk) fun a3 c3 _ _ _ _ => ?_) | (with_reducible refine cregF ?_))
       refine ⟨_, _, rfl, rfl, .inr ?_⟩
       rw [List.length_append, pcells_app]
       exact List.mem_singleton.2 rfl
    ·obtain ⟨e1, e2⟩ := perz_lim ht hinc hl
     rw [e1, e2]
     clear e1 e2
     repeat' (first | simp (disch := omega) only [sxE, r19_All.E, Nat.reduceAdd, Nat.reduceEqDiff, Nat.reduceMul, Nat.reduceSub, Int.reduceAdd, Int.reduceSub, Int.reduceMul, Int.reduceNeg, Int.reduceLT, Int.reduceLE, Int.reduceEq, Int.reduceToNat, ↓reduceIte, Int.reducePow, Nat.reduceLeDiff, Nat.reduceLT, ne_eq, eq_self, List.length_cons, List.length_nil, qxE] | (with_reducible refine Sx.call_at (f := 58) (fun W hW => k1 W) ?_) | (with_reducible refine cregF ?_))
     refine asks_at (fun W hW => c1 W hW) ?_
     repeat' (first | simp (disch := omega) only [sxE, r19_All.E, Nat.reduceAdd, Nat.reduceEqDiff, Nat.reduceMul, Nat.reduceSub, Int.reduceAdd, Int.reduceSub, Int.reduceMul, Int.reduceNeg, Int.reduceLT, Int.reduceLE, Int.reduceEq, Int.reduceToNat, ↓reduceIte, Int.reducePow, Nat.reduceLeDiff, Nat.reduceLT, ne_eq, eq_self, List.length_cons, List.length_nil, qxE] | (with_reducible refine cregF ?_))
     exact ⟨.slice none 0 0, [], rfl, kX_nil _, .inl ⟨rfl, rfl, rfl⟩⟩
   ·obtain ⟨e1, e2⟩ := perz_inc ht (Bool.eq_false_iff.2 hinc)
    rw [if_neg hinc] at c1
    rw [e1, e2]
    clear e1 e2
    repeat' (first | simp (disch := omega) only [sxE, r19_All.E, Nat.reduceAdd, Nat.reduceEqDiff, Nat.reduceMul, Nat.reduceSub, Int.reduceAdd, Int.reduceSub, Int.reduceMul, Int.reduceNeg, Int.reduceLT, Int.reduceLE, Int.reduceEq, Int.reduceToNat, ↓reduceIte, Int.reducePow, Nat.reduceLeDiff, Nat.reduceLT, ne_eq, eq_self, List.length_cons, List.length_nil, qxE] | (with_reducible refine Sx.call_at (f := 58) (fun W hW => k1 W) ?_) | (with_reducible refine cregF ?_))
    refine asks_at (fun W hW => c1 W hW) ?_
    repeat' (first | simp (disch := omega) only [sxE, r19_All.E, Nat.reduceAdd, Nat.reduceEqDiff, Nat.reduceMul, Nat.reduceSub, Int.reduceAdd, Int.reduceSub, Int.reduceMul, Int.reduceNeg, Int.reduceLT, Int.reduceLE, Int.reduceEq, Int.reduceToNat, ↓reduceIte, Int.reducePow, Nat.reduceLeDiff, Nat.reduceLT, ne_eq, eq_self, List.length_cons, List.length_nil, qxE] | (with_reducible refine cregF ?_))
    exact ⟨.slice none 0 0, [], rfl, kX_nil _, .inl ⟨rfl, rfl, rfl⟩⟩
  ·obtain ⟨e1, e2⟩ := perz_tol (ss := ss) (Bool.eq_false_iff.2 ht)
   rw [if_neg ht] at k1
   rw [e1, e2]
   clear e1 e2
   repeat' (first | simp (disch := omega) only [sxE, r19_All.E, Nat.reduceAdd, Nat.reduceEqDiff, Nat.reduceMul, Nat.reduceSub, Int.reduceAdd, Int.reduceSub, Int.reduceMul, Int.reduceNeg, Int.reduceLT, Int.reduceLE, Int.reduceEq, Int.reduceToNat, ↓reduceIte, Int.reducePow, Nat.reduceLeDiff, Nat.reduceLT, ne_eq, eq_self, List.length_cons, List.length_nil, qxE] | (with_reducible refine Sx.call_at (f := 58) (fun W hW => k1 W) ?_) | (with_reducible refine cregF ?_))
   exact ⟨.slice none 0 0, [], rfl, kX_nil _, .inl ⟨rfl, rfl, rfl⟩⟩
theorem guardT_piece : Tryz.prog.eqGuardType Tryz.prog.depth 75 = false := by kernel_rfl
theorem eq_piece_self (I N k : Int) (o : Bool) (n : Bool) (a b c d : Int) (n1 : Bool) (a1 b1 c1 d1 : Int) (m : Bool) (e f g h : Int) (m1 : Bool) (e1 f1 g1 h1 : Int) (w : World) :
  (Op.equalIn 10000 75 (.agg #[.int .i64 I, .int .i64 N, .int .i64 k, .bool o, .bool n, .int .u64 a, .int .u64 b, .int .u64 c, .int .u64 d, .bool n1, .int .u64 a1, .int .u64 b1, .int .u64 c1, .int .u64 d1, .bool m, .int .u64 e, .int .u64 f, .int .u64 g, .int .u64 h, .bool m1, .int .u64 e1, .int .u64 f1, .int .u64 g1, .int .u64 h1]) (.agg #[.int .i64 I, .int .i64 N, .int .i64 k, .bool o, .bool n, .int .u64 a, .int .u64 b, .int .u64 c, .int .u64 d, .bool n1, .int .u64 a1, .int .u64 b1, .int .u64 c1, .int .u64 d1, .bool m, .int .u64 e, .int .u64 f, .int .u64 g, .int .u64 h, .bool m1, .int .u64 e1, .int .u64 f1, .int .u64 g1, .int .u64 h1])).run Tryz.prog w = .ok true w := by
 have E := fun W => eq_cone9_self o n a b c d n1 a1 b1 c1 d1 m e f g h m1 e1 f1 g1 h1 W
 unfold KR at E
 simp [go_sem, E]
theorem eqp_run {ng : Bool} {xo yo : Operand} (x : PcV) (W : World) :
  ((do eqGuard (if ng then .neq else .eql) 75 xo yo (.agg (pcell x).toArray) (.agg (pcell x).toArray); binOp (if ng then .neq else .eql) 75 (.agg (pcell x).toArray) (.agg (pcell x).toArray)) : Sem Value).run Tryz.prog W = .ok (.bool (!ng)) W :=
 (eqb_run (ng := ng) (xo := xo) (yo := yo) guardT_piece (eq_piece_self _ _ _ _ _ _ _ _ _ _ _ _ _ _ _ _ _ _ _ _ _ _ _ _ W)).trans (by cases ng <;> rfl)
theorem ldP_oP {C : Sx.Cx} {S : Sx.St} {K : Sx.St → Prop} {d : Option Nat} {e : TypeId} {base g n cap o : Nat} {ls : List PcV} (i : Nat) (h : C.w0.ownsRow base e 24 (.slice (some ⟨g, 0, none⟩) n cap) n (pcells ls)) (ho : o = 24 * i) (hi : i < ls.length)
  (hk : K (S.put d (.v (Sx.mk true (pcell (ls.getD i pc_0)))))) : Sx.ldP C true 24 ⟨g, o, none⟩ d K S := by
 subst ho
 refine ldP_own (b := true) (l := pcell (ls.getD i pc_0)) h rfl (fun j v hj => ?_) hk
 rw [pcells_at hi (by have := (List.getElem?_eq_some_iff.1 hj).1; exact this)]
 exact hj
set_option maxRecDepth 100000 in
theorem rx_same19 {w : World} {v v' : Value} {ls : List PcV} {B B' : Nat} (h : w.ownsRow B 75 24 v ls.length (pcells ls)) (h' : w.ownsRow B' 75 24 v' ls.length (pcells ls)) : Calls Tryz.prog 37 #[v, v'] w fun e w' => e = .returned (.bool true) ∧ Below w.heap.size w w' := by
 obtain ⟨a, cap, rfl, c1, c2, c3⟩ := row_form h
 obtain ⟨a', cap', rfl, d1, d2, d3⟩ := row_form h'
 simp only [maxLen] at c2
 refine known_of (enter Tryz.func37 r19_Same.ok (args := [_, _]) (by simp) ?_)
 repeat' (first | simp (disch := omega) only [sxE, r19_Same.E, Nat.reduceAdd, Nat.reduceEqDiff, Nat.reduceMul, Nat.reduceSub, Int.reduceAdd, Int.reduceSub, Int.reduceMul, Int.reduceNeg, Int.reduceLT, Int.reduceLE, Int.reduceEq, Int.reduceToNat, ↓reduceIte, Int.reducePow, Nat.reduceLeDiff, Nat.reduceLT, ne_eq, eq_self, List.length_cons, List.length_nil, qxE, beq_self_eq_true, Bool.not_true] | (with_reducible refine cregF ?_))
 rw [r19_Same.p2_l]
 refine LX_inv (fun i : Nat => ⟨0, [(0, .v (.slice a ls.length cap)), (1, .v (.slice a' ls.length cap')), (5, .v (.int .i64 (i : Int)))], [], ext0⟩) (fun i => i ≤ ls.length) (fun i => ls.length - i) ?round 0 (Nat.zero_le _) ?start
 case start =>
  have c0 : ((0 : Nat) : Int) = 0 := rfl
  simp (disch := omega) only [sxE, r19_Same.E, Nat.reduceAdd, Nat.reduceEqDiff, Nat.reduceMul, Nat.reduceSub, Int.reduceAdd, Int.reduceSub, Int.reduceMul, Int.reduceNeg, Int.reduceLT, Int.reduceLE, Int.reduceEq, Int.reduceToNat, ↓reduceIte, Int.reducePow, Nat.reduceLeDiff, Nat.reduceLT, ne_eq, eq_self, List.length_cons, List.length_nil, c0]
 case round =>
  intro i hi
  by_cases hlt : i < ls.length
  ·obtain ⟨g, rfl⟩ := c3 (by omega)
   obtain ⟨g', rfl⟩ := d3 (by omega)
   have e0 : (i : Int) + 1 = ((i + 1 : Nat) : Int) := by omega
   repeat' (first | simp (disch := omega) only [sxE, r19_Same.E, Nat.reduceAdd, Nat.reduceEqDiff, Nat.reduceMul, Nat.reduceSub, Int.reduceAdd, Int.reduceSub, Int.reduceMul, Int.reduceNeg, Int.reduceLT, Int.reduceLE, Int.reduceEq, Int.reduceToNat, ↓reduceIte, Int.reducePow, Nat.reduceLeDiff, Nat.reduceLT, ne_eq, eq_self, List.length_cons, List.length_nil, qxE, Bool.not_true] | (with_reducible refine ldP_self true 24 g ?_; refine ldP_oP i h ?_ hlt ?_; omega) | (with_reducible refine ldP_self true 24 g' ?_; refine ldP_oP i h' ?_ hlt ?_; omega) | (with_reducible refine eq_is (fun W => by exact eqp_run _ W) ?_) | (with_reducible refine cregF ?_))
   rw [e0]
   exact ⟨i + 1, by omega, by omega, rfl⟩
  ·obtain rfl : i = ls.length := by omega
   repeat' (first | simp (disch := omega) only [sxE, r19_Same.E, Nat.reduceAdd, Nat.reduceEqDiff, Nat.reduceMul, Nat.reduceSub, Int.reduceAdd, Int.reduceSub, Int.reduceMul, Int.reduceNeg, Int.reduceLT, Int.reduceLE, Int.reduceEq, Int.reduceToNat, ↓reduceIte, Int.reducePow, Nat.reduceLeDiff, Nat.reduceLT, ne_eq, eq_self, List.length_cons, List.length_nil, qxE] | (with_reducible refine cregF ?_))
end Go.Proofs.YtncmmbacoknefaaGreat

/- Kp: Cones: the plain laws of meeting and of having a slope. -/
namespace Go.Proofs.YtncmmbacoknefaaGreat
set_option linter.unusedVariables false
set_option linter.unusedSimpArgs false
theorem has_cl {p q p1 q1 x y : Int} : (Cn.mk false p q p1 q1).has x y = true ↔ p * y ≤ x * q ∧ x * q1 ≤ p1 * y := by
 unfold Cn.has
 simp
theorem Cl.lo {p q p1 q1 : Int} (h : Cl p q p1 q1) : (Cn.mk false p q p1 q1).has p q = true := has_cl.2 ⟨Int.le_refl _, h.le⟩
theorem Cl.hi {p q p1 q1 : Int} (h : Cl p q p1 q1) : (Cn.mk false p q p1 q1).has p1 q1 = true := has_cl.2 ⟨h.le, Int.le_refl _⟩
theorem Cn.ok.cases {c : Cn} (h : c.ok) : c = cO ∨ (c.o = false ∧ Cl c.p c.q c.p1 c.q1) := h
end Go.Proofs.YtncmmbacoknefaaGreat

/- Pc: pieces: the segments, plain. -/
namespace Go.Proofs.YtncmmbacoknefaaGreat
open Go Go.RowKit Sx
set_option linter.unusedVariables false
set_option linter.unusedSimpArgs false
def pgd (t : Int) (ss : Smps) (a j : Nat) : Cn := thc (ke (ss.getD a (0, 0)).2 t * un t) (ss.getD (a + j) (0, 0)).2 t ((ss.getD (a + j) (0, 0)).1 - (ss.getD a (0, 0)).1)
def pgk (t : Int) (ss : Smps) (a : Nat) : Nat → Cn
 | 0 => cO
 | j + 1 => (cmt (pgk t ss a j) (pgd t ss a (j + 1))).1
def pgb (t : Int) (ss : Smps) (a j : Nat) : Bool := (cmt (pgk t ss a j) (pgd t ss a (j + 1))).2
def pgl (t : Int) (ss : Smps) (a m : Nat) : PcV := ⟨(a : Int), (m : Int) + 1, ke (ss.getD a (0, 0)).2 t, pgk t ss a m⟩
def PCl (t : Int) (ss : Smps) : Nat → List PcV → Nat → Prop
 | a, [], e => a = e
 | a, x :: l, e => ∃ m, x = pgl t ss a m ∧ (∀ j, j < m → pgb t ss a j = true) ∧ pgb t ss a m = false ∧ PCl t ss (a + m + 1) l e
def POk (t : Int) (ss : Smps) : Nat → List PcV → Nat → Prop
 | a, [], e => a = e
 | a, x :: l, e => ∃ m, x = pgl t ss a m ∧ a + m + 1 ≤ e ∧ (∀ j, j < m → pgb t ss a j = true) ∧ (l ≠ [] → a + m + 1 < e ∧ pgb t ss a m = false) ∧ POk t ss (a + m + 1) l e
theorem PCl.le {t : Int} {ss : Smps} : ∀ {l : List PcV} {a e : Nat}, PCl t ss a l e → a ≤ e
 | [], a, e, h => Nat.le_of_eq h
 | x :: l, a, e, ⟨m, _, _, _, h⟩ => by have := PCl.le h; omega
theorem PCl.snoc {t : Int} {ss : Smps} {b m : Nat} (hf : ∀ j, j < m → pgb t ss b j = true) (hb : pgb t ss b m = false) : ∀ {l : List PcV} {a : Nat}, PCl t ss a l b → PCl t ss a (l ++ [pgl t ss b m]) (b + m + 1)
 | [], a, h => by
  have h : a = b := h
  subst h
  exact ⟨m, rfl, hf, hb, rfl⟩
 | x :: l, a, ⟨n, h1, h2, h3, h⟩ => ⟨n, h1, h2, h3, PCl.snoc hf hb h⟩
theorem PCl.last {t : Int} {ss : Smps} {b m : Nat} (hf : ∀ j, j < m → pgb t ss b j = true) : ∀ {l : List PcV} {a : Nat}, PCl t ss a l b → POk t ss a (l ++ [pgl t ss b m]) (b + m + 1)
 | [], a, h => by
  have h : a = b := h
  subst h
  exact ⟨m, rfl, Nat.le_refl _, hf, fun h => absurd rfl h, rfl⟩
 | x :: l, a, ⟨n, h1, h2, h3, h⟩ => ⟨n, h1, by have := h.le; omega, h2, fun _ => ⟨by have := h.le; omega, h3⟩, PCl.last hf h⟩
theorem pcj_at (t : Int) (ss : Smps) : ∀ i, i + 1 ≤ ss.length → ∃ a m, a + m = i ∧ PCl t ss 0 (pcf t (ss.take (i + 1))).2 a ∧ (pcf t (ss.take (i + 1))).1 = ⟨t, (a : Int), (m : Int) + 1, (ss.getD a (0, 0)).1, (ss.getD a (0, 0)).2, (ss.getD (a + m) (0, 0)).1, ke (ss.getD a (0, 0)).2 t, pgk t ss a m⟩ ∧ ∀ j, j < m → pgb t ss a j = true
 | 0, h => by
  refine ⟨0, 0, rfl, ?_, ?_, fun j hj => absurd hj (Nat.not_lt_zero _)⟩ <;> rw [take_snoc' (by omega), pcf_snoc] <;> rfl
 | i + 1, h => by
  obtain ⟨a, m, h1, h2, h3, h4⟩ := pcj_at t ss i (by omega)
  rw [take_snoc' (by omega), pcf_snoc]
  generalize pcf t (ss.take (i + 1)) = A at *
  obtain ⟨s, l⟩ := A
  dsimp only at h2 h3
  subst h3
  have hi : i + 1 = a + (m + 1) := by omega
  have hm : pcg ⟨t, (a : Int), (m : Int) + 1, (ss.getD a (0, 0)).1, (ss.getD a (0, 0)).2, (ss.getD (a + m) (0, 0)).1, ke (ss.getD a (0, 0)).2 t, pgk t ss a m⟩ (ss.getD (i + 1) (0, 0)).1 (ss.getD (i + 1) (0, 0)).2 = pgb t ss a m := by
   unfold pcg
   rw [show decide ((0 : Int) < (m : Int) + 1) = true from decide_eq_true (by omega), Bool.true_and, hi]
   rfl
  cases hb : pgb t ss a m
  ·rw [hb] at hm
   have e1 : (pca (⟨t, (a : Int), (m : Int) + 1, (ss.getD a (0, 0)).1, (ss.getD a (0, 0)).2, (ss.getD (a + m) (0, 0)).1, ke (ss.getD a (0, 0)).2 t, pgk t ss a m⟩, l) (ss.getD (i + 1) (0, 0))).1 = pcb t ((a : Int) + ((m : Int) + 1)) (ss.getD (i + 1) (0, 0)).1 (ss.getD (i + 1) (0, 0)).2 := if_neg (by rw [hm]; decide)
   have e2 : (pca (⟨t, (a : Int), (m : Int) + 1, (ss.getD a (0, 0)).1, (ss.getD a (0, 0)).2, (ss.getD (a + m) (0, 0)).1, ke (ss.getD a (0, 0)).2 t, pgk t ss a m⟩, l) (ss.getD (i + 1) (0, 0))).2 = l ++ [pgl t ss a m] := by
    show l ++ pce _ _ _ = _
    unfold pce
    rw [if_neg (by rw [hm]; decide)]
    unfold pcl
    rw [if_pos (show (0 : Int) < (m : Int) + 1 by omega)]
    rfl
   refine ⟨i + 1, 0, rfl, ?_, ?_, fun j hj => absurd hj (Nat.not_lt_zero _)⟩
   ·rw [e2, show i + 1 = a + m + 1 by omega]
    exact h2.snoc h4 hb
   ·rw [e1, show (a : Int) + ((m : Int) + 1) = ((i + 1 : Nat) : Int) by omega]; rfl
  ·rw [hb] at hm
   have e1 : (pca (⟨t, (a : Int), (m : Int) + 1, (ss.getD a (0, 0)).1, (ss.getD a (0, 0)).2, (ss.getD (a + m) (0, 0)).1, ke (ss.getD a (0, 0)).2 t, pgk t ss a m⟩, l) (ss.getD (i + 1) (0, 0))).1 = ⟨t, (a : Int), (m : Int) + 1 + 1, (ss.getD a (0, 0)).1, (ss.getD a (0, 0)).2, (ss.getD (i + 1) (0, 0)).1, ke (ss.getD a (0, 0)).2 t, (pcm ⟨t, (a : Int), (m : Int) + 1, (ss.getD a (0, 0)).1, (ss.getD a (0, 0)).2, (ss.getD (a + m) (0, 0)).1, ke (ss.getD a (0, 0)).2 t, pgk t ss a m⟩ (ss.getD (i + 1) (0, 0)).1 (ss.getD (i + 1) (0, 0)).2).1⟩ := if_pos hm
   have e2 : (pca (⟨t, (a : Int), (m : Int) + 1, (ss.getD a (0, 0)).1, (ss.getD a (0, 0)).2, (ss.getD (a + m) (0, 0)).1, ke (ss.getD a (0, 0)).2 t, pgk t ss a m⟩, l) (ss.getD (i + 1) (0, 0))).2 = l := by
    show l ++ pce _ _ _ = _
    unfold pce
    rw [if_pos hm, List.append_nil]
   refine ⟨a, m + 1, by omega, by rw [e2]; exact h2, ?_, fun j hj => ?_⟩
   ·rw [e1, hi]
    rfl
   ·by_cases h : j = m
    ·rw [h]; exact hb
    ·exact h4 j (by omega)
theorem pcall_ok (t : Int) (ss : Smps) : POk t ss 0 (pcall t ss) ss.length := by
 cases hn : ss.length with
 | zero =>
  obtain rfl : ss = [] := List.eq_nil_of_length_eq_zero hn
  rfl
 | succ i =>
  obtain ⟨a, m, h1, h2, h3, h4⟩ := pcj_at t ss i (by omega)
  rw [show ss.take (i + 1) = ss by rw [← hn]; exact List.take_length] at h2 h3
  have e : pcall t ss = (pcf t ss).2 ++ [pgl t ss a m] := by
   unfold pcall
   rw [h3]
   unfold pcl
   rw [if_pos (show (0 : Int) < (m : Int) + 1 by omega)]
   rfl
  rw [e, ← h1]
  exact h2.last h4
theorem pgd_th {t : Int} {ss : Smps} (ht : tolz t = true) (hin : ∀ s ∈ ss, I64 s.1 ∧ I64 s.2) (hinc : incr ss = true) {a j : Nat} (hj : a + j + 1 < ss.length) : ThP (ke (ss.getD a (0, 0)).2 t * un t) (ss.getD (a + j + 1) (0, 0)).2 t ((ss.getD (a + j + 1) (0, 0)).1 - (ss.getD a (0, 0)).1) ∧ U64 ((ss.getD (a + j + 1) (0, 0)).1 - (ss.getD a (0, 0)).1) ∧ (ss.getD (a + j + 1) (0, 0)).1 - (ss.getD a (0, 0)).1 ≠ 0 := by
 have h1 := incr_lt hinc hj
 have x1 := smp_i64 hin a
 have x2 := smp_i64 hin (a + j + 1)
 have iD : U64 ((ss.getD (a + j + 1) (0, 0)).1 - (ss.getD a (0, 0)).1) := ⟨by omega, by have := x2.1.2; have := x1.1.1; omega⟩
 have h0 : (ss.getD (a + j + 1) (0, 0)).1 - (ss.getD a (0, 0)).1 ≠ 0 := by omega
 exact ⟨th_p (ke_small x1.2 (tolz_iff.1 ht).1 (tolz_iff.1 ht).2) x2.2 (tolz_iff.1 ht) iD h0, iD, h0⟩
theorem pgk_ok {t : Int} {ss : Smps} (ht : tolz t = true) (hin : ∀ s ∈ ss, I64 s.1 ∧ I64 s.2) (hinc : incr ss = true) {a : Nat} : ∀ {j : Nat}, (∀ i, i < j → pgb t ss a i = true) → a + j < ss.length → (pgk t ss a j).ok
 | 0, _, _ => cO_ok
 | j + 1, h, hj => cmt_ok (pgk_ok ht hin hinc (fun i hi => h i (by omega)) (by omega)) (pgd_th ht hin hinc (by omega)).1.cl.ok (h j (by omega))
end Go.Proofs.YtncmmbacoknefaaGreat

/- Pl: Laws of pieces: what they share. -/
namespace Go.Proofs.YtncmmbacoknefaaGreat
open Go Go.RowKit Sx
set_option linter.unusedVariables false
set_option linter.unusedSimpArgs false
theorem pdrop_cons {ls : List PcV} {i : Nat} (h : i < ls.length) : ls.drop i = ls.getD i pc_0 :: ls.drop (i + 1) := by
 rw [List.drop_eq_getElem_cons h, List.getD_eq_getElem?_getD, List.getElem?_eq_getElem h]
 rfl
theorem POk.len {t : Int} {ss : Smps} : ∀ {l : List PcV} {a e : Nat}, POk t ss a l e → a + l.length ≤ e
 | [], a, e, h => Nat.le_of_eq h
 | x :: l, a, e, ⟨m, _, _, _, _, h⟩ => by have := POk.len h; rw [List.length_cons]; omega
theorem pgb_0 (t : Int) (ss : Smps) (a : Nat) : pgb t ss a 0 = true := rfl
end Go.Proofs.YtncmmbacoknefaaGreat
