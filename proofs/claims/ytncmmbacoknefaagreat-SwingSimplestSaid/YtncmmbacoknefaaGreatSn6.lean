/- Several texts in one: Sb, Sc, CdS1, Sk, Kp, Sl, Sd, Sf. -/
import Derived.Test.YtncmmbacoknefaaGreatProg
import Derived.Test.YtncmmbacoknefaaGreatSn2
import Derived.Test.YtncmmbacoknefaaGreatSn5
set_option linter.defProp false

/- Sb: swing: All of the program. -/
namespace Go.Proofs.YtncmmbacoknefaaGreat
open Go Go.RowKit Sx
set_option linter.unusedVariables false
set_option linter.unusedSimpArgs false
def sw0 (t : Int) : SwS := ⟨t, 0, 0, 0, 0, c0⟩
def swa (a : SwS × List LnV) (x : Int × Int) : SwS × List LnV := (swn a.1 x.1 x.2, a.2 ++ swe a.1 x.1 x.2)
def swf (t : Int) (ss : Smps) : SwS × List LnV := ss.foldl swa (sw0 t, [])
theorem swf_snoc (t : Int) (ss : Smps) (x : Int × Int) : swf t (ss ++ [x]) = swa (swf t ss) x := by unfold swf; rw [List.foldl_append]; rfl
def swall (t : Int) (ss : Smps) : List LnV := (swf t ss).2 ++ swl (swf t ss).1
def tolz (t : Int) : Bool := decide (0 ≤ t) && decide (t ≤ 4611686018427387904)
theorem tolz_iff {t : Int} : tolz t = true ↔ 0 ≤ t ∧ t ≤ 4611686018427387904 := by unfold tolz; simp
def erz (t : Int) (ss : Smps) : Int := if tolz t then (if incr ss then (if ss.length ≤ 1073741824 then 0 else 3) else 7) else 9
def linez (t : Int) (ss : Smps) : List LnV := if erz t ss = 0 then swall t ss else []
structure SwI (t : Int) (ss : Smps) (i : Nat) (a : SwS × List LnV) : Prop where
 tt : a.1.t = t
 n0 : 0 ≤ a.1.n
 n1 : a.1.n ≤ i
 c : 0 < a.1.n → a.1.c.ok
 T : I64 a.1.T
 V : I64 a.1.V
 L : I64 a.1.L
 TL : a.1.T ≤ a.1.L
 z : a.1.n = 0 → a.1 = sw0 t
 l : 0 < i → 0 < a.1.n ∧ a.1.L = (ss.getD (i - 1) (0, 0)).1
 len : a.2.length ≤ i
 one : a.1.n = 1 → a.1.L = a.1.T ∧ a.1.c = cO
 more : 1 < a.1.n → a.1.T < a.1.L ∧ a.1.c.o = false
theorem swl_len (s : SwS) : (swl s).length ≤ 1 := by unfold swl; split <;> simp
theorem take_snoc' {ss : Smps} {i : Nat} (h : i < ss.length) : ss.take (i + 1) = ss.take i ++ [ss.getD i (0, 0)] := by
 rw [List.take_add_one, getD_some (d := (0, 0)) h]; rfl
theorem cmt_o {c : Cn} {p q p1 q1 : Int} (h : (cmt c ⟨false, p, q, p1, q1⟩).2 = true) : (cmt c ⟨false, p, q, p1, q1⟩).1.o = false := by
 unfold cmt at h ⊢
 dsimp only at h ⊢
 by_cases c1 : c.o = true
 ·rw [if_pos c1]
 ·rw [if_neg c1] at h ⊢
  rw [if_neg (by decide)] at h ⊢
  generalize (if c.p * q < p * c.q then (p, q) else (c.p, c.q)) = A at *
  generalize (if p1 * c.q1 < c.p1 * q1 then (p1, q1) else (c.p1, c.q1)) = B at *
  split <;> rfl
theorem swi_next {t : Int} {ss : Smps} {i : Nat} {a : SwS × List LnV} (h : SwI t ss i a) (ht : tolz t = true) (hi : i < ss.length) (hin : ∀ s ∈ ss, I64 s.1 ∧ I64 s.2) (hinc : incr ss = true) : SwI t ss (i + 1) (swa a (ss.getD i (0, 0))) ∧ (0 < a.1.n → a.1.T < (ss.getD i (0, 0)).1) := by
 have hx := smp_i64 hin i
 obtain ⟨t0, t1⟩ := tolz_iff.1 ht
 have hT : 0 < a.1.n → a.1.T < (ss.getD i (0, 0)).1 := fun hn => by
  have h0 : 0 < i := by have := h.n1; omega
  obtain ⟨-, hL⟩ := h.l h0
  have hinc' := of_decide_eq_true hinc (i - 1) (by omega)
  rw [show i - 1 + 1 = i by omega] at hinc'
  have := h.TL
  omega
 refine ⟨?_, hT⟩
 have hlen : (swe a.1 (ss.getD i (0, 0)).1 (ss.getD i (0, 0)).2).length ≤ 1 := by
  unfold swe
  split
  ·simp
  ·exact swl_len _
 have el : (swa a (ss.getD i (0, 0))).2.length ≤ i + 1 := by
  show (a.2 ++ _).length ≤ _
  rw [List.length_append]
  have := h.len
  omega
 have e1 : i + 1 - 1 = i := by omega
 by_cases hg : swg a.1 (ss.getD i (0, 0)).1 (ss.getD i (0, 0)).2 = true
 ·have e : (swa a (ss.getD i (0, 0))).1 = ⟨a.1.t, a.1.n + 1, a.1.T, a.1.V, (ss.getD i (0, 0)).1, (swm a.1 (ss.getD i (0, 0)).1 (ss.getD i (0, 0)).2).1⟩ := if_pos hg
  unfold swg at hg
  rw [Bool.and_eq_true] at hg
  obtain ⟨hn, hm⟩ := hg
  have hn := of_decide_eq_true hn
  have hT := hT hn
  have iDt : U64 ((ss.getD i (0, 0)).1 - a.1.T) := ⟨by omega, by have := hx.1.2; have := h.T.1; omega⟩
  have tp := th_p (ab_66 h.V) hx.2 ⟨t0, t1⟩ iDt (by omega)
  have hok : (swm a.1 (ss.getD i (0, 0)).1 (ss.getD i (0, 0)).2).1.ok := by
   unfold swm
   rw [h.tt]
   refine cmt_ok (h.c hn) tp.cl.ok ?_
   unfold swm at hm
   rw [h.tt] at hm
   exact hm
  have ho : (swm a.1 (ss.getD i (0, 0)).1 (ss.getD i (0, 0)).2).1.o = false := cmt_o hm
  have n1 := h.n1
  have n0 := h.n0
  refine ⟨by rw [e]; exact h.tt, by rw [e]; show 0 ≤ a.1.n + 1; omega, by rw [e]; show a.1.n + 1 ≤ _; omega, fun _ => by rw [e]; exact hok, by rw [e]; exact h.T, by rw [e]; exact h.V, by rw [e]; exact hx.1, by rw [e]; show a.1.T ≤ (ss.getD i (0, 0)).1; omega, fun hz => ?_, fun _ => ?_, el, fun hz => ?_, fun _ => by rw [e]; exact ⟨hT, ho⟩⟩
  ·rw [e] at hz
   have hz : a.1.n + 1 = 0 := hz
   omega
  ·rw [e, e1]
   exact ⟨by show 0 < a.1.n + 1; omega, rfl⟩
  ·rw [e] at hz
   have hz : a.1.n + 1 = 1 := hz
   omega
 ·have e : (swa a (ss.getD i (0, 0))).1 = swb a.1.t (ss.getD i (0, 0)).1 (ss.getD i (0, 0)).2 := if_neg hg
  refine ⟨by rw [e]; exact h.tt, by rw [e]; show (0 : Int) ≤ 1; decide, by rw [e]; show (1 : Int) ≤ _; omega, fun _ => by rw [e]; exact cO_ok, by rw [e]; exact hx.1, by rw [e]; exact hx.2, by rw [e]; exact hx.1, by rw [e]; exact Int.le_refl _, fun hz => ?_, fun _ => ?_, el, fun _ => by rw [e]; exact ⟨rfl, rfl⟩, fun hz => ?_⟩
  ·rw [e] at hz
   cases hz
  ·rw [e, e1]
   exact ⟨by show (0 : Int) < 1; decide, rfl⟩
  ·rw [e] at hz
   have hz : (1 : Int) < 1 := hz
   omega
theorem i64_0 : I64 0 := ⟨by decide, by decide⟩
theorem swi_start (t : Int) (ss : Smps) : SwI t ss 0 (swf t []) :=
 ⟨rfl, Int.le_refl _, Int.le_refl _, (fun h => by cases h), i64_0, i64_0, i64_0, Int.le_refl _, fun _ => rfl, (fun h => by cases h), Nat.le_refl _, (fun h => by cases h), (fun h => by cases h)⟩
theorem swi_at {t : Int} {ss : Smps} (ht : tolz t = true) (hin : ∀ s ∈ ss, I64 s.1 ∧ I64 s.2) (hinc : incr ss = true) : ∀ i, i ≤ ss.length → SwI t ss i (swf t (ss.take i))
 | 0, _ => swi_start t ss
 | i + 1, h => by
  rw [take_snoc' (by omega), swf_snoc]
  exact (swi_next (swi_at ht hin hinc i (by omega)) ht (by omega) hin hinc).1
abbrev swv (s : SwS) : Value := .agg #[.int .i64 s.t, .int .i64 s.n, .int .i64 s.T, .int .i64 s.V, .int .i64 s.L, .bool s.c.o, .bool (sg s.c.p), .int .u64 (lb0 (ab s.c.p)), .int .u64 (lb1 (ab s.c.p)), .int .u64 (lb2 (ab s.c.p)), .int .u64 (lb3 (ab s.c.p)), .bool (sg s.c.q), .int .u64 (lb0 (ab s.c.q)), .int .u64 (lb1 (ab s.c.q)), .int .u64 (lb2 (ab s.c.q)), .int .u64 (lb3 (ab s.c.q)), .bool (sg s.c.p1), .int .u64 (lb0 (ab s.c.p1)), .int .u64 (lb1 (ab s.c.p1)), .int .u64 (lb2 (ab s.c.p1)), .int .u64 (lb3 (ab s.c.p1)), .bool (sg s.c.q1), .int .u64 (lb0 (ab s.c.q1)), .int .u64 (lb1 (ab s.c.q1)), .int .u64 (lb2 (ab s.c.q1)), .int .u64 (lb3 (ab s.c.q1))]
abbrev swZ (t : Int) : Value := .agg #[.int .i64 t, .int .i64 0, .int .i64 0, .int .i64 0, .int .i64 0, .bool false, .bool false, .int .u64 0, .int .u64 0, .int .u64 0, .int .u64 0, .bool false, .int .u64 0, .int .u64 0, .int .u64 0, .int .u64 0, .bool false, .int .u64 0, .int .u64 0, .int .u64 0, .int .u64 0, .bool false, .int .u64 0, .int .u64 0, .int .u64 0, .int .u64 0]
theorem swv_0 (t : Int) : swv (sw0 t) = swZ t := by
 have y0 : sg 0 = false := rfl
 have y1 : lb0 (ab 0) = 0 := rfl
 have y2 : lb1 (ab 0) = 0 := rfl
 have y3 : lb2 (ab 0) = 0 := rfl
 have y4 : lb3 (ab 0) = 0 := rfl
 show Value.agg #[.int .i64 t, .int .i64 0, .int .i64 0, .int .i64 0, .int .i64 0, .bool false, .bool (sg 0), .int .u64 (lb0 (ab 0)), .int .u64 (lb1 (ab 0)), .int .u64 (lb2 (ab 0)), .int .u64 (lb3 (ab 0)), .bool (sg 0), .int .u64 (lb0 (ab 0)), .int .u64 (lb1 (ab 0)), .int .u64 (lb2 (ab 0)), .int .u64 (lb3 (ab 0)), .bool (sg 0), .int .u64 (lb0 (ab 0)), .int .u64 (lb1 (ab 0)), .int .u64 (lb2 (ab 0)), .int .u64 (lb3 (ab 0)), .bool (sg 0), .int .u64 (lb0 (ab 0)), .int .u64 (lb1 (ab 0)), .int .u64 (lb2 (ab 0)), .int .u64 (lb3 (ab 0))] = _
 rw [y0, y1, y2, y3, y4]
theorem gx_tol (t : Int) (W : World) : Gives Tryz.prog 127 [.int .i64 t] W (· = .bool (tolz t)) := by
 refine gives_known en_swing_tolerable ?_
 unfold tolz
 by_cases h0 : 0 ≤ t
 ·have d0 := decide_eq_true h0
  refine known_of (enter Tryz.func127 swing_tolerable.ok (args := [_]) (by simp) ?_)
  repeat' (first | simp (disch := omega) only [sxE, swing_tolerable.E, Nat.reduceAdd, Nat.reduceEqDiff, Nat.reduceMul, Nat.reduceSub, Int.reduceAdd, Int.reduceSub, Int.reduceMul, Int.reduceNeg, Int.reduceLT, Int.reduceLE, Int.reduceEq, Int.reduceToNat, ↓reduceIte, Int.reducePow, Nat.reduceLeDiff, Nat.reduceLT, ne_eq, eq_self, List.length_cons, List.length_nil, qxE, d0, Bool.true_and] | (with_reducible refine cregF ?_))
 ·have d0 := decide_eq_false h0
  refine known_of (enter Tryz.func127 swing_tolerable.ok (args := [_]) (by simp) ?_)
  repeat' (first | simp (disch := omega) only [sxE, swing_tolerable.E, Nat.reduceAdd, Nat.reduceEqDiff, Nat.reduceMul, Nat.reduceSub, Int.reduceAdd, Int.reduceSub, Int.reduceMul, Int.reduceNeg, Int.reduceLT, Int.reduceLE, Int.reduceEq, Int.reduceToNat, ↓reduceIte, Int.reducePow, Nat.reduceLeDiff, Nat.reduceLT, ne_eq, eq_self, List.length_cons, List.length_nil, qxE, d0, Bool.false_and] | (with_reducible refine cregF ?_))
theorem gx_swstart (t : Int) (W : World) : Gives Tryz.prog 64 [.int .i64 t] W (· = if tolz t then .tuple #[swZ t, .int .i64 0] else .tuple #[swZ 0, .int .i64 9]) := by
 refine gives_known en_swing_Start ?_
 have k := fun W => gx_tol t W
 cases h : tolz t
 ·rw [h] at k
  refine known_of (enter Tryz.func64 swing_Start.ok (args := [_]) (by simp) ?_)
  repeat' (first | simp (disch := omega) only [sxE, swing_Start.E, Nat.reduceAdd, Nat.reduceEqDiff, Nat.reduceMul, Nat.reduceSub, Int.reduceAdd, Int.reduceSub, Int.reduceMul, Int.reduceNeg, Int.reduceLT, Int.reduceLE, Int.reduceEq, Int.reduceToNat, ↓reduceIte, Int.reducePow, Nat.reduceLeDiff, Nat.reduceLT, ne_eq, eq_self, List.length_cons, List.length_nil, qxE] | (with_reducible refine Sx.call_at (f := 127) (fun W hW => k W) ?_) | (with_reducible refine cregF ?_))
 ·rw [h] at k
  refine known_of (enter Tryz.func64 swing_Start.ok (args := [_]) (by simp) ?_)
  repeat' (first | simp (disch := omega) only [sxE, swing_Start.E, Nat.reduceAdd, Nat.reduceEqDiff, Nat.reduceMul, Nat.reduceSub, Int.reduceAdd, Int.reduceSub, Int.reduceMul, Int.reduceNeg, Int.reduceLT, Int.reduceLE, Int.reduceEq, Int.reduceToNat, ↓reduceIte, Int.reducePow, Nat.reduceLeDiff, Nat.reduceLT, ne_eq, eq_self, List.length_cons, List.length_nil, qxE] | (with_reducible refine Sx.call_at (f := 127) (fun W hW => k W) ?_) | (with_reducible refine cregF ?_))
namespace Sx
theorem genA_az {C : Cx} {S : St} {K : St → Prop} {d : Option Nat} {P : Program} {t : TypeId} {L : List Kn} {z : Value} (cs : List Value) (hP : C.P = P) (hi : (P.info? t).map (·.zero) = some (some z)) (hcs : z.cells.toList = cs) (hT : S.T = kX C.w0.heap.size L)
  (hk : ∀ b, b ∉ S.T.bs → K (St.put ⟨S.n, S.E, S.H, kX C.w0.heap.size (.g (cK b cs) :: L)⟩ d (.v (.pointer (some ⟨b, 0, none⟩))))) : genA C (.al t) [] d K S := by
 subst hcs
 cases h : P.info? t with
 | none => rw [h] at hi; cases hi
 | some i =>
  rw [h] at hi
  exact genA_al hP h (Option.some.inj hi) hT hk
end Sx
def AllB (w : World) (ls : List LnV) (er : Int) (en : Ending) (w' : World) : Prop := ∃ v, en = .returned (.tuple #[v, .int .i64 er]) ∧ w'.ownsRow w.heap.size 41 12 v ls.length (lcells ls) ∧ Below w.heap.size w w'
theorem erz_tol {t : Int} {ss : Smps} (h : tolz t = false) : erz t ss = 9 ∧ linez t ss = [] := by
 have e : erz t ss = 9 := by unfold erz; rw [h]; rfl
 exact ⟨e, by unfold linez; rw [e]; rfl⟩
theorem erz_inc {t : Int} {ss : Smps} (h : tolz t = true) (hi : incr ss = false) : erz t ss = 7 ∧ linez t ss = [] := by
 have e : erz t ss = 7 := by unfold erz; rw [h, hi]; rfl
 exact ⟨e, by unfold linez; rw [e]; rfl⟩
theorem erz_lim {t : Int} {ss : Smps} (h : tolz t = true) (hi : incr ss = true) (hl : ¬ ss.length ≤ 1073741824) : erz t ss = 3 ∧ linez t ss = [] := by
 have e : erz t ss = 3 := by unfold erz; rw [h, hi, if_pos rfl, if_pos rfl, if_neg hl]
 exact ⟨e, by unfold linez; rw [e]; rfl⟩
theorem erz_ok {t : Int} {ss : Smps} (h : tolz t = true) (hi : incr ss = true) (hl : ss.length ≤ 1073741824) : erz t ss = 0 ∧ linez t ss = swall t ss := by
 have e : erz t ss = 0 := by unfold erz; rw [h, hi, if_pos rfl, if_pos rfl, if_pos hl]
 exact ⟨e, by unfold linez; rw [e]; rfl⟩
set_option maxRecDepth 100000 in
set_option maxHeartbeats 2000000 in
theorem sw_all {w : World} {v : Value} {ss : Smps} {t : Int} (h : SlS w v ss) (hi : I64 t) (hn : 8 * ss.length ≤ 281474976710656) : Calls Tryz.prog 46 #[v, .int .i64 t] w (AllB w (linez t ss) (erz t ss)) := by
 obtain ⟨a, cap, rfl, h1, h2, h3, h4⟩ := id h
 have h2' := h2
 simp only [maxLen] at h2'
 refine (enterX Tryz.func46 swing_All.ok (args := [.slice a ss.length cap, .int .i64 t]) (R := fun u X => ∃ v L, u = .tuple #[v, .int .i64 (erz t ss)] ∧ X = kX w.heap.size L ∧ rowOf L 41 12 v (linez t ss).length (lcells (linez t ss))) (by simp) ?run).mono ?fin
 case fin =>
  rintro e w' ⟨u, X, rfl, ⟨v, L, rfl, rfl, hr⟩, hX, hbl, -⟩
  exact ⟨v, rfl, hr.own hX, hbl⟩
 case run =>
  have k1 := fun W => gx_swstart t W
  have c1 : ∀ W, Below w.heap.size w W → Gives Tryz.prog 94 [.slice a ss.length cap] W (· = .int .i64 (if incr ss then 0 else 7)) := fun W hW => gives_known en_series_Check (g_check (SlS.below h hW) hn)
  by_cases ht : tolz t = true
  ·rw [if_pos ht] at k1
   by_cases hinc : incr ss = true
   ·rw [if_pos hinc] at c1
    by_cases hl : ss.length ≤ 1073741824
    ·obtain ⟨e1, e2⟩ := erz_ok ht hinc hl
     rw [e1, e2]
     clear e1 e2
     repeat' (first | simp (disch := omega) only [sxE, swing_All.E, Nat.reduceAdd, Nat.reduceEqDiff, Nat.reduceMul, Nat.reduceSub, Int.reduceAdd, Int.reduceSub, Int.reduceMul, Int.reduceNeg, Int.reduceLT, Int.reduceLE, Int.reduceEq, Int.reduceToNat, ↓reduceIte, Int.reducePow, Nat.reduceLeDiff, Nat.reduceLT, ne_eq, eq_self, List.length_cons, List.length_nil, qxE] | (with_reducible refine Sx.call_at (f := 64) (fun W hW => k1 W) ?_) | (with_reducible refine cregF ?_))
     refine asks_at (fun W hW => c1 W hW) ?_
     repeat' (first | simp (disch := omega) only [sxE, swing_All.E, Nat.reduceAdd, Nat.reduceEqDiff, Nat.reduceMul, Nat.reduceSub, Int.reduceAdd, Int.reduceSub, Int.reduceMul, Int.reduceNeg, Int.reduceLT, Int.reduceLE, Int.reduceEq, Int.reduceToNat, ↓reduceIte, Int.reducePow, Nat.reduceLeDiff, Nat.reduceLT, ne_eq, eq_self, List.length_cons, List.length_nil, qxE] | (with_reducible refine cregF ?_))
     refine genA_az (L := []) (z := .agg #[.int .i64 0, .int .i64 0, .int .i64 0, .int .i64 0, .int .i64 0, .bool false, .bool false, .int .u64 0, .int .u64 0, .int .u64 0, .int .u64 0, .bool false, .int .u64 0, .int .u64 0, .int .u64 0, .int .u64 0, .bool false, .int .u64 0, .int .u64 0, .int .u64 0, .int .u64 0, .bool false, .int .u64 0, .int .u64 0, .int .u64 0, .int .u64 0, .slice none 0 0]) [.int .i64 0, .int .i64 0, .int .i64 0, .int .i64 0, .int .i64 0, .bool false, .bool false, .int .u64 0, .int .u64 0, .int .u64 0, .int .u64 0, .bool false, .int .u64 0, .int .u64 0, .int .u64 0, .int .u64 0, .bool false, .int .u64 0, .int .u64 0, .int .u64 0, .int .u64 0, .bool false, .int .u64 0, .int .u64 0, .int .u64 0, .int .u64 0, .slice none 0 0] rfl (by kernel_rfl) (by kernel_rfl) (kX_nil _) fun b _ => ?_
     repeat' (first | simp (disch := omega) only [sxE, swing_All.E, Nat.reduceAdd, Nat.reduceEqDiff, Nat.reduceMul, Nat.reduceSub, Int.reduceAdd, Int.reduceSub, Int.reduceMul, Int.reduceNeg, Int.reduceLT, Int.reduceLE, Int.reduceEq, Int.reduceToNat, ↓reduceIte, Int.reducePow, Nat.reduceLeDiff, Nat.reduceLT, ne_eq, eq_self, List.length_cons, List.length_nil, qxE, x_stq, x_cSl] | (with_reducible refine cregF ?_))
     refine stL_c (b := b) (R := []) rfl (List.mem_singleton.2 rfl) (fun k hk => by cases hk) rfl rfl ?_
     repeat' (first | simp (disch := omega) only [sxE, swing_All.E, Nat.reduceAdd, Nat.reduceEqDiff, Nat.reduceMul, Nat.reduceSub, Int.reduceAdd, Int.reduceSub, Int.reduceMul, Int.reduceNeg, Int.reduceLT, Int.reduceLE, Int.reduceEq, Int.reduceToNat, ↓reduceIte, Int.reducePow, Nat.reduceLeDiff, Nat.reduceLT, ne_eq, eq_self, List.length_cons, List.length_nil, qxE, x_stq, x_cSl] | (with_reducible refine cregF ?_))
     rw [swing_All.p3_l]
     have HI := fun i hi => swi_at ht h3 hinc i hi
     have t01 := tolz_iff.1 ht
     refine LX_inv (fun x : Nat × Value => ⟨0, [(8, .v (.pointer (some ⟨b, 0, none⟩))), (28, .v (.slice a ss.length cap)), (29, .v (.int .i64 ss.length)), (30, .v (.int .i64 (x.1 : Int)))], [], kX w.heap.size [.g (cK b (dcs (swf t (ss.take x.1)).1 x.2)), .g (wK 41 12 x.2 (swf t (ss.take x.1)).2.length (lcells (swf t (ss.take x.1)).2))]⟩) (fun x => x.1 ≤ ss.length ∧ x.2.ownBlock ≠ some b) (fun x => ss.length - x.1) ?round (0, .slice none 0 0) ⟨Nat.zero_le _, (fun h => by cases h)⟩ ?start
     case start =>
      have c0 : ((0 : Nat) : Int) = 0 := rfl
      simp (disch := omega) only [sxE, swing_All.E, Nat.reduceAdd, Nat.reduceEqDiff, Nat.reduceMul, Nat.reduceSub, Int.reduceAdd, Int.reduceSub, Int.reduceMul, Int.reduceNeg, Int.reduceLT, Int.reduceLE, Int.reduceEq, Int.reduceToNat, ↓reduceIte, Int.reducePow, Nat.reduceLeDiff, Nat.reduceLT, ne_eq, eq_self, List.length_cons, List.length_nil, c0]
      refine extS_of fun k hk => ?_
      rcases List.mem_cons.1 hk with rfl | hk
      ·exact .inl (List.mem_singleton.2 rfl)
      ·rw [List.mem_singleton.1 hk]
       exact .inr ⟨rfl, fun W => wK_nil _ _ _ W⟩
     case round =>
      rintro ⟨i, v⟩ ⟨hi', hvb⟩
      try dsimp only at hi' hvb ⊢
      by_cases hlt : i < ss.length
      ·obtain ⟨b', off, rfl, -, -⟩ := h4 (by omega)
       have hsi := HI i hi'
       have hnx := swi_next hsi ht hlt h3 hinc
       have enx : swf t (ss.take (i + 1)) = swa (swf t (ss.take i)) (ss.getD i (0, 0)) := by rw [take_snoc' hlt, swf_snoc]
       have hx := smp_i64 h3 i
       have e0 : (i : Int) + 1 = ((i + 1 : Nat) : Int) := by omega
       generalize hA : swf t (ss.take i) = A at *
       clear hA h3 h4
       obtain ⟨hn1, hn2⟩ := hnx
       have hn1 := hid hn1
       have hsi := hid hsi
       repeat' (first | simp (disch := omega) only [sxE, swing_All.E, Nat.reduceAdd, Nat.reduceEqDiff, Nat.reduceMul, Nat.reduceSub, Int.reduceAdd, Int.reduceSub, Int.reduceMul, Int.reduceNeg, Int.reduceLT, Int.reduceLE, Int.reduceEq, Int.reduceToNat, ↓reduceIte, Int.reducePow, Nat.reduceLeDiff, Nat.reduceLT, ne_eq, eq_self, List.length_cons, List.length_nil, qxE] | (with_reducible refine ldP_blk b' ?_; refine ldP_S2 i h ?_ ?_ ?_; omega; omega) | (with_reducible refine cregF ?_))
       refine asks_ob (C := Sx.cx _ w _) [] (ι := Unit) (fun _ => True) (fun _ => .tuple #[]) b (dcs A.1 v) (fun _ v' => dcs (swn A.1 (ss.getD i (0, 0)).1 (ss.getD i (0, 0)).2) v') v A.2.length (lcells A.2) (fun _ => A.2.length + (swe A.1 (ss.getD i (0, 0)).1 (ss.getD i (0, 0)).2).length) (fun _ => lcells A.2 ++ lcells (swe A.1 (ss.getD i (0, 0)).1 (ss.getD i (0, 0)).2)) en_swing_door__step rfl List.mem_cons_self (.inr (List.mem_cons_of_mem _ List.mem_cons_self)) (fun _ h => h) (fun k hk => by cases hk) (fun W hW hbW hB ho => ?_) fun _ v' _ hnb hsh hR' hgl => ?_
       ·have s1 := hsi.out
        refine (sw_step (xt := (ss.getD i (0, 0)).1) (xv := (ss.getD i (0, 0)).2) hbW hB ho hvb (by rw [s1.tt]; exact t01.1) (by rw [s1.tt]; exact t01.2) s1.n0 (by have := s1.n1; omega) s1.T s1.V s1.c hx.1 hx.2 hn2 (by have := s1.len; omega)).mono ?_
        rintro e w' ⟨v', rfl, g1, g2, g3, g4, g5⟩
        exact ⟨(), v', trivial, rfl, g1, g2, g3, g4, g5⟩
       repeat' (first | simp (disch := omega) only [sxE, swing_All.E, Nat.reduceAdd, Nat.reduceEqDiff, Nat.reduceMul, Nat.reduceSub, Int.reduceAdd, Int.reduceSub, Int.reduceMul, Int.reduceNeg, Int.reduceLT, Int.reduceLE, Int.reduceEq, Int.reduceToNat, ↓reduceIte, Int.reducePow, Nat.reduceLeDiff, Nat.reduceLT, ne_eq, eq_self, List.length_cons, List.length_nil, qxE] | (with_reducible refine cregF ?_))
       rw [e0]
       refine ⟨(i + 1, v'), ⟨by dsimp only; omega, hnb⟩, by dsimp only; omega, rfl, .inl ?_⟩
       dsimp only
       rw [enx]
       unfold swa
       dsimp only
       rw [List.length_append, lcells_app]
      ·obtain rfl : i = ss.length := by omega
       have hsi := HI _ (Nat.le_refl _)
       rw [List.take_length] at hsi ⊢
       unfold swall
       generalize hA : swf t ss = A at *
       clear hA h3 h4
       have hsi := hid hsi
       repeat' (first | simp (disch := omega) only [sxE, swing_All.E, Nat.reduceAdd, Nat.reduceEqDiff, Nat.reduceMul, Nat.reduceSub, Int.reduceAdd, Int.reduceSub, Int.reduceMul, Int.reduceNeg, Int.reduceLT, Int.reduceLE, Int.reduceEq, Int.reduceToNat, ↓reduceIte, Int.reducePow, Nat.reduceLeDiff, Nat.reduceLT, ne_eq, eq_self, List.length_cons, List.length_nil, qxE] | (with_reducible refine cregF ?_))
       refine asks_ob (C := Sx.cx _ w _) [] (ι := Unit) (fun _ => True) (fun _ => .tuple #[]) b (dcs A.1 v) (fun _ v' => dcs A.1 v') v A.2.length (lcells A.2) (fun _ => A.2.length + (swl A.1).length) (fun _ => lcells A.2 ++ lcells (swl A.1)) en_swing_door__end rfl List.mem_cons_self (.inr (List.mem_cons_of_mem _ List.mem_cons_self)) (fun _ h => h) (fun k hk => by cases hk) (fun W hW hbW hB ho => ?_) fun _ v' _ hnb hsh hR' hgl => ?_
       ·have s1 := hsi.out
        refine (sw_end hbW hB ho hvb s1.n0 s1.c (by have := s1.len; omega)).mono ?_
        rintro e w' ⟨v', rfl, g1, g2, g3, g4, g5⟩
        exact ⟨(), v', trivial, rfl, g1, g2, g3, g4, g5⟩
       repeat' (first | simp (disch := omega) only [sxE, swing_All.E, Nat.reduceAdd, Nat.reduceEqDiff, Nat.reduceMul, Nat.reduceSub, Int.reduceAdd, Int.reduceSub, Int.reduceMul, Int.reduceNeg, Int.reduceLT, Int.reduceLE, Int.reduceEq, Int.reduceToNat, ↓reduceIte, Int.reducePow, Nat.reduceLeDiff, Nat.reduceLT, ne_eq, eq_self, List.length_cons, List.length_nil, qxE] | (with_reducible refine ldP_blk b ?_; refine ldP_k (b := b) rfl (by first | exact List.mem_cons_self | exact List.mem_cons_of_mem _ List.mem_cons_self | exact List.mem_cons_of_mem _ (List.mem_cons_of_mem _ List.mem_cons_self) | exact List.mem_cons_of_mem _ (List.mem_cons_of_mem _ (List.mem_cons_of_mem _ List.mem_cons_self)) | exact List.mem_cons_of_mem _ (List.mem_cons_of_mem _ (List.mem_cons_of_mem _ (List.mem_cons_of_mem _ List.mem_cons_self)))) rfl ?_) | (with_reducible refine cregF ?_))
       refine ⟨v', _, rfl, rfl, .inr ?_⟩
       rw [List.length_append, lcells_app]
       exact List.mem_cons_of_mem _ (List.mem_singleton.2 rfl)
    ·obtain ⟨e1, e2⟩ := erz_lim ht hinc hl
     rw [e1, e2]
     clear e1 e2
     repeat' (first | simp (disch := omega) only [sxE, swing_All.E, Nat.reduceAdd, Nat.reduceEqDiff, Nat.reduceMul, Nat.reduceSub, Int.reduceAdd, Int.reduceSub, Int.reduceMul, Int.reduceNeg, Int.reduceLT, Int.reduceLE, Int.reduceEq, Int.reduceToNat, ↓reduceIte, Int.reducePow, Nat.reduceLeDiff, Nat.reduceLT, ne_eq, eq_self, List.length_cons, List.length_nil, qxE] | (with_reducible refine Sx.call_at (f := 64) (fun W hW => k1 W) ?_) | (with_reducible refine cregF ?_))
     refine asks_at (fun W hW => c1 W hW) ?_
     repeat' (first | simp (disch := omega) only [sxE, swing_All.E, Nat.reduceAdd, Nat.reduceEqDiff, Nat.reduceMul, Nat.reduceSub, Int.reduceAdd, Int.reduceSub, Int.reduceMul, Int.reduceNeg, Int.reduceLT, Int.reduceLE, Int.reduceEq, Int.reduceToNat, ↓reduceIte, Int.reducePow, Nat.reduceLeDiff, Nat.reduceLT, ne_eq, eq_self, List.length_cons, List.length_nil, qxE] | (with_reducible refine cregF ?_))
     exact ⟨.slice none 0 0, [], rfl, kX_nil _, .inl ⟨rfl, rfl, rfl⟩⟩
   ·obtain ⟨e1, e2⟩ := erz_inc ht (Bool.eq_false_iff.2 hinc)
    rw [if_neg hinc] at c1
    rw [e1, e2]
    clear e1 e2
    repeat' (first | simp (disch := omega) only [sxE, swing_All.E, Nat.reduceAdd, Nat.reduceEqDiff, Nat.reduceMul, Nat.reduceSub, Int.reduceAdd, Int.reduceSub, Int.reduceMul, Int.reduceNeg, Int.reduceLT, Int.reduceLE, Int.reduceEq, Int.reduceToNat, ↓reduceIte, Int.reducePow, Nat.reduceLeDiff, Nat.reduceLT, ne_eq, eq_self, List.length_cons, List.length_nil, qxE] | (with_reducible refine Sx.call_at (f := 64) (fun W hW => k1 W) ?_) | (with_reducible refine cregF ?_))
    refine asks_at (fun W hW => c1 W hW) ?_
    repeat' (first | simp (disch := omega) only [sxE, swing_All.E, Nat.reduceAdd, Nat.reduceEqDiff, Nat.reduceMul, Nat.reduceSub, Int.reduceAdd, Int.reduceSub, Int.reduceMul, Int.reduceNeg, Int.reduceLT, Int.reduceLE, Int.reduceEq, Int.reduceToNat, ↓reduceIte, Int.reducePow, Nat.reduceLeDiff, Nat.reduceLT, ne_eq, eq_self, List.length_cons, List.length_nil, qxE] | (with_reducible refine cregF ?_))
    exact ⟨.slice none 0 0, [], rfl, kX_nil _, .inl ⟨rfl, rfl, rfl⟩⟩
  ·obtain ⟨e1, e2⟩ := erz_tol (ss := ss) (Bool.eq_false_iff.2 ht)
   rw [if_neg ht] at k1
   rw [e1, e2]
   clear e1 e2
   repeat' (first | simp (disch := omega) only [sxE, swing_All.E, Nat.reduceAdd, Nat.reduceEqDiff, Nat.reduceMul, Nat.reduceSub, Int.reduceAdd, Int.reduceSub, Int.reduceMul, Int.reduceNeg, Int.reduceLT, Int.reduceLE, Int.reduceEq, Int.reduceToNat, ↓reduceIte, Int.reducePow, Nat.reduceLeDiff, Nat.reduceLT, ne_eq, eq_self, List.length_cons, List.length_nil, qxE] | (with_reducible refine Sx.call_at (f := 64) (fun W hW => k1 W) ?_) | (with_reducible refine cregF ?_))
   exact ⟨.slice none 0 0, [], rfl, kX_nil _, .inl ⟨rfl, rfl, rfl⟩⟩
end Go.Proofs.YtncmmbacoknefaaGreat

/- Sc: swing: the segments, plain. -/
namespace Go.Proofs.YtncmmbacoknefaaGreat
open Go Go.RowKit Sx
set_option linter.unusedVariables false
set_option linter.unusedSimpArgs false
def sgd (t : Int) (ss : Smps) (a j : Nat) : Cn := thc (ss.getD a (0, 0)).2 (ss.getD (a + j) (0, 0)).2 t ((ss.getD (a + j) (0, 0)).1 - (ss.getD a (0, 0)).1)
def sgk (t : Int) (ss : Smps) (a : Nat) : Nat → Cn
 | 0 => cO
 | j + 1 => (cmt (sgk t ss a j) (sgd t ss a (j + 1))).1
def sgb (t : Int) (ss : Smps) (a j : Nat) : Bool := (cmt (sgk t ss a j) (sgd t ss a (j + 1))).2
def sgl (t : Int) (ss : Smps) (a m : Nat) : LnV := ⟨(m : Int) + 1, (ss.getD a (0, 0)).2, (cho true (sgk t ss a m)).1, (cho true (sgk t ss a m)).2⟩
def LCl (t : Int) (ss : Smps) : Nat → List LnV → Nat → Prop
 | a, [], e => a = e
 | a, x :: l, e => ∃ m, x = sgl t ss a m ∧ (∀ j, j < m → sgb t ss a j = true) ∧ sgb t ss a m = false ∧ LCl t ss (a + m + 1) l e
def LOk (t : Int) (ss : Smps) : Nat → List LnV → Nat → Prop
 | a, [], e => a = e
 | a, x :: l, e => ∃ m, x = sgl t ss a m ∧ a + m + 1 ≤ e ∧ (∀ j, j < m → sgb t ss a j = true) ∧ (l ≠ [] → a + m + 1 < e ∧ sgb t ss a m = false) ∧ LOk t ss (a + m + 1) l e
theorem LCl.le {t : Int} {ss : Smps} : ∀ {l : List LnV} {a e : Nat}, LCl t ss a l e → a ≤ e
 | [], a, e, h => Nat.le_of_eq h
 | x :: l, a, e, ⟨m, _, _, _, h⟩ => by have := LCl.le h; omega
theorem LCl.snoc {t : Int} {ss : Smps} {b m : Nat} (hf : ∀ j, j < m → sgb t ss b j = true) (hb : sgb t ss b m = false) : ∀ {l : List LnV} {a : Nat}, LCl t ss a l b → LCl t ss a (l ++ [sgl t ss b m]) (b + m + 1)
 | [], a, h => by
  have h : a = b := h
  subst h
  exact ⟨m, rfl, hf, hb, rfl⟩
 | x :: l, a, ⟨n, h1, h2, h3, h⟩ => ⟨n, h1, h2, h3, LCl.snoc hf hb h⟩
theorem LCl.last {t : Int} {ss : Smps} {b m : Nat} (hf : ∀ j, j < m → sgb t ss b j = true) : ∀ {l : List LnV} {a : Nat}, LCl t ss a l b → LOk t ss a (l ++ [sgl t ss b m]) (b + m + 1)
 | [], a, h => by
  have h : a = b := h
  subst h
  exact ⟨m, rfl, Nat.le_refl _, hf, fun h => absurd rfl h, rfl⟩
 | x :: l, a, ⟨n, h1, h2, h3, h⟩ => ⟨n, h1, by have := h.le; omega, h2, fun _ => ⟨by have := h.le; omega, h3⟩, LCl.last hf h⟩
theorem swj_at (t : Int) (ss : Smps) : ∀ i, i + 1 ≤ ss.length → ∃ a m, a + m = i ∧ LCl t ss 0 (swf t (ss.take (i + 1))).2 a ∧ (swf t (ss.take (i + 1))).1 = ⟨t, (m : Int) + 1, (ss.getD a (0, 0)).1, (ss.getD a (0, 0)).2, (ss.getD (a + m) (0, 0)).1, sgk t ss a m⟩ ∧ ∀ j, j < m → sgb t ss a j = true
 | 0, h => by
  refine ⟨0, 0, rfl, ?_, ?_, fun j hj => absurd hj (Nat.not_lt_zero _)⟩ <;> rw [take_snoc' (by omega), swf_snoc] <;> rfl
 | i + 1, h => by
  obtain ⟨a, m, h1, h2, h3, h4⟩ := swj_at t ss i (by omega)
  rw [take_snoc' (by omega), swf_snoc]
  generalize swf t (ss.take (i + 1)) = A at *
  obtain ⟨s, l⟩ := A
  dsimp only at h2 h3
  subst h3
  have hi : i + 1 = a + (m + 1) := by omega
  have hm : swg ⟨t, (m : Int) + 1, (ss.getD a (0, 0)).1, (ss.getD a (0, 0)).2, (ss.getD (a + m) (0, 0)).1, sgk t ss a m⟩ (ss.getD (i + 1) (0, 0)).1 (ss.getD (i + 1) (0, 0)).2 = sgb t ss a m := by
   unfold swg
   rw [show decide ((0 : Int) < (m : Int) + 1) = true from decide_eq_true (by omega), Bool.true_and, hi]
   rfl
  cases hb : sgb t ss a m
  ·rw [hb] at hm
   have e1 : (swa (⟨t, (m : Int) + 1, (ss.getD a (0, 0)).1, (ss.getD a (0, 0)).2, (ss.getD (a + m) (0, 0)).1, sgk t ss a m⟩, l) (ss.getD (i + 1) (0, 0))).1 = swb t (ss.getD (i + 1) (0, 0)).1 (ss.getD (i + 1) (0, 0)).2 := if_neg (by rw [hm]; decide)
   have e2 : (swa (⟨t, (m : Int) + 1, (ss.getD a (0, 0)).1, (ss.getD a (0, 0)).2, (ss.getD (a + m) (0, 0)).1, sgk t ss a m⟩, l) (ss.getD (i + 1) (0, 0))).2 = l ++ [sgl t ss a m] := by
    show l ++ swe _ _ _ = _
    unfold swe
    rw [if_neg (by rw [hm]; decide)]
    unfold swl
    rw [if_pos (show (0 : Int) < (m : Int) + 1 by omega)]
    rfl
   refine ⟨i + 1, 0, rfl, ?_, ?_, fun j hj => absurd hj (Nat.not_lt_zero _)⟩
   ·rw [e2, show i + 1 = a + m + 1 by omega]
    exact h2.snoc h4 hb
   ·rw [e1]; rfl
  ·rw [hb] at hm
   have e1 : (swa (⟨t, (m : Int) + 1, (ss.getD a (0, 0)).1, (ss.getD a (0, 0)).2, (ss.getD (a + m) (0, 0)).1, sgk t ss a m⟩, l) (ss.getD (i + 1) (0, 0))).1 = ⟨t, (m : Int) + 1 + 1, (ss.getD a (0, 0)).1, (ss.getD a (0, 0)).2, (ss.getD (i + 1) (0, 0)).1, (swm ⟨t, (m : Int) + 1, (ss.getD a (0, 0)).1, (ss.getD a (0, 0)).2, (ss.getD (a + m) (0, 0)).1, sgk t ss a m⟩ (ss.getD (i + 1) (0, 0)).1 (ss.getD (i + 1) (0, 0)).2).1⟩ := if_pos hm
   have e2 : (swa (⟨t, (m : Int) + 1, (ss.getD a (0, 0)).1, (ss.getD a (0, 0)).2, (ss.getD (a + m) (0, 0)).1, sgk t ss a m⟩, l) (ss.getD (i + 1) (0, 0))).2 = l := by
    show l ++ swe _ _ _ = _
    unfold swe
    rw [if_pos hm, List.append_nil]
   refine ⟨a, m + 1, by omega, by rw [e2]; exact h2, ?_, fun j hj => ?_⟩
   ·rw [e1, hi]
    rfl
   ·by_cases h : j = m
    ·rw [h]; exact hb
    ·exact h4 j (by omega)
theorem swall_ok (t : Int) (ss : Smps) : LOk t ss 0 (swall t ss) ss.length := by
 cases hn : ss.length with
 | zero =>
  obtain rfl : ss = [] := List.eq_nil_of_length_eq_zero hn
  rfl
 | succ i =>
  obtain ⟨a, m, h1, h2, h3, h4⟩ := swj_at t ss i (by omega)
  rw [show ss.take (i + 1) = ss by rw [← hn]; exact List.take_length] at h2 h3
  have e : swall t ss = (swf t ss).2 ++ [sgl t ss a m] := by
   unfold swall
   rw [h3]
   unfold swl
   rw [if_pos (show (0 : Int) < (m : Int) + 1 by omega)]
   rfl
  rw [e, ← h1]
  exact h2.last h4
theorem incr_lt {ss : Smps} (h : incr ss = true) {a : Nat} : ∀ {j : Nat}, a + j + 1 < ss.length → (ss.getD a (0, 0)).1 < (ss.getD (a + j + 1) (0, 0)).1
 | 0, hj => of_decide_eq_true h a (by omega)
 | j + 1, hj => by
  have h1 := incr_lt h (a := a) (j := j) (by omega)
  have h2 := of_decide_eq_true h (a + j + 1) (by omega)
  rw [show a + (j + 1) + 1 = a + j + 1 + 1 by omega]
  omega
theorem sgd_th {t : Int} {ss : Smps} (ht : tolz t = true) (hin : ∀ s ∈ ss, I64 s.1 ∧ I64 s.2) (hinc : incr ss = true) {a j : Nat} (hj : a + j + 1 < ss.length) : ThP (ss.getD a (0, 0)).2 (ss.getD (a + j + 1) (0, 0)).2 t ((ss.getD (a + j + 1) (0, 0)).1 - (ss.getD a (0, 0)).1) ∧ U64 ((ss.getD (a + j + 1) (0, 0)).1 - (ss.getD a (0, 0)).1) ∧ (ss.getD (a + j + 1) (0, 0)).1 - (ss.getD a (0, 0)).1 ≠ 0 := by
 have h1 := incr_lt hinc hj
 have x1 := smp_i64 hin a
 have x2 := smp_i64 hin (a + j + 1)
 have iD : U64 ((ss.getD (a + j + 1) (0, 0)).1 - (ss.getD a (0, 0)).1) := ⟨by omega, by have := x2.1.2; have := x1.1.1; omega⟩
 have h0 : (ss.getD (a + j + 1) (0, 0)).1 - (ss.getD a (0, 0)).1 ≠ 0 := by omega
 exact ⟨th_p (ab_66 x1.2) x2.2 (tolz_iff.1 ht) iD h0, iD, h0⟩
theorem sgk_ok {t : Int} {ss : Smps} (ht : tolz t = true) (hin : ∀ s ∈ ss, I64 s.1 ∧ I64 s.2) (hinc : incr ss = true) {a : Nat} : ∀ {j : Nat}, (∀ i, i < j → sgb t ss a i = true) → a + j < ss.length → (sgk t ss a j).ok
 | 0, _, _ => cO_ok
 | j + 1, h, hj => cmt_ok (sgk_ok ht hin hinc (fun i hi => h i (by omega)) (by omega)) (sgd_th ht hin hinc (by omega)).1.cl.ok (h j (by omega))
theorem rx_sdist {a b : Int} (ha : I64 a) (hb : I64 b) (h : b ≤ a) (W : World) : Gives Tryz.prog 42 [.int .i64 a, .int .i64 b] W (· = .int .u64 (a - b)) := by
 refine gives_known en_r01_Distance ?_
 have w1 := wrap_subw hb ha h
 have h' : ¬ a < b := by omega
 clear ha hb
 refine known_of (enter Tryz.func42 r01_Distance.ok (args := [_, _]) (by simp) ?_)
 repeat' (first | simp (disch := omega) only [sxE, r01_Distance.E, Nat.reduceAdd, Nat.reduceEqDiff, Nat.reduceMul, Nat.reduceSub, Int.reduceAdd, Int.reduceSub, Int.reduceMul, Int.reduceNeg, Int.reduceLT, Int.reduceLE, Int.reduceEq, Int.reduceToNat, ↓reduceIte, Int.reducePow, Nat.reduceLeDiff, Nat.reduceLT, ne_eq, eq_self, List.length_cons, List.length_nil, w1] | (with_reducible refine cregF ?_))
end Go.Proofs.YtncmmbacoknefaaGreat

/- CdS1: MADE BY PROGRAM (sxgen.py): the small code of some functions, points of it and their equations. -/
namespace Go.Proofs.YtncmmbacoknefaaGreat
open Go Go.RowKit Sx Sx.Q
set_option linter.unusedVariables false
variable (C : Cx) (R L1 L2 L3 L4 : St → Prop)
namespace w14_known
abbrev r0 : List G := [Mb 0 false]
abbrev r1 : List G := [e 6 (.bd [.int .i64 0, .int .i64 0] [(0, 1, (i 0)), (1, 1, (i 0))]), e 7 (.bd [.int .i64 0, .int .i64 0] [(0, 1, (i 1)), (1, 1, (i 10))]), e 8 (.bd [.int .i64 0, .int .i64 0] [(0, 1, (i 2)), (1, 1, (i 20))]), e 9 (.bd [.int .i64 0, .int .i64 0] [(0, 1, (i 3)), (1, 1, (i 31))]), e 10 (.gen false (.bsl 27 4 [0, 1, 2, 3]) [(t 6), (t 7), (t 8), (t 9)]), m 1 10]
abbrev q0 := [1, 2, 3]
abbrev r2 : List G := [m 12 1, e 13 (.call false 46 [(t 12), (i 0)]), m 11 13, x 14 11 0, x 15 11 1, m 2 14, m 3 15]
abbrev q1 := [2, 3, 4, 5]
abbrev r3 : List G := [m 17 1, e 18 (.call false 46 [(t 17), (i 1)]), m 16 18, x 19 16 0, x 20 16 1, m 4 19, m 5 20]
abbrev z0 : List Value := [.int .i64 0, .int .i64 0, .bool false, .int .u64 0, .int .u64 0, .int .u64 0, .int .u64 0, .bool false, .int .u64 0, .int .u64 0, .int .u64 0, .int .u64 0]
abbrev r4 : List G := [m 21 3, bi 22 .eql 21 0, m 23 22, ym 24 23 5, y 25 23 (.bin .eql (t 24) (i 0)), w 26 23 25, m 27 26, ym 28 27 2, y 29 27 (.len false (t 28)), y 30 27 (.bin .eql (t 29) (i 2)), w 31 27 30, m 32 31, ym 33 32 2, y 34 32 (.is 12 (t 33) (i 0)), y 35 32 (.ld true 12 (t 34)), y 36 32 (.call true 78 [(i 10)]), y 37 32 (.bd z0 [(0, 1, (i 3)), (2, 10, (t 36))]), y 38 32 (.eqg false 41 (t 35) (t 37)), w 39 32 38, m 40 39, ym 41 40 2, y 42 40 (.is 12 (t 41) (i 1)), ya 43 40 1 42, yl 44 40 43, y 45 40 (.bin .eql (t 44) (i 31)), w 46 40 45, m 47 46, ym 48 47 4, y 49 47 (.len false (t 48)), y 50 47 (.bin .eql (t 49) (i 1)), w 51 47 50, m 52 51, ym 53 52 4, y 54 52 (.is 12 (t 53) (i 0)), ya 55 52 0 54, yl 56 52 55, y 57 52 (.bin .eql (t 56) (i 4)), w 58 52 57]
abbrev t4 : List G := [m 0 58]
abbrev c : MC := sq [g r0 [], g r1 [1], g r2 q0, g r3 q1, gd r4 t4 [0], .ret]
theorem ok : compF Tryz.prog Tryz.f47 (an (rg 5) c [(4, 38, [], (up 38), [])]) = some (59, c, [(0, none)]) := by kernel_rfl
abbrev p1 := Pd C r4 t4 [0] R
abbrev p2 := P C r3 q1 (p1 C R)
abbrev p3 := P C r2 q0 (p2 C R)
abbrev p4 := P C r1 [1] (p3 C R)
abbrev p5 := P C r0 [] (p4 C R)
theorem s (S : St) : X C c (retK R) S = p5 C R S := by kernel_rfl
theorem E : type_of% @s := @s
end w14_known
end Go.Proofs.YtncmmbacoknefaaGreat

/- Sk: Rows of lines; equality of lines; law 14's known. -/
namespace Go.Proofs.YtncmmbacoknefaaGreat
open Go Go.RowKit Sx
set_option linter.unusedVariables false
set_option linter.unusedSimpArgs false
theorem guardT_line : Tryz.prog.eqGuardType Tryz.prog.depth 41 = false := by kernel_rfl
theorem weq_self (n : Bool) (a b c d : Int) : weq n a b c d n a b c d = true := by simp [weq, meq]
theorem eq_line_self (N V : Int) (n : Bool) (a b c d : Int) (n1 : Bool) (a1 b1 c1 d1 : Int) (w : World) :
  (Op.equalIn 10000 41 (.agg #[.int .i64 N, .int .i64 V, .bool n, .int .u64 a, .int .u64 b, .int .u64 c, .int .u64 d, .bool n1, .int .u64 a1, .int .u64 b1, .int .u64 c1, .int .u64 d1]) (.agg #[.int .i64 N, .int .i64 V, .bool n, .int .u64 a, .int .u64 b, .int .u64 c, .int .u64 d, .bool n1, .int .u64 a1, .int .u64 b1, .int .u64 c1, .int .u64 d1])).run Tryz.prog w = .ok true w := by
 have h := fun W => eq_ratio9 n a b c d n1 a1 b1 c1 d1 n a b c d n1 a1 b1 c1 d1 W
 simp only [weq_self, Bool.and_self] at h
 simp [go_sem, h]
theorem eql_run {ng : Bool} {xo yo : Operand} (N V : Int) (n : Bool) (a b c d : Int) (n1 : Bool) (a1 b1 c1 d1 : Int) (W : World) :
  ((do eqGuard (if ng then .neq else .eql) 41 xo yo (.agg #[.int .i64 N, .int .i64 V, .bool n, .int .u64 a, .int .u64 b, .int .u64 c, .int .u64 d, .bool n1, .int .u64 a1, .int .u64 b1, .int .u64 c1, .int .u64 d1]) (.agg #[.int .i64 N, .int .i64 V, .bool n, .int .u64 a, .int .u64 b, .int .u64 c, .int .u64 d, .bool n1, .int .u64 a1, .int .u64 b1, .int .u64 c1, .int .u64 d1]); binOp (if ng then .neq else .eql) 41 (.agg #[.int .i64 N, .int .i64 V, .bool n, .int .u64 a, .int .u64 b, .int .u64 c, .int .u64 d, .bool n1, .int .u64 a1, .int .u64 b1, .int .u64 c1, .int .u64 d1]) (.agg #[.int .i64 N, .int .i64 V, .bool n, .int .u64 a, .int .u64 b, .int .u64 c, .int .u64 d, .bool n1, .int .u64 a1, .int .u64 b1, .int .u64 c1, .int .u64 d1])) : Sem Value).run Tryz.prog W = .ok (.bool (!ng)) W :=
 (eqb_run (ng := ng) (xo := xo) (yo := yo) guardT_line (eq_line_self N V n a b c d n1 a1 b1 c1 d1 W)).trans (by cases ng <;> rfl)
def ln0 : LnV := ⟨0, 0, 0, 0⟩
theorem lcells_at : ∀ {ls : List LnV} {i j : Nat}, i < ls.length → j < 12 → (lcells ls)[12 * i + j]? = (lcell (ls.getD i ln0))[j]?
 | [], i, j, h, _ => absurd h (Nat.not_lt_zero _)
 | x :: ls, 0, j, h, hj => by
  show (lcell x ++ lcells ls)[12 * 0 + j]? = _
  rw [List.getElem?_append_left (by show _ < 12; omega)]
  rw [Nat.mul_zero, Nat.zero_add]
  rfl
 | x :: ls, i + 1, j, h, hj => by
  show (lcell x ++ lcells ls)[12 * (i + 1) + j]? = _
  rw [List.getElem?_append_right (by show 12 ≤ _; omega), show 12 * (i + 1) + j - (lcell x).length = 12 * i + j from by show 12 * (i + 1) + j - 12 = _; omega]
  exact lcells_at (by simpa using h) hj
namespace Sx
variable {C : Cx} {S : St} {K : St → Prop} {d : Option Nat}
theorem ldP_lN {L : List Kn} {e : TypeId} {g n cap o : Nat} {ls : List LnV} (i : Nat) (x : LnV) (hT : (C.kn S).T = kX C.w0.heap.size L) (hm : .g (wK e 12 (.slice (some ⟨g, 0, none⟩) n cap) n (lcells ls)) ∈ L) (ho : o = 12 * i) (hi : i < ls.length) (hx : ls.getD i ln0 = x)
  (hk : K (S.put d (.v (.int .i64 x.n)))) : ldP C false 1 ⟨g, o, none⟩ d K S := by
 subst ho
 subst hx
 exact ldP_row (b := false) (l := [.int .i64 (ls.getD i ln0).n]) hT hm rfl (read1 (lcells_at (j := 0) hi (by decide))) hk
theorem ldP_lV {L : List Kn} {e : TypeId} {g n cap o : Nat} {ls : List LnV} (i : Nat) (x : LnV) (hT : (C.kn S).T = kX C.w0.heap.size L) (hm : .g (wK e 12 (.slice (some ⟨g, 0, none⟩) n cap) n (lcells ls)) ∈ L) (ho : o = 12 * i + 1) (hi : i < ls.length) (hx : ls.getD i ln0 = x)
  (hk : K (S.put d (.v (.int .i64 x.V)))) : ldP C false 1 ⟨g, o, none⟩ d K S := by
 subst ho
 subst hx
 exact ldP_row (b := false) (l := [.int .i64 (ls.getD i ln0).V]) hT hm rfl (read1 (lcells_at (j := 1) hi (by decide))) hk
theorem ldP_l12 {L : List Kn} {e : TypeId} {g n cap o : Nat} {ls : List LnV} (i : Nat) (x : LnV) (hT : (C.kn S).T = kX C.w0.heap.size L) (hm : .g (wK e 12 (.slice (some ⟨g, 0, none⟩) n cap) n (lcells ls)) ∈ L) (ho : o = 12 * i) (hi : i < ls.length) (hx : ls.getD i ln0 = x)
  (hk : K (S.put d (.v (.agg #[.int .i64 x.n, .int .i64 x.V, .bool (sg x.p), .int .u64 (lb0 (ab x.p)), .int .u64 (lb1 (ab x.p)), .int .u64 (lb2 (ab x.p)), .int .u64 (lb3 (ab x.p)), .bool (sg x.q), .int .u64 (lb0 (ab x.q)), .int .u64 (lb1 (ab x.q)), .int .u64 (lb2 (ab x.q)), .int .u64 (lb3 (ab x.q))])))) : ldP C true 12 ⟨g, o, none⟩ d K S := by
 subst ho
 subst hx
 refine ldP_row (b := true) (l := lcell (ls.getD i ln0)) hT hm rfl (fun j v hj => ?_) hk
 rw [lcells_at hi (by have := (List.getElem?_eq_some_iff.1 hj).1; exact this)]
 exact hj
theorem ldP_lS {L : List Kn} {e : TypeId} {g n cap o : Nat} {ls : List LnV} (i : Nat) (x : LnV) (hT : (C.kn S).T = kX C.w0.heap.size L) (hm : .g (wK e 12 (.slice (some ⟨g, 0, none⟩) n cap) n (lcells ls)) ∈ L) (ho : o = 12 * i + 2) (hi : i < ls.length) (hx : ls.getD i ln0 = x)
  (hk : K (S.put d (.v (RX x.p x.q)))) : ldP C true 10 ⟨g, o, none⟩ d K S := by
 subst ho
 subst hx
 refine ldP_row (b := true) (l := rc (ls.getD i ln0).p (ls.getD i ln0).q) hT hm rfl (fun j v hj => ?_) hk
 have hj10 : j < 10 := (List.getElem?_eq_some_iff.1 hj).1
 rw [show 12 * i + 2 + j = 12 * i + (j + 2) by omega, lcells_at hi (by omega)]
 exact hj
end Sx
theorem sls_cK {W : World} {b : Nat} {ss : Smps} (h : HB W b (scells ss).toArray) (hz : ∀ s ∈ ss, I64 s.1 ∧ I64 s.2) (hn : ss.length ≤ maxLen) : SlS W (.slice (some ⟨b, 0, none⟩) ss.length ss.length) ss := by
 refine ⟨some ⟨b, 0, none⟩, ss.length, rfl, Nat.le_refl _, hn, hz, fun _ => ⟨b, 0, rfl, h.lt, fun i hi => ?_⟩⟩
 have h1 := (Bx.of h).2.1 (0 + i * 2)
 have h2 := (Bx.of h).2.1 (0 + i * 2 + 1)
 obtain ⟨s1, s2⟩ := scells_at ss i hi
 rw [List.getElem?_toArray, show 0 + i * 2 = 2 * i by omega] at h1 h2
 refine ⟨?_, ?_⟩
 ·rw [show 0 + i * 2 = 2 * i by omega]; exact h1.trans s1
 ·rw [show 0 + i * 2 = 2 * i by omega]; exact h2.trans s2
abbrev L14 : Smps := [(0, 0), (1, 10), (2, 20), (3, 31)]
abbrev A14 : List LnV := [⟨3, 0, 10, 1⟩, ⟨1, 31, 0, 1⟩]
abbrev B14 : List LnV := [⟨4, 0, 10, 1⟩]
theorem lin_0 : linez 0 L14 = A14 ∧ erz 0 L14 = 0 := ⟨by kernel_rfl, by kernel_rfl⟩
theorem lin_1 : linez 1 L14 = B14 ∧ erz 1 L14 = 0 := ⟨by kernel_rfl, by kernel_rfl⟩
theorem L14_in : ∀ s ∈ L14, I64 s.1 ∧ I64 s.2 := by unfold I64; decide
set_option maxRecDepth 100000 in
set_option maxHeartbeats 1000000 in
theorem g_known14 (w : World) : Calls Tryz.prog 47 #[] w fun e w' => e = .returned (.bool true) ∧ Below w.heap.size w w' := by
 have o1 := fun W => rx_rof (z := 10) ⟨by decide, by decide⟩ W
 refine known_of (enter Tryz.func47 w14_known.ok (args := []) (by simp) ?_)
 repeat' (first | simp (disch := omega) only [sxE, w14_known.E, Nat.reduceAdd, Nat.reduceEqDiff, Nat.reduceMul, Nat.reduceSub, Int.reduceAdd, Int.reduceSub, Int.reduceMul, Int.reduceNeg, Int.reduceLT, Int.reduceLE, Int.reduceEq, Int.reduceToNat, ↓reduceIte, Int.reducePow, Nat.reduceLeDiff, Nat.reduceLT, ne_eq, eq_self, List.length_cons, List.length_nil, qxE] | (with_reducible refine cregF ?_))
 refine genA_c (L := []) (cs := scells L14) (T := 58) (fun b => .slice (some ⟨b, 0, none⟩) 4 4) (kX_nil _) (fun W => by kernel_rfl) fun b _ => ?_
 repeat' (first | simp (disch := omega) only [sxE, w14_known.E, Nat.reduceAdd, Nat.reduceEqDiff, Nat.reduceMul, Nat.reduceSub, Int.reduceAdd, Int.reduceSub, Int.reduceMul, Int.reduceNeg, Int.reduceLT, Int.reduceLE, Int.reduceEq, Int.reduceToNat, ↓reduceIte, Int.reducePow, Nat.reduceLeDiff, Nat.reduceLT, ne_eq, eq_self, List.length_cons, List.length_nil, qxE] | (with_reducible refine cregF ?_))
 refine asks_rowB (L := [.g (cK b (scells L14))]) (e := 41) (s := 12) (ι := Unit) (fun _ => True) (fun _ => 2) (fun _ => lcells A14) (fun _ v => .tuple #[v, .int .i64 0]) en_swing_All rfl (fun W hW hok => ?_) ?_
 ·have hb : (cK b (scells L14)).ok w.heap.size W := hok _ List.mem_cons_self
  refine (sw_all (sls_cK hb.2 L14_in (by decide)) i64_0 (by decide)).mono ?_
  rw [lin_0.1, lin_0.2]
  exact fun e w' ⟨v, h1, h2, h3⟩ => ⟨(), v, trivial, h1, h2, h3⟩
 rintro - a1 c1 - - - hg1 -
 obtain ⟨g1, rfl⟩ := hg1 (by decide)
 repeat' (first | simp (disch := omega) only [sxE, w14_known.E, Nat.reduceAdd, Nat.reduceEqDiff, Nat.reduceMul, Nat.reduceSub, Int.reduceAdd, Int.reduceSub, Int.reduceMul, Int.reduceNeg, Int.reduceLT, Int.reduceLE, Int.reduceEq, Int.reduceToNat, ↓reduceIte, Int.reducePow, Nat.reduceLeDiff, Nat.reduceLT, ne_eq, eq_self, List.length_cons, List.length_nil, qxE] | (with_reducible refine cregF ?_))
 refine asks_rowB (L := [.g (wK 41 12 (.slice (some ⟨g1, 0, none⟩) 2 c1) 2 (lcells A14)), .g (cK b (scells L14))]) (e := 41) (s := 12) (ι := Unit) (fun _ => True) (fun _ => 1) (fun _ => lcells B14) (fun _ v => .tuple #[v, .int .i64 0]) en_swing_All rfl (fun W hW hok => ?_) ?_
 ·have hb : (cK b (scells L14)).ok w.heap.size W := hok _ (List.mem_cons_of_mem _ List.mem_cons_self)
  refine (sw_all (t := 1) (sls_cK hb.2 L14_in (by decide)) ⟨by decide, by decide⟩ (by decide)).mono ?_
  rw [lin_1.1, lin_1.2]
  exact fun e w' ⟨v, h1, h2, h3⟩ => ⟨(), v, trivial, h1, h2, h3⟩
 rintro - a2 c2 - - - hg2 -
 obtain ⟨g2, rfl⟩ := hg2 (by decide)
 have m1 : (Kn.g (wK 41 12 (.slice (some ⟨g1, 0, none⟩) 2 c1) 2 (lcells A14))) ∈ ([.g (wK 41 12 (.slice (some ⟨g2, 0, none⟩) 1 c2) 1 (lcells B14)), .g (wK 41 12 (.slice (some ⟨g1, 0, none⟩) 2 c1) 2 (lcells A14)), .g (cK b (scells L14))] : List Kn) := List.mem_cons_of_mem _ List.mem_cons_self
 repeat' (first | simp (disch := omega) only [sxE, w14_known.E, Nat.reduceAdd, Nat.reduceEqDiff, Nat.reduceMul, Nat.reduceSub, Int.reduceAdd, Int.reduceSub, Int.reduceMul, Int.reduceNeg, Int.reduceLT, Int.reduceLE, Int.reduceEq, Int.reduceToNat, ↓reduceIte, Int.reducePow, Nat.reduceLeDiff, Nat.reduceLT, ne_eq, eq_self, List.length_cons, List.length_nil, qxE, beq_self_eq_true, Bool.not_false] | (with_reducible refine Sx.call_at (f := 78) (fun W hW => o1 W) ?_) | (with_reducible refine ldP_self true 12 g1 ?_; refine ldP_l12 0 ⟨3, 0, 10, 1⟩ rfl m1 rfl (by decide) rfl ?_) | (with_reducible refine ldP_self false 1 g1 ?_; refine ldP_lV 1 ⟨1, 31, 0, 1⟩ rfl m1 rfl (by decide) rfl ?_) | (with_reducible refine ldP_self false 1 g2 ?_; refine ldP_lN 0 ⟨4, 0, 10, 1⟩ rfl List.mem_cons_self rfl (by decide) rfl ?_) | (with_reducible refine eq_is (fun W => by exact eql_run _ _ _ _ _ _ _ _ _ _ _ _ W) ?_) | (with_reducible refine cregF ?_))
end Go.Proofs.YtncmmbacoknefaaGreat

/- Kp: Cones: the plain laws of meeting and of having a slope. -/
namespace Go.Proofs.YtncmmbacoknefaaGreat
set_option linter.unusedVariables false
set_option linter.unusedSimpArgs false
theorem has_cl {p q p1 q1 x y : Int} : (Cn.mk false p q p1 q1).has x y = true ↔ p * y ≤ x * q ∧ x * q1 ≤ p1 * y := by
 unfold Cn.has
 simp
theorem Cl.lo {p q p1 q1 : Int} (h : Cl p q p1 q1) : (Cn.mk false p q p1 q1).has p q = true := has_cl.2 ⟨Int.le_refl _, h.le⟩
theorem Cl.hi {p q p1 q1 : Int} (h : Cl p q p1 q1) : (Cn.mk false p q p1 q1).has p1 q1 = true := has_cl.2 ⟨h.le, Int.le_refl _⟩
theorem has_meet {c c' : Cn} {x y : Int} (h : c.ok) (h' : c'.ok) (f : Fq x y) : ((cmt c c').2 && (cmt c c').1.has x y) = (c.has x y && c'.has x y) := by
 rcases h with rfl | ⟨ho, h⟩
 ·rfl
 ·rcases h' with rfl | ⟨ho', h'⟩
  ·obtain ⟨o, p, q, p1, q1⟩ := c
   dsimp only at ho
   subst ho
   show (true && (Cn.mk false p q p1 q1).has x y) = ((Cn.mk false p q p1 q1).has x y && true)
   rw [Bool.and_true, Bool.true_and]
  ·obtain ⟨o, p, q, p1, q1⟩ := c
   obtain ⟨o', r, s, r1, s1⟩ := c'
   dsimp only at ho ho' h h'
   subst ho; subst ho'
   have t1 : ∀ {a b : Int}, 0 < b → a * y ≤ x * b → ∀ {a' b' : Int}, 0 < b' → a' * b ≤ a * b' → a' * y ≤ x * b' := fun hb k _ _ hb' k' => frac_trans hb' hb f.pos k' k
   have t2 : ∀ {a b : Int}, 0 < b → x * b ≤ a * y → ∀ {a' b' : Int}, 0 < b' → a * b' ≤ a' * b → x * b' ≤ a' * y := fun hb k _ _ hb' k' => frac_trans f.pos hb hb' k k'
   rw [Bool.eq_iff_iff, Bool.and_eq_true, Bool.and_eq_true, has_cl, has_cl]
   unfold cmt
   have hp := h.f.pos
   have hp1 := h.g.pos
   have hs := h'.f.pos
   have hs1 := h'.g.pos
   dsimp only
   by_cases b1 : p * s < r * q
   ·by_cases b2 : r1 * q1 < p1 * s1
    ·by_cases b3 : r * s1 ≤ r1 * s
     ·simp only [b1, b2, b3, if_true, has_cl, Bool.false_eq_true, if_false]
      refine ⟨fun ⟨_, k1, k2⟩ => ⟨⟨t1 hs k1 hp (by omega), t2 hs1 k2 hp1 (by omega)⟩, k1, k2⟩, fun ⟨_, k1, k2⟩ => ⟨trivial, k1, k2⟩⟩
     ·simp only [b1, b2, b3, if_true, if_false, Bool.false_eq_true, false_and, false_iff]
      rintro ⟨-, k1, k2⟩
      exact b3 (frac_trans hs f.pos hs1 k1 k2)
    ·by_cases b3 : r * q1 ≤ p1 * s
     ·simp only [b1, b2, b3, if_true, has_cl, Bool.false_eq_true, if_false]
      refine ⟨fun ⟨_, k1, k2⟩ => ⟨⟨t1 hs k1 hp (by omega), k2⟩, k1, t2 hp1 k2 hs1 (by omega)⟩, fun ⟨⟨_, k2⟩, k1, _⟩ => ⟨trivial, k1, k2⟩⟩
     ·simp only [b1, b2, b3, if_true, if_false, Bool.false_eq_true, false_and, false_iff]
      rintro ⟨⟨-, k2⟩, k1, -⟩
      exact b3 (frac_trans hs f.pos hp1 k1 k2)
   ·by_cases b2 : r1 * q1 < p1 * s1
    ·by_cases b3 : p * s1 ≤ r1 * q
     ·simp only [b1, b2, b3, if_true, has_cl, Bool.false_eq_true, if_false]
      refine ⟨fun ⟨_, k1, k2⟩ => ⟨⟨k1, t2 hs1 k2 hp1 (by omega)⟩, t1 hp k1 hs (by omega), k2⟩, fun ⟨⟨k1, _⟩, _, k2⟩ => ⟨trivial, k1, k2⟩⟩
     ·simp only [b1, b2, b3, if_true, if_false, Bool.false_eq_true, false_and, false_iff]
      rintro ⟨⟨k1, -⟩, -, k2⟩
      exact b3 (frac_trans hp f.pos hs1 k1 k2)
    ·by_cases b3 : p * q1 ≤ p1 * q
     ·simp only [b1, b2, b3, if_true, has_cl, Bool.false_eq_true, if_false]
      refine ⟨fun ⟨_, k1, k2⟩ => ⟨⟨k1, k2⟩, t1 hp k1 hs (by omega), t2 hp1 k2 hs1 (by omega)⟩, fun ⟨⟨k1, k2⟩, _, _⟩ => ⟨trivial, k1, k2⟩⟩
     ·exact absurd h.le b3
theorem Cn.ok.cases {c : Cn} (h : c.ok) : c = cO ∨ (c.o = false ∧ Cl c.p c.q c.p1 c.q1) := h
theorem cho_fq {c : Cn} (h : c.ok) : Fq (cho true c).1 (cho true c).2 := by
 unfold cho
 rw [if_pos rfl]
 rcases h with rfl | ⟨ho, h⟩
 ·exact fq_zero
 ·rw [ho]
  exact (btx_spec h.f h.g h.le).fq
theorem cho_has {c : Cn} (h : c.ok) : c.has (cho true c).1 (cho true c).2 = true := by
 unfold cho
 rw [if_pos rfl]
 obtain ⟨o, p, q, p1, q1⟩ := c
 rcases h with e | ⟨e, h⟩
 ·cases e; rfl
 ·cases e
  have := btx_spec h.f h.g h.le
  exact has_cl.2 ⟨this.lo, this.hi⟩
theorem mk_le_l {n d p q : Int} (hd : 0 < d) : mn n d * q ≤ p * mD n d ↔ n * q ≤ p * d := by
 obtain ⟨h1, h2, -⟩ := mk_law (n := n) hd
 constructor
 ·intro h
  have := Int.mul_le_mul_of_nonneg_right h (Int.le_of_lt hd)
  rw [Int.mul_right_comm, h2, Int.mul_right_comm p] at this
  rw [Int.mul_right_comm] at this
  exact Int.le_of_mul_le_mul_right this h1
 ·intro h
  have := Int.mul_le_mul_of_nonneg_right h (Int.le_of_lt h1)
  rw [Int.mul_right_comm, ← h2, Int.mul_right_comm p] at this
  rw [Int.mul_right_comm] at this
  exact Int.le_of_mul_le_mul_right this hd
theorem mk_le_r {n d p q : Int} (hd : 0 < d) : p * mD n d ≤ mn n d * q ↔ p * d ≤ n * q := by
 obtain ⟨h1, h2, -⟩ := mk_law (n := n) hd
 constructor
 ·intro h
  have := Int.mul_le_mul_of_nonneg_right h (Int.le_of_lt hd)
  rw [Int.mul_right_comm (mn n d), h2, Int.mul_right_comm p] at this
  rw [Int.mul_right_comm n] at this
  exact Int.le_of_mul_le_mul_right this h1
 ·intro h
  have := Int.mul_le_mul_of_nonneg_right h (Int.le_of_lt h1)
  rw [Int.mul_right_comm n, ← h2, Int.mul_right_comm p] at this
  rw [Int.mul_right_comm (mn n d)] at this
  exact Int.le_of_mul_le_mul_right this hd
theorem th_has {b v eps dt p q : Int} (hd : 0 < dt) : (thc b v eps dt).has p q = true ↔ ab (p * dt - (v - b) * q) ≤ eps * q := by
 unfold thc
 rw [has_cl, mk_le_l hd, mk_le_r hd, Int.sub_mul (v - b) eps q, Int.add_mul (v - b) eps q]
 generalize (v - b) * q = x
 generalize p * dt = y
 generalize eps * q = z
 unfold ab
 split <;> omega
theorem th_round {b v eps dt p q : Int} (hq : 0 < q) (h : ab (p * dt - (v - b) * q) ≤ eps * q) : ab (b + atq p q dt - v) ≤ eps := by
 have h1 : (v - b - eps) * q ≤ p * dt := by
  rw [Int.sub_mul]
  generalize (v - b) * q = x at *
  unfold ab at h
  split at h <;> omega
 have h2 : p * dt ≤ (v - b + eps) * q := by
  rw [Int.add_mul]
  generalize (v - b) * q = x at *
  unfold ab at h
  split at h <;> omega
 have a1 : v - b - eps ≤ atq p q dt := by
  unfold atq
  refine Int.le_ediv_of_mul_le (by omega) ?_
  have : (v - b - eps) * (2 * q) = 2 * ((v - b - eps) * q) := by rw [Int.mul_left_comm]
  omega
 have a2 : atq p q dt < v - b + eps + 1 := by
  unfold atq
  refine Int.ediv_lt_of_lt_mul (by omega) ?_
  have : (v - b + eps + 1) * (2 * q) = 2 * ((v - b + eps) * q) + 2 * q := by rw [Int.add_mul (v - b + eps) 1, Int.mul_left_comm, Int.one_mul]
  omega
 unfold ab
 split <;> omega
end Go.Proofs.YtncmmbacoknefaaGreat

/- Sl: Laws of swing: what they share. -/
namespace Go.Proofs.YtncmmbacoknefaaGreat
open Go Go.RowKit Sx
set_option linter.unusedVariables false
set_option linter.unusedSimpArgs false
theorem drop_cons' {ls : List LnV} {i : Nat} (h : i < ls.length) : ls.drop i = ls.getD i ln0 :: ls.drop (i + 1) := by
 rw [List.drop_eq_getElem_cons h, List.getD_eq_getElem?_getD, List.getElem?_eq_getElem h]
 rfl
theorem eqs_run {ng : Bool} {xo yo : Operand} {p q : Int} (W : World) :
  ((do eqGuard (if ng then .neq else .eql) 39 xo yo (RX p q) (RX p q); binOp (if ng then .neq else .eql) 39 (RX p q) (RX p q)) : Sem Value).run Tryz.prog W = .ok (.bool (!ng)) W := by
 have := eqb_run (ng := ng) (xo := xo) (yo := yo) guardT_ratio (eq_ratio (sg p) (lb0 (ab p)) (lb1 (ab p)) (lb2 (ab p)) (lb3 (ab p)) (sg q) (lb0 (ab q)) (lb1 (ab q)) (lb2 (ab q)) (lb3 (ab q)) (sg p) (lb0 (ab p)) (lb1 (ab p)) (lb2 (ab p)) (lb3 (ab p)) (sg q) (lb0 (ab q)) (lb1 (ab q)) (lb2 (ab q)) (lb3 (ab q)) W)
 rw [weq_self, weq_self] at this
 exact this.trans (by cases ng <;> rfl)
theorem LOk.len {t : Int} {ss : Smps} : ∀ {l : List LnV} {a e : Nat}, LOk t ss a l e → a + l.length ≤ e
 | [], a, e, h => Nat.le_of_eq h
 | x :: l, a, e, ⟨m, _, _, _, _, h⟩ => by have := LOk.len h; rw [List.length_cons]; omega
theorem sgk_has {t : Int} {ss : Smps} (ht : tolz t = true) (hin : ∀ s ∈ ss, I64 s.1 ∧ I64 s.2) (hinc : incr ss = true) {a : Nat} {x y : Int} (f : Fq x y) : ∀ {m : Nat}, (∀ i, i < m → sgb t ss a i = true) → a + m < ss.length → (sgk t ss a m).has x y = true → ∀ j, j < m → (sgd t ss a (j + 1)).has x y = true
 | 0, _, _, _, j, hj => absurd hj (Nat.not_lt_zero _)
 | m + 1, hf, hm, h, j, hj => by
  have hk := sgk_ok ht hin hinc (a := a) (j := m) (fun i hi => hf i (by omega)) (by omega)
  have hd := (sgd_th ht hin hinc (a := a) (j := m) (by omega)).1.cl.ok
  have e := has_meet (c := sgk t ss a m) (c' := sgd t ss a (m + 1)) hk hd f
  have h1 : (cmt (sgk t ss a m) (sgd t ss a (m + 1))).2 = true := hf m (by omega)
  have h2 : (cmt (sgk t ss a m) (sgd t ss a (m + 1))).1.has x y = true := h
  rw [h1, h2, Bool.and_self] at e
  have e := e.symm
  rw [Bool.and_eq_true] at e
  by_cases hjm : j = m
  ·rw [hjm]; exact e.2
  ·exact sgk_has ht hin hinc f (fun i hi => hf i (by omega)) (by omega) e.1 j (by omega)
structure RdW (b v dt p q : Int) : Prop where
 a6 : Fits (atq p q dt)
 a7 : Fits (b + atq p q dt)
 a8 : Fits (b + atq p q dt - v)
theorem rd_w {b v dt p q : Int} (hb : I64 b) (hv : I64 v) (hd : U64 dt) (f : Fq p q) : RdW b v dt p q := by
 have b1 : Bd 191 (p * dt) := bd_mul f.bp (bd_u64 hd)
 have b6 : Bd 194 (2 * (p * dt) + q) := bd_add (bd_mul bd_two b1) f.bq (by decide) (by decide)
 have b7 : Bd 194 (atq p q dt) := bd_of_le b6 (ab_fdiv_le _ (by have := f.pos; omega))
 have b8 : Bd 195 (b + atq p q dt) := bd_add (bd_i64 hb) b7 (by decide) (by decide)
 have b9 : Bd 196 (b + atq p q dt - v) := bd_sub b8 (bd_i64 hv) (by decide) (by decide)
 exact ⟨b7.fits, b8.fits, b9.fits⟩
theorem cm_no {x t : Int} (h : x ≤ t) : ¬ 0 < cm x t := by
 unfold cm
 split
 ·omega
 ·split <;> omega
end Go.Proofs.YtncmmbacoknefaaGreat

/- Sd: swing: the reference's Start, Valid, begin, line on states that samples reach (DRAFT: not built yet). -/
namespace Go.Proofs.YtncmmbacoknefaaGreat
open Go Go.RowKit Sx
set_option linter.unusedVariables false
set_option linter.unusedSimpArgs false
structure SwG (s : SwS) : Prop where
 t : tolz s.t = true
 n0 : 0 ≤ s.n
 n1 : s.n ≤ 1073741824
 c : 0 < s.n → s.c.ok
 T : I64 s.T
 V : I64 s.V
 L : I64 s.L
 z : s.n = 0 → s = sw0 s.t
 one : s.n = 1 → s.L = s.T ∧ s.c = cO
 more : 1 < s.n → s.T < s.L ∧ s.c.o = false
theorem swi_g {t : Int} {ss : Smps} {i : Nat} {a : SwS × List LnV} (h : SwI t ss i a) (ht : tolz t = true) (hi : i ≤ 1073741824) : SwG a.1 :=
 ⟨by rw [h.tt]; exact ht, h.n0, by have := h.n1; omega, h.c, h.T, h.V, h.L, fun hz => by rw [h.tt]; exact h.z hz, h.one, h.more⟩
theorem guardT_state : Tryz.prog.eqGuardType Tryz.prog.depth 103 = false := by kernel_rfl
theorem eq_ratio8_self (n : Bool) (a b c d : Int) (n1 : Bool) (a1 b1 c1 d1 : Int) (w : World) :
  (Op.equalIn 9998 39 (.agg #[.bool n, .int .u64 a, .int .u64 b, .int .u64 c, .int .u64 d, .bool n1, .int .u64 a1, .int .u64 b1, .int .u64 c1, .int .u64 d1]) (.agg #[.bool n, .int .u64 a, .int .u64 b, .int .u64 c, .int .u64 d, .bool n1, .int .u64 a1, .int .u64 b1, .int .u64 c1, .int .u64 d1])).run Tryz.prog w = .ok true w := by
 have h := fun W => eq_wide n a b c d n a b c d 9994 W
 have h' := fun W => eq_wide n1 a1 b1 c1 d1 n1 a1 b1 c1 d1 9994 W
 simp only [weq_self] at h h'
 simp [go_sem, h, h']
theorem eq_cone9_self (o : Bool) (n : Bool) (a b c d : Int) (n1 : Bool) (a1 b1 c1 d1 : Int) (m : Bool) (e f g h : Int) (m1 : Bool) (e1 f1 g1 h1 : Int) (w : World) :
  (Op.equalIn 9999 73 (KR o n a b c d n1 a1 b1 c1 d1 m e f g h m1 e1 f1 g1 h1) (KR o n a b c d n1 a1 b1 c1 d1 m e f g h m1 e1 f1 g1 h1)).run Tryz.prog w = .ok true w := by
 have E1 := fun W => eq_ratio8_self n a b c d n1 a1 b1 c1 d1 W
 have E2 := fun W => eq_ratio8_self m e f g h m1 e1 f1 g1 h1 W
 unfold KR
 cases o <;> simp [go_sem, E1, E2]
theorem eq_state_self (t N T V L : Int) (o : Bool) (n : Bool) (a b c d : Int) (n1 : Bool) (a1 b1 c1 d1 : Int) (m : Bool) (e f g h : Int) (m1 : Bool) (e1 f1 g1 h1 : Int) (w : World) :
  (Op.equalIn 10000 103 (.agg #[.int .i64 t, .int .i64 N, .int .i64 T, .int .i64 V, .int .i64 L, .bool o, .bool n, .int .u64 a, .int .u64 b, .int .u64 c, .int .u64 d, .bool n1, .int .u64 a1, .int .u64 b1, .int .u64 c1, .int .u64 d1, .bool m, .int .u64 e, .int .u64 f, .int .u64 g, .int .u64 h, .bool m1, .int .u64 e1, .int .u64 f1, .int .u64 g1, .int .u64 h1]) (.agg #[.int .i64 t, .int .i64 N, .int .i64 T, .int .i64 V, .int .i64 L, .bool o, .bool n, .int .u64 a, .int .u64 b, .int .u64 c, .int .u64 d, .bool n1, .int .u64 a1, .int .u64 b1, .int .u64 c1, .int .u64 d1, .bool m, .int .u64 e, .int .u64 f, .int .u64 g, .int .u64 h, .bool m1, .int .u64 e1, .int .u64 f1, .int .u64 g1, .int .u64 h1])).run Tryz.prog w = .ok true w := by
 have E := fun W => eq_cone9_self o n a b c d n1 a1 b1 c1 d1 m e f g h m1 e1 f1 g1 h1 W
 unfold KR at E
 simp [go_sem, E]
theorem eqst_run {ng : Bool} {xo yo : Operand} (t N T V L : Int) (o : Bool) (n : Bool) (a b c d : Int) (n1 : Bool) (a1 b1 c1 d1 : Int) (m : Bool) (e f g h : Int) (m1 : Bool) (e1 f1 g1 h1 : Int) (W : World) :
  ((do eqGuard (if ng then .neq else .eql) 103 xo yo (.agg #[.int .i64 t, .int .i64 N, .int .i64 T, .int .i64 V, .int .i64 L, .bool o, .bool n, .int .u64 a, .int .u64 b, .int .u64 c, .int .u64 d, .bool n1, .int .u64 a1, .int .u64 b1, .int .u64 c1, .int .u64 d1, .bool m, .int .u64 e, .int .u64 f, .int .u64 g, .int .u64 h, .bool m1, .int .u64 e1, .int .u64 f1, .int .u64 g1, .int .u64 h1]) (.agg #[.int .i64 t, .int .i64 N, .int .i64 T, .int .i64 V, .int .i64 L, .bool o, .bool n, .int .u64 a, .int .u64 b, .int .u64 c, .int .u64 d, .bool n1, .int .u64 a1, .int .u64 b1, .int .u64 c1, .int .u64 d1, .bool m, .int .u64 e, .int .u64 f, .int .u64 g, .int .u64 h, .bool m1, .int .u64 e1, .int .u64 f1, .int .u64 g1, .int .u64 h1]); binOp (if ng then .neq else .eql) 103 (.agg #[.int .i64 t, .int .i64 N, .int .i64 T, .int .i64 V, .int .i64 L, .bool o, .bool n, .int .u64 a, .int .u64 b, .int .u64 c, .int .u64 d, .bool n1, .int .u64 a1, .int .u64 b1, .int .u64 c1, .int .u64 d1, .bool m, .int .u64 e, .int .u64 f, .int .u64 g, .int .u64 h, .bool m1, .int .u64 e1, .int .u64 f1, .int .u64 g1, .int .u64 h1]) (.agg #[.int .i64 t, .int .i64 N, .int .i64 T, .int .i64 V, .int .i64 L, .bool o, .bool n, .int .u64 a, .int .u64 b, .int .u64 c, .int .u64 d, .bool n1, .int .u64 a1, .int .u64 b1, .int .u64 c1, .int .u64 d1, .bool m, .int .u64 e, .int .u64 f, .int .u64 g, .int .u64 h, .bool m1, .int .u64 e1, .int .u64 f1, .int .u64 g1, .int .u64 h1])) : Sem Value).run Tryz.prog W = .ok (.bool (!ng)) W :=
 (eqb_run (ng := ng) (xo := xo) (yo := yo) guardT_state (eq_state_self t N T V L o n a b c d n1 a1 b1 c1 d1 m e f g h m1 e1 f1 g1 h1 W)).trans (by cases ng <;> rfl)
theorem eqcn_run {ng : Bool} {xo yo : Operand} (o : Bool) (n : Bool) (a b c d : Int) (n1 : Bool) (a1 b1 c1 d1 : Int) (m : Bool) (e f g h : Int) (m1 : Bool) (e1 f1 g1 h1 : Int) (W : World) :
  ((do eqGuard (if ng then .neq else .eql) 73 xo yo (KR o n a b c d n1 a1 b1 c1 d1 m e f g h m1 e1 f1 g1 h1) (KR o n a b c d n1 a1 b1 c1 d1 m e f g h m1 e1 f1 g1 h1); binOp (if ng then .neq else .eql) 73 (KR o n a b c d n1 a1 b1 c1 d1 m e f g h m1 e1 f1 g1 h1) (KR o n a b c d n1 a1 b1 c1 d1 m e f g h m1 e1 f1 g1 h1)) : Sem Value).run Tryz.prog W = .ok (.bool (!ng)) W := by
 have := eqb_run (ng := ng) (xo := xo) (yo := yo) guardT_cone (eq_cone o n a b c d n1 a1 b1 c1 d1 m e f g h m1 e1 f1 g1 h1 o n a b c d n1 a1 b1 c1 d1 m e f g h m1 e1 f1 g1 h1 W)
 simp only [weq_self, beq_self_eq_true, Bool.and_self] at this
 exact this.trans (by cases ng <;> rfl)
theorem eqkx_run {ng : Bool} {xo yo : Operand} {o : Bool} {p q p1 q1 : Int} (W : World) :
  ((do eqGuard (if ng then .neq else .eql) 73 xo yo (KX o p q p1 q1) (KX o p q p1 q1); binOp (if ng then .neq else .eql) 73 (KX o p q p1 q1) (KX o p q p1 q1)) : Sem Value).run Tryz.prog W = .ok (.bool (!ng)) W :=
 eqcn_run _ _ _ _ _ _ _ _ _ _ _ _ _ _ _ _ _ _ _ _ _ W
theorem rx_swstart {t : Int} (hi : I64 t) (W : World) : Gives Tryz.prog 65 [.int .i64 t] W (· = if tolz t then .tuple #[swZ t, .int .i64 0] else .tuple #[swZ 0, .int .i64 9]) := by
 refine gives_known en_r14_Start ?_
 have k := fun W => rx_tol hi W
 have e : decide (0 ≤ t ∧ t ≤ 4611686018427387904) = tolz t := by unfold tolz; rw [Bool.decide_and]
 rw [e] at k
 cases h : tolz t
 ·rw [h] at k
  refine known_of (enter Tryz.func65 r14_Start.ok (args := [_]) (by simp) ?_)
  repeat' (first | simp (disch := omega) only [sxE, r14_Start.E, Nat.reduceAdd, Nat.reduceEqDiff, Nat.reduceMul, Nat.reduceSub, Int.reduceAdd, Int.reduceSub, Int.reduceMul, Int.reduceNeg, Int.reduceLT, Int.reduceLE, Int.reduceEq, Int.reduceToNat, ↓reduceIte, Int.reducePow, Nat.reduceLeDiff, Nat.reduceLT, ne_eq, eq_self, List.length_cons, List.length_nil, qxE] | (with_reducible refine Sx.call_at (f := 93) (fun W hW => k W) ?_) | (with_reducible refine cregF ?_))
 ·rw [h] at k
  refine known_of (enter Tryz.func65 r14_Start.ok (args := [_]) (by simp) ?_)
  repeat' (first | simp (disch := omega) only [sxE, r14_Start.E, Nat.reduceAdd, Nat.reduceEqDiff, Nat.reduceMul, Nat.reduceSub, Int.reduceAdd, Int.reduceSub, Int.reduceMul, Int.reduceNeg, Int.reduceLT, Int.reduceLE, Int.reduceEq, Int.reduceToNat, ↓reduceIte, Int.reducePow, Nat.reduceLeDiff, Nat.reduceLT, ne_eq, eq_self, List.length_cons, List.length_nil, qxE] | (with_reducible refine Sx.call_at (f := 93) (fun W hW => k W) ?_) | (with_reducible refine cregF ?_))
theorem rx_swbegin (t xt xv : Int) (W : World) : Gives Tryz.prog 132 [.int .i64 t, .agg #[.int .i64 xt, .int .i64 xv]] W (· = swv (swb t xt xv)) := by
 refine gives_known en_r14_begin ?_
 have k := fun W => rx_kstart W
 refine known_of (enter Tryz.func132 r14_begin.ok (args := [_, _]) (by simp) ?_)
 repeat' (first | simp (disch := omega) only [sxE, r14_begin.E, Nat.reduceAdd, Nat.reduceEqDiff, Nat.reduceMul, Nat.reduceSub, Int.reduceAdd, Int.reduceSub, Int.reduceMul, Int.reduceNeg, Int.reduceLT, Int.reduceLE, Int.reduceEq, Int.reduceToNat, ↓reduceIte, Int.reducePow, Nat.reduceLeDiff, Nat.reduceLT, ne_eq, eq_self, List.length_cons, List.length_nil, qxE, kxE] | (with_reducible refine Sx.call_at (f := 55) (fun W hW => k W) ?_) | (with_reducible refine cregF ?_))
 rfl
theorem rx_swline {s : SwS} (hc : s.c.ok) (W : World) : Gives Tryz.prog 133 [swv s] W (· = .agg #[.int .i64 s.n, .int .i64 s.V, .bool (sg (cho true s.c).1), .int .u64 (lb0 (ab (cho true s.c).1)), .int .u64 (lb1 (ab (cho true s.c).1)), .int .u64 (lb2 (ab (cho true s.c).1)), .int .u64 (lb3 (ab (cho true s.c).1)), .bool (sg (cho true s.c).2), .int .u64 (lb0 (ab (cho true s.c).2)), .int .u64 (lb1 (ab (cho true s.c).2)), .int .u64 (lb2 (ab (cho true s.c).2)), .int .u64 (lb3 (ab (cho true s.c).2))]) := by
 refine gives_known en_r14_line ?_
 have k := fun W => rx_choose (kv_ok hc) W
 obtain ⟨t, n, T, V, L, ⟨o, p, q, p1, q1⟩⟩ := s
 dsimp only at *
 generalize (cho true ⟨o, p, q, p1, q1⟩).1 = P at *
 generalize (cho true ⟨o, p, q, p1, q1⟩).2 = Q at *
 have k : ∀ W, Gives Tryz.prog 44 [KX o p q p1 q1] W (· = RX P Q) := k
 clear hc
 refine known_of (enter Tryz.func133 r14_line.ok (args := [_]) (by simp) ?_)
 repeat' (first | simp (disch := omega) only [sxE, r14_line.E, Nat.reduceAdd, Nat.reduceEqDiff, Nat.reduceMul, Nat.reduceSub, Int.reduceAdd, Int.reduceSub, Int.reduceMul, Int.reduceNeg, Int.reduceLT, Int.reduceLE, Int.reduceEq, Int.reduceToNat, ↓reduceIte, Int.reducePow, Nat.reduceLeDiff, Nat.reduceLT, ne_eq, eq_self, List.length_cons, List.length_nil, qxE, kxE] | (with_reducible refine Sx.call_at (f := 44) (fun W hW => k W) ?_) | (with_reducible refine cregF ?_))
theorem rx_swvalid {s : SwS} (h : SwG s) (W : World) : Gives Tryz.prog 131 [swv s] W (· = .bool true) := by
 refine gives_known en_r14_Valid ?_
 obtain ⟨t0, t1⟩ := tolz_iff.1 h.t
 have it : I64 s.t := ⟨by omega, by omega⟩
 have k1 := fun W => rx_tol it W
 rw [decide_eq_true (show 0 ≤ s.t ∧ s.t ≤ 4611686018427387904 from ⟨t0, t1⟩)] at k1
 by_cases h0 : s.n = 0
 ·rw [h.z h0, swv_0]
  generalize s.t = t at *
  clear h h0
  refine known_of (enter Tryz.func131 r14_Valid.ok (args := [_]) (by simp) ?_)
  repeat' (first | simp (disch := omega) only [sxE, r14_Valid.E, Nat.reduceAdd, Nat.reduceEqDiff, Nat.reduceMul, Nat.reduceSub, Int.reduceAdd, Int.reduceSub, Int.reduceMul, Int.reduceNeg, Int.reduceLT, Int.reduceLE, Int.reduceEq, Int.reduceToNat, ↓reduceIte, Int.reducePow, Nat.reduceLeDiff, Nat.reduceLT, ne_eq, eq_self, List.length_cons, List.length_nil, qxE, kxE, beq_self_eq_true, Bool.not_false] | (with_reducible refine Sx.call_at (f := 93) (fun W hW => k1 W) ?_) | (with_reducible refine eq_is (fun W => by exact eqst_run _ _ _ _ _ _ _ _ _ _ _ _ _ _ _ _ _ _ _ _ _ _ _ _ _ _ W) ?_) | (with_reducible refine cregF ?_))
 by_cases h1 : s.n = 1
 ·obtain ⟨e1, e2⟩ := h.one h1
  obtain ⟨t, n, T, V, L, c⟩ := s
  dsimp only at *
  subst e1 e2 h1
  have k2 := fun W => rx_kstart W
  clear h it h0
  show Calls _ _ #[.agg #[.int .i64 t, .int .i64 1, .int .i64 L, .int .i64 V, .int .i64 L, .bool true, .bool (sg 0), .int .u64 (lb0 (ab 0)), .int .u64 (lb1 (ab 0)), .int .u64 (lb2 (ab 0)), .int .u64 (lb3 (ab 0)), .bool (sg 0), .int .u64 (lb0 (ab 0)), .int .u64 (lb1 (ab 0)), .int .u64 (lb2 (ab 0)), .int .u64 (lb3 (ab 0)), .bool (sg 0), .int .u64 (lb0 (ab 0)), .int .u64 (lb1 (ab 0)), .int .u64 (lb2 (ab 0)), .int .u64 (lb3 (ab 0)), .bool (sg 0), .int .u64 (lb0 (ab 0)), .int .u64 (lb1 (ab 0)), .int .u64 (lb2 (ab 0)), .int .u64 (lb3 (ab 0))]] _ _
  refine known_of (enter Tryz.func131 r14_Valid.ok (args := [_]) (by simp) ?_)
  repeat' (first | simp (disch := omega) only [sxE, r14_Valid.E, Nat.reduceAdd, Nat.reduceEqDiff, Nat.reduceMul, Nat.reduceSub, Int.reduceAdd, Int.reduceSub, Int.reduceMul, Int.reduceNeg, Int.reduceLT, Int.reduceLE, Int.reduceEq, Int.reduceToNat, ↓reduceIte, Int.reducePow, Nat.reduceLeDiff, Nat.reduceLT, ne_eq, eq_self, List.length_cons, List.length_nil, qxE, kxE, beq_self_eq_true, Bool.not_false] | (with_reducible refine Sx.call_at (f := 93) (fun W hW => k1 W) ?_) | (with_reducible refine Sx.call_at (f := 55) (fun W hW => k2 W) ?_) | (with_reducible refine eq_is (fun W => by exact eqkx_run W) ?_) | (with_reducible refine cregF ?_))
 ·have hn : 1 < s.n := by have := h.n0; omega
  obtain ⟨hL, ho⟩ := h.more hn
  have k2 := (kv_ok (h.c (by omega))).v2
  have hm := h.n1
  obtain ⟨t, n, T, V, L, ⟨o, p, q, p1, q1⟩⟩ := s
  dsimp only at *
  subst ho
  have k2 : ∀ W, Gives Tryz.prog 39 [KX false p q p1 q1] W (· = .bool true) := k2
  clear h it
  refine known_of (enter Tryz.func131 r14_Valid.ok (args := [_]) (by simp) ?_)
  repeat' (first | simp (disch := omega) only [sxE, r14_Valid.E, Nat.reduceAdd, Nat.reduceEqDiff, Nat.reduceMul, Nat.reduceSub, Int.reduceAdd, Int.reduceSub, Int.reduceMul, Int.reduceNeg, Int.reduceLT, Int.reduceLE, Int.reduceEq, Int.reduceToNat, ↓reduceIte, Int.reducePow, Nat.reduceLeDiff, Nat.reduceLT, ne_eq, eq_self, List.length_cons, List.length_nil, qxE, kxE, Bool.not_false] | (with_reducible refine Sx.call_at (f := 93) (fun W hW => k1 W) ?_) | (with_reducible refine Sx.call_at (f := 39) (fun W hW => k2 W) ?_) | (with_reducible refine cregF ?_))
end Go.Proofs.YtncmmbacoknefaaGreat

/- Sf: swing: the reference's Step, Finish, All and Same. -/
namespace Go.Proofs.YtncmmbacoknefaaGreat
open Go Go.RowKit Sx
set_option linter.unusedVariables false
set_option linter.unusedSimpArgs false
theorem all1_app : ∀ a b : List Value, all1 (a ++ b) = (all1 a && all1 b)
 | [], b => by rw [List.nil_append]; show _ = (true && _); rw [Bool.true_and]
 | v :: a, b => by
  show (one v && all1 (a ++ b)) = ((one v && all1 a) && all1 b)
  rw [all1_app a b, Bool.and_assoc]
theorem lcells_1 (ls : List LnV) : all1 (lcells ls) = true := by
 induction ls with
 | nil => rfl
 | cons x l ih =>
  show all1 (lcell x ++ lcells l) = true
  rw [all1_app, ih]
  rfl
def stz (s : SwS) (xt xv : Int) : Value × List LnV × Int := if 0 < s.n ∧ xt ≤ s.L then (swZ 0, [], 7) else if s.n = 1073741824 then (swZ 0, [], 3) else (swv (swn s xt xv), swe s xt xv, 0)
theorem stz_ok {s : SwS} {xt xv : Int} (h1 : ¬ (0 < s.n ∧ xt ≤ s.L)) (h2 : s.n ≠ 1073741824) : stz s xt xv = (swv (swn s xt xv), swe s xt xv, 0) := by
 unfold stz
 rw [if_neg h1, if_neg h2]
def StpB (w : World) (r : Value × List LnV × Int) (en : Ending) (w' : World) : Prop := ∃ v, en = .returned (.tuple #[r.1, v, .int .i64 r.2.2]) ∧ w'.ownsRow w.heap.size 41 12 v r.2.1.length (lcells r.2.1) ∧ Below w.heap.size w w'
set_option maxRecDepth 100000 in
set_option maxHeartbeats 2000000 in
theorem rx_swstep {w : World} {s : SwS} {xt xv : Int} (h : SwG s) (hxt : I64 xt) (hxv : I64 xv) : Calls Tryz.prog 72 #[swv s, .agg #[.int .i64 xt, .int .i64 xv]] w (StpB w (stz s xt xv)) := by
 refine (enterX Tryz.func72 r14_Step.ok (args := [swv s, .agg #[.int .i64 xt, .int .i64 xv]]) (R := fun u X => ∃ v L, u = .tuple #[(stz s xt xv).1, v, .int .i64 (stz s xt xv).2.2] ∧ X = kX w.heap.size L ∧ rowOf L 41 12 v (stz s xt xv).2.1.length (lcells (stz s xt xv).2.1)) (by simp) ?run).mono ?fin
 case fin =>
  rintro e w' ⟨u, X, rfl, ⟨v, L, rfl, rfl, hr⟩, hX, hbl, -⟩
  exact ⟨v, rfl, hr.own hX, hbl⟩
 case run =>
  have kv := fun W => rx_swvalid h W
  have kb := fun W => rx_swbegin s.t xt xv W
  obtain ⟨t0, t1⟩ := tolz_iff.1 h.t
  have m1 := h.n1
  have m0 := h.n0
  by_cases hn : 0 < s.n
  ·by_cases hle : xt ≤ s.L
   ·have e : stz s xt xv = (swZ 0, [], 7) := if_pos ⟨hn, hle⟩
    rw [e]
    clear e h kb
    obtain ⟨st, sn, sT, sV, sL, ⟨o, p, q, p1, q1⟩⟩ := s
    dsimp only at *
    repeat' (first | simp (disch := omega) only [sxE, r14_Step.E, Nat.reduceAdd, Nat.reduceEqDiff, Nat.reduceMul, Nat.reduceSub, Int.reduceAdd, Int.reduceSub, Int.reduceMul, Int.reduceNeg, Int.reduceLT, Int.reduceLE, Int.reduceEq, Int.reduceToNat, ↓reduceIte, Int.reducePow, Nat.reduceLeDiff, Nat.reduceLT, ne_eq, eq_self, List.length_cons, List.length_nil, qxE, kxE, Bool.not_true] | (with_reducible refine Sx.call_at (f := 131) (fun W hW => kv W) ?_) | (with_reducible refine cregF ?_))
    exact ⟨.slice none 0 0, [], rfl, kX_nil _, .inl ⟨rfl, rfl, rfl⟩⟩
   ·by_cases hmax : s.n = 1073741824
    ·have e : stz s xt xv = (swZ 0, [], 3) := by unfold stz; rw [if_neg (fun h => hle h.2), if_pos hmax]
     rw [e]
     clear e h kb
     obtain ⟨st, sn, sT, sV, sL, ⟨o, p, q, p1, q1⟩⟩ := s
     dsimp only at *
     repeat' (first | simp (disch := omega) only [sxE, r14_Step.E, Nat.reduceAdd, Nat.reduceEqDiff, Nat.reduceMul, Nat.reduceSub, Int.reduceAdd, Int.reduceSub, Int.reduceMul, Int.reduceNeg, Int.reduceLT, Int.reduceLE, Int.reduceEq, Int.reduceToNat, ↓reduceIte, Int.reducePow, Nat.reduceLeDiff, Nat.reduceLT, ne_eq, eq_self, List.length_cons, List.length_nil, qxE, kxE, Bool.not_true] | (with_reducible refine Sx.call_at (f := 131) (fun W hW => kv W) ?_) | (with_reducible refine cregF ?_))
     exact ⟨.slice none 0 0, [], rfl, kX_nil _, .inl ⟨rfl, rfl, rfl⟩⟩
    ·rw [stz_ok (fun h => hle h.2) hmax]
     have hc := h.c hn
     have iT := h.T
     have iV := h.V
     have hTL : s.T ≤ s.L := by
      by_cases h1 : s.n = 1
      ·exact Int.le_of_eq (h.one h1).1.symm
      ·exact Int.le_of_lt (h.more (by omega)).1
     have hx : s.T < xt := by omega
     have kl := fun W => rx_swline (s := s) hc W
     clear h
     obtain ⟨st, sn, sT, sV, sL, ⟨o, p, q, p1, q1⟩⟩ := s
     dsimp only at *
     have d1 := fun W => rx_sdist hxt iT (Int.le_of_lt hx) W
     have o1 := fun W => rx_of iV W
     have iDt : U64 (xt - sT) := ⟨by omega, by have := hxt.2; have := iT.1; omega⟩
     have th := fun W => rx_through (i64_fits iV).rw hxv ⟨by omega, by omega⟩ iDt (eps := st) W
     rw [thV_yes (ab_66 iV) t0 t1 (by omega)] at th
     have tp := th_p (ab_66 iV) hxv ⟨t0, t1⟩ iDt (by omega)
     have mt := fun W => rx_meet (kv_ok hc) (kv_ok tp.cl.ok) W
     have hsm : swm ⟨st, sn, sT, sV, sL, ⟨o, p, q, p1, q1⟩⟩ xt xv = cmt ⟨o, p, q, p1, q1⟩ ⟨false, mn (xv - sV - st) (xt - sT), mD (xv - sV - st) (xt - sT), mn (xv - sV + st) (xt - sT), mD (xv - sV + st) (xt - sT)⟩ := rfl
     unfold mtV mtv at mt
     rw [Bool.true_and, if_pos rfl] at mt
     have hE1 : swn ⟨st, sn, sT, sV, sL, ⟨o, p, q, p1, q1⟩⟩ xt xv = if swg ⟨st, sn, sT, sV, sL, ⟨o, p, q, p1, q1⟩⟩ xt xv = true then ⟨st, sn + 1, sT, sV, xt, (swm ⟨st, sn, sT, sV, sL, ⟨o, p, q, p1, q1⟩⟩ xt xv).1⟩ else swb st xt xv := rfl
     have hE2 : swe ⟨st, sn, sT, sV, sL, ⟨o, p, q, p1, q1⟩⟩ xt xv = if swg ⟨st, sn, sT, sV, sL, ⟨o, p, q, p1, q1⟩⟩ xt xv = true then [] else swl ⟨st, sn, sT, sV, sL, ⟨o, p, q, p1, q1⟩⟩ := rfl
     have hE3 : swg ⟨st, sn, sT, sV, sL, ⟨o, p, q, p1, q1⟩⟩ xt xv = (swm ⟨st, sn, sT, sV, sL, ⟨o, p, q, p1, q1⟩⟩ xt xv).2 := by unfold swg; rw [decide_eq_true hn, Bool.true_and]
     have hE4 : swl ⟨st, sn, sT, sV, sL, ⟨o, p, q, p1, q1⟩⟩ = [⟨sn, sV, (cho true ⟨o, p, q, p1, q1⟩).1, (cho true ⟨o, p, q, p1, q1⟩).2⟩] := if_pos hn
     rw [hE4] at hE2
     rw [hsm] at hE1 hE3
     clear tp hsm hE4
     generalize (cho true ⟨o, p, q, p1, q1⟩).1 = P at *
     generalize (cho true ⟨o, p, q, p1, q1⟩).2 = Q at *
     generalize mn (xv - sV - st) (xt - sT) = a1 at *
     generalize mD (xv - sV - st) (xt - sT) = a2 at *
     generalize mn (xv - sV + st) (xt - sT) = a3 at *
     generalize mD (xv - sV + st) (xt - sT) = a4 at *
     generalize cmt ⟨o, p, q, p1, q1⟩ ⟨false, a1, a2, a3, a4⟩ = M at *
     obtain ⟨⟨mo, mp, mq, mp1, mq1⟩, mb⟩ := M
     dsimp only at hE1 hE3 mt
     have mt : ∀ W, Gives Tryz.prog 45 [KX o p q p1 q1, KX false a1 a2 a3 a4] W (· = .tuple #[KX mo mp mq mp1 mq1, .bool mb]) := mt
     cases mb
     ·rw [if_neg (by rw [hE3]; decide)] at hE1 hE2
      rw [hE1, hE2]
      clear hE1 hE2 hE3 hc hTL
      repeat' (first | simp (disch := omega) only [sxE, r14_Step.E, Nat.reduceAdd, Nat.reduceEqDiff, Nat.reduceMul, Nat.reduceSub, Int.reduceAdd, Int.reduceSub, Int.reduceMul, Int.reduceNeg, Int.reduceLT, Int.reduceLE, Int.reduceEq, Int.reduceToNat, ↓reduceIte, Int.reducePow, Nat.reduceLeDiff, Nat.reduceLT, ne_eq, eq_self, List.length_cons, List.length_nil, qxE, kxE, Bool.not_true, Bool.not_false] | (with_reducible refine Sx.call_at (f := 131) (fun W hW => kv W) ?_) | (with_reducible refine Sx.call_at (f := 50) (fun W hW => o1 W) ?_) | (with_reducible refine Sx.call_at (f := 42) (fun W hW => d1 W) ?_) | (with_reducible refine Sx.call_at (f := 40) (fun W hW => th W) ?_) | (with_reducible refine Sx.call_at (f := 45) (fun W hW => mt W) ?_) | (with_reducible refine Sx.call_at (f := 132) (fun W hW => kb W) ?_) | (with_reducible refine Sx.call_at (f := 133) (fun W hW => kl W) ?_) | (refine genA_w (L := []) (cs := lcell ⟨sn, sV, P, Q⟩) (e := 41) (s := 12) (n := 1) (kX_nil _) (by simp [maxLen]) rfl (fun W => by kernel_rfl) fun b hb => ?_) | (with_reducible refine And.intro ?_ ?_) | (with_reducible refine cregF ?_))
      all_goals exact ⟨_, _, rfl, rfl, .inr (List.mem_singleton.2 rfl)⟩
     ·rw [if_pos hE3] at hE1 hE2
      rw [hE1, hE2]
      clear hE1 hE2 hE3 hc hTL kl kb
      repeat' (first | simp (disch := omega) only [sxE, r14_Step.E, Nat.reduceAdd, Nat.reduceEqDiff, Nat.reduceMul, Nat.reduceSub, Int.reduceAdd, Int.reduceSub, Int.reduceMul, Int.reduceNeg, Int.reduceLT, Int.reduceLE, Int.reduceEq, Int.reduceToNat, ↓reduceIte, Int.reducePow, Nat.reduceLeDiff, Nat.reduceLT, ne_eq, eq_self, List.length_cons, List.length_nil, qxE, kxE, Bool.not_true, Bool.not_false] | (with_reducible refine Sx.call_at (f := 131) (fun W hW => kv W) ?_) | (with_reducible refine Sx.call_at (f := 50) (fun W hW => o1 W) ?_) | (with_reducible refine Sx.call_at (f := 42) (fun W hW => d1 W) ?_) | (with_reducible refine Sx.call_at (f := 40) (fun W hW => th W) ?_) | (with_reducible refine Sx.call_at (f := 45) (fun W hW => mt W) ?_) | (with_reducible refine cregF ?_))
      exact ⟨.slice none 0 0, [], rfl, kX_nil _, .inl ⟨rfl, rfl, rfl⟩⟩
  ·have hz : s.n = 0 := by omega
   have e : stz s xt xv = (swv (swb s.t xt xv), [], 0) := by
    have eg : swg s xt xv = false := by unfold swg; rw [decide_eq_false hn]; rfl
    rw [stz_ok (fun h => hn h.1) (by omega)]
    unfold swn swe swl
    rw [eg, if_neg (by decide), if_neg (by decide), if_neg hn]
   rw [e]
   rw [h.z hz, swv_0] at kv ⊢
   generalize s.t = t at *
   clear e h hn hz m0 m1
   repeat' (first | simp (disch := omega) only [sxE, r14_Step.E, Nat.reduceAdd, Nat.reduceEqDiff, Nat.reduceMul, Nat.reduceSub, Int.reduceAdd, Int.reduceSub, Int.reduceMul, Int.reduceNeg, Int.reduceLT, Int.reduceLE, Int.reduceEq, Int.reduceToNat, ↓reduceIte, Int.reducePow, Nat.reduceLeDiff, Nat.reduceLT, ne_eq, eq_self, List.length_cons, List.length_nil, qxE, kxE, Bool.not_true, beq_self_eq_true] | (with_reducible refine Sx.call_at (f := 131) (fun W hW => kv W) ?_) | (with_reducible refine Sx.call_at (f := 132) (fun W hW => kb W) ?_) | (with_reducible refine cregF ?_))
   exact ⟨.slice none 0 0, [], rfl, kX_nil _, .inl ⟨rfl, rfl, rfl⟩⟩
set_option maxRecDepth 100000 in
theorem rx_swfin {w : World} {s : SwS} (h : SwG s) : Calls Tryz.prog 73 #[swv s] w (AllB w (swl s) 0) := by
 refine (enterX Tryz.func73 r14_Finish.ok (args := [swv s]) (R := fun u X => ∃ v L, u = .tuple #[v, .int .i64 0] ∧ X = kX w.heap.size L ∧ rowOf L 41 12 v (swl s).length (lcells (swl s))) (by simp) ?run).mono ?fin
 case fin =>
  rintro e w' ⟨u, X, rfl, ⟨v, L, rfl, rfl, hr⟩, hX, hbl, -⟩
  exact ⟨v, rfl, hr.own hX, hbl⟩
 case run =>
  have kv := fun W => rx_swvalid h W
  by_cases hn : 0 < s.n
  ·have e : swl s = [⟨s.n, s.V, (cho true s.c).1, (cho true s.c).2⟩] := if_pos hn
   rw [e]
   have kl := fun W => rx_swline (s := s) (h.c hn) W
   clear e h
   obtain ⟨st, sn, sT, sV, sL, ⟨o, p, q, p1, q1⟩⟩ := s
   dsimp only at *
   generalize (cho true ⟨o, p, q, p1, q1⟩).1 = P at *
   generalize (cho true ⟨o, p, q, p1, q1⟩).2 = Q at *
   repeat' (first | simp (disch := omega) only [sxE, r14_Finish.E, Nat.reduceAdd, Nat.reduceEqDiff, Nat.reduceMul, Nat.reduceSub, Int.reduceAdd, Int.reduceSub, Int.reduceMul, Int.reduceNeg, Int.reduceLT, Int.reduceLE, Int.reduceEq, Int.reduceToNat, ↓reduceIte, Int.reducePow, Nat.reduceLeDiff, Nat.reduceLT, ne_eq, eq_self, List.length_cons, List.length_nil, qxE, kxE, Bool.not_true, Bool.not_false] | (with_reducible refine Sx.call_at (f := 131) (fun W hW => kv W) ?_) | (with_reducible refine Sx.call_at (f := 133) (fun W hW => kl W) ?_) | (refine genA_w (L := []) (cs := lcell ⟨sn, sV, P, Q⟩) (e := 41) (s := 12) (n := 1) (kX_nil _) (by simp [maxLen]) rfl (fun W => by kernel_rfl) fun b hb => ?_) | (with_reducible refine cregF ?_))
   exact ⟨_, _, rfl, rfl, .inr (List.mem_singleton.2 rfl)⟩
  ·have e : swl s = [] := if_neg hn
   rw [e]
   have hz : s.n = 0 := by have := h.n0; omega
   rw [h.z hz, swv_0] at kv ⊢
   generalize s.t = t at *
   clear e h hn hz
   repeat' (first | simp (disch := omega) only [sxE, r14_Finish.E, Nat.reduceAdd, Nat.reduceEqDiff, Nat.reduceMul, Nat.reduceSub, Int.reduceAdd, Int.reduceSub, Int.reduceMul, Int.reduceNeg, Int.reduceLT, Int.reduceLE, Int.reduceEq, Int.reduceToNat, ↓reduceIte, Int.reducePow, Nat.reduceLeDiff, Nat.reduceLT, ne_eq, eq_self, List.length_cons, List.length_nil, qxE, kxE, Bool.not_true, beq_self_eq_true] | (with_reducible refine Sx.call_at (f := 131) (fun W hW => kv W) ?_) | (with_reducible refine cregF ?_))
   exact ⟨.slice none 0 0, [], rfl, kX_nil _, .inl ⟨rfl, rfl, rfl⟩⟩
set_option maxRecDepth 100000 in
set_option maxHeartbeats 2000000 in
theorem rx_swall {w : World} {v : Value} {ss : Smps} {t : Int} (h : SlS w v ss) (hi : I64 t) (hn : 8 * ss.length ≤ 140737488355328) : Calls Tryz.prog 18 #[v, .int .i64 t] w (AllB w (linez t ss) (erz t ss)) := by
 obtain ⟨a, cap, rfl, h1, h2, h3, h4⟩ := id h
 have h2' := h2
 simp only [maxLen] at h2'
 refine (enterX Tryz.func18 r14_All.ok (args := [.slice a ss.length cap, .int .i64 t]) (R := fun u X => ∃ v L, u = .tuple #[v, .int .i64 (erz t ss)] ∧ X = kX w.heap.size L ∧ rowOf L 41 12 v (linez t ss).length (lcells (linez t ss))) (by simp) ?run).mono ?fin
 case fin =>
  rintro e w' ⟨u, X, rfl, ⟨v, L, rfl, rfl, hr⟩, hX, hbl, -⟩
  exact ⟨v, rfl, hr.own hX, hbl⟩
 case run =>
  have k1 := fun W => rx_swstart hi W
  have c1 : ∀ W, Below w.heap.size w W → Gives Tryz.prog 71 [.slice a ss.length cap] W (· = .int .i64 (if incr ss then 0 else 7)) := fun W hW => gives_known en_r12_Check (r_check (SlS.below h hW) hn)
  by_cases ht : tolz t = true
  ·rw [if_pos ht] at k1
   by_cases hinc : incr ss = true
   ·rw [if_pos hinc] at c1
    by_cases hl : ss.length ≤ 1073741824
    ·obtain ⟨e1, e2⟩ := erz_ok ht hinc hl
     rw [e1, e2]
     clear e1 e2
     repeat' (first | simp (disch := omega) only [sxE, r14_All.E, Nat.reduceAdd, Nat.reduceEqDiff, Nat.reduceMul, Nat.reduceSub, Int.reduceAdd, Int.reduceSub, Int.reduceMul, Int.reduceNeg, Int.reduceLT, Int.reduceLE, Int.reduceEq, Int.reduceToNat, ↓reduceIte, Int.reducePow, Nat.reduceLeDiff, Nat.reduceLT, ne_eq, eq_self, List.length_cons, List.length_nil, qxE] | (with_reducible refine Sx.call_at (f := 65) (fun W hW => k1 W) ?_) | (with_reducible refine cregF ?_))
     refine asks_at (fun W hW => c1 W hW) ?_
     repeat' (first | simp (disch := omega) only [sxE, r14_All.E, Nat.reduceAdd, Nat.reduceEqDiff, Nat.reduceMul, Nat.reduceSub, Int.reduceAdd, Int.reduceSub, Int.reduceMul, Int.reduceNeg, Int.reduceLT, Int.reduceLE, Int.reduceEq, Int.reduceToNat, ↓reduceIte, Int.reducePow, Nat.reduceLeDiff, Nat.reduceLT, ne_eq, eq_self, List.length_cons, List.length_nil, qxE] | (with_reducible refine cregF ?_))
     rw [r14_All.p3_l]
     have HI := fun i hi => swi_at ht h3 hinc i hi
     have t01 := tolz_iff.1 ht
     refine LX_inv (fun x : Nat × Value => ⟨1, [(0, .v (.slice a ss.length cap)), (6, .p 0 0), (8, .v x.2), (9, .v (.int .i64 (x.1 : Int)))], [(0, [.int .i64 (swf t (ss.take x.1)).1.t, .int .i64 (swf t (ss.take x.1)).1.n, .int .i64 (swf t (ss.take x.1)).1.T, .int .i64 (swf t (ss.take x.1)).1.V, .int .i64 (swf t (ss.take x.1)).1.L, .bool (swf t (ss.take x.1)).1.c.o, .bool (sg (swf t (ss.take x.1)).1.c.p), .int .u64 (lb0 (ab (swf t (ss.take x.1)).1.c.p)), .int .u64 (lb1 (ab (swf t (ss.take x.1)).1.c.p)), .int .u64 (lb2 (ab (swf t (ss.take x.1)).1.c.p)), .int .u64 (lb3 (ab (swf t (ss.take x.1)).1.c.p)), .bool (sg (swf t (ss.take x.1)).1.c.q), .int .u64 (lb0 (ab (swf t (ss.take x.1)).1.c.q)), .int .u64 (lb1 (ab (swf t (ss.take x.1)).1.c.q)), .int .u64 (lb2 (ab (swf t (ss.take x.1)).1.c.q)), .int .u64 (lb3 (ab (swf t (ss.take x.1)).1.c.q)), .bool (sg (swf t (ss.take x.1)).1.c.p1), .int .u64 (lb0 (ab (swf t (ss.take x.1)).1.c.p1)), .int .u64 (lb1 (ab (swf t (ss.take x.1)).1.c.p1)), .int .u64 (lb2 (ab (swf t (ss.take x.1)).1.c.p1)), .int .u64 (lb3 (ab (swf t (ss.take x.1)).1.c.p1)), .bool (sg (swf t (ss.take x.1)).1.c.q1), .int .u64 (lb0 (ab (swf t (ss.take x.1)).1.c.q1)), .int .u64 (lb1 (ab (swf t (ss.take x.1)).1.c.q1)), .int .u64 (lb2 (ab (swf t (ss.take x.1)).1.c.q1)), .int .u64 (lb3 (ab (swf t (ss.take x.1)).1.c.q1))])], kX w.heap.size [.g (wK 41 12 x.2 (swf t (ss.take x.1)).2.length (lcells (swf t (ss.take x.1)).2))]⟩) (fun x => x.1 ≤ ss.length) (fun x => ss.length - x.1) ?round (0, .slice none 0 0) (Nat.zero_le _) ?start
     case start =>
      have c0 : ((0 : Nat) : Int) = 0 := rfl
      simp (disch := omega) only [sxE, r14_All.E, Nat.reduceAdd, Nat.reduceEqDiff, Nat.reduceMul, Nat.reduceSub, Int.reduceAdd, Int.reduceSub, Int.reduceMul, Int.reduceNeg, Int.reduceLT, Int.reduceLE, Int.reduceEq, Int.reduceToNat, ↓reduceIte, Int.reducePow, Nat.reduceLeDiff, Nat.reduceLT, ne_eq, eq_self, List.length_cons, List.length_nil, c0]
      refine ⟨?_, ?_⟩
      ·exact (congrArg (fun v : Value => v.cells.toList) (swv_0 t)).symm
      ·rw [kX_nil w.heap.size]
       refine extS_of (L := []) fun k hk => ?_
       rw [List.mem_singleton.1 hk]
       exact .inr ⟨rfl, fun W => wK_nil _ _ _ W⟩
     case round =>
      rintro ⟨i, v⟩ hi'
      try dsimp only at hi' ⊢
      by_cases hlt : i < ss.length
      ·obtain ⟨b', off, rfl, -, -⟩ := h4 (by omega)
       have hsi := HI i hi'
       have hnx := swi_next hsi ht hlt h3 hinc
       have enx : swf t (ss.take (i + 1)) = swa (swf t (ss.take i)) (ss.getD i (0, 0)) := by rw [take_snoc' hlt, swf_snoc]
       have hx := smp_i64 h3 i
       have e0 : (i : Int) + 1 = ((i + 1 : Nat) : Int) := by omega
       have hG := swi_g hsi ht (by omega)
       have hord : ¬ (0 < (swf t (ss.take i)).1.n ∧ (ss.getD i (0, 0)).1 ≤ (swf t (ss.take i)).1.L) := fun ⟨q1, q2⟩ => by
        have hi0 : 0 < i := by have := hsi.n1; omega
        have q3 := (hsi.l hi0).2
        have q4 := of_decide_eq_true hinc (i - 1) (by omega)
        rw [show i - 1 + 1 = i by omega] at q4
        omega
       have hz := stz_ok (xv := (ss.getD i (0, 0)).2) hord (by have := hsi.n1; omega)
       have hlen := hnx.1.len
       rw [← enx] at hlen
       clear hord hnx
       rw [enx] at hlen
       unfold swa at hlen enx
       generalize hA : swf t (ss.take i) = A at *
       obtain ⟨⟨st, sn, sT, sV, sL, ⟨o, p, q, p1, q1⟩⟩, ls⟩ := A
       clear hA h3 h4 hsi
       dsimp only at hG hlen enx hz ⊢
       rw [List.length_append] at hlen
       repeat' (first | simp (disch := omega) only [sxE, r14_All.E, Nat.reduceAdd, Nat.reduceEqDiff, Nat.reduceMul, Nat.reduceSub, Int.reduceAdd, Int.reduceSub, Int.reduceMul, Int.reduceNeg, Int.reduceLT, Int.reduceLE, Int.reduceEq, Int.reduceToNat, ↓reduceIte, Int.reducePow, Nat.reduceLeDiff, Nat.reduceLT, ne_eq, eq_self, List.length_cons, List.length_nil, qxE] | (with_reducible refine ldP_blk b' ?_; refine ldP_S2 i h ?_ ?_ ?_; omega; omega) | (with_reducible refine cregF ?_))
       refine asks_rowB (L := [.g (wK 41 12 v ls.length (lcells ls))]) (e := 41) (s := 12) (ι := Unit) (fun _ => True) (fun _ => (swe ⟨st, sn, sT, sV, sL, ⟨o, p, q, p1, q1⟩⟩ (ss.getD i (0, 0)).1 (ss.getD i (0, 0)).2).length) (fun _ => lcells (swe ⟨st, sn, sT, sV, sL, ⟨o, p, q, p1, q1⟩⟩ (ss.getD i (0, 0)).1 (ss.getD i (0, 0)).2)) (fun _ v => .tuple #[swv (swn ⟨st, sn, sT, sV, sL, ⟨o, p, q, p1, q1⟩⟩ (ss.getD i (0, 0)).1 (ss.getD i (0, 0)).2), v, .int .i64 0]) en_r14_Step rfl (fun W hW hok => ?_) ?_
       ·have := rx_swstep (w := W) hG hx.1 hx.2
        rw [hz] at this
        exact this.mono fun e w' ⟨v, h1, h2, h3⟩ => ⟨(), v, trivial, h1, h2, h3⟩
       rintro - a2 c2 - - - - -
       generalize swe ⟨st, sn, sT, sV, sL, ⟨o, p, q, p1, q1⟩⟩ (ss.getD i (0, 0)).1 (ss.getD i (0, 0)).2 = es at *
       generalize swn ⟨st, sn, sT, sV, sL, ⟨o, p, q, p1, q1⟩⟩ (ss.getD i (0, 0)).1 (ss.getD i (0, 0)).2 = s' at *
       clear hz hG hx
       obtain ⟨st', sn', sT', sV', sL', ⟨o', p', q', p1', q1'⟩⟩ := s'
       repeat' (first | simp (disch := omega) only [sxE, r14_All.E, Nat.reduceAdd, Nat.reduceEqDiff, Nat.reduceMul, Nat.reduceSub, Int.reduceAdd, Int.reduceSub, Int.reduceMul, Int.reduceNeg, Int.reduceLT, Int.reduceLE, Int.reduceEq, Int.reduceToNat, ↓reduceIte, Int.reducePow, Nat.reduceLeDiff, Nat.reduceLT, ne_eq, eq_self, List.length_cons, List.length_nil, qxE] | (refine genA_appR rfl [] elt_line rfl (.inr (List.mem_cons_of_mem _ List.mem_cons_self)) (.inr List.mem_cons_self) (.inl fun _ h => h) (lcells_1 _) (by simp only [maxLen]; omega) (by omega) (fun k hk => by cases hk) fun a3 c3 _ _ _ _ => ?_) | (with_reducible refine cregF ?_))
       rw [e0]
       refine ⟨(i + 1, .slice a3 (ls.length + es.length) c3), by dsimp only; omega, by dsimp only; omega, ⟨rfl, rfl⟩, ?_, .inl ?_⟩
       ·dsimp only
        rw [enx]
       ·dsimp only
        rw [enx]
        dsimp only
        rw [List.length_append, lcells_app]
      ·obtain rfl : i = ss.length := by omega
       have hsi := HI _ (Nat.le_refl _)
       rw [List.take_length] at hsi ⊢
       have hG := swi_g hsi ht hl
       have hlen := hsi.len
       have hll := swl_len (swf t ss).1
       unfold swall
       generalize hA : swf t ss = A at *
       obtain ⟨⟨st, sn, sT, sV, sL, ⟨o, p, q, p1, q1⟩⟩, ls⟩ := A
       clear hA h3 h4 hsi
       dsimp only at hG hlen hll ⊢
       repeat' (first | simp (disch := omega) only [sxE, r14_All.E, Nat.reduceAdd, Nat.reduceEqDiff, Nat.reduceMul, Nat.reduceSub, Int.reduceAdd, Int.reduceSub, Int.reduceMul, Int.reduceNeg, Int.reduceLT, Int.reduceLE, Int.reduceEq, Int.reduceToNat, ↓reduceIte, Int.reducePow, Nat.reduceLeDiff, Nat.reduceLT, ne_eq, eq_self, List.length_cons, List.length_nil, qxE] | (with_reducible refine cregF ?_))
       refine asks_rowB (L := [.g (wK 41 12 v ls.length (lcells ls))]) (e := 41) (s := 12) (ι := Unit) (fun _ => True) (fun _ => (swl ⟨st, sn, sT, sV, sL, ⟨o, p, q, p1, q1⟩⟩).length) (fun _ => lcells (swl ⟨st, sn, sT, sV, sL, ⟨o, p, q, p1, q1⟩⟩)) (fun _ v => .tuple #[v, .int .i64 0]) en_r14_Finish rfl (fun W hW hok => ?_) ?_
       ·exact (rx_swfin (w := W) hG).mono fun e w' ⟨v, h1, h2, h3⟩ => ⟨(), v, trivial, h1, h2, h3⟩
       rintro - a2 c2 - - - - -
       generalize swl ⟨st, sn, sT, sV, sL, ⟨o, p, q, p1, q1⟩⟩ = es at *
       clear hG
       repeat' (first | simp (disch := omega) only [sxE, r14_All.E, Nat.reduceAdd, Nat.reduceEqDiff, Nat.reduceMul, Nat.reduceSub, Int.reduceAdd, Int.reduceSub, Int.reduceMul, Int.reduceNeg, Int.reduceLT, Int.reduceLE, Int.reduceEq, Int.reduceToNat, ↓reduceIte, Int.reducePow, Nat.reduceLeDiff, Nat.reduceLT, ne_eq, eq_self, List.length_cons, List.length_nil, qxE] | (refine genA_appR rfl [] elt_line rfl (.inr (List.mem_cons_of_mem _ List.mem_cons_self)) (.inr List.mem_cons_self) (.inl fun _ h => h) (lcells_1 _) (by simp only [maxLen]; omega) (by omega) (fun k hk => by cases hk) fun a3 c3 _ _ _ _ => ?_) | (with_reducible refine cregF ?_))
       refine ⟨_, _, rfl, rfl, .inr ?_⟩
       rw [List.length_append, lcells_app]
       exact List.mem_singleton.2 rfl
    ·obtain ⟨e1, e2⟩ := erz_lim ht hinc hl
     rw [e1, e2]
     clear e1 e2
     repeat' (first | simp (disch := omega) only [sxE, r14_All.E, Nat.reduceAdd, Nat.reduceEqDiff, Nat.reduceMul, Nat.reduceSub, Int.reduceAdd, Int.reduceSub, Int.reduceMul, Int.reduceNeg, Int.reduceLT, Int.reduceLE, Int.reduceEq, Int.reduceToNat, ↓reduceIte, Int.reducePow, Nat.reduceLeDiff, Nat.reduceLT, ne_eq, eq_self, List.length_cons, List.length_nil, qxE] | (with_reducible refine Sx.call_at (f := 65) (fun W hW => k1 W) ?_) | (with_reducible refine cregF ?_))
     refine asks_at (fun W hW => c1 W hW) ?_
     repeat' (first | simp (disch := omega) only [sxE, r14_All.E, Nat.reduceAdd, Nat.reduceEqDiff, Nat.reduceMul, Nat.reduceSub, Int.reduceAdd, Int.reduceSub, Int.reduceMul, Int.reduceNeg, Int.reduceLT, Int.reduceLE, Int.reduceEq, Int.reduceToNat, ↓reduceIte, Int.reducePow, Nat.reduceLeDiff, Nat.reduceLT, ne_eq, eq_self, List.length_cons, List.length_nil, qxE] | (with_reducible refine cregF ?_))
     exact ⟨.slice none 0 0, [], rfl, kX_nil _, .inl ⟨rfl, rfl, rfl⟩⟩
   ·obtain ⟨e1, e2⟩ := erz_inc ht (Bool.eq_false_iff.2 hinc)
    rw [if_neg hinc] at c1
    rw [e1, e2]
    clear e1 e2
    repeat' (first | simp (disch := omega) only [sxE, r14_All.E, Nat.reduceAdd, Nat.reduceEqDiff, Nat.reduceMul, Nat.reduceSub, Int.reduceAdd, Int.reduceSub, Int.reduceMul, Int.reduceNeg, Int.reduceLT, Int.reduceLE, Int.reduceEq, Int.reduceToNat, ↓reduceIte, Int.reducePow, Nat.reduceLeDiff, Nat.reduceLT, ne_eq, eq_self, List.length_cons, List.length_nil, qxE] | (with_reducible refine Sx.call_at (f := 65) (fun W hW => k1 W) ?_) | (with_reducible refine cregF ?_))
    refine asks_at (fun W hW => c1 W hW) ?_
    repeat' (first | simp (disch := omega) only [sxE, r14_All.E, Nat.reduceAdd, Nat.reduceEqDiff, Nat.reduceMul, Nat.reduceSub, Int.reduceAdd, Int.reduceSub, Int.reduceMul, Int.reduceNeg, Int.reduceLT, Int.reduceLE, Int.reduceEq, Int.reduceToNat, ↓reduceIte, Int.reducePow, Nat.reduceLeDiff, Nat.reduceLT, ne_eq, eq_self, List.length_cons, List.length_nil, qxE] | (with_reducible refine cregF ?_))
    exact ⟨.slice none 0 0, [], rfl, kX_nil _, .inl ⟨rfl, rfl, rfl⟩⟩
  ·obtain ⟨e1, e2⟩ := erz_tol (ss := ss) (Bool.eq_false_iff.2 ht)
   rw [if_neg ht] at k1
   rw [e1, e2]
   clear e1 e2
   repeat' (first | simp (disch := omega) only [sxE, r14_All.E, Nat.reduceAdd, Nat.reduceEqDiff, Nat.reduceMul, Nat.reduceSub, Int.reduceAdd, Int.reduceSub, Int.reduceMul, Int.reduceNeg, Int.reduceLT, Int.reduceLE, Int.reduceEq, Int.reduceToNat, ↓reduceIte, Int.reducePow, Nat.reduceLeDiff, Nat.reduceLT, ne_eq, eq_self, List.length_cons, List.length_nil, qxE] | (with_reducible refine Sx.call_at (f := 65) (fun W hW => k1 W) ?_) | (with_reducible refine cregF ?_))
   exact ⟨.slice none 0 0, [], rfl, kX_nil _, .inl ⟨rfl, rfl, rfl⟩⟩
theorem ldP_oL {C : Sx.Cx} {S : Sx.St} {K : Sx.St → Prop} {d : Option Nat} {e : TypeId} {base g n cap o : Nat} {ls : List LnV} (i : Nat) (h : C.w0.ownsRow base e 12 (.slice (some ⟨g, 0, none⟩) n cap) n (lcells ls)) (ho : o = 12 * i) (hi : i < ls.length)
  (hk : K (S.put d (.v (.agg #[.int .i64 (ls.getD i ln0).n, .int .i64 (ls.getD i ln0).V, .bool (sg (ls.getD i ln0).p), .int .u64 (lb0 (ab (ls.getD i ln0).p)), .int .u64 (lb1 (ab (ls.getD i ln0).p)), .int .u64 (lb2 (ab (ls.getD i ln0).p)), .int .u64 (lb3 (ab (ls.getD i ln0).p)), .bool (sg (ls.getD i ln0).q), .int .u64 (lb0 (ab (ls.getD i ln0).q)), .int .u64 (lb1 (ab (ls.getD i ln0).q)), .int .u64 (lb2 (ab (ls.getD i ln0).q)), .int .u64 (lb3 (ab (ls.getD i ln0).q))])))) : Sx.ldP C true 12 ⟨g, o, none⟩ d K S := by
 subst ho
 refine ldP_own (b := true) (l := lcell (ls.getD i ln0)) h rfl (fun j v hj => ?_) hk
 rw [lcells_at hi (by have := (List.getElem?_eq_some_iff.1 hj).1; exact this)]
 exact hj
set_option maxRecDepth 100000 in
theorem rx_same14 {w : World} {v v' : Value} {ls : List LnV} {B B' : Nat} (h : w.ownsRow B 41 12 v ls.length (lcells ls)) (h' : w.ownsRow B' 41 12 v' ls.length (lcells ls)) : Calls Tryz.prog 48 #[v, v'] w fun e w' => e = .returned (.bool true) ∧ Below w.heap.size w w' := by
 obtain ⟨a, cap, rfl, c1, c2, c3⟩ := row_form h
 obtain ⟨a', cap', rfl, d1, d2, d3⟩ := row_form h'
 simp only [maxLen] at c2
 refine known_of (enter Tryz.func48 r14_Same.ok (args := [_, _]) (by simp) ?_)
 repeat' (first | simp (disch := omega) only [sxE, r14_Same.E, Nat.reduceAdd, Nat.reduceEqDiff, Nat.reduceMul, Nat.reduceSub, Int.reduceAdd, Int.reduceSub, Int.reduceMul, Int.reduceNeg, Int.reduceLT, Int.reduceLE, Int.reduceEq, Int.reduceToNat, ↓reduceIte, Int.reducePow, Nat.reduceLeDiff, Nat.reduceLT, ne_eq, eq_self, List.length_cons, List.length_nil, qxE, beq_self_eq_true, Bool.not_true] | (with_reducible refine cregF ?_))
 rw [r14_Same.p2_l]
 refine LX_inv (fun i : Nat => ⟨0, [(0, .v (.slice a ls.length cap)), (1, .v (.slice a' ls.length cap')), (5, .v (.int .i64 (i : Int)))], [], ext0⟩) (fun i => i ≤ ls.length) (fun i => ls.length - i) ?round 0 (Nat.zero_le _) ?start
 case start =>
  have c0 : ((0 : Nat) : Int) = 0 := rfl
  simp (disch := omega) only [sxE, r14_Same.E, Nat.reduceAdd, Nat.reduceEqDiff, Nat.reduceMul, Nat.reduceSub, Int.reduceAdd, Int.reduceSub, Int.reduceMul, Int.reduceNeg, Int.reduceLT, Int.reduceLE, Int.reduceEq, Int.reduceToNat, ↓reduceIte, Int.reducePow, Nat.reduceLeDiff, Nat.reduceLT, ne_eq, eq_self, List.length_cons, List.length_nil, c0]
 case round =>
  intro i hi
  by_cases hlt : i < ls.length
  ·obtain ⟨g, rfl⟩ := c3 (by omega)
   obtain ⟨g', rfl⟩ := d3 (by omega)
   have e0 : (i : Int) + 1 = ((i + 1 : Nat) : Int) := by omega
   repeat' (first | simp (disch := omega) only [sxE, r14_Same.E, Nat.reduceAdd, Nat.reduceEqDiff, Nat.reduceMul, Nat.reduceSub, Int.reduceAdd, Int.reduceSub, Int.reduceMul, Int.reduceNeg, Int.reduceLT, Int.reduceLE, Int.reduceEq, Int.reduceToNat, ↓reduceIte, Int.reducePow, Nat.reduceLeDiff, Nat.reduceLT, ne_eq, eq_self, List.length_cons, List.length_nil, qxE, Bool.not_true] | (with_reducible refine ldP_self true 12 g ?_; refine ldP_oL i h ?_ hlt ?_; omega) | (with_reducible refine ldP_self true 12 g' ?_; refine ldP_oL i h' ?_ hlt ?_; omega) | (with_reducible refine eq_is (fun W => by exact eql_run _ _ _ _ _ _ _ _ _ _ _ _ W) ?_) | (with_reducible refine cregF ?_))
   rw [e0]
   exact ⟨i + 1, by omega, by omega, rfl⟩
  ·obtain rfl : i = ls.length := by omega
   repeat' (first | simp (disch := omega) only [sxE, r14_Same.E, Nat.reduceAdd, Nat.reduceEqDiff, Nat.reduceMul, Nat.reduceSub, Int.reduceAdd, Int.reduceSub, Int.reduceMul, Int.reduceNeg, Int.reduceLT, Int.reduceLE, Int.reduceEq, Int.reduceToNat, ↓reduceIte, Int.reducePow, Nat.reduceLeDiff, Nat.reduceLT, ne_eq, eq_self, List.length_cons, List.length_nil, qxE] | (with_reducible refine cregF ?_))
end Go.Proofs.YtncmmbacoknefaaGreat
