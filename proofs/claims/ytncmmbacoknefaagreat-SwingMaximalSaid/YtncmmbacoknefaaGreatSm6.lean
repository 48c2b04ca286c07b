/- Several texts in one: Ses, Sb, Sc, CdS1, Sk, Kp, Sl. -/
import Derived.Test.YtncmmbacoknefaaGreatProg
import Derived.Test.YtncmmbacoknefaaGreatSm2
import Derived.Test.YtncmmbacoknefaaGreatSm3
import Derived.Test.YtncmmbacoknefaaGreatSm5
set_option linter.defProp false

/- Ses: series.Check and its reference; Same of lists of times. -/
namespace Go.Proofs.YtncmmbacoknefaaGreat
open Go Go.RowKit Sx
set_option linter.unusedVariables false
set_option linter.unusedSimpArgs false
def wr (z : Value) (l : List Value) (i : Nat) : List Value := l.take i ++ List.replicate (l.length - i) z
theorem wr_len {z : Value} {l : List Value} {i : Nat} (h : i ≤ l.length) : (wr z l i).length = l.length := by
 unfold wr; rw [List.length_append, List.length_take, List.length_replicate]; omega
theorem wr_zero (z : Value) (l : List Value) : wr z l 0 = List.replicate l.length z := by unfold wr; simp
theorem wr_full (z : Value) (l : List Value) : wr z l l.length = l := by unfold wr; simp
theorem wr_set {z v : Value} {l : List Value} {i : Nat} (h : i < l.length) (hv : l[i]? = some v) : (wr z l i).set i v = wr z l (i + 1) := by
 unfold wr
 have hl : (l.take i).length = i := by rw [List.length_take]; omega
 have e1 : l.length - i = (l.length - (i + 1)) + 1 := by omega
 rw [List.set_append_right _ _ (by omega), hl, Nat.sub_self, e1, List.replicate_succ, List.set_cons_zero, List.take_add_one, hv]
 simp
abbrev tcells (ss : Smps) : List Value := (ss.map Prod.fst).map (Value.int .i64)
theorem tcells_len (ss : Smps) : (tcells ss).length = ss.length := by simp
theorem tcells_get {ss : Smps} {i : Nat} (h : i < ss.length) : (tcells ss)[i]? = some (.int .i64 (ss.getD i (0, 0)).1) := by
 simp only [tcells, List.getElem?_map, getD_some (d := (0, 0)) h]; rfl
theorem en_times1 (l : Array Value) (W : World) : (callFunc 175 l).run Tryz.prog W = .ok (.enter 175 l) W := Sx.en_of Tryz.func175 (by kernel_rfl) (by kernel_rfl) l W
theorem g_times1 (x y : Int) (W : World) : Gives Tryz.prog 175 [.agg #[.int .i64 x, .int .i64 y]] W (· = .int .i64 x) := by
 refine gives_known en_times1 ?_
 refine known_of (enter Tryz.func175 series_Times_1.ok (args := [_]) (by simp) ?_)
 repeat' (first | simp (disch := omega) only [sxE, series_Times_1.E, Nat.reduceAdd, Nat.reduceEqDiff, Nat.reduceMul, Nat.reduceSub, Int.reduceAdd, Int.reduceSub, Int.reduceMul, Int.reduceNeg, Int.reduceLT, Int.reduceLE, Int.reduceEq, Int.reduceToNat, ↓reduceIte, Int.reducePow, Nat.reduceLeDiff, Nat.reduceLT, ne_eq, eq_self, List.length_cons, List.length_nil, qxE] | (with_reducible refine cregF ?_))
def NewB (w : World) (cs : List Value) (e : Ending) (w' : World) : Prop := ∃ b, e = .returned (.slice (some ⟨b, 0, none⟩) cs.length cs.length) ∧ w.heap.size ≤ b ∧ HB w' b cs.toArray ∧ Below w.heap.size w w'
theorem slz_cK {W : World} {b : Nat} {zs : List Int} (h : HB W b (zs.map (Value.int .i64)).toArray) (hz : ∀ z ∈ zs, I64 z) (hn : zs.length ≤ maxLen) : SlZ W .i64 (.slice (some ⟨b, 0, none⟩) zs.length zs.length) zs := by
 refine ⟨some ⟨b, 0, none⟩, zs.length, zs.length, rfl, rfl, Nat.le_refl _, hn, fun z hz' => ?_, fun _ => ⟨b, 0, rfl, h.lt, fun i hi => ?_⟩⟩
 ·have := hz z hz'
  have e : IntKind.i64.min = -9223372036854775808 := by decide
  have e' : IntKind.i64.max = 9223372036854775807 := by decide
  simp [Lit.wf, e, e']
  exact ⟨this.1, this.2⟩
 ·have := (Bx.of h).2.1 i
  rw [Nat.zero_add, this, List.getElem?_toArray, List.getElem?_map, getD_some (d := 0) hi]
  rfl
set_option maxRecDepth 100000 in
set_option maxHeartbeats 1000000 in
theorem g_field {w : World} {v : Value} {ss : Smps} (h : SlS w v ss) (hn : 8 * ss.length ≤ 281474976710656) : Calls Tryz.prog 174 #[v, .func (Fn.func 175) #[] #[]] w (NewB w (tcells ss)) := by
 obtain ⟨a, cap, rfl, h1, h2, h3, h4⟩ := id h
 simp only [maxLen] at h2
 have hl := tcells_len ss
 have hcs := fun i (hi : i < ss.length) => tcells_get hi
 generalize tcells ss = cs at *
 refine (enterX Tryz.func174 series_field_int64.ok (args := [.slice a ss.length cap, .func (Fn.func 175) #[] #[]]) (R := fun v X => ∃ b, v = .slice (some ⟨b, 0, none⟩) ss.length ss.length ∧ X = kX w.heap.size [.g (cK b cs)]) (by simp) ?run).mono ?fin
 case fin =>
  rintro e w' ⟨v, X, rfl, ⟨b, rfl, rfl⟩, hX, hbl, -⟩
  have hk : (cK b cs).ok w.heap.size w' := hX _ (List.mem_singleton.2 rfl)
  exact ⟨b, by rw [hl], hk.1, hk.2, hbl⟩
 case run =>
  repeat' (first | simp (disch := omega) only [sxE, series_field_int64.E, Nat.reduceAdd, Nat.reduceEqDiff, Nat.reduceMul, Nat.reduceSub, Int.reduceAdd, Int.reduceSub, Int.reduceMul, Int.reduceNeg, Int.reduceLT, Int.reduceLE, Int.reduceEq, Int.reduceToNat, ↓reduceIte, Int.reducePow, Nat.reduceLeDiff, Nat.reduceLT, ne_eq, eq_self, List.length_cons, List.length_nil, qxE] | (with_reducible refine cregF ?_))
  refine genA_mk rfl (L := []) (z := .int .i64 0) (bytes := 8) Tryz.underlying23 (by kernel_rfl) rfl hn (by omega) (kX_nil _) fun b hb => ?_
  clear hb
  repeat' (first | simp (disch := omega) only [sxE, series_field_int64.E, Nat.reduceAdd, Nat.reduceEqDiff, Nat.reduceMul, Nat.reduceSub, Int.reduceAdd, Int.reduceSub, Int.reduceMul, Int.reduceNeg, Int.reduceLT, Int.reduceLE, Int.reduceEq, Int.reduceToNat, ↓reduceIte, Int.reducePow, Nat.reduceLeDiff, Nat.reduceLT, ne_eq, eq_self, List.length_cons, List.length_nil, qxE] | (with_reducible refine cregF ?_))
  rw [series_field_int64.p2_l]
  refine LX_inv (fun i : Nat => ⟨0, [(1, .v (.func (Fn.func 175) #[] #[])), (5, .v (.slice (some ⟨b, 0, none⟩) ss.length ss.length)), (11, .v (.slice a ss.length cap)), (12, .v (.int .i64 ss.length)), (13, .v (.int .i64 (i : Int)))], [], kX w.heap.size [.g (cK b (wr (.int .i64 0) cs i))]⟩) (fun i => i ≤ ss.length) (fun i => ss.length - i) ?round 0 (Nat.zero_le _) ?start
  case start =>
   have c0 : ((0 : Nat) : Int) = 0 := rfl
   rw [wr_zero, hl]
   simp (disch := omega) only [sxE, series_field_int64.E, Nat.reduceAdd, Nat.reduceEqDiff, Nat.reduceMul, Nat.reduceSub, Int.reduceAdd, Int.reduceSub, Int.reduceMul, Int.reduceNeg, Int.reduceLT, Int.reduceLE, Int.reduceEq, Int.reduceToNat, ↓reduceIte, Int.reducePow, Nat.reduceLeDiff, Nat.reduceLT, ne_eq, eq_self, List.length_cons, List.length_nil, c0]
  case round =>
   intro i hi
   try dsimp only at hi ⊢
   by_cases hlt : i < ss.length
   ·obtain ⟨b', off, rfl, -, -⟩ := h4 (by omega)
    clear h3 h4
    have ti := fun W => g_times1 (ss.getD i (0, 0)).1 (ss.getD i (0, 0)).2 W
    repeat' (first | simp (disch := omega) only [sxE, series_field_int64.E, Nat.reduceAdd, Nat.reduceEqDiff, Nat.reduceMul, Nat.reduceSub, Int.reduceAdd, Int.reduceSub, Int.reduceMul, Int.reduceNeg, Int.reduceLT, Int.reduceLE, Int.reduceEq, Int.reduceToNat, ↓reduceIte, Int.reducePow, Nat.reduceLeDiff, Nat.reduceLT, ne_eq, eq_self, List.length_cons, List.length_nil, qxE] | (with_reducible refine ldP_blk b' ?_; refine ldP_S2 i h ?_ ?_ ?_; omega; omega) | (with_reducible refine cregF ?_))
    refine genA_fv (F := 175) (kX_stab _ _) (fun W _ => ti W) ?_
    have ho : ovrO (wr (.int .i64 0) cs i) i [.int .i64 (ss.getD i (0, 0)).1] = some (wr (.int .i64 0) cs (i + 1)) := by
     rw [ovrO_one (by rw [wr_len (by omega)]; omega), wr_set (by omega) (hcs i hlt)]
    repeat' (first | simp (disch := omega) only [sxE, series_field_int64.E, Nat.reduceAdd, Nat.reduceEqDiff, Nat.reduceMul, Nat.reduceSub, Int.reduceAdd, Int.reduceSub, Int.reduceMul, Int.reduceNeg, Int.reduceLT, Int.reduceLE, Int.reduceEq, Int.reduceToNat, ↓reduceIte, Int.reducePow, Nat.reduceLeDiff, Nat.reduceLT, ne_eq, eq_self, List.length_cons, List.length_nil, qxE, Nat.zero_add, Nat.mul_one] | (with_reducible refine stP_blk b ?_; refine stP_c (b := b) (o := i) (R := []) rfl (List.mem_singleton.2 rfl) (fun k hk => by cases hk) ho rfl ?_) | (with_reducible refine cregF ?_))
    refine stP_blk b ?_
    refine stP_c (b := b) (o := i) (R := []) rfl (List.mem_singleton.2 rfl) (fun k hk => by cases hk) ho rfl ?_
    repeat' (first | simp (disch := omega) only [sxE, series_field_int64.E, Nat.reduceAdd, Nat.reduceEqDiff, Nat.reduceMul, Nat.reduceSub, Int.reduceAdd, Int.reduceSub, Int.reduceMul, Int.reduceNeg, Int.reduceLT, Int.reduceLE, Int.reduceEq, Int.reduceToNat, ↓reduceIte, Int.reducePow, Nat.reduceLeDiff, Nat.reduceLT, ne_eq, eq_self, List.length_cons, List.length_nil, qxE, Nat.zero_add, Nat.mul_one] | (with_reducible refine cregF ?_))
    have e0 : (i : Int) + 1 = ((i + 1 : Nat) : Int) := by omega
    rw [e0]
    exact ⟨i + 1, by omega, by omega, rfl, .inl rfl⟩
   ·obtain rfl : i = ss.length := by omega
    rw [show wr (.int .i64 0) cs ss.length = cs by rw [← hl]; exact wr_full _ _]
    repeat' (first | simp (disch := omega) only [sxE, series_field_int64.E, Nat.reduceAdd, Nat.reduceEqDiff, Nat.reduceMul, Nat.reduceSub, Int.reduceAdd, Int.reduceSub, Int.reduceMul, Int.reduceNeg, Int.reduceLT, Int.reduceLE, Int.reduceEq, Int.reduceToNat, ↓reduceIte, Int.reducePow, Nat.reduceLeDiff, Nat.reduceLT, ne_eq, eq_self, List.length_cons, List.length_nil, qxE] | (with_reducible refine cregF ?_))
    exact ⟨b, rfl, rfl⟩
theorem g_stimes {w : World} {v : Value} {ss : Smps} (h : SlS w v ss) (hn : 8 * ss.length ≤ 281474976710656) : Calls Tryz.prog 146 #[v] w (NewB w (tcells ss)) := by
 obtain ⟨a, cap, rfl, -, -, -, -⟩ := id h
 refine (enterX Tryz.func146 series_Times.ok (args := [.slice a ss.length cap]) (R := fun v X => ∃ b, v = .slice (some ⟨b, 0, none⟩) (tcells ss).length (tcells ss).length ∧ X = kX w.heap.size [.g (cK b (tcells ss))]) (by simp) ?run).mono ?fin
 case fin =>
  rintro e w' ⟨v, X, rfl, ⟨b, rfl, rfl⟩, hX, hbl, -⟩
  have hk : (cK b (tcells ss)).ok w.heap.size w' := hX _ (List.mem_singleton.2 rfl)
  exact ⟨b, rfl, hk.1, hk.2, hbl⟩
 case run =>
  generalize hC : tcells ss = cs at *
  repeat' (first | simp (disch := omega) only [sxE, series_Times.E, Nat.reduceAdd, Nat.reduceEqDiff, Nat.reduceMul, Nat.reduceSub, Int.reduceAdd, Int.reduceSub, Int.reduceMul, Int.reduceNeg, Int.reduceLT, Int.reduceLE, Int.reduceEq, Int.reduceToNat, ↓reduceIte, Int.reducePow, Nat.reduceLeDiff, Nat.reduceLT, ne_eq, eq_self, List.length_cons, List.length_nil, qxE] | (with_reducible refine cregF ?_))
  refine asks_kn (ι := Nat) (L := []) (gs := []) (fun b => .slice (some ⟨b, 0, none⟩) cs.length cs.length) (fun b => [.g (cK b cs)]) en_series_field_int64 (kX_nil _) (fun x hx => by cases hx) (fun W hok x hx => by cases hx) (fun W hW hok => ?con) fun b => ?_
  case con =>
   have := g_field (SlS.below h hW) hn
   rw [hC] at this
   refine this.mono ?_
   rintro e w' ⟨b, rfl, h1, h2, h3⟩
   refine ⟨b, rfl, moves_below h3, fun k hk => ?_⟩
   rw [List.mem_singleton.1 hk]
   exact .inr ⟨⟨Nat.le_trans hW.size h1, h2⟩, fun x hx => .inr (by rw [cK_bs.1 hx]; exact h1)⟩
  repeat' (first | simp (disch := omega) only [sxE, series_Times.E, Nat.reduceAdd, Nat.reduceEqDiff, Nat.reduceMul, Nat.reduceSub, Int.reduceAdd, Int.reduceSub, Int.reduceMul, Int.reduceNeg, Int.reduceLT, Int.reduceLE, Int.reduceEq, Int.reduceToNat, ↓reduceIte, Int.reducePow, Nat.reduceLeDiff, Nat.reduceLT, ne_eq, eq_self, List.length_cons, List.length_nil, qxE] | (with_reducible refine cregF ?_))
  exact ⟨b, rfl, rfl⟩
theorem fst_i64 {ss : Smps} (h : ∀ s ∈ ss, I64 s.1 ∧ I64 s.2) : ∀ z ∈ ss.map Prod.fst, I64 z := fun z hz => by
 obtain ⟨s, hs, rfl⟩ := List.mem_map.1 hz
 exact (h s hs).1
theorem g_check {w : World} {v : Value} {ss : Smps} (h : SlS w v ss) (hn : 8 * ss.length ≤ 281474976710656) : Calls Tryz.prog 94 #[v] w fun e w' => e = .returned (.int .i64 (if incr ss then 0 else 7)) ∧ Below w.heap.size w w' := by
 obtain ⟨a, cap, rfl, hc1, hc2, hi, -⟩ := id h
 have hzl : (ss.map Prod.fst).length = ss.length := by simp
 have hI := incr_map ss
 have hzi := fst_i64 hi
 have hm : ss.length ≤ maxLen := by omega
 refine known_of (enter Tryz.func94 series_Check.ok (args := [_]) (by simp) ?_)
 repeat' (first | simp (disch := omega) only [sxE, series_Check.E, Nat.reduceAdd, Nat.reduceEqDiff, Nat.reduceMul, Nat.reduceSub, Int.reduceAdd, Int.reduceSub, Int.reduceMul, Int.reduceNeg, Int.reduceLT, Int.reduceLE, Int.reduceEq, Int.reduceToNat, ↓reduceIte, Int.reducePow, Nat.reduceLeDiff, Nat.reduceLT, ne_eq, eq_self, List.length_cons, List.length_nil, qxE] | (with_reducible refine cregF ?_))
 refine asks_kn (ι := Nat) (L := []) (gs := []) (fun b => .slice (some ⟨b, 0, none⟩) (ss.map Prod.fst).length (ss.map Prod.fst).length) (fun b => [.g (cK b (tcells ss))]) en_series_Times (kX_nil _) (fun x hx => by cases hx) (fun W hok x hx => by cases hx) (fun W hW hok => ?con) fun b => ?_
 case con =>
  refine (g_stimes (SlS.below h hW) hn).mono ?_
  rintro e w' ⟨b, rfl, h1, h2, h3⟩
  refine ⟨b, by rw [tcells_len, hzl], moves_below h3, fun k hk => ?_⟩
  rw [List.mem_singleton.1 hk]
  exact .inr ⟨⟨Nat.le_trans hW.size h1, h2⟩, fun x hx => .inr (by rw [cK_bs.1 hx]; exact h1)⟩
 repeat' (first | simp (disch := omega) only [sxE, series_Check.E, Nat.reduceAdd, Nat.reduceEqDiff, Nat.reduceMul, Nat.reduceSub, Int.reduceAdd, Int.reduceSub, Int.reduceMul, Int.reduceNeg, Int.reduceLT, Int.reduceLE, Int.reduceEq, Int.reduceToNat, ↓reduceIte, Int.reducePow, Nat.reduceLeDiff, Nat.reduceLT, ne_eq, eq_self, List.length_cons, List.length_nil, qxE] | (with_reducible refine cregF ?_))
 refine asks_ext (v := .bool (incz (ss.map Prod.fst))) (fun W hW hok => ?_) ?_
 ·have hk : (cK b (tcells ss)).ok w.heap.size W := hok _ (List.mem_singleton.2 rfl)
  exact gives_known en_stamps_Increasing (gx_inc (slz_cK hk.2 hzi (by rw [hzl]; exact hm)))
 rw [hI]
 generalize incr ss = r
 cases r
 ·repeat' (first | simp (disch := omega) only [sxE, series_Check.E, Nat.reduceAdd, Nat.reduceEqDiff, Nat.reduceMul, Nat.reduceSub, Int.reduceAdd, Int.reduceSub, Int.reduceMul, Int.reduceNeg, Int.reduceLT, Int.reduceLE, Int.reduceEq, Int.reduceToNat, ↓reduceIte, Int.reducePow, Nat.reduceLeDiff, Nat.reduceLT, ne_eq, eq_self, List.length_cons, List.length_nil, qxE, Bool.not_false, Bool.false_eq_true] | (with_reducible refine cregF ?_))
 ·repeat' (first | simp (disch := omega) only [sxE, series_Check.E, Nat.reduceAdd, Nat.reduceEqDiff, Nat.reduceMul, Nat.reduceSub, Int.reduceAdd, Int.reduceSub, Int.reduceMul, Int.reduceNeg, Int.reduceLT, Int.reduceLE, Int.reduceEq, Int.reduceToNat, ↓reduceIte, Int.reducePow, Nat.reduceLeDiff, Nat.reduceLT, ne_eq, eq_self, List.length_cons, List.length_nil, qxE, Bool.not_true] | (with_reducible refine cregF ?_))
end Go.Proofs.YtncmmbacoknefaaGreat

/- Sb: swing: All of the program. -/
namespace Go.Proofs.YtncmmbacoknefaaGreat
open Go Go.RowKit Sx
set_option linter.unusedVariables false
set_option linter.unusedSimpArgs false
def sw0 (t : Int) : SwS := ⟨t, 0, 0, 0, 0, c0⟩
def swa (a : SwS × List LnV) (x : Int × Int) : SwS × List LnV := (swn a.1 x.1 x.2, a.2 ++ swe a.1 x.1 x.2)
def swf (t : Int) (ss : Smps) : SwS × List LnV := ss.foldl swa (sw0 t, [])
theorem swf_snoc (t : Int) (ss : Smps) (x : Int × Int) : swf t (ss ++ [x]) = swa (swf t ss) x := by unfold swf; rw [List.foldl_append]; rfl
def swall (t : Int) (ss : Smps) : List LnV := (swf t ss).2 ++ swl (swf t ss).1
def tolz (t : Int) : Bool := decide (0 ≤ t) && decide (t ≤ 4611686018427387904)
theorem tolz_iff {t : Int} : tolz t = true ↔ 0 ≤ t ∧ t ≤ 4611686018427387904 := by unfold tolz; simp
def erz (t : Int) (ss : Smps) : Int := if tolz t then (if incr ss then (if ss.length ≤ 1073741824 then 0 else 3) else 7) else 9
def linez (t : Int) (ss : Smps) : List LnV := if erz t ss = 0 then swall t ss else []
structure SwI (t : Int) (ss : Smps) (i : Nat) (a : SwS × List LnV) : Prop where
 tt : a.1.t = t
 n0 : 0 ≤ a.1.n
 n1 : a.1.n ≤ i
 c : 0 < a.1.n → a.1.c.ok
 T : I64 a.1.T
 V : I64 a.1.V
 L : I64 a.1.L
 TL : a.1.T ≤ a.1.L
 z : a.1.n = 0 → a.1 = sw0 t
 l : 0 < i → 0 < a.1.n ∧ a.1.L = (ss.getD (i - 1) (0, 0)).1
 len : a.2.length ≤ i
 one : a.1.n = 1 → a.1.L = a.1.T ∧ a.1.c = cO
 more : 1 < a.1.n → a.1.T < a.1.L ∧ a.1.c.o = false
theorem swl_len (s : SwS) : (swl s).length ≤ 1 := by unfold swl; split <;> simp
theorem take_snoc' {ss : Smps} {i : Nat} (h : i < ss.length) : ss.take (i + 1) = ss.take i ++ [ss.getD i (0, 0)] := by
 rw [List.take_add_one, getD_some (d := (0, 0)) h]; rfl
theorem cmt_o {c : Cn} {p q p1 q1 : Int} (h : (cmt c ⟨false, p, q, p1, q1⟩).2 = true) : (cmt c ⟨false, p, q, p1, q1⟩).1.o = false := by
 unfold cmt at h ⊢
 dsimp only at h ⊢
 by_cases c1 : c.o = true
 ·rw [if_pos c1]
 ·rw [if_neg c1] at h ⊢
  rw [if_neg (by decide)] at h ⊢
  generalize (if c.p * q < p * c.q then (p, q) else (c.p, c.q)) = A at *
  generalize (if p1 * c.q1 < c.p1 * q1 then (p1, q1) else (c.p1, c.q1)) = B at *
  split <;> rfl
theorem swi_next {t : Int} {ss : Smps} {i : Nat} {a : SwS × List LnV} (h : SwI t ss i a) (ht : tolz t = true) (hi : i < ss.length) (hin : ∀ s ∈ ss, I64 s.1 ∧ I64 s.2) (hinc : incr ss = true) : SwI t ss (i + 1) (swa a (ss.getD i (0, 0))) ∧ (0 < a.1.n → a.1.T < (ss.getD i (0, 0)).1) := by
 have hx := smp_i64 hin i
 obtain ⟨t0, t1⟩ := tolz_iff.1 ht
 have hT : 0 < a.1.n → a.1.T < (ss.getD i (0, 0)).1 := fun hn => by
  have h0 : 0 < i := by have := h.n1; omega
  obtain ⟨-, hL⟩ := h.l h0
  have hinc' := of_decide_eq_true hinc (i - 1) (by omega)
  rw [show i - 1 + 1 = i by omega] at hinc'
  have := h.TL
  omega
 refine ⟨?_, hT⟩
 have hlen : (swe a.1 (ss.getD i (0, 0)).1 (ss.getD i (0, 0)).2).length ≤ 1 := by
  unfold swe
  split
  ·simp
  ·exact swl_len _
 have el : (swa a (ss.getD i (0, 0))).2.length ≤ i + 1 := by
  show (a.2 ++ _).length ≤ _
  rw [List.length_append]
  have := h.len
  omega
 have e1 : i + 1 - 1 = i := by omega
 by_cases hg : swg a.1 (ss.getD i (0, 0)).1 (ss.getD i (0, 0)).2 = true
 ·have e : (swa a (ss.getD i (0, 0))).1 = ⟨a.1.t, a.1.n + 1, a.1.T, a.1.V, (ss.getD i (0, 0)).1, (swm a.1 (ss.getD i (0, 0)).1 (ss.getD i (0, 0)).2).1⟩ := if_pos hg
  unfold swg at hg
  rw [Bool.and_eq_true] at hg
  obtain ⟨hn, hm⟩ := hg
  have hn := of_decide_eq_true hn
  have hT := hT hn
  have iDt : U64 ((ss.getD i (0, 0)).1 - a.1.T) := ⟨by omega, by have := hx.1.2; have := h.T.1; omega⟩
  have tp := th_p (ab_66 h.V) hx.2 ⟨t0, t1⟩ iDt (by omega)
  have hok : (swm a.1 (ss.getD i (0, 0)).1 (ss.getD i (0, 0)).2).1.ok := by
   unfold swm
   rw [h.tt]
   refine cmt_ok (h.c hn) tp.cl.ok ?_
   unfold swm at hm
   rw [h.tt] at hm
   exact hm
  have ho : (swm a.1 (ss.getD i (0, 0)).1 (ss.getD i (0, 0)).2).1.o = false := cmt_o hm
  have n1 := h.n1
  have n0 := h.n0
  refine ⟨by rw [e]; exact h.tt, by rw [e]; show 0 ≤ a.1.n + 1; omega, by rw [e]; show a.1.n + 1 ≤ _; omega, fun _ => by rw [e]; exact hok, by rw [e]; exact h.T, by rw [e]; exact h.V, by rw [e]; exact hx.1, by rw [e]; show a.1.T ≤ (ss.getD i (0, 0)).1; omega, fun hz => ?_, fun _ => ?_, el, fun hz => ?_, fun _ => by rw [e]; exact ⟨hT, ho⟩⟩
  ·rw [e] at hz
   have hz : a.1.n + 1 = 0 := hz
   omega
  ·rw [e, e1]
   exact ⟨by show 0 < a.1.n + 1; omega, rfl⟩
  ·rw [e] at hz
   have hz : a.1.n + 1 = 1 := hz
   omega
 ·have e : (swa a (ss.getD i (0, 0))).1 = swb a.1.t (ss.getD i (0, 0)).1 (ss.getD i (0, 0)).2 := if_neg hg
  refine ⟨by rw [e]; exact h.tt, by rw [e]; show (0 : Int) ≤ 1; decide, by rw [e]; show (1 : Int) ≤ _; omega, fun _ => by rw [e]; exact cO_ok, by rw [e]; exact hx.1, by rw [e]; exact hx.2, by rw [e]; exact hx.1, by rw [e]; exact Int.le_refl _, fun hz => ?_, fun _ => ?_, el, fun _ => by rw [e]; exact ⟨rfl, rfl⟩, fun hz => ?_⟩
  ·rw [e] at hz
   cases hz
  ·rw [e, e1]
   exact ⟨by show (0 : Int) < 1; decide, rfl⟩
  ·rw [e] at hz
   have hz : (1 : Int) < 1 := hz
   omega
theorem i64_0 : I64 0 := ⟨by decide, by decide⟩
theorem swi_start (t : Int) (ss : Smps) : SwI t ss 0 (swf t []) :=
 ⟨rfl, Int.le_refl _, Int.le_refl _, (fun h => by cases h), i64_0, i64_0, i64_0, Int.le_refl _, fun _ => rfl, (fun h => by cases h), Nat.le_refl _, (fun h => by cases h), (fun h => by cases h)⟩
theorem swi_at {t : Int} {ss : Smps} (ht : tolz t = true) (hin : ∀ s ∈ ss, I64 s.1 ∧ I64 s.2) (hinc : incr ss = true) : ∀ i, i ≤ ss.length → SwI t ss i (swf t (ss.take i))
 | 0, _ => swi_start t ss
 | i + 1, h => by
  rw [take_snoc' (by omega), swf_snoc]
  exact (swi_next (swi_at ht hin hinc i (by omega)) ht (by omega) hin hinc).1
abbrev swZ (t : Int) : Value := .agg #[.int .i64 t, .int .i64 0, .int .i64 0, .int .i64 0, .int .i64 0, .bool false, .bool false, .int .u64 0, .int .u64 0, .int .u64 0, .int .u64 0, .bool false, .int .u64 0, .int .u64 0, .int .u64 0, .int .u64 0, .bool false, .int .u64 0, .int .u64 0, .int .u64 0, .int .u64 0, .bool false, .int .u64 0, .int .u64 0, .int .u64 0, .int .u64 0]
theorem gx_tol (t : Int) (W : World) : Gives Tryz.prog 127 [.int .i64 t] W (· = .bool (tolz t)) := by
 refine gives_known en_swing_tolerable ?_
 unfold tolz
 by_cases h0 : 0 ≤ t
 ·have d0 := decide_eq_true h0
  refine known_of (enter Tryz.func127 swing_tolerable.ok (args := [_]) (by simp) ?_)
  repeat' (first | simp (disch := omega) only [sxE, swing_tolerable.E, Nat.reduceAdd, Nat.reduceEqDiff, Nat.reduceMul, Nat.reduceSub, Int.reduceAdd, Int.reduceSub, Int.reduceMul, Int.reduceNeg, Int.reduceLT, Int.reduceLE, Int.reduceEq, Int.reduceToNat, ↓reduceIte, Int.reducePow, Nat.reduceLeDiff, Nat.reduceLT, ne_eq, eq_self, List.length_cons, List.length_nil, qxE, d0, Bool.true_and] | (with_reducible refine cregF ?_))
 ·have d0 := decide_eq_false h0
  refine known_of (enter Tryz.func127 swing_tolerable.ok (args := [_]) (by simp) ?_)
  repeat' (first | simp (disch := omega) only [sxE, swing_tolerable.E, Nat.reduceAdd, Nat.reduceEqDiff, Nat.reduceMul, Nat.reduceSub, Int.reduceAdd, Int.reduceSub, Int.reduceMul, Int.reduceNeg, Int.reduceLT, Int.reduceLE, Int.reduceEq, Int.reduceToNat, ↓reduceIte, Int.reducePow, Nat.reduceLeDiff, Nat.reduceLT, ne_eq, eq_self, List.length_cons, List.length_nil, qxE, d0, Bool.false_and] | (with_reducible refine cregF ?_))
theorem gx_swstart (t : Int) (W : World) : Gives Tryz.prog 64 [.int .i64 t] W (· = if tolz t then .tuple #[swZ t, .int .i64 0] else .tuple #[swZ 0, .int .i64 9]) := by
 refine gives_known en_swing_Start ?_
 have k := fun W => gx_tol t W
 cases h : tolz t
 ·rw [h] at k
  refine known_of (enter Tryz.func64 swing_Start.ok (args := [_]) (by simp) ?_)
  repeat' (first | simp (disch := omega) only [sxE, swing_Start.E, Nat.reduceAdd, Nat.reduceEqDiff, Nat.reduceMul, Nat.reduceSub, Int.reduceAdd, Int.reduceSub, Int.reduceMul, Int.reduceNeg, Int.reduceLT, Int.reduceLE, Int.reduceEq, Int.reduceToNat, ↓reduceIte, Int.reducePow, Nat.reduceLeDiff, Nat.reduceLT, ne_eq, eq_self, List.length_cons, List.length_nil, qxE] | (with_reducible refine Sx.call_at (f := 127) (fun W hW => k W) ?_) | (with_reducible refine cregF ?_))
 ·rw [h] at k
  refine known_of (enter Tryz.func64 swing_Start.ok (args := [_]) (by simp) ?_)
  repeat' (first | simp (disch := omega) only [sxE, swing_Start.E, Nat.reduceAdd, Nat.reduceEqDiff, Nat.reduceMul, Nat.reduceSub, Int.reduceAdd, Int.reduceSub, Int.reduceMul, Int.reduceNeg, Int.reduceLT, Int.reduceLE, Int.reduceEq, Int.reduceToNat, ↓reduceIte, Int.reducePow, Nat.reduceLeDiff, Nat.reduceLT, ne_eq, eq_self, List.length_cons, List.length_nil, qxE] | (with_reducible refine Sx.call_at (f := 127) (fun W hW => k W) ?_) | (with_reducible refine cregF ?_))
namespace Sx
theorem genA_az {C : Cx} {S : St} {K : St → Prop} {d : Option Nat} {P : Program} {t : TypeId} {L : List Kn} {z : Value} (cs : List Value) (hP : C.P = P) (hi : (P.info? t).map (·.zero) = some (some z)) (hcs : z.cells.toList = cs) (hT : S.T = kX C.w0.heap.size L)
  (hk : ∀ b, b ∉ S.T.bs → K (St.put ⟨S.n, S.E, S.H, kX C.w0.heap.size (.g (cK b cs) :: L)⟩ d (.v (.pointer (some ⟨b, 0, none⟩))))) : genA C (.al t) [] d K S := by
 subst hcs
 cases h : P.info? t with
 | none => rw [h] at hi; cases hi
 | some i =>
  rw [h] at hi
  exact genA_al hP h (Option.some.inj hi) hT hk
end Sx
def AllB (w : World) (ls : List LnV) (er : Int) (en : Ending) (w' : World) : Prop := ∃ v, en = .returned (.tuple #[v, .int .i64 er]) ∧ w'.ownsRow w.heap.size 41 12 v ls.length (lcells ls) ∧ Below w.heap.size w w'
theorem erz_tol {t : Int} {ss : Smps} (h : tolz t = false) : erz t ss = 9 ∧ linez t ss = [] := by
 have e : erz t ss = 9 := by unfold erz; rw [h]; rfl
 exact ⟨e, by unfold linez; rw [e]; rfl⟩
theorem erz_inc {t : Int} {ss : Smps} (h : tolz t = true) (hi : incr ss = false) : erz t ss = 7 ∧ linez t ss = [] := by
 have e : erz t ss = 7 := by unfold erz; rw [h, hi]; rfl
 exact ⟨e, by unfold linez; rw [e]; rfl⟩
theorem erz_lim {t : Int} {ss : Smps} (h : tolz t = true) (hi : incr ss = true) (hl : ¬ ss.length ≤ 1073741824) : erz t ss = 3 ∧ linez t ss = [] := by
 have e : erz t ss = 3 := by unfold erz; rw [h, hi, if_pos rfl, if_pos rfl, if_neg hl]
 exact ⟨e, by unfold linez; rw [e]; rfl⟩
theorem erz_ok {t : Int} {ss : Smps} (h : tolz t = true) (hi : incr ss = true) (hl : ss.length ≤ 1073741824) : erz t ss = 0 ∧ linez t ss = swall t ss := by
 have e : erz t ss = 0 := by unfold erz; rw [h, hi, if_pos rfl, if_pos rfl, if_pos hl]
 exact ⟨e, by unfold linez; rw [e]; rfl⟩
set_option maxRecDepth 100000 in
set_option maxHeartbeats 2000000 in
theorem sw_all {w : World} {v : Value} {ss : Smps} {t : Int} (h : SlS w v ss) (hi : I64 t) (hn : 8 * ss.length ≤ 281474976710656) : Calls Tryz.prog 46 #[v, .int .i64 t] w (AllB w (linez t ss) (erz t ss)) := by
 obtain ⟨a, cap, rfl, h1, h2, h3, h4⟩ := id h
 have h2' := h2
 simp only [maxLen] at h2'
 refine (enterX Tryz.func46 swing_All.ok (args := [.slice a ss.length cap, .int .i64 t]) (R := fun u X => ∃ v L, u = .tuple #[v, .int .i64 (erz t ss)] ∧ X = kX w.heap.size L ∧ rowOf L 41 12 v (linez t ss).length (lcells (linez t ss))) (by simp) ?run).mono ?fin
 case fin =>
  rintro e w' ⟨u, X, rfl, ⟨v, L, rfl, rfl, hr⟩, hX, hbl, -⟩
  exact ⟨v, rfl, hr.own hX, hbl⟩
 case run =>
  have k1 := fun W => gx_swstart t W
  have c1 : ∀ W, Below w.heap.size w W → Gives Tryz.prog 94 [.slice a ss.length cap] W (· = .int .i64 (if incr ss then 0 else 7)) := fun W hW => gives_known en_series_Check (g_check (SlS.below h hW) hn)
  by_cases ht : tolz t = true
  ·rw [if_pos ht] at k1
   by_cases hinc : incr ss = true
   ·rw [if_pos hinc] at c1
    by_cases hl : ss.length ≤ 1073741824
    ·obtain ⟨e1, e2⟩ := erz_ok ht hinc hl
     rw [e1, e2]
     clear e1 e2
     repeat' (first | simp (disch := omega) only [sxE, swing_All.E, Nat.reduceAdd, Nat.reduceEqDiff, Nat.reduceMul, Nat.reduceSub, Int.reduceAdd, Int.reduceSub, Int.reduceMul, Int.reduceNeg, Int.reduceLT, Int.reduceLE, Int.reduceEq, Int.reduceToNat, ↓reduceIte, Int.reducePow, Nat.reduceLeDiff, Nat.reduceLT, ne_eq, eq_self, List.length_cons, List.length_nil, qxE] | (with_reducible refine Sx.call_at (f := 64) (fun W hW => k1 W) ?_) | (with_reducible refine cregF ?_))
     refine asks_at (fun W hW => c1 W hW) ?_
     repeat' (first | simp (disch := omega) only [sxE, swing_All.E, Nat.reduceAdd, Nat.reduceEqDiff, Nat.reduceMul, Nat.reduceSub, Int.reduceAdd, Int.reduceSub, Int.reduceMul, Int.reduceNeg, Int.reduceLT, Int.reduceLE, Int.reduceEq, Int.reduceToNat, ↓reduceIte, Int.reducePow, Nat.reduceLeDiff, Nat.reduceLT, ne_eq, eq_self, List.length_cons, List.length_nil, qxE] | (with_reducible refine cregF ?_))
     refine genA_az (L := []) (z := .agg #[.int .i64 0, .int .i64 0, .int .i64 0, .int .i64 0, .int .i64 0, .bool false, .bool false, .int .u64 0, .int .u64 0, .int .u64 0, .int .u64 0, .bool false, .int .u64 0, .int .u64 0, .int .u64 0, .int .u64 0, .bool false, .int .u64 0, .int .u64 0, .int .u64 0, .int .u64 0, .bool false, .int .u64 0, .int .u64 0, .int .u64 0, .int .u64 0, .slice none 0 0]) [.int .i64 0, .int .i64 0, .int .i64 0, .int .i64 0, .int .i64 0, .bool false, .bool false, .int .u64 0, .int .u64 0, .int .u64 0, .int .u64 0, .bool false, .int .u64 0, .int .u64 0, .int .u64 0, .int .u64 0, .bool false, .int .u64 0, .int .u64 0, .int .u64 0, .int .u64 0, .bool false, .int .u64 0, .int .u64 0, .int .u64 0, .int .u64 0, .slice none 0 0] rfl (by kernel_rfl) (by kernel_rfl) (kX_nil _) fun b _ => ?_
     repeat' (first | simp (disch := omega) only [sxE, swing_All.E, Nat.reduceAdd, Nat.reduceEqDiff, Nat.reduceMul, Nat.reduceSub, Int.reduceAdd, Int.reduceSub, Int.reduceMul, Int.reduceNeg, Int.reduceLT, Int.reduceLE, Int.reduceEq, Int.reduceToNat, ↓reduceIte, Int.reducePow, Nat.reduceLeDiff, Nat.reduceLT, ne_eq, eq_self, List.length_cons, List.length_nil, qxE, x_stq, x_cSl] | (with_reducible refine cregF ?_))
     refine stL_c (b := b) (R := []) rfl (List.mem_singleton.2 rfl) (fun k hk => by cases hk) rfl rfl ?_
     repeat' (first | simp (disch := omega) only [sxE, swing_All.E, Nat.reduceAdd, Nat.reduceEqDiff, Nat.reduceMul, Nat.reduceSub, Int.reduceAdd, Int.reduceSub, Int.reduceMul, Int.reduceNeg, Int.reduceLT, Int.reduceLE, Int.reduceEq, Int.reduceToNat, ↓reduceIte, Int.reducePow, Nat.reduceLeDiff, Nat.reduceLT, ne_eq, eq_self, List.length_cons, List.length_nil, qxE, x_stq, x_cSl] | (with_reducible refine cregF ?_))
     rw [swing_All.p3_l]
     have HI := fun i hi => swi_at ht h3 hinc i hi
     have t01 := tolz_iff.1 ht
     refine LX_inv (fun x : Nat × Value => ⟨0, [(8, .v (.pointer (some ⟨b, 0, none⟩))), (28, .v (.slice a ss.length cap)), (29, .v (.int .i64 ss.length)), (30, .v (.int .i64 (x.1 : Int)))], [], kX w.heap.size [.g (cK b (dcs (swf t (ss.take x.1)).1 x.2)), .g (wK 41 12 x.2 (swf t (ss.take x.1)).2.length (lcells (swf t (ss.take x.1)).2))]⟩) (fun x => x.1 ≤ ss.length ∧ x.2.ownBlock ≠ some b) (fun x => ss.length - x.1) ?round (0, .slice none 0 0) ⟨Nat.zero_le _, (fun h => by cases h)⟩ ?start
     case start =>
      have c0 : ((0 : Nat) : Int) = 0 := rfl
      simp (disch := omega) only [sxE, swing_All.E, Nat.reduceAdd, Nat.reduceEqDiff, Nat.reduceMul, Nat.reduceSub, Int.reduceAdd, Int.reduceSub, Int.reduceMul, Int.reduceNeg, Int.reduceLT, Int.reduceLE, Int.reduceEq, Int.reduceToNat, ↓reduceIte, Int.reducePow, Nat.reduceLeDiff, Nat.reduceLT, ne_eq, eq_self, List.length_cons, List.length_nil, c0]
      refine extS_of fun k hk => ?_
      rcases List.mem_cons.1 hk with rfl | hk
      ·exact .inl (List.mem_singleton.2 rfl)
      ·rw [List.mem_singleton.1 hk]
       exact .inr ⟨rfl, fun W => wK_nil _ _ _ W⟩
     case round =>
      rintro ⟨i, v⟩ ⟨hi', hvb⟩
      try dsimp only at hi' hvb ⊢
      by_cases hlt : i < ss.length
      ·obtain ⟨b', off, rfl, -, -⟩ := h4 (by omega)
       have hsi := HI i hi'
       have hnx := swi_next hsi ht hlt h3 hinc
       have enx : swf t (ss.take (i + 1)) = swa (swf t (ss.take i)) (ss.getD i (0, 0)) := by rw [take_snoc' hlt, swf_snoc]
       have hx := smp_i64 h3 i
       have e0 : (i : Int) + 1 = ((i + 1 : Nat) : Int) := by omega
       generalize hA : swf t (ss.take i) = A at *
       clear hA h3 h4
       obtain ⟨hn1, hn2⟩ := hnx
       have hn1 := hid hn1
       have hsi := hid hsi
       repeat' (first | simp (disch := omega) only [sxE, swing_All.E, Nat.reduceAdd, Nat.reduceEqDiff, Nat.reduceMul, Nat.reduceSub, Int.reduceAdd, Int.reduceSub, Int.reduceMul, Int.reduceNeg, Int.reduceLT, Int.reduceLE, Int.reduceEq, Int.reduceToNat, ↓reduceIte, Int.reducePow, Nat.reduceLeDiff, Nat.reduceLT, ne_eq, eq_self, List.length_cons, List.length_nil, qxE] | (with_reducible refine ldP_blk b' ?_; refine ldP_S2 i h ?_ ?_ ?_; omega; omega) | (with_reducible refine cregF ?_))
       refine asks_ob (C := Sx.cx _ w _) [] (ι := Unit) (fun _ => True) (fun _ => .tuple #[]) b (dcs A.1 v) (fun _ v' => dcs (swn A.1 (ss.getD i (0, 0)).1 (ss.getD i (0, 0)).2) v') v A.2.length (lcells A.2) (fun _ => A.2.length + (swe A.1 (ss.getD i (0, 0)).1 (ss.getD i (0, 0)).2).length) (fun _ => lcells A.2 ++ lcells (swe A.1 (ss.getD i (0, 0)).1 (ss.getD i (0, 0)).2)) en_swing_door__step rfl List.mem_cons_self (.inr (List.mem_cons_of_mem _ List.mem_cons_self)) (fun _ h => h) (fun k hk => by cases hk) (fun W hW hbW hB ho => ?_) fun _ v' _ hnb hsh hR' hgl => ?_
       ·have s1 := hsi.out
        refine (sw_step (xt := (ss.getD i (0, 0)).1) (xv := (ss.getD i (0, 0)).2) hbW hB ho hvb (by rw [s1.tt]; exact t01.1) (by rw [s1.tt]; exact t01.2) s1.n0 (by have := s1.n1; omega) s1.T s1.V s1.c hx.1 hx.2 hn2 (by have := s1.len; omega)).mono ?_
        rintro e w' ⟨v', rfl, g1, g2, g3, g4, g5⟩
        exact ⟨(), v', trivial, rfl, g1, g2, g3, g4, g5⟩
       repeat' (first | simp (disch := omega) only [sxE, swing_All.E, Nat.reduceAdd, Nat.reduceEqDiff, Nat.reduceMul, Nat.reduceSub, Int.reduceAdd, Int.reduceSub, Int.reduceMul, Int.reduceNeg, Int.reduceLT, Int.reduceLE, Int.reduceEq, Int.reduceToNat, ↓reduceIte, Int.reducePow, Nat.reduceLeDiff, Nat.reduceLT, ne_eq, eq_self, List.length_cons, List.length_nil, qxE] | (with_reducible refine cregF ?_))
       rw [e0]
       refine ⟨(i + 1, v'), ⟨by dsimp only; omega, hnb⟩, by dsimp only; omega, rfl, .inl ?_⟩
       dsimp only
       rw [enx]
       unfold swa
       dsimp only
       rw [List.length_append, lcells_app]
      ·obtain rfl : i = ss.length := by omega
       have hsi := HI _ (Nat.le_refl _)
       rw [List.take_length] at hsi ⊢
       unfold swall
       generalize hA : swf t ss = A at *
       clear hA h3 h4
       have hsi := hid hsi
       repeat' (first | simp (disch := omega) only [sxE, swing_All.E, Nat.reduceAdd, Nat.reduceEqDiff, Nat.reduceMul, Nat.reduceSub, Int.reduceAdd, Int.reduceSub, Int.reduceMul, Int.reduceNeg, Int.reduceLT, Int.reduceLE, Int.reduceEq, Int.reduceToNat, ↓reduceIte, Int.reducePow, Nat.reduceLeDiff, Nat.reduceLT, ne_eq, eq_self, List.length_cons, List.length_nil, qxE] | (with_reducible refine cregF ?_))
       refine asks_ob (C := Sx.cx _ w _) [] (ι := Unit) (fun _ => True) (fun _ => .tuple #[]) b (dcs A.1 v) (fun _ v' => dcs A.1 v') v A.2.length (lcells A.2) (fun _ => A.2.length + (swl A.1).length) (fun _ => lcells A.2 ++ lcells (swl A.1)) en_swing_door__end rfl List.mem_cons_self (.inr (List.mem_cons_of_mem _ List.mem_cons_self)) (fun _ h => h) (fun k hk => by cases hk) (fun W hW hbW hB ho => ?_) fun _ v' _ hnb hsh hR' hgl => ?_
       ·have s1 := hsi.out
        refine (sw_end hbW hB ho hvb s1.n0 s1.c (by have := s1.len; omega)).mono ?_
        rintro e w' ⟨v', rfl, g1, g2, g3, g4, g5⟩
        exact ⟨(), v', trivial, rfl, g1, g2, g3, g4, g5⟩
       repeat' (first | simp (disch := omega) only [sxE, swing_All.E, Nat.reduceAdd, Nat.reduceEqDiff, Nat.reduceMul, Nat.reduceSub, Int.reduceAdd, Int.reduceSub, Int.reduceMul, Int.reduceNeg, Int.reduceLT, Int.reduceLE, Int.reduceEq, Int.reduceToNat, ↓reduceIte, Int.reducePow, Nat.reduceLeDiff, Nat.reduceLT, ne_eq, eq_self, List.length_cons, List.length_nil, qxE] | (with_reducible refine ldP_blk b ?_; refine ldP_k (b := b) rfl (by first | exact List.mem_cons_self | exact List.mem_cons_of_mem _ List.mem_cons_self | exact List.mem_cons_of_mem _ (List.mem_cons_of_mem _ List.mem_cons_self) | exact List.mem_cons_of_mem _ (List.mem_cons_of_mem _ (List.mem_cons_of_mem _ List.mem_cons_self)) | exact List.mem_cons_of_mem _ (List.mem_cons_of_mem _ (List.mem_cons_of_mem _ (List.mem_cons_of_mem _ List.mem_cons_self)))) rfl ?_) | (with_reducible refine cregF ?_))
       refine ⟨v', _, rfl, rfl, .inr ?_⟩
       rw [List.length_append, lcells_app]
       exact List.mem_cons_of_mem _ (List.mem_singleton.2 rfl)
    ·obtain ⟨e1, e2⟩ := erz_lim ht hinc hl
     rw [e1, e2]
     clear e1 e2
     repeat' (first | simp (disch := omega) only [sxE, swing_All.E, Nat.reduceAdd, Nat.reduceEqDiff, Nat.reduceMul, Nat.reduceSub, Int.reduceAdd, Int.reduceSub, Int.reduceMul, Int.reduceNeg, Int.reduceLT, Int.reduceLE, Int.reduceEq, Int.reduceToNat, ↓reduceIte, Int.reducePow, Nat.reduceLeDiff, Nat.reduceLT, ne_eq, eq_self, List.length_cons, List.length_nil, qxE] | (with_reducible refine Sx.call_at (f := 64) (fun W hW => k1 W) ?_) | (with_reducible refine cregF ?_))
     refine asks_at (fun W hW => c1 W hW) ?_
     repeat' (first | simp (disch := omega) only [sxE, swing_All.E, Nat.reduceAdd, Nat.reduceEqDiff, Nat.reduceMul, Nat.reduceSub, Int.reduceAdd, Int.reduceSub, Int.reduceMul, Int.reduceNeg, Int.reduceLT, Int.reduceLE, Int.reduceEq, Int.reduceToNat, ↓reduceIte, Int.reducePow, Nat.reduceLeDiff, Nat.reduceLT, ne_eq, eq_self, List.length_cons, List.length_nil, qxE] | (with_reducible refine cregF ?_))
     exact ⟨.slice none 0 0, [], rfl, kX_nil _, .inl ⟨rfl, rfl, rfl⟩⟩
   ·obtain ⟨e1, e2⟩ := erz_inc ht (Bool.eq_false_iff.2 hinc)
    rw [if_neg hinc] at c1
    rw [e1, e2]
    clear e1 e2
    repeat' (first | simp (disch := omega) only [sxE, swing_All.E, Nat.reduceAdd, Nat.reduceEqDiff, Nat.reduceMul, Nat.reduceSub, Int.reduceAdd, Int.reduceSub, Int.reduceMul, Int.reduceNeg, Int.reduceLT, Int.reduceLE, Int.reduceEq, Int.reduceToNat, ↓reduceIte, Int.reducePow, Nat.reduceLeDiff, Nat.reduceLT, ne_eq, eq_self, List.length_cons, List.length_nil, qxE] | (with_reducible refine Sx.call_at (f := 64) (fun W hW => k1 W) ?_) | (with_reducible refine cregF ?_))
    refine asks_at (fun W hW => c1 W hW) ?_
    repeat' (first | simp (disch := omega) only [sxE, swing_All.E, Nat.reduceAdd, Nat.reduceEqDiff, Nat.reduceMul, Nat.reduceSub, Int.reduceAdd, Int.reduceSub, Int.reduceMul, Int.reduceNeg, Int.reduceLT, Int.reduceLE, Int.reduceEq, Int.reduceToNat, ↓reduceIte, Int.reducePow, Nat.reduceLeDiff, Nat.reduceLT, ne_eq, eq_self, List.length_cons, List.length_nil, qxE] | (with_reducible refine cregF ?_))
    exact ⟨.slice none 0 0, [], rfl, kX_nil _, .inl ⟨rfl, rfl, rfl⟩⟩
  ·obtain ⟨e1, e2⟩ := erz_tol (ss := ss) (Bool.eq_false_iff.2 ht)
   rw [if_neg ht] at k1
   rw [e1, e2]
   clear e1 e2
   repeat' (first | simp (disch := omega) only [sxE, swing_All.E, Nat.reduceAdd, Nat.reduceEqDiff, Nat.reduceMul, Nat.reduceSub, Int.reduceAdd, Int.reduceSub, Int.reduceMul, Int.reduceNeg, Int.reduceLT, Int.reduceLE, Int.reduceEq, Int.reduceToNat, ↓reduceIte, Int.reducePow, Nat.reduceLeDiff, Nat.reduceLT, ne_eq, eq_self, List.length_cons, List.length_nil, qxE] | (with_reducible refine Sx.call_at (f := 64) (fun W hW => k1 W) ?_) | (with_reducible refine cregF ?_))
   exact ⟨.slice none 0 0, [], rfl, kX_nil _, .inl ⟨rfl, rfl, rfl⟩⟩
end Go.Proofs.YtncmmbacoknefaaGreat

/- Sc: swing: the segments, plain. -/
namespace Go.Proofs.YtncmmbacoknefaaGreat
open Go Go.RowKit Sx
set_option linter.unusedVariables false
set_option linter.unusedSimpArgs false
def sgd (t : Int) (ss : Smps) (a j : Nat) : Cn := thc (ss.getD a (0, 0)).2 (ss.getD (a + j) (0, 0)).2 t ((ss.getD (a + j) (0, 0)).1 - (ss.getD a (0, 0)).1)
def sgk (t : Int) (ss : Smps) (a : Nat) : Nat → Cn
 | 0 => cO
 | j + 1 => (cmt (sgk t ss a j) (sgd t ss a (j + 1))).1
def sgb (t : Int) (ss : Smps) (a j : Nat) : Bool := (cmt (sgk t ss a j) (sgd t ss a (j + 1))).2
def sgl (t : Int) (ss : Smps) (a m : Nat) : LnV := ⟨(m : Int) + 1, (ss.getD a (0, 0)).2, (cho true (sgk t ss a m)).1, (cho true (sgk t ss a m)).2⟩
def LCl (t : Int) (ss : Smps) : Nat → List LnV → Nat → Prop
 | a, [], e => a = e
 | a, x :: l, e => ∃ m, x = sgl t ss a m ∧ (∀ j, j < m → sgb t ss a j = true) ∧ sgb t ss a m = false ∧ LCl t ss (a + m + 1) l e
def LOk (t : Int) (ss : Smps) : Nat → List LnV → Nat → Prop
 | a, [], e => a = e
 | a, x :: l, e => ∃ m, x = sgl t ss a m ∧ a + m + 1 ≤ e ∧ (∀ j, j < m → sgb t ss a j = true) ∧ (l ≠ [] → a + m + 1 < e ∧ sgb t ss a m = false) ∧ LOk t ss (a + m + 1) l e
theorem LCl.le {t : Int} {ss : Smps} : ∀ {l : List LnV} {a e : Nat}, LCl t ss a l e → a ≤ e
 | [], a, e, h => Nat.le_of_eq h
 | x :: l, a, e, ⟨m, _, _, _, h⟩ => by have := LCl.le h; omega
theorem LCl.snoc {t : Int} {ss : Smps} {b m : Nat} (hf : ∀ j, j < m → sgb t ss b j = true) (hb : sgb t ss b m = false) : ∀ {l : List LnV} {a : Nat}, LCl t ss a l b → LCl t ss a (l ++ [sgl t ss b m]) (b + m + 1)
 | [], a, h => by
  have h : a = b := h
  subst h
  exact ⟨m, rfl, hf, hb, rfl⟩
 | x :: l, a, ⟨n, h1, h2, h3, h⟩ => ⟨n, h1, h2, h3, LCl.snoc hf hb h⟩
theorem LCl.last {t : Int} {ss : Smps} {b m : Nat} (hf : ∀ j, j < m → sgb t ss b j = true) : ∀ {l : List LnV} {a : Nat}, LCl t ss a l b → LOk t ss a (l ++ [sgl t ss b m]) (b + m + 1)
 | [], a, h => by
  have h : a = b := h
  subst h
  exact ⟨m, rfl, Nat.le_refl _, hf, fun h => absurd rfl h, rfl⟩
 | x :: l, a, ⟨n, h1, h2, h3, h⟩ => ⟨n, h1, by have := h.le; omega, h2, fun _ => ⟨by have := h.le; omega, h3⟩, LCl.last hf h⟩
theorem swj_at (t : Int) (ss : Smps) : ∀ i, i + 1 ≤ ss.length → ∃ a m, a + m = i ∧ LCl t ss 0 (swf t (ss.take (i + 1))).2 a ∧ (swf t (ss.take (i + 1))).1 = ⟨t, (m : Int) + 1, (ss.getD a (0, 0)).1, (ss.getD a (0, 0)).2, (ss.getD (a + m) (0, 0)).1, sgk t ss a m⟩ ∧ ∀ j, j < m → sgb t ss a j = true
 | 0, h => by
  refine ⟨0, 0, rfl, ?_, ?_, fun j hj => absurd hj (Nat.not_lt_zero _)⟩ <;> rw [take_snoc' (by omega), swf_snoc] <;> rfl
 | i + 1, h => by
  obtain ⟨a, m, h1, h2, h3, h4⟩ := swj_at t ss i (by omega)
  rw [take_snoc' (by omega), swf_snoc]
  generalize swf t (ss.take (i + 1)) = A at *
  obtain ⟨s, l⟩ := A
  dsimp only at h2 h3
  subst h3
  have hi : i + 1 = a + (m + 1) := by omega
  have hm : swg ⟨t, (m : Int) + 1, (ss.getD a (0, 0)).1, (ss.getD a (0, 0)).2, (ss.getD (a + m) (0, 0)).1, sgk t ss a m⟩ (ss.getD (i + 1) (0, 0)).1 (ss.getD (i + 1) (0, 0)).2 = sgb t ss a m := by
   unfold swg
   rw [show decide ((0 : Int) < (m : Int) + 1) = true from decide_eq_true (by omega), Bool.true_and, hi]
   rfl
  cases hb : sgb t ss a m
  ·rw [hb] at hm
   have e1 : (swa (⟨t, (m : Int) + 1, (ss.getD a (0, 0)).1, (ss.getD a (0, 0)).2, (ss.getD (a + m) (0, 0)).1, sgk t ss a m⟩, l) (ss.getD (i + 1) (0, 0))).1 = swb t (ss.getD (i + 1) (0, 0)).1 (ss.getD (i + 1) (0, 0)).2 := if_neg (by rw [hm]; decide)
   have e2 : (swa (⟨t, (m : Int) + 1, (ss.getD a (0, 0)).1, (ss.getD a (0, 0)).2, (ss.getD (a + m) (0, 0)).1, sgk t ss a m⟩, l) (ss.getD (i + 1) (0, 0))).2 = l ++ [sgl t ss a m] := by
    show l ++ swe _ _ _ = _
    unfold swe
    rw [if_neg (by rw [hm]; decide)]
    unfold swl
    rw [if_pos (show (0 : Int) < (m : Int) + 1 by omega)]
    rfl
   refine ⟨i + 1, 0, rfl, ?_, ?_, fun j hj => absurd hj (Nat.not_lt_zero _)⟩
   ·rw [e2, show i + 1 = a + m + 1 by omega]
    exact h2.snoc h4 hb
   ·rw [e1]; rfl
  ·rw [hb] at hm
   have e1 : (swa (⟨t, (m : Int) + 1, (ss.getD a (0, 0)).1, (ss.getD a (0, 0)).2, (ss.getD (a + m) (0, 0)).1, sgk t ss a m⟩, l) (ss.getD (i + 1) (0, 0))).1 = ⟨t, (m : Int) + 1 + 1, (ss.getD a (0, 0)).1, (ss.getD a (0, 0)).2, (ss.getD (i + 1) (0, 0)).1, (swm ⟨t, (m : Int) + 1, (ss.getD a (0, 0)).1, (ss.getD a (0, 0)).2, (ss.getD (a + m) (0, 0)).1, sgk t ss a m⟩ (ss.getD (i + 1) (0, 0)).1 (ss.getD (i + 1) (0, 0)).2).1⟩ := if_pos hm
   have e2 : (swa (⟨t, (m : Int) + 1, (ss.getD a (0, 0)).1, (ss.getD a (0, 0)).2, (ss.getD (a + m) (0, 0)).1, sgk t ss a m⟩, l) (ss.getD (i + 1) (0, 0))).2 = l := by
    show l ++ swe _ _ _ = _
    unfold swe
    rw [if_pos hm, List.append_nil]
   refine ⟨a, m + 1, by omega, by rw [e2]; exact h2, ?_, fun j hj => ?_⟩
   ·rw [e1, hi]
    rfl
   ·by_cases h : j = m
    ·rw [h]; exact hb
    ·exact h4 j (by omega)
theorem swall_ok (t : Int) (ss : Smps) : LOk t ss 0 (swall t ss) ss.length := by
 cases hn : ss.length with
 | zero =>
  obtain rfl : ss = [] := List.eq_nil_of_length_eq_zero hn
  rfl
 | succ i =>
  obtain ⟨a, m, h1, h2, h3, h4⟩ := swj_at t ss i (by omega)
  rw [show ss.take (i + 1) = ss by rw [← hn]; exact List.take_length] at h2 h3
  have e : swall t ss = (swf t ss).2 ++ [sgl t ss a m] := by
   unfold swall
   rw [h3]
   unfold swl
   rw [if_pos (show (0 : Int) < (m : Int) + 1 by omega)]
   rfl
  rw [e, ← h1]
  exact h2.last h4
theorem incr_lt {ss : Smps} (h : incr ss = true) {a : Nat} : ∀ {j : Nat}, a + j + 1 < ss.length → (ss.getD a (0, 0)).1 < (ss.getD (a + j + 1) (0, 0)).1
 | 0, hj => of_decide_eq_true h a (by omega)
 | j + 1, hj => by
  have h1 := incr_lt h (a := a) (j := j) (by omega)
  have h2 := of_decide_eq_true h (a + j + 1) (by omega)
  rw [show a + (j + 1) + 1 = a + j + 1 + 1 by omega]
  omega
theorem sgd_th {t : Int} {ss : Smps} (ht : tolz t = true) (hin : ∀ s ∈ ss, I64 s.1 ∧ I64 s.2) (hinc : incr ss = true) {a j : Nat} (hj : a + j + 1 < ss.length) : ThP (ss.getD a (0, 0)).2 (ss.getD (a + j + 1) (0, 0)).2 t ((ss.getD (a + j + 1) (0, 0)).1 - (ss.getD a (0, 0)).1) ∧ U64 ((ss.getD (a + j + 1) (0, 0)).1 - (ss.getD a (0, 0)).1) ∧ (ss.getD (a + j + 1) (0, 0)).1 - (ss.getD a (0, 0)).1 ≠ 0 := by
 have h1 := incr_lt hinc hj
 have x1 := smp_i64 hin a
 have x2 := smp_i64 hin (a + j + 1)
 have iD : U64 ((ss.getD (a + j + 1) (0, 0)).1 - (ss.getD a (0, 0)).1) := ⟨by omega, by have := x2.1.2; have := x1.1.1; omega⟩
 have h0 : (ss.getD (a + j + 1) (0, 0)).1 - (ss.getD a (0, 0)).1 ≠ 0 := by omega
 exact ⟨th_p (ab_66 x1.2) x2.2 (tolz_iff.1 ht) iD h0, iD, h0⟩
theorem sgk_ok {t : Int} {ss : Smps} (ht : tolz t = true) (hin : ∀ s ∈ ss, I64 s.1 ∧ I64 s.2) (hinc : incr ss = true) {a : Nat} : ∀ {j : Nat}, (∀ i, i < j → sgb t ss a i = true) → a + j < ss.length → (sgk t ss a j).ok
 | 0, _, _ => cO_ok
 | j + 1, h, hj => cmt_ok (sgk_ok ht hin hinc (fun i hi => h i (by omega)) (by omega)) (sgd_th ht hin hinc (by omega)).1.cl.ok (h j (by omega))
theorem rx_sdist {a b : Int} (ha : I64 a) (hb : I64 b) (h : b ≤ a) (W : World) : Gives Tryz.prog 42 [.int .i64 a, .int .i64 b] W (· = .int .u64 (a - b)) := by
 refine gives_known en_r01_Distance ?_
 have w1 := wrap_subw hb ha h
 have h' : ¬ a < b := by omega
 clear ha hb
 refine known_of (enter Tryz.func42 r01_Distance.ok (args := [_, _]) (by simp) ?_)
 repeat' (first | simp (disch := omega) only [sxE, r01_Distance.E, Nat.reduceAdd, Nat.reduceEqDiff, Nat.reduceMul, Nat.reduceSub, Int.reduceAdd, Int.reduceSub, Int.reduceMul, Int.reduceNeg, Int.reduceLT, Int.reduceLE, Int.reduceEq, Int.reduceToNat, ↓reduceIte, Int.reducePow, Nat.reduceLeDiff, Nat.reduceLT, ne_eq, eq_self, List.length_cons, List.length_nil, w1] | (with_reducible refine cregF ?_))
end Go.Proofs.YtncmmbacoknefaaGreat

/- CdS1: MADE BY PROGRAM (sxgen.py): the small code of some functions, points of it and their equations. -/
namespace Go.Proofs.YtncmmbacoknefaaGreat
open Go Go.RowKit Sx
set_option linter.unusedVariables false
variable (C : Cx) (R L1 L2 L3 L4 : St → Prop)
namespace w14_known
def r0 : List G := [(some 0, none, .mv (.const (.bool false)))]
def r1 : List G := [(some 6, none, .bd [.int .i64 0, .int .i64 0] [(0, 1, .const (.int .i64 0)), (1, 1, .const (.int .i64 0))]), (some 7, none, .bd [.int .i64 0, .int .i64 0] [(0, 1, .const (.int .i64 1)), (1, 1, .const (.int .i64 10))]), (some 8, none, .bd [.int .i64 0, .int .i64 0] [(0, 1, .const (.int .i64 2)), (1, 1, .const (.int .i64 20))]), (some 9, none, .bd [.int .i64 0, .int .i64 0] [(0, 1, .const (.int .i64 3)), (1, 1, .const (.int .i64 31))]), (some 10, none, .gen false (.bsl 27 4 [0, 1, 2, 3]) [.tmp 6, .tmp 7, .tmp 8, .tmp 9]), (some 1, none, .mv (.tmp 10))]
def r2 : List G := [(some 12, none, .mv (.tmp 1)), (some 13, none, .call false 46 [.tmp 12, .const (.int .i64 0)]), (some 11, none, .mv (.tmp 13)), (some 14, none, .ex (.tmp 11) 0), (some 15, none, .ex (.tmp 11) 1), (some 2, none, .mv (.tmp 14)), (some 3, none, .mv (.tmp 15))]
def r3 : List G := [(some 17, none, .mv (.tmp 1)), (some 18, none, .call false 46 [.tmp 17, .const (.int .i64 1)]), (some 16, none, .mv (.tmp 18)), (some 19, none, .ex (.tmp 16) 0), (some 20, none, .ex (.tmp 16) 1), (some 4, none, .mv (.tmp 19)), (some 5, none, .mv (.tmp 20))]
def r4 : List G := [(some 21, none, .mv (.tmp 3)), (some 22, none, .bin .eql (.tmp 21) (.const (.int .i64 0))), (some 23, none, .mv (.tmp 22)), (some 24, some (23, true), .mv (.tmp 5)), (some 25, some (23, true), .bin .eql (.tmp 24) (.const (.int .i64 0))), (some 26, none, .pick (.tmp 23) (.tmp 25) (.const (.bool false))), (some 27, none, .mv (.tmp 26)), (some 28, some (27, true), .mv (.tmp 2)), (some 29, some (27, true), .len false (.tmp 28)), (some 30, some (27, true), .bin .eql (.tmp 29) (.const (.int .i64 2))), (some 31, none, .pick (.tmp 27) (.tmp 30) (.const (.bool false))), (some 32, none, .mv (.tmp 31)), (some 33, some (32, true), .mv (.tmp 2)), (some 34, some (32, true), .is 12 (.tmp 33) (.const (.int .i64 0))), (some 35, some (32, true), .ld true 12 (.tmp 34)), (some 36, some (32, true), .call true 78 [.const (.int .i64 10)]), (some 37, some (32, true), .bd [.int .i64 0, .int .i64 0, .bool false, .int .u64 0, .int .u64 0, .int .u64 0, .int .u64 0, .bool false, .int .u64 0, .int .u64 0, .int .u64 0, .int .u64 0] [(0, 1, .const (.int .i64 3)), (2, 10, .tmp 36)]), (some 38, some (32, true), .eqg false 41 (.tmp 35) (.tmp 37)), (some 39, none, .pick (.tmp 32) (.tmp 38) (.const (.bool false))), (some 40, none, .mv (.tmp 39)), (some 41, some (40, true), .mv (.tmp 2)), (some 42, some (40, true), .is 12 (.tmp 41) (.const (.int .i64 1))), (some 43, some (40, true), .fa 1 (.tmp 42)), (some 44, some (40, true), .ld false 1 (.tmp 43)), (some 45, some (40, true), .bin .eql (.tmp 44) (.const (.int .i64 31))), (some 46, none, .pick (.tmp 40) (.tmp 45) (.const (.bool false))), (some 47, none, .mv (.tmp 46)), (some 48, some (47, true), .mv (.tmp 4)), (some 49, some (47, true), .len false (.tmp 48)), (some 50, some (47, true), .bin .eql (.tmp 49) (.const (.int .i64 1))), (some 51, none, .pick (.tmp 47) (.tmp 50) (.const (.bool false))), (some 52, none, .mv (.tmp 51)), (some 53, some (52, true), .mv (.tmp 4)), (some 54, some (52, true), .is 12 (.tmp 53) (.const (.int .i64 0))), (some 55, some (52, true), .fa 0 (.tmp 54)), (some 56, some (52, true), .ld false 1 (.tmp 55)), (some 57, some (52, true), .bin .eql (.tmp 56) (.const (.int .i64 4))), (some 58, none, .pick (.tmp 52) (.tmp 57) (.const (.bool false)))]
def t4 : List G := [(some 0, none, .mv (.tmp 58))]
def c : MC := (.seq (.reg r0 (some [])) (.seq (.reg r1 (some [1])) (.seq (.reg r2 (some [1, 2, 3])) (.seq (.reg r3 (some [2, 3, 4, 5])) (.seq (.dreg r4 t4 (some [0])) .ret)))))
def ann : Ann := [(0, (some [], 0, [], [], [])), (1, (some [1], 0, [], [], [])), (2, (some [1, 2, 3], 0, [], [], [])), (3, (some [2, 3, 4, 5], 0, [], [], [])), (4, (some [0], 38, [], [(0, 0), (1, 0), (2, 0), (3, 0), (4, 0), (5, 0), (6, 0), (7, 0), (8, 0), (9, 0), (10, 0), (11, 0), (12, 0), (13, 0), (14, 0), (15, 0), (16, 0), (17, 0), (18, 0), (19, 0), (20, 0), (21, 0), (22, 0), (23, 0), (24, 0), (25, 0), (26, 0), (27, 0), (28, 0), (29, 0), (30, 0), (31, 0), (32, 0), (33, 0), (34, 0), (35, 0), (36, 0), (37, 0)], []))]
theorem ok : compF Tryz.prog Tryz.f47 ann = some (59, c, [(0, none)]) := by kernel_rfl
def p1 (S : St) : Prop := ops C r4 (ops C t4 (kq [0] R)) S
def p2 (S : St) : Prop := ops C r3 (kq [2, 3, 4, 5] (p1 C R)) S
def p3 (S : St) : Prop := ops C r2 (kq [1, 2, 3] (p2 C R)) S
def p4 (S : St) : Prop := ops C r1 (kq [1] (p3 C R)) S
def p5 (S : St) : Prop := ops C r0 (kq [] (p4 C R)) S
theorem s (S : St) : X C c (retK R) S = p5 C R S := by kernel_rfl
def E := ai @r4.eq_1 <| ai @t4.eq_1 <| ai @p1.eq_1 <| ai @r3.eq_1 <| ai @p2.eq_1 <| ai @r2.eq_1 <| ai @p3.eq_1 <| ai @r1.eq_1 <| ai @p4.eq_1 <| ai @r0.eq_1 <| ai @p5.eq_1 <| @s
end w14_known
end Go.Proofs.YtncmmbacoknefaaGreat

/- Sk: Rows of lines; equality of lines; law 14's known. -/
namespace Go.Proofs.YtncmmbacoknefaaGreat
open Go Go.RowKit Sx
set_option linter.unusedVariables false
set_option linter.unusedSimpArgs false
theorem guardT_line : Tryz.prog.eqGuardType Tryz.prog.depth 41 = false := by kernel_rfl
theorem weq_self (n : Bool) (a b c d : Int) : weq n a b c d n a b c d = true := by simp [weq, meq]
theorem eq_line_self (N V : Int) (n : Bool) (a b c d : Int) (n1 : Bool) (a1 b1 c1 d1 : Int) (w : World) :
  (Op.equalIn 10000 41 (.agg #[.int .i64 N, .int .i64 V, .bool n, .int .u64 a, .int .u64 b, .int .u64 c, .int .u64 d, .bool n1, .int .u64 a1, .int .u64 b1, .int .u64 c1, .int .u64 d1]) (.agg #[.int .i64 N, .int .i64 V, .bool n, .int .u64 a, .int .u64 b, .int .u64 c, .int .u64 d, .bool n1, .int .u64 a1, .int .u64 b1, .int .u64 c1, .int .u64 d1])).run Tryz.prog w = .ok true w := by
 have h := fun W => eq_ratio9 n a b c d n1 a1 b1 c1 d1 n a b c d n1 a1 b1 c1 d1 W
 simp only [weq_self, Bool.and_self] at h
 simp [go_sem, h]
theorem eql_run {ng : Bool} {xo yo : Operand} (N V : Int) (n : Bool) (a b c d : Int) (n1 : Bool) (a1 b1 c1 d1 : Int) (W : World) :
  ((do eqGuard (if ng then .neq else .eql) 41 xo yo (.agg #[.int .i64 N, .int .i64 V, .bool n, .int .u64 a, .int .u64 b, .int .u64 c, .int .u64 d, .bool n1, .int .u64 a1, .int .u64 b1, .int .u64 c1, .int .u64 d1]) (.agg #[.int .i64 N, .int .i64 V, .bool n, .int .u64 a, .int .u64 b, .int .u64 c, .int .u64 d, .bool n1, .int .u64 a1, .int .u64 b1, .int .u64 c1, .int .u64 d1]); binOp (if ng then .neq else .eql) 41 (.agg #[.int .i64 N, .int .i64 V, .bool n, .int .u64 a, .int .u64 b, .int .u64 c, .int .u64 d, .bool n1, .int .u64 a1, .int .u64 b1, .int .u64 c1, .int .u64 d1]) (.agg #[.int .i64 N, .int .i64 V, .bool n, .int .u64 a, .int .u64 b, .int .u64 c, .int .u64 d, .bool n1, .int .u64 a1, .int .u64 b1, .int .u64 c1, .int .u64 d1])) : Sem Value).run Tryz.prog W = .ok (.bool (!ng)) W :=
 (eqb_run (ng := ng) (xo := xo) (yo := yo) guardT_line (eq_line_self N V n a b c d n1 a1 b1 c1 d1 W)).trans (by cases ng <;> rfl)
def ln0 : LnV := ⟨0, 0, 0, 0⟩
theorem lcells_at : ∀ {ls : List LnV} {i j : Nat}, i < ls.length → j < 12 → (lcells ls)[12 * i + j]? = (lcell (ls.getD i ln0))[j]?
 | [], i, j, h, _ => absurd h (Nat.not_lt_zero _)
 | x :: ls, 0, j, h, hj => by
  show (lcell x ++ lcells ls)[12 * 0 + j]? = _
  rw [List.getElem?_append_left (by show _ < 12; omega)]
  rw [Nat.mul_zero, Nat.zero_add]
  rfl
 | x :: ls, i + 1, j, h, hj => by
  show (lcell x ++ lcells ls)[12 * (i + 1) + j]? = _
  rw [List.getElem?_append_right (by show 12 ≤ _; omega), show 12 * (i + 1) + j - (lcell x).length = 12 * i + j from by show 12 * (i + 1) + j - 12 = _; omega]
  exact lcells_at (by simpa using h) hj
namespace Sx
variable {C : Cx} {S : St} {K : St → Prop} {d : Option Nat}
theorem ldP_lN {L : List Kn} {e : TypeId} {g n cap o : Nat} {ls : List LnV} (i : Nat) (x : LnV) (hT : (C.kn S).T = kX C.w0.heap.size L) (hm : .g (wK e 12 (.slice (some ⟨g, 0, none⟩) n cap) n (lcells ls)) ∈ L) (ho : o = 12 * i) (hi : i < ls.length) (hx : ls.getD i ln0 = x)
  (hk : K (S.put d (.v (.int .i64 x.n)))) : ldP C false 1 ⟨g, o, none⟩ d K S := by
 subst ho
 subst hx
 exact ldP_row (b := false) (l := [.int .i64 (ls.getD i ln0).n]) hT hm rfl (read1 (lcells_at (j := 0) hi (by decide))) hk
theorem ldP_lV {L : List Kn} {e : TypeId} {g n cap o : Nat} {ls : List LnV} (i : Nat) (x : LnV) (hT : (C.kn S).T = kX C.w0.heap.size L) (hm : .g (wK e 12 (.slice (some ⟨g, 0, none⟩) n cap) n (lcells ls)) ∈ L) (ho : o = 12 * i + 1) (hi : i < ls.length) (hx : ls.getD i ln0 = x)
  (hk : K (S.put d (.v (.int .i64 x.V)))) : ldP C false 1 ⟨g, o, none⟩ d K S := by
 subst ho
 subst hx
 exact ldP_row (b := false) (l := [.int .i64 (ls.getD i ln0).V]) hT hm rfl (read1 (lcells_at (j := 1) hi (by decide))) hk
theorem ldP_l12 {L : List Kn} {e : TypeId} {g n cap o : Nat} {ls : List LnV} (i : Nat) (x : LnV) (hT : (C.kn S).T = kX C.w0.heap.size L) (hm : .g (wK e 12 (.slice (some ⟨g, 0, none⟩) n cap) n (lcells ls)) ∈ L) (ho : o = 12 * i) (hi : i < ls.length) (hx : ls.getD i ln0 = x)
  (hk : K (S.put d (.v (.agg #[.int .i64 x.n, .int .i64 x.V, .bool (sg x.p), .int .u64 (lb0 (ab x.p)), .int .u64 (lb1 (ab x.p)), .int .u64 (lb2 (ab x.p)), .int .u64 (lb3 (ab x.p)), .bool (sg x.q), .int .u64 (lb0 (ab x.q)), .int .u64 (lb1 (ab x.q)), .int .u64 (lb2 (ab x.q)), .int .u64 (lb3 (ab x.q))])))) : ldP C true 12 ⟨g, o, none⟩ d K S := by
 subst ho
 subst hx
 refine ldP_row (b := true) (l := lcell (ls.getD i ln0)) hT hm rfl (fun j v hj => ?_) hk
 rw [lcells_at hi (by have := (List.getElem?_eq_some_iff.1 hj).1; exact this)]
 exact hj
end Sx
theorem sls_cK {W : World} {b : Nat} {ss : Smps} (h : HB W b (scells ss).toArray) (hz : ∀ s ∈ ss, I64 s.1 ∧ I64 s.2) (hn : ss.length ≤ maxLen) : SlS W (.slice (some ⟨b, 0, none⟩) ss.length ss.length) ss := by
 refine ⟨some ⟨b, 0, none⟩, ss.length, rfl, Nat.le_refl _, hn, hz, fun _ => ⟨b, 0, rfl, h.lt, fun i hi => ?_⟩⟩
 have h1 := (Bx.of h).2.1 (0 + i * 2)
 have h2 := (Bx.of h).2.1 (0 + i * 2 + 1)
 obtain ⟨s1, s2⟩ := scells_at ss i hi
 rw [List.getElem?_toArray, show 0 + i * 2 = 2 * i by omega] at h1 h2
 refine ⟨?_, ?_⟩
 ·rw [show 0 + i * 2 = 2 * i by omega]; exact h1.trans s1
 ·rw [show 0 + i * 2 = 2 * i by omega]; exact h2.trans s2
abbrev L14 : Smps := [(0, 0), (1, 10), (2, 20), (3, 31)]
abbrev A14 : List LnV := [⟨3, 0, 10, 1⟩, ⟨1, 31, 0, 1⟩]
abbrev B14 : List LnV := [⟨4, 0, 10, 1⟩]
theorem lin_0 : linez 0 L14 = A14 ∧ erz 0 L14 = 0 := ⟨by kernel_rfl, by kernel_rfl⟩
theorem lin_1 : linez 1 L14 = B14 ∧ erz 1 L14 = 0 := ⟨by kernel_rfl, by kernel_rfl⟩
theorem L14_in : ∀ s ∈ L14, I64 s.1 ∧ I64 s.2 := by unfold I64; decide
set_option maxRecDepth 100000 in
set_option maxHeartbeats 1000000 in
theorem g_known14 (w : World) : Calls Tryz.prog 47 #[] w fun e w' => e = .returned (.bool true) ∧ Below w.heap.size w w' := by
 have o1 := fun W => rx_rof (z := 10) ⟨by decide, by decide⟩ W
 refine known_of (enter Tryz.func47 w14_known.ok (args := []) (by simp) ?_)
 repeat' (first | simp (disch := omega) only [sxE, w14_known.E, Nat.reduceAdd, Nat.reduceEqDiff, Nat.reduceMul, Nat.reduceSub, Int.reduceAdd, Int.reduceSub, Int.reduceMul, Int.reduceNeg, Int.reduceLT, Int.reduceLE, Int.reduceEq, Int.reduceToNat, ↓reduceIte, Int.reducePow, Nat.reduceLeDiff, Nat.reduceLT, ne_eq, eq_self, List.length_cons, List.length_nil, qxE] | (with_reducible refine cregF ?_))
 refine genA_c (L := []) (cs := scells L14) (T := 58) (fun b => .slice (some ⟨b, 0, none⟩) 4 4) (kX_nil _) (fun W => by kernel_rfl) fun b _ => ?_
 repeat' (first | simp (disch := omega) only [sxE, w14_known.E, Nat.reduceAdd, Nat.reduceEqDiff, Nat.reduceMul, Nat.reduceSub, Int.reduceAdd, Int.reduceSub, Int.reduceMul, Int.reduceNeg, Int.reduceLT, Int.reduceLE, Int.reduceEq, Int.reduceToNat, ↓reduceIte, Int.reducePow, Nat.reduceLeDiff, Nat.reduceLT, ne_eq, eq_self, List.length_cons, List.length_nil, qxE] | (with_reducible refine cregF ?_))
 refine asks_rowB (L := [.g (cK b (scells L14))]) (e := 41) (s := 12) (ι := Unit) (fun _ => True) (fun _ => 2) (fun _ => lcells A14) (fun _ v => .tuple #[v, .int .i64 0]) en_swing_All rfl (fun W hW hok => ?_) ?_
 ·have hb : (cK b (scells L14)).ok w.heap.size W := hok _ List.mem_cons_self
  refine (sw_all (sls_cK hb.2 L14_in (by decide)) i64_0 (by decide)).mono ?_
  rw [lin_0.1, lin_0.2]
  exact fun e w' ⟨v, h1, h2, h3⟩ => ⟨(), v, trivial, h1, h2, h3⟩
 rintro - a1 c1 - - - hg1 -
 obtain ⟨g1, rfl⟩ := hg1 (by decide)
 repeat' (first | simp (disch := omega) only [sxE, w14_known.E, Nat.reduceAdd, Nat.reduceEqDiff, Nat.reduceMul, Nat.reduceSub, Int.reduceAdd, Int.reduceSub, Int.reduceMul, Int.reduceNeg, Int.reduceLT, Int.reduceLE, Int.reduceEq, Int.reduceToNat, ↓reduceIte, Int.reducePow, Nat.reduceLeDiff, Nat.reduceLT, ne_eq, eq_self, List.length_cons, List.length_nil, qxE] | (with_reducible refine cregF ?_))
 refine asks_rowB (L := [.g (wK 41 12 (.slice (some ⟨g1, 0, none⟩) 2 c1) 2 (lcells A14)), .g (cK b (scells L14))]) (e := 41) (s := 12) (ι := Unit) (fun _ => True) (fun _ => 1) (fun _ => lcells B14) (fun _ v => .tuple #[v, .int .i64 0]) en_swing_All rfl (fun W hW hok => ?_) ?_
 ·have hb : (cK b (scells L14)).ok w.heap.size W := hok _ (List.mem_cons_of_mem _ List.mem_cons_self)
  refine (sw_all (t := 1) (sls_cK hb.2 L14_in (by decide)) ⟨by decide, by decide⟩ (by decide)).mono ?_
  rw [lin_1.1, lin_1.2]
  exact fun e w' ⟨v, h1, h2, h3⟩ => ⟨(), v, trivial, h1, h2, h3⟩
 rintro - a2 c2 - - - hg2 -
 obtain ⟨g2, rfl⟩ := hg2 (by decide)
 have m1 : (Kn.g (wK 41 12 (.slice (some ⟨g1, 0, none⟩) 2 c1) 2 (lcells A14))) ∈ ([.g (wK 41 12 (.slice (some ⟨g2, 0, none⟩) 1 c2) 1 (lcells B14)), .g (wK 41 12 (.slice (some ⟨g1, 0, none⟩) 2 c1) 2 (lcells A14)), .g (cK b (scells L14))] : List Kn) := List.mem_cons_of_mem _ List.mem_cons_self
 repeat' (first | simp (disch := omega) only [sxE, w14_known.E, Nat.reduceAdd, Nat.reduceEqDiff, Nat.reduceMul, Nat.reduceSub, Int.reduceAdd, Int.reduceSub, Int.reduceMul, Int.reduceNeg, Int.reduceLT, Int.reduceLE, Int.reduceEq, Int.reduceToNat, ↓reduceIte, Int.reducePow, Nat.reduceLeDiff, Nat.reduceLT, ne_eq, eq_self, List.length_cons, List.length_nil, qxE, beq_self_eq_true, Bool.not_false] | (with_reducible refine Sx.call_at (f := 78) (fun W hW => o1 W) ?_) | (with_reducible refine ldP_self true 12 g1 ?_; refine ldP_l12 0 ⟨3, 0, 10, 1⟩ rfl m1 rfl (by decide) rfl ?_) | (with_reducible refine ldP_self false 1 g1 ?_; refine ldP_lV 1 ⟨1, 31, 0, 1⟩ rfl m1 rfl (by decide) rfl ?_) | (with_reducible refine ldP_self false 1 g2 ?_; refine ldP_lN 0 ⟨4, 0, 10, 1⟩ rfl List.mem_cons_self rfl (by decide) rfl ?_) | (with_reducible refine eq_is (fun W => by exact eql_run _ _ _ _ _ _ _ _ _ _ _ _ W) ?_) | (with_reducible refine cregF ?_))
end Go.Proofs.YtncmmbacoknefaaGreat

/- Kp: Cones: the plain laws of meeting and of having a slope. -/
namespace Go.Proofs.YtncmmbacoknefaaGreat
set_option linter.unusedVariables false
set_option linter.unusedSimpArgs false
theorem has_cl {p q p1 q1 x y : Int} : (Cn.mk false p q p1 q1).has x y = true ↔ p * y ≤ x * q ∧ x * q1 ≤ p1 * y := by
 unfold Cn.has
 simp
theorem Cl.lo {p q p1 q1 : Int} (h : Cl p q p1 q1) : (Cn.mk false p q p1 q1).has p q = true := has_cl.2 ⟨Int.le_refl _, h.le⟩
theorem Cl.hi {p q p1 q1 : Int} (h : Cl p q p1 q1) : (Cn.mk false p q p1 q1).has p1 q1 = true := has_cl.2 ⟨h.le, Int.le_refl _⟩
theorem Cn.ok.cases {c : Cn} (h : c.ok) : c = cO ∨ (c.o = false ∧ Cl c.p c.q c.p1 c.q1) := h
end Go.Proofs.YtncmmbacoknefaaGreat

/- Sl: Laws of swing: what they share. -/
namespace Go.Proofs.YtncmmbacoknefaaGreat
open Go Go.RowKit Sx
set_option linter.unusedVariables false
set_option linter.unusedSimpArgs false
theorem drop_cons' {ls : List LnV} {i : Nat} (h : i < ls.length) : ls.drop i = ls.getD i ln0 :: ls.drop (i + 1) := by
 rw [List.drop_eq_getElem_cons h, List.getD_eq_getElem?_getD, List.getElem?_eq_getElem h]
 rfl
theorem LOk.len {t : Int} {ss : Smps} : ∀ {l : List LnV} {a e : Nat}, LOk t ss a l e → a + l.length ≤ e
 | [], a, e, h => Nat.le_of_eq h
 | x :: l, a, e, ⟨m, _, _, _, _, h⟩ => by have := LOk.len h; rw [List.length_cons]; omega
end Go.Proofs.YtncmmbacoknefaaGreat
