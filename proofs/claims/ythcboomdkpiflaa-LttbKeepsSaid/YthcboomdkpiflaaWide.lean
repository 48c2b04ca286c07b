/- The package wide: what its functions return, as exact integers. First: equality, the carries, and the words. -/
import Derived.Test.YthcboomdkpiflaaRows
import Derived.Test.YthcboomdkpiflaaWPlain
import Derived.Test.YthcboomdkpiflaaShelf
import Derived.WalkKit
import Derived.ProofKit
import Derived.WalkLawsBesides
import Derived.WalkSpells
import Derived.ChangeKeysEq
import Derived.Laws.Externs
import Derived.RegionTactic
import Derived.ChangeAlike
import Derived.BigRegion
import Derived.Outline
import Derived.Handy
namespace Go.Proofs.Ythcboomdkpiflaa
open Go.ChangeShapes Go.WideShapes Go.ChangeAt Go.RowKit
set_option linter.unusedVariables false
set_option linter.unusedSimpArgs false

theorem info_u64 : (Try.prog.info? 24).map (fun i => (i.zero, i.size, i.bytes)) = some (some (.int .u64 0), 1, 8) := by kernel_rfl

theorem eq_mag (a b c d a' b' c' d' : Int) (dd : Nat) (w : World) :
    (Op.equalIn (dd + 2) 25 (.agg #[.int .u64 a, .int .u64 b, .int .u64 c, .int .u64 d]) (.agg #[.int .u64 a', .int .u64 b', .int .u64 c', .int .u64 d'])).run Try.prog w = .ok (meq a b c d a' b' c' d') w := by
  obtain ⟨i0, hi, hz0, hz1, hz2⟩ := info_parts info_u64
  rw [run_equalIn_array w (dd + 1) _ _ Try.underlying25 hi]
  have hc : Try.prog.cellsOf 24 = 1 := by kernel_rfl
  have hr : List.range 4 = [0, 1, 2, 3] := rfl
  rw [hc, hr]
  have hu := Try.underlying24
  unfold meq
  by_cases h1 : a = a'
  · subst h1
    by_cases h2 : b = b'
    · subst h2
      by_cases h3 : c = c'
      · subst h3
        by_cases h4 : d = d'
        · subst h4; simp [Op.eqItems, go_sem]
        · have e4 : (d == d') = false := beq_eq_false_iff_ne.2 h4
          simp [Op.eqItems, go_sem, e4, h4]
      · have e3 : (c == c') = false := beq_eq_false_iff_ne.2 h3
        simp [Op.eqItems, go_sem, e3, h3]
    · have e2 : (b == b') = false := beq_eq_false_iff_ne.2 h2
      simp [Op.eqItems, go_sem, e2, h2]
  · have e1 : (a == a') = false := beq_eq_false_iff_ne.2 h1
    simp [Op.eqItems, go_sem, e1, h1]

theorem eq_wide (n : Bool) (a b c d : Int) (n' : Bool) (a' b' c' d' : Int) (dd : Nat) (w : World) :
    (Op.equalIn (dd + 3) 27 (.agg #[.bool n, .int .u64 a, .int .u64 b, .int .u64 c, .int .u64 d]) (.agg #[.bool n', .int .u64 a', .int .u64 b', .int .u64 c', .int .u64 d'])).run Try.prog w = .ok (weq n a b c d n' a' b' c' d') w := by
  have h := fun W => eq_mag a b c d a' b' c' d' dd W
  unfold weq
  cases n <;> cases n' <;> simp [go_sem, h] <;> cases meq a b c d a' b' c' d' <;> rfl

theorem add64 {x y c : Int} (hx : U64 x) (hy : U64 y) (hc : Bit c) (w : World) : (callFunc 67 #[.int .u64 x, .int .u64 y, .int .u64 c]).run Try.prog w = .ok (.value (.tuple #[.int .u64 (s64 x y c), .int .u64 (c64 x y c)])) w := by
  rw [run_callFunc_extern Try.func67 (by kernel_rfl) (by kernel_rfl) (by kernel_rfl) (e := add64Entry) (by kernel_rfl), run_add64 x y c hx.1 hy.1 hc.1 hc.2]
  rfl

def sub64Entry' : Array Value → Sem Value := fun args => do
  let (x, y, b) ← Extern.MathBitsCarry.three "Sub64" args
  pure (Extern.MathBitsCarry.pair ((x + Extern.MathBitsCarry.m64 - y - b) % Extern.MathBitsCarry.m64) (if x < y + b then 1 else 0))
theorem run_sub64' {P : Program} (x y b : Nat) (hb : b ≤ 1) (w : World) :
    (sub64Entry' #[.int .u64 x, .int .u64 y, .int .u64 b]).run P w =
      .ok (.tuple #[.int .u64 (((x + 18446744073709551616 - y - b) % 18446744073709551616 : Nat) : Int), .int .u64 ((if x < y + b then 1 else 0 : Nat) : Int)]) w := by
  have : b = 0 ∨ b = 1 := by omega
  rcases this with rfl | rfl <;> rfl
theorem sub64 {x y b : Int} (hx : U64 x) (hy : U64 y) (hb : Bit b) (w : World) : (callFunc 68 #[.int .u64 x, .int .u64 y, .int .u64 b]).run Try.prog w = .ok (.value (.tuple #[.int .u64 (d64 x y b), .int .u64 (b64 x y b)])) w := by
  obtain ⟨x1, x2⟩ := hx; obtain ⟨y1, y2⟩ := hy; obtain ⟨b1, b2⟩ := hb
  obtain ⟨n, rfl⟩ := Int.eq_ofNat_of_zero_le x1
  obtain ⟨m, rfl⟩ := Int.eq_ofNat_of_zero_le y1
  obtain ⟨k, rfl⟩ := Int.eq_ofNat_of_zero_le b1
  rw [run_callFunc_extern Try.func68 (by kernel_rfl) (by kernel_rfl) (by kernel_rfl) (e := sub64Entry') (by kernel_rfl), run_sub64' n m k (by omega)]
  have e1 : (((n + 18446744073709551616 - m - k) % 18446744073709551616 : Nat) : Int) = d64 n m k := by unfold d64; omega
  have e2 : ((if n < m + k then 1 else 0 : Nat) : Int) = b64 n m k := by unfold b64; split <;> split <;> omega
  rw [e1, e2]; rfl

theorem blk_new (w : World) (o : Obj) {b : Nat} (h : b = w.heap.size) : (w.alloc o).heap[b]? = some o := by
  subst h
  show (w.heap.push o)[w.heap.size]? = some o
  simp
theorem blk_old {w : World} (o : Obj) {b : Nat} {x : Option Obj} (h : b < w.heap.size) (hx : w.heap[b]? = x) : (w.alloc o).heap[b]? = x := (Below.heap_alloc w o b h).trans hx
theorem blk_lt {w : World} {b : Nat} {o : Obj} (h : w.heap[b]? = some o) : b < w.heap.size := (Array.getElem?_eq_some_iff.1 h).1
theorem blk_set {w : World} {b : Nat} {cs : Array Value} {T : TypeId} (i : Nat) (v : Value) (h : w.heap[b]? = some (.cells cs T (0, 0))) : (w.setCell ⟨b, i, none⟩ v).heap[b]? = some (.cells (cs.setIfInBounds i v) T (0, 0)) := by
  obtain ⟨hlt, hk⟩ := Array.getElem?_eq_some_iff.1 h
  show (w.heap.modify b _)[b]? = _
  rw [Array.getElem?_eq_getElem (by rw [Array.size_modify]; exact hlt), Array.getElem_modify_self, hk]
  rfl
theorem blk_setne {w : World} {b : Nat} {a : Addr} (v : Value) {x : Option Obj} (h : b ≠ a.block) (hx : w.heap[b]? = x) : (w.setCell a v).heap[b]? = x := (Below.heap_setCell w a v b h).trans hx
theorem blk_set5 {w : World} {b : Nat} {cs : Array Value} {T : TypeId} (v0 v1 v2 v3 v4 : Value) (h : w.heap[b]? = some (.cells cs T (0, 0))) :
    (((((w.setCell ⟨b, 0, none⟩ v0).setCell ⟨b, 1, none⟩ v1).setCell ⟨b, 2, none⟩ v2).setCell ⟨b, 3, none⟩ v3).setCell ⟨b, 4, none⟩ v4).heap[b]? = some (.cells (((((cs.setIfInBounds 0 v0).setIfInBounds 1 v1).setIfInBounds 2 v2).setIfInBounds 3 v3).setIfInBounds 4 v4) T (0, 0)) :=
  blk_set 4 v4 (blk_set 3 v3 (blk_set 2 v2 (blk_set 1 v1 (blk_set 0 v0 h))))
theorem blk_ne5 {w : World} {b b' : Nat} {x : Option Obj} (v0 v1 v2 v3 v4 : Value) (hne : b' ≠ b) (h : w.heap[b']? = x) :
    (((((w.setCell ⟨b, 0, none⟩ v0).setCell ⟨b, 1, none⟩ v1).setCell ⟨b, 2, none⟩ v2).setCell ⟨b, 3, none⟩ v3).setCell ⟨b, 4, none⟩ v4).heap[b']? = x :=
  blk_setne v4 hne (blk_setne v3 hne (blk_setne v2 hne (blk_setne v1 hne (blk_setne v0 hne h))))
theorem blkc {w : World} {b : Nat} {cs : Array Value} {T : TypeId} (h : w.heap[b]? = some (.cells cs T (0, 0))) : (∀ i, w.cell? ⟨b, i, none⟩ = cs[i]?) ∧ (∀ i, w.frozen? ⟨b, i, none⟩ = false) :=
  ⟨fun i => by simp [World.cell?, h], fun i => by simp [World.frozen?, h]⟩
theorem bcell {W w1 : World} (hb : Below W.heap.size W w1) : (∀ b o, b < W.heap.size → w1.cell? ⟨b, o, none⟩ = W.cell? ⟨b, o, none⟩) ∧ (∀ b o, b < W.heap.size → w1.frozen? ⟨b, o, none⟩ = W.frozen? ⟨b, o, none⟩) ∧ W.heap.size ≤ w1.heap.size :=
  ⟨fun b o h => hb.cell (p := ⟨b, o, none⟩) h, fun b o h => hb.frozen (p := ⟨b, o, none⟩) h, hb.size⟩

set_option maxHeartbeats 1600000 in
set_option maxRecDepth 100000 in
theorem wadd_any (a0 a1 a2 a3 b0 b1 b2 b3 : Int) (ha0 : U64 a0) (ha1 : U64 a1) (ha2 : U64 a2) (ha3 : U64 a3) (hb0 : U64 b0) (hb1 : U64 b1) (hb2 : U64 b2) (hb3 : U64 b3) (w : World) :
    Calls Try.prog 87 #[MG a0 a1 a2 a3, MG b0 b1 b2 b3] w fun e w' => e = .returned (.tuple #[MG (lb0 (MV a0 a1 a2 a3 + MV b0 b1 b2 b3)) (lb1 (MV a0 a1 a2 a3 + MV b0 b1 b2 b3)) (lb2 (MV a0 a1 a2 a3 + MV b0 b1 b2 b3)) (lb3 (MV a0 a1 a2 a3 + MV b0 b1 b2 b3)), .int .u64 (up4 (MV a0 a1 a2 a3 + MV b0 b1 b2 b3))]) ∧ Below w.heap.size w w' := by
  have k0 := c64_bit ha0 hb0 Bit.zero
  have k1 := c64_bit ha1 hb1 k0
  have k2 := c64_bit ha2 hb2 k1
  have A0 := fun W => add64 ha0 hb0 Bit.zero W
  have A1 := fun W => add64 ha1 hb1 k0 W
  have A2 := fun W => add64 ha2 hb2 k1 W
  have A3 := fun W => add64 ha3 hb3 k2 W
  obtain ⟨e0, e1, e2, e3, e4⟩ := sum_words (a0 := a0) (a1 := a1) (a2 := a2) (a3 := a3) (b0 := b0) (b1 := b1) (b2 := b2) (b3 := b3)
  rw [e0, e1, e2, e3, e4]
  clear k0 k1 k2 ha0 ha1 ha2 ha3 hb0 hb1 hb2 hb3 e0 e1 e2 e3 e4
  go_enter Try.func87, Try.ntmps87
  go_wp2
  refine wp_loop_rounds 5 ?_
  rw [rounds_succ]
  go_wp2
  go_region
  go_wp2
  rw [rounds_succ]
  go_wp2
  go_region
  go_wp2
  rw [rounds_succ]
  go_wp2
  go_region
  go_wp2
  rw [rounds_succ]
  go_wp2
  go_region
  go_wp2
  rw [rounds_succ]
  go_wp2
  go_returns
  exact ⟨rfl, (by (repeat' (first | (with_reducible exact Below.refl _ _) | (with_reducible refine Below.alloc ?_ ?_ _) | (with_reducible refine Below.setCell ?_ ?_ _) | (with_reducible refine Below.drew ?_) | (with_reducible refine Below.trans ?_ (Below.mono (by with_reducible assumption) ?_)) | go_size)))⟩

set_option maxHeartbeats 1600000 in
set_option maxRecDepth 100000 in
theorem wsub_any (a0 a1 a2 a3 b0 b1 b2 b3 : Int) (ha0 : U64 a0) (ha1 : U64 a1) (ha2 : U64 a2) (ha3 : U64 a3) (hb0 : U64 b0) (hb1 : U64 b1) (hb2 : U64 b2) (hb3 : U64 b3) (w : World) :
    Calls Try.prog 88 #[MG a0 a1 a2 a3, MG b0 b1 b2 b3] w fun e w' => e = .returned (MG (lb0 (MV a0 a1 a2 a3 - MV b0 b1 b2 b3)) (lb1 (MV a0 a1 a2 a3 - MV b0 b1 b2 b3)) (lb2 (MV a0 a1 a2 a3 - MV b0 b1 b2 b3)) (lb3 (MV a0 a1 a2 a3 - MV b0 b1 b2 b3))) ∧ Below w.heap.size w w' := by
  have k0 := b64_bit a0 b0 0
  have k1 := b64_bit a1 b1 (b64 a0 b0 0)
  have k2 := b64_bit a2 b2 (b64 a1 b1 (b64 a0 b0 0))
  have A0 := fun W => sub64 ha0 hb0 Bit.zero W
  have A1 := fun W => sub64 ha1 hb1 k0 W
  have A2 := fun W => sub64 ha2 hb2 k1 W
  have A3 := fun W => sub64 ha3 hb3 k2 W
  obtain ⟨e0, e1, e2, e3⟩ := diff_words (a3 := a3) (b3 := b3) ha0 ha1 ha2 hb0 hb1 hb2
  rw [e0, e1, e2, e3]
  clear k0 k1 k2 ha0 ha1 ha2 ha3 hb0 hb1 hb2 hb3 e0 e1 e2 e3
  go_enter Try.func88, Try.ntmps88
  go_wp2
  refine wp_loop_rounds 5 ?_
  rw [rounds_succ]
  go_wp2
  go_region
  go_wp2
  rw [rounds_succ]
  go_wp2
  go_region
  go_wp2
  rw [rounds_succ]
  go_wp2
  go_region
  go_wp2
  rw [rounds_succ]
  go_wp2
  go_region
  go_wp2
  rw [rounds_succ]
  go_wp2
  go_returns
  exact ⟨rfl, (by (repeat' (first | (with_reducible exact Below.refl _ _) | (with_reducible refine Below.alloc ?_ ?_ _) | (with_reducible refine Below.setCell ?_ ?_ _) | (with_reducible refine Below.drew ?_) | (with_reducible refine Below.trans ?_ (Below.mono (by with_reducible assumption) ?_)) | go_size)))⟩

theorem valid_any (n : Bool) (a b c d : Int) (w : World) :
    Calls Try.prog 61 #[WV n a b c d] w fun e w' => e = .returned (.bool (!n || !mz a b c d)) ∧ Below w.heap.size w w' := by
  have E : ∀ W, (Op.equalIn 10000 25 (MG a b c d) (MG 0 0 0 0)).run Try.prog W = .ok (mz a b c d) W := fun W => eq_mag a b c d 0 0 0 0 9998 W
  cases n
  · go_enter Try.func61, Try.ntmps61
    go_wp2
    go_returns
    exact ⟨ret_b rfl, (by (repeat' (first | (with_reducible exact Below.refl _ _) | (with_reducible refine Below.alloc ?_ ?_ _) | (with_reducible refine Below.setCell ?_ ?_ _) | (with_reducible refine Below.drew ?_) | (with_reducible refine Below.trans ?_ (Below.mono (by with_reducible assumption) ?_)) | go_size)))⟩
  · go_enter Try.func61, Try.ntmps61
    go_wp2
    go_returns
    exact ⟨ret_b rfl, (by (repeat' (first | (with_reducible exact Below.refl _ _) | (with_reducible refine Below.alloc ?_ ?_ _) | (with_reducible refine Below.setCell ?_ ?_ _) | (with_reducible refine Below.drew ?_) | (with_reducible refine Below.trans ?_ (Below.mono (by with_reducible assumption) ?_)) | go_size)))⟩

theorem clean_any (n : Bool) (a b c d : Int) (w : World) :
    Calls Try.prog 78 #[WV n a b c d] w fun e w' => e = .returned (WV (cn n a b c d) a b c d) ∧ Below w.heap.size w w' := by
  cases hz : (n && mz a b c d)
  · have hv : (!n || !mz a b c d) = true := by revert hz; cases n <;> cases mz a b c d <;> simp
    have hc : cn n a b c d = n := by revert hz; unfold cn; cases n <;> cases mz a b c d <;> simp
    rw [hc]
    clear hz hc
    go_enter Try.func78, Try.ntmps78
    go_wp2_with (go_at_call 61; refine (valid_any _ _ _ _ _ _).mono ?_; rintro e w' ⟨rfl, hb⟩; obtain ⟨hc, hf, hsz⟩ := bcell hb; simp only [World.size_alloc, World.size_setCell, World.size_drew] at hsz)
    refine bodyPost_ret (v := WV n a b c d) ?_ rfl ⟨rfl, ?_⟩
    · simp [results, Try.results78, go_sem, hc]
    · (repeat' (first | (with_reducible exact Below.refl _ _) | (with_reducible refine Below.alloc ?_ ?_ _) | (with_reducible refine Below.setCell ?_ ?_ _) | (with_reducible refine Below.drew ?_) | (with_reducible refine Below.trans ?_ (Below.mono (by with_reducible assumption) ?_)) | go_size))
  · have hv : (!n || !mz a b c d) = false := by revert hz; cases n <;> cases mz a b c d <;> simp
    have hzz : mz a b c d = true := by revert hz; cases n <;> simp
    have hc : cn n a b c d = false := by unfold cn; rw [hzz]; simp
    have hw : a = 0 ∧ b = 0 ∧ c = 0 ∧ d = 0 := by simpa [mz, meq] using hzz
    obtain ⟨rfl, rfl, rfl, rfl⟩ := hw
    rw [hc]
    clear hz hc hzz
    go_enter Try.func78, Try.ntmps78
    go_wp2_with (go_at_call 61; refine (valid_any _ _ _ _ _ _).mono ?_; rintro e w' ⟨rfl, hb⟩; obtain ⟨hc, hf, hsz⟩ := bcell hb; simp only [World.size_alloc, World.size_setCell, World.size_drew] at hsz)
    refine bodyPost_ret (v := WV false 0 0 0 0) ?_ rfl ⟨rfl, ?_⟩
    · simp [results, Try.results78, go_sem, hc]
    · (repeat' (first | (with_reducible exact Below.refl _ _) | (with_reducible refine Below.alloc ?_ ?_ _) | (with_reducible refine Below.setCell ?_ ?_ _) | (with_reducible refine Below.drew ?_) | (with_reducible refine Below.trans ?_ (Below.mono (by with_reducible assumption) ?_)) | go_size))

theorem signed_any (n : Bool) (a b c d : Int) (w : World) :
    Calls Try.prog 80 #[.bool n, MG a b c d] w fun e w' => e = .returned (WV (cn n a b c d) a b c d) ∧ Below w.heap.size w w' := by
  go_enter Try.func80, Try.ntmps80
  go_wp2_with (go_at_call 78; refine (clean_any _ _ _ _ _ _).mono ?_; rintro e w' ⟨rfl, hb⟩; obtain ⟨hc, hf, hsz⟩ := bcell hb; simp only [World.size_alloc, World.size_setCell, World.size_drew] at hsz)
  refine bodyPost_ret (v := WV (cn n a b c d) a b c d) ?_ rfl ⟨rfl, ?_⟩
  · simp [results, Try.results80, go_sem, hc]
  · (repeat' (first | (with_reducible exact Below.refl _ _) | (with_reducible refine Below.alloc ?_ ?_ _) | (with_reducible refine Below.setCell ?_ ?_ _) | (with_reducible refine Below.drew ?_) | (with_reducible refine Below.trans ?_ (Below.mono (by with_reducible assumption) ?_)) | go_size))

end Go.Proofs.Ythcboomdkpiflaa
