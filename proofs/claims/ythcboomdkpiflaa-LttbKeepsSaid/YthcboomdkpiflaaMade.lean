/- The tape of tscodecmade: what its methods return, and that they turn nothing but the tape's own place. -/
import Derived.Test.YthcboomdkpiflaaRows
import Derived.Test.YthcboomdkpiflaaPlain
import Derived.WalkKit
import Derived.ProofKit
import Derived.WalkLawsBesides
import Derived.WalkSpells
import Derived.Outline
import Derived.RegionTactic
import Derived.ChangeAlike
import Derived.Deep.QuietTactic
import Derived.BigQuiet
import Derived.Deep.RegionWith
namespace Go.Proofs.Ythcboomdkpiflaa
open Go.ChangeShapes Go.WideShapes Go.ChangeAt Go.RowKit
set_option linter.unusedVariables false
set_option linter.unusedSimpArgs false

theorem quiet_left {P : Program} {f : FuncId} {args : Array Value} {w : World} {n : Nat} {v : Value} (h : Calls P f args (w.drewN n) fun e w' => e = .returned v ∧ w.drewN n = w') : Calls P f args (w.drewN n) fun e w' => e = .returned v ∧ ∃ m, w' = w.drewN m :=
  h.mono fun _ _ ⟨he, hm⟩ => ⟨he, n, hm.symm⟩

theorem grown_refl (w : World) (row : Option Nat) : w.grownBy w row := ⟨rfl, rfl, rfl, Nat.le_refl _, fun _ _ _ => rfl⟩
theorem grown_drewN {a w : World} {row : Option Nat} (h : a.grownBy w row) (n : Nat) : a.grownBy (w.drewN n) row := ⟨h.os, h.tape, h.output, h.size, h.block⟩
theorem grown_setCell {a w : World} {g : Nat} (h : a.grownBy w (some g)) {p : Addr} (hp : p.block = g ∨ a.heap.size ≤ p.block) (u : Value) : a.grownBy (w.setCell p u) (some g) :=
  ⟨h.os, h.tape, h.output, by simpa [World.setCell] using h.size, fun i hi hne => (Below.heap_setCell w p u i (by
    rintro rfl
    rcases hp with hp | hp
    · exact hne (by rw [hp])
    · omega)).trans (h.block i hi hne)⟩
theorem grown_trans {a b c : World} {row : Option Nat} (h : a.grownBy b row) (k : b.grownBy c row) : a.grownBy c row :=
  ⟨k.os.trans h.os, k.tape.trans h.tape, k.output.trans h.output, Nat.le_trans h.size k.size, fun i hi hn => (k.block i (Nat.lt_of_lt_of_le hi h.size) hn).trans (h.block i hi hn)⟩
theorem grown_below {a w : World} (h : Below a.heap.size a w) (row : Option Nat) : a.grownBy w row := ⟨h.os, h.tape, h.output, h.size, fun i hi _ => h.block i hi⟩

/-- Block b holds a tape: a slice of ints and a place in it; both lie below block B. -/
def TapeOk (B : Nat) (w : World) (b : Nat) : Prop := ∃ (a : Option Addr) (len cap k : Nat), b < B ∧ B ≤ w.heap.size ∧ w.cell? ⟨b, 0, none⟩ = some (.slice a len cap) ∧ w.cell? ⟨b, 1, none⟩ = some (.int .i64 k) ∧ w.frozen? ⟨b, 1, none⟩ = false ∧
  k ≤ len ∧ len ≤ 9223372036854775807 ∧ (0 < len → ∃ bb off, a = some ⟨bb, off, none⟩ ∧ bb ≠ b ∧ bb < B ∧ ∀ i, i < len → ∃ x, w.cell? ⟨bb, off + i, none⟩ = some (.int .i64 x) ∧ I64 x)

theorem TapeOk.ltB {B : Nat} {w : World} {b : Nat} (h : TapeOk B w b) : b < B := by obtain ⟨_, _, _, _, h, _⟩ := h; exact h
theorem TapeOk.leB {B : Nat} {w : World} {b : Nat} (h : TapeOk B w b) : B ≤ w.heap.size := by obtain ⟨_, _, _, _, _, h, _⟩ := h; exact h
theorem TapeOk.lt {B : Nat} {w : World} {b : Nat} (h : TapeOk B w b) : b < w.heap.size := Nat.lt_of_lt_of_le h.ltB h.leB
theorem TapeOk.below {B : Nat} {w w' : World} {b : Nat} (h : TapeOk B w b) (hb : Below B w w') : TapeOk B w' b := by
  obtain ⟨a, len, cap, k, h1, h0, h2, h3, h4, h5, h6, h7⟩ := h
  refine ⟨a, len, cap, k, h1, Nat.le_trans h0 hb.size, (hb.cell h1).trans h2, (hb.cell h1).trans h3, (hb.frozen h1).trans h4, h5, h6, fun hl => ?_⟩
  obtain ⟨bb, off, e, hne, hlt, hc⟩ := h7 hl
  exact ⟨bb, off, e, hne, hlt, fun i hi => by
    obtain ⟨x, hx, hix⟩ := hc i hi
    exact ⟨x, (hb.cell hlt).trans hx, hix⟩⟩
theorem TapeOk.grown {B : Nat} {w w' : World} {b : Nat} {row : Option Nat} (h : TapeOk B w b) (hg : w.grownBy w' row) (hr : ∀ k, row = some k → B ≤ k) : TapeOk B w' b :=
  h.below ((Below.refl B w).grown hg h.leB hr)
theorem TapeOk.drew {B : Nat} {w : World} {b : Nat} (h : TapeOk B w b) : TapeOk B w.drew b := h
theorem TapeOk.drewN {B : Nat} {w : World} {b : Nat} (h : TapeOk B w b) (n : Nat) : TapeOk B (w.drewN n) b := h
theorem TapeOk.alloc {B : Nat} {w : World} {b : Nat} (h : TapeOk B w b) (o : Obj) : TapeOk B (w.alloc o) b := h.below ((Below.refl B w).alloc h.leB o)
theorem grown_of_drew {w w' : World} {row : Option Nat} (h : w.drew.grownBy w' row) : w.grownBy w' row := ⟨h.os, h.tape, h.output, h.size, h.block⟩
theorem grown_of_drewN {w w' : World} {row : Option Nat} {n : Nat} (h : (w.drewN n).grownBy w' row) : w.grownBy w' row := ⟨h.os, h.tape, h.output, h.size, h.block⟩
theorem grown_alloc {a w : World} {row : Option Nat} (h : a.grownBy w row) (o : Obj) : a.grownBy (w.alloc o) row :=
  ⟨h.os, h.tape, h.output, Nat.le_trans h.size (by simp), fun i hi hne => (Below.heap_alloc w o i (Nat.lt_of_lt_of_le hi h.size)).trans (h.block i hi hne)⟩
theorem grown_own {a w w' : World} {row row' : Option Nat} (h : a.grownBy w row) (k : w.grownBy w' row') (hr : ∀ x, row' = some x → a.heap.size ≤ x) : a.grownBy w' row :=
  ⟨k.os.trans h.os, k.tape.trans h.tape, k.output.trans h.output, Nat.le_trans h.size k.size, fun i hi hn => (k.block i (Nat.lt_of_lt_of_le hi h.size) (fun e => by have := hr i e.symm; omega)).trans (h.block i hi hn)⟩
/-- What a method of the tape in block b leaves: a number, the tape, and nothing else turned. -/
def TPost (B : Nat) (k : IntKind) (b : Nat) (w : World) (P : Int → Prop) (e : Ending) (w' : World) : Prop := ∃ r, P r ∧ e = .returned (.int k r) ∧ TapeOk B w' b ∧ w.grownBy w' (some b)

def md (a n : Int) : Int := if n < 1 then 0 else a % n
theorem md_neg {a n : Int} (h : ¬ n < 1) (hr : a.tmod n < 0) : a.tmod n + n = md a n := by
  unfold md; rw [if_neg h, Int.tmod_eq_emod]
  by_cases h0 : 0 ≤ a ∨ n ∣ a
  · rw [Int.tmod_eq_emod, if_pos h0] at hr
    have := Int.emod_nonneg a (b := n) (by omega); omega
  · rw [if_neg h0]; omega
theorem md_pos {a n : Int} (h : ¬ n < 1) (hr : ¬ a.tmod n < 0) : a.tmod n = md a n := by
  unfold md; rw [if_neg h, Int.tmod_eq_emod]
  by_cases h0 : 0 ≤ a ∨ n ∣ a
  · rw [if_pos h0]; omega
  · rw [Int.tmod_eq_emod, if_neg h0] at hr
    have := Int.emod_lt_of_pos a (b := n) (by omega); omega
theorem md_one {a n : Int} (h : n < 1) : 0 = md a n := by unfold md; rw [if_pos h]
theorem md_bd (a n : Int) : 0 ≤ md a n ∧ (1 ≤ n → md a n < n) ∧ (n < 1 → md a n = 0) := by
  unfold md; split
  · exact ⟨by omega, by omega, fun _ => rfl⟩
  · exact ⟨Int.emod_nonneg a (by omega), fun _ => Int.emod_lt_of_pos a (by omega), fun h => by omega⟩

theorem mod_any (a n : Int) (ha : I64 a) (hn : I64 n) (w : World) :
    Calls Try.prog 22 #[.int .i64 a, .int .i64 n] w fun e w' => e = .returned (.int .i64 (md a n)) ∧ w = w' := by
  obtain ⟨n1, n2⟩ := hn
  by_cases h : n < 1
  · go_enter Try.func22, Try.ntmps22
    go_wp2
    go_ret
    exact ⟨ret_i (md_one h), rfl⟩
  have t0 : (n == 0) = false := beq_eq_false_iff_ne.2 (by omega)
  have M := md_bd a n
  by_cases hr : a.tmod n < 0
  · have e := md_neg h hr
    have hb : a.tmod n + n ≤ 9223372036854775807 := by omega
    have hb' : -9223372036854775808 ≤ a.tmod n + n := by omega
    have E := hid e
    clear e
    clear M
    go_enter Try.func22, Try.ntmps22
    go_wp2
    go_ret
    exact ⟨ret_i E.out, rfl⟩
  · have E := hid (md_pos h hr)
    have t1 : decide (a.tmod n < 0) = false := dF hr
    clear M hr
    go_enter Try.func22, Try.ntmps22
    go_wp2
    all_goals go_ret
    all_goals exact ⟨ret_i E.out, rfl⟩

def NextP (n : Int) (r : Int) : Prop := 0 ≤ r ∧ (1 ≤ n → r < n) ∧ (n < 1 → r = 0)
theorem NextP.zero (n : Int) : NextP n 0 := ⟨by omega, by omega, fun _ => rfl⟩

theorem new_any (a : Option Addr) (len cap : Nat) (w : World) :
    Calls Try.prog 11 #[.slice a len cap] w fun e w' => e = .returned (.pointer (some ⟨w.heap.size, 0, none⟩)) ∧ w.alloc (.cells #[.slice a len cap, .int .i64 0] 62) = w' := by
  go_enter Try.func11, Try.ntmps11
  go_wp2
  go_ret
  exact ⟨rfl, rfl⟩

theorem next_end {B : Nat} (b : Nat) (n : Int) (w : World) (a : Option Addr) (len cap : Nat) (h0 : w.cell? ⟨b, 0, none⟩ = some (.slice a len cap)) (h1 : w.cell? ⟨b, 1, none⟩ = some (.int .i64 len)) (hl : len ≤ 9223372036854775807) (ht : TapeOk B w b) :
    Calls Try.prog 14 #[.pointer (some ⟨b, 0, none⟩), .int .i64 n] w (TPost B .i64 b w (NextP n)) := by
  have H := hid ht
  clear ht
  go_enter Try.func14, Try.ntmps14
  go_wp2
  go_quiet (fail)
  go_wp2
  go_ret
  exact ⟨0, NextP.zero n, rfl, H.out, grown_drewN (grown_refl _ _) _⟩

theorem next_more {B : Nat} (b : Nat) (n : Int) (hn : I64 n) (w : World) (bb off len cap k : Nat) (x : Int) (hx : I64 x) (h0 : w.cell? ⟨b, 0, none⟩ = some (.slice (some ⟨bb, off, none⟩) len cap)) (h1 : w.cell? ⟨b, 1, none⟩ = some (.int .i64 k)) (hf : w.frozen? ⟨b, 1, none⟩ = false)
    (hk : k < len) (hl : len ≤ 9223372036854775807) (hc : w.cell? ⟨bb, off + k, none⟩ = some (.int .i64 x)) (hne : bb ≠ b) (ht : ∀ m m' : Nat, TapeOk B (((w.drewN m).setCell ⟨b, 1, none⟩ (.int .i64 (k + 1 : Nat))).drewN m') b) :
    Calls Try.prog 14 #[.pointer (some ⟨b, 0, none⟩), .int .i64 n] w (TPost B .i64 b w (NextP n)) := by
  have H := hid ht
  clear ht
  have t1 : decide (len ≤ k) = false := dF (by omega)
  have e2 : ((k : Int) + 1).toNat = k + 1 := by omega
  go_enter Try.func14, Try.ntmps14
  go_wp2
  go_quiet (fail)
  go_wp2
  go_quiet ((go_at_call 22; exact quiet_left (mod_any x n hx hn _)))
  go_wp2
  go_ret
  exact ⟨_, md_bd x n, rfl, H.out _ _, grown_drewN (grown_setCell (grown_drewN (grown_refl _ _) _) (.inl rfl) _) _⟩

theorem tape_moved {B : Nat} (w : World) (b : Nat) (a : Option Addr) (len cap k : Nat) (h1 : b < B) (hB : B ≤ w.heap.size) (h2 : w.cell? ⟨b, 0, none⟩ = some (.slice a len cap)) (h3 : w.cell? ⟨b, 1, none⟩ = some (.int .i64 k)) (h4 : w.frozen? ⟨b, 1, none⟩ = false)
    (h5 : k < len) (h6 : len ≤ 9223372036854775807) (h7 : 0 < len → ∃ bb off, a = some ⟨bb, off, none⟩ ∧ bb ≠ b ∧ bb < B ∧ ∀ i, i < len → ∃ x, w.cell? ⟨bb, off + i, none⟩ = some (.int .i64 x) ∧ I64 x) (m m' : Nat) :
    TapeOk B (((w.drewN m).setCell ⟨b, 1, none⟩ (.int .i64 (k + 1 : Nat))).drewN m') b := by
  have e : ((((w.drewN m).setCell ⟨b, 1, none⟩ (.int .i64 (k + 1 : Nat))).drewN m').heap.size) = w.heap.size := by simp [World.setCell, World.drewN]
  have other : ∀ p : Addr, p ≠ ⟨b, 1, none⟩ → (((w.drewN m).setCell ⟨b, 1, none⟩ (.int .i64 (k + 1 : Nat))).drewN m').cell? p = w.cell? p := fun p hp => by
    rw [World.cell?_drewN, World.cell?_setCell_other _ _ _ _ (fun e => hp e.symm), World.cell?_drewN]
  refine ⟨a, len, cap, k + 1, h1, by rw [e]; exact hB, ?_, ?_, ?_, by omega, h6, fun hl => ?_⟩
  · rw [other _ (by simp)]; exact h2
  · rw [World.cell?_drewN]; exact World.cell?_setCell_same _ _ _ (u := .int .i64 k) (by rw [World.cell?_drewN]; exact h3)
  · show World.frozen? ((w.drewN m).setCell ⟨b, 1, none⟩ _) _ = false
    rw [World.frozen?_setCell]; exact h4
  · obtain ⟨bb, off, ea, hne, hlt, hc⟩ := h7 hl
    refine ⟨bb, off, ea, hne, hlt, fun i hi => ?_⟩
    obtain ⟨x, hx, hix⟩ := hc i hi
    exact ⟨x, by rw [other _ (by simp; try (intro h; exact absurd h hne))]; exact hx, hix⟩

theorem next_any {B : Nat} (b : Nat) (n : Int) (hn : I64 n) (w : World) (ht : TapeOk B w b) :
    Calls Try.prog 14 #[.pointer (some ⟨b, 0, none⟩), .int .i64 n] w (TPost B .i64 b w (NextP n)) := by
  have ht' := ht
  obtain ⟨a, len, cap, k, h1, hB, h2, h3, h4, h5, h6, h7⟩ := ht
  by_cases hk : k < len
  · obtain ⟨bb, off, rfl, hne, hlt, hc⟩ := h7 (by omega)
    obtain ⟨x, hx, hix⟩ := hc k hk
    exact next_more b n hn w bb off len cap k x hix h2 h3 h4 hk h6 hx hne (fun m m' => tape_moved w b _ len cap k h1 hB h2 h3 h4 hk h6 h7 m m')
  · obtain rfl : k = len := by omega
    exact next_end b n w a k cap h2 h3 h6 ht'

def BPost (B : Nat) (b : Nat) (w : World) (e : Ending) (w' : World) : Prop := ∃ r : Bool, e = .returned (.bool r) ∧ TapeOk B w' b ∧ w.grownBy w' (some b)

theorem bool_any {B : Nat} (b : Nat) (n : Int) (h1 : 2 ≤ n) (h2 : n ≤ 1000) (w : World) (ht : TapeOk B w b) :
    Calls Try.prog 36 #[.pointer (some ⟨b, 0, none⟩), .int .i64 n] w (BPost B b w) := by
  have hn : I64 n := ⟨by omega, by omega⟩
  have t0 : (n == 0) = false := beq_eq_false_iff_ne.2 (by omega)
  have H : Hid (TapeOk B w.drew b) := ht.drew
  clear ht
  go_enter Try.func36, Try.ntmps36
  go_wp2
  go_region_with (go_at_call 14; refine (next_any b n hn _ H.out).mono ?_; rintro e w' ⟨r, ⟨r1, r2, r3⟩, rfl, ht, hg⟩)
  all_goals (go_wp2; go_ret; exact ⟨_, rfl, ht, grown_of_drew hg⟩)

theorem word_any {B : Nat} (b : Nat) (w : World) (ht : TapeOk B w b) :
    Calls Try.prog 35 #[.pointer (some ⟨b, 0, none⟩)] w (TPost B .u64 b w U64) := by
  have H := hid ht
  clear ht
  go_enter Try.func35, Try.ntmps35
  go_wp2
  go_loopw [3, 4] (fun x i wr => ∃ (k : Nat) (r : Int), k ≤ 4 ∧ U64 r ∧ x = .int .u64 r ∧ i = .int .i64 k ∧ TapeOk B wr b ∧ w.grownBy wr (some b)) (fun _ i _ => 4 - (intOf i).toNat)
  case atStart => exact ⟨0, 0, by omega, ⟨by decide, by decide⟩, rfl, rfl, H.out, grown_refl _ _⟩
  case round =>
    obtain ⟨k, r, hk, hr, rfl, rfl, ht, hg⟩ := hrel
    have HT := hid ht
    have HG := hid hg
    clear ht hg
    by_cases hlt : k < 4
    · go_wp2_with (go_at_call 14; refine (next_any b 65536 ⟨by decide, by decide⟩ _ HT.out).mono ?_; rintro e w' ⟨r', ⟨r1, r2, r3⟩, rfl, ht, hg⟩)
      go_roundw
      case rel => exact ⟨k + 1, _, by omega, u64_wrap_in _, rfl, by go_num, ht, grown_trans HG.out hg⟩
      case measure => simp [intOf]; omega
    · go_wp2
      go_ret
      exact ⟨r, hr, rfl, HT.out, HG.out⟩

theorem u64_shr (x : Int) (h : U64 x) (d : Int) (hd : 0 < d) : 0 ≤ x / d ∧ x / d ≤ x := ⟨Int.ediv_nonneg h.1 (by omega), Int.ediv_le_self d h.1⟩

theorem int_any {B : Nat} (b : Nat) (w : World) (ht0 : TapeOk B w b) :
    Calls Try.prog 34 #[.pointer (some ⟨b, 0, none⟩)] w (TPost B .i64 b w I64) := by
  go_enter Try.func34, Try.ntmps34
  go_wp2_with (first | (go_at_call 14; refine (next_any b _ (by exact ⟨by decide, by decide⟩) _ (by assumption)).mono ?_; rintro e w' ⟨r, ⟨r1, r2, r3⟩, rfl, ht, hg⟩) | (go_at_call 35; refine (word_any b _ (by assumption)).mono ?_; rintro e w' ⟨u, ⟨u1, u2⟩, rfl, ht, hg⟩))
  all_goals (go_ret; refine ⟨_, ?_, rfl, by assumption, by repeat (first | assumption | exact grown_refl _ _ | refine grown_trans ?_ (by assumption))⟩)
  all_goals first | exact i64_wrap_in _ | exact ⟨by omega, by omega⟩ | skip

def Tol (x : Int) : Prop := 0 ≤ x ∧ x ≤ 4611686018427387904
theorem tol_shr (u r : Int) (u1 : 0 ≤ u) (u2 : u ≤ 18446744073709551615) (r1 : 0 ≤ r) : Tol (wrap64 (u / 2 ^ (2 + r).toNat)) := by
  have e : (2 + r).toNat = 2 + r.toNat := by omega
  have hp : (0 : Int) < 2 ^ r.toNat := Int.pow_pos (by decide)
  have e2 : u / 2 ^ (2 + r).toNat = u / 4 / 2 ^ r.toNat := by
    rw [e, Int.pow_add, Int.ediv_ediv_of_nonneg (by decide)]; rfl
  have h4 : u / 4 ≤ 4611686018427387903 := by omega
  have h0 : 0 ≤ u / 4 := by omega
  have h1 := Int.ediv_nonneg h0 (Int.le_of_lt hp)
  have h2 := Int.ediv_le_self (2 ^ r.toNat) h0
  rw [e2]
  generalize u / 4 / 2 ^ r.toNat = q at *
  rw [wrap64_id q ⟨by omega, by omega⟩]
  exact ⟨h1, by omega⟩

end Go.Proofs.Ythcboomdkpiflaa
