/- Several texts in one: Made, Law, MadeW, LawT, SxV, Hg, Tp, Ck, Wk, Fu, CdL2, Tx, Ty, Spl, Hi, CdR2, Tz, L02, LwD, CdTw, Tw, Open. -/
import Derived.Test.YtiiflgfnbgencaaDoorRows
import Derived.WalkKit
import Derived.ProofKit
import Derived.WalkLawsBesides
import Derived.WalkSpells
import Derived.Outline
import Derived.RegionTactic
import Derived.ChangeAlike
import Derived.Deep.QuietTactic
import Derived.BigQuiet
import Derived.Deep.RegionWith
import Derived.OpenShut
import Derived.SizedLaws
import Derived.Laws.AppendOwn
import Derived.Shelf.Strconv.Itoa3
import Derived.Lib.ItoaMem
import Derived.Lib.AppendIntMem
import Derived.BigCall
import Derived.BigGuard
import Derived.Test.YtiiflgfnbgencaaDoorProg
import Derived.Laws.IdiomCopy
import Derived.Deep.Upon
import Derived.Laws.IdiomStrings
import Derived.LaidMore
import Derived.Stop.Joined
import Derived.MakeChecks
import Derived.Laws.IdiomArrays
import Derived.Test.YtiiflgfnbgencaaDoorWt1
import Derived.Test.YtiiflgfnbgencaaDoorWt2
import Derived.Test.YtiiflgfnbgencaaDoorWt3

/- Made: The tape of tscodecmade: what its methods return, and that they turn nothing but the tape's own place. -/
namespace Go.Proofs.YtiiflgfnbgencaaDoor
open Go.ChangeShapes Go.WideShapes Go.ChangeAt Go.RowKit
set_option linter.unusedVariables false
set_option linter.unusedSimpArgs false
theorem quiet_left {P : Program} {f : FuncId} {args : Array Value} {w : World} {n : Nat} {v : Value} (h : Calls P f args (w.drewN n) fun e w' => e = .returned v ∧ w.drewN n = w') : Calls P f args (w.drewN n) fun e w' => e = .returned v ∧ ∃ m, w' = w.drewN m :=
  h.mono fun _ _ ⟨he, hm⟩ => ⟨he, n, hm.symm⟩
theorem grown_refl (w : World) (row : Option Nat) : w.grownBy w row := ⟨rfl, rfl, rfl, Nat.le_refl _, fun _ _ _ => rfl⟩
theorem grown_drewN {a w : World} {row : Option Nat} (h : a.grownBy w row) (n : Nat) : a.grownBy (w.drewN n) row := ⟨h.os, h.tape, h.output, h.size, h.block⟩
theorem grown_setCell {a w : World} {g : Nat} (h : a.grownBy w (some g)) {p : Addr} (hp : p.block = g ∨ a.heap.size ≤ p.block) (u : Value) : a.grownBy (w.setCell p u) (some g) :=
  ⟨h.os, h.tape, h.output, by simpa [World.setCell] using h.size, fun i hi hne => (Below.heap_setCell w p u i (by
    rintro rfl
    rcases hp with hp | hp
    · exact hne (by rw [hp])
    · omega)).trans (h.block i hi hne)⟩
theorem grown_trans {a b c : World} {row : Option Nat} (h : a.grownBy b row) (k : b.grownBy c row) : a.grownBy c row :=
  ⟨k.os.trans h.os, k.tape.trans h.tape, k.output.trans h.output, Nat.le_trans h.size k.size, fun i hi hn => (k.block i (Nat.lt_of_lt_of_le hi h.size) hn).trans (h.block i hi hn)⟩
/-- Block b holds a tape: a slice of ints and a place in it; both lie below block B. -/
def TapeOk (B Bm : Nat) (w : World) (b : Nat) : Prop := ∃ (a : Option Addr) (len cap k : Nat), b < B ∧ B ≤ w.heap.size ∧ w.cell? ⟨b, 0, none⟩ = some (.slice a len cap) ∧ w.cell? ⟨b, 1, none⟩ = some (.int .i64 k) ∧ w.frozen? ⟨b, 1, none⟩ = false ∧
  k ≤ len ∧ len ≤ 9223372036854775807 ∧ (0 < len → ∃ bb off, a = some ⟨bb, off, none⟩ ∧ bb ≠ b ∧ bb < B ∧ bb < Bm ∧ ∀ i, i < len → ∃ x, w.cell? ⟨bb, off + i, none⟩ = some (.int .i64 x) ∧ I64 x)
theorem TapeOk.ltB {B Bm : Nat} {w : World} {b : Nat} (h : TapeOk B Bm w b) : b < B := by obtain ⟨_, _, _, _, h, _⟩ := h; exact h
theorem TapeOk.leB {B Bm : Nat} {w : World} {b : Nat} (h : TapeOk B Bm w b) : B ≤ w.heap.size := by obtain ⟨_, _, _, _, _, h, _⟩ := h; exact h
theorem TapeOk.lt {B Bm : Nat} {w : World} {b : Nat} (h : TapeOk B Bm w b) : b < w.heap.size := Nat.lt_of_lt_of_le h.ltB h.leB
theorem TapeOk.below {B Bm : Nat} {w w' : World} {b : Nat} (h : TapeOk B Bm w b) (hb : Below B w w') : TapeOk B Bm w' b := by
  obtain ⟨a, len, cap, k, h1, h0, h2, h3, h4, h5, h6, h7⟩ := h
  refine ⟨a, len, cap, k, h1, Nat.le_trans h0 hb.size, (hb.cell h1).trans h2, (hb.cell h1).trans h3, (hb.frozen h1).trans h4, h5, h6, fun hl => ?_⟩
  obtain ⟨bb, off, e, hne, hlt, hlm, hc⟩ := h7 hl
  exact ⟨bb, off, e, hne, hlt, hlm, fun i hi => by
    obtain ⟨x, hx, hix⟩ := hc i hi
    exact ⟨x, (hb.cell hlt).trans hx, hix⟩⟩
theorem TapeOk.grown {B Bm : Nat} {w w' : World} {b : Nat} {row : Option Nat} (h : TapeOk B Bm w b) (hg : w.grownBy w' row) (hr : ∀ k, row = some k → B ≤ k) : TapeOk B Bm w' b :=
  h.below ((Below.refl B w).grown hg h.leB hr)
theorem TapeOk.drew {B Bm : Nat} {w : World} {b : Nat} (h : TapeOk B Bm w b) : TapeOk B Bm w.drew b := h
theorem TapeOk.drewN {B Bm : Nat} {w : World} {b : Nat} (h : TapeOk B Bm w b) (n : Nat) : TapeOk B Bm (w.drewN n) b := h
theorem TapeOk.alloc {B Bm : Nat} {w : World} {b : Nat} (h : TapeOk B Bm w b) (o : Obj) : TapeOk B Bm (w.alloc o) b := h.below ((Below.refl B w).alloc h.leB o)
theorem grown_of_drew {w w' : World} {row : Option Nat} (h : w.drew.grownBy w' row) : w.grownBy w' row := ⟨h.os, h.tape, h.output, h.size, h.block⟩
theorem grown_alloc {a w : World} {row : Option Nat} (h : a.grownBy w row) (o : Obj) : a.grownBy (w.alloc o) row :=
  ⟨h.os, h.tape, h.output, Nat.le_trans h.size (by simp), fun i hi hne => (Below.heap_alloc w o i (Nat.lt_of_lt_of_le hi h.size)).trans (h.block i hi hne)⟩
/-- What a method of the tape in block b leaves: a number, the tape, and nothing else turned. -/
def TPost (B Bm : Nat) (k : IntKind) (b : Nat) (w : World) (P : Int → Prop) (e : Ending) (w' : World) : Prop := ∃ r, P r ∧ e = .returned (.int k r) ∧ TapeOk B Bm w' b ∧ w.grownBy w' (some b)
def md (a n : Int) : Int := if n < 1 then 0 else a % n
theorem md_neg {a n : Int} (h : ¬ n < 1) (hr : a.tmod n < 0) : a.tmod n + n = md a n := by
  unfold md; rw [if_neg h, Int.tmod_eq_emod]
  by_cases h0 : 0 ≤ a ∨ n ∣ a
  · rw [Int.tmod_eq_emod, if_pos h0] at hr
    have := Int.emod_nonneg a (b := n) (by omega); omega
  · rw [if_neg h0]; omega
theorem md_pos {a n : Int} (h : ¬ n < 1) (hr : ¬ a.tmod n < 0) : a.tmod n = md a n := by
  unfold md; rw [if_neg h, Int.tmod_eq_emod]
  by_cases h0 : 0 ≤ a ∨ n ∣ a
  · rw [if_pos h0]; omega
  · rw [Int.tmod_eq_emod, if_neg h0] at hr
    have := Int.emod_lt_of_pos a (b := n) (by omega); omega
theorem md_one {a n : Int} (h : n < 1) : 0 = md a n := by unfold md; rw [if_pos h]
theorem md_bd (a n : Int) : 0 ≤ md a n ∧ (1 ≤ n → md a n < n) ∧ (n < 1 → md a n = 0) := by
  unfold md; split
  · exact ⟨by omega, by omega, fun _ => rfl⟩
  · exact ⟨Int.emod_nonneg a (by omega), fun _ => Int.emod_lt_of_pos a (by omega), fun h => by omega⟩
theorem mod_any (a n : Int) (ha : I64 a) (hn : I64 n) (w : World) :
    Calls Tryd.prog 57 #[.int .i64 a, .int .i64 n] w fun e w' => e = .returned (.int .i64 (md a n)) ∧ w = w' := by
  obtain ⟨n1, n2⟩ := hn
  by_cases h : n < 1
  · go_enter Tryd.func57, Tryd.ntmps57
    go_wp2
    go_ret
    exact ⟨ret_i (md_one h), rfl⟩
  have t0 : (n == 0) = false := beq_eq_false_iff_ne.2 (by omega)
  have M := md_bd a n
  by_cases hr : a.tmod n < 0
  · have e := md_neg h hr
    have hb : a.tmod n + n ≤ 9223372036854775807 := by omega
    have hb' : -9223372036854775808 ≤ a.tmod n + n := by omega
    have E := hid e
    clear e
    clear M
    go_enter Tryd.func57, Tryd.ntmps57
    go_wp2
    go_ret
    exact ⟨ret_i E.out, rfl⟩
  · have E := hid (md_pos h hr)
    have t1 : decide (a.tmod n < 0) = false := dF hr
    clear M hr
    go_enter Tryd.func57, Tryd.ntmps57
    go_wp2
    all_goals go_ret
    all_goals exact ⟨ret_i E.out, rfl⟩
def NextP (n : Int) (r : Int) : Prop := 0 ≤ r ∧ (1 ≤ n → r < n) ∧ (n < 1 → r = 0)
theorem NextP.zero (n : Int) : NextP n 0 := ⟨by omega, by omega, fun _ => rfl⟩
theorem new_any (a : Option Addr) (len cap : Nat) (w : World) :
    Calls Tryd.prog 9 #[.slice a len cap] w fun e w' => e = .returned (.pointer (some ⟨w.heap.size, 0, none⟩)) ∧ w.alloc (.cells #[.slice a len cap, .int .i64 0] 50) = w' := by
  go_enter Tryd.func9, Tryd.ntmps9
  go_wp2
  go_ret
  exact ⟨rfl, rfl⟩
theorem next_end {B Bm : Nat} (b : Nat) (n : Int) (w : World) (a : Option Addr) (len cap : Nat) (h0 : w.cell? ⟨b, 0, none⟩ = some (.slice a len cap)) (h1 : w.cell? ⟨b, 1, none⟩ = some (.int .i64 len)) (hl : len ≤ 9223372036854775807) (ht : TapeOk B Bm w b) :
    Calls Tryd.prog 27 #[.pointer (some ⟨b, 0, none⟩), .int .i64 n] w (TPost B Bm .i64 b w (NextP n)) := by
  have H := hid ht
  clear ht
  go_enter Tryd.func27, Tryd.ntmps27
  go_wp2
  go_quiet (fail)
  go_wp2
  go_ret
  exact ⟨0, NextP.zero n, rfl, H.out, grown_drewN (grown_refl _ _) _⟩
theorem next_more {B Bm : Nat} (b : Nat) (n : Int) (hn : I64 n) (w : World) (bb off len cap k : Nat) (x : Int) (hx : I64 x) (h0 : w.cell? ⟨b, 0, none⟩ = some (.slice (some ⟨bb, off, none⟩) len cap)) (h1 : w.cell? ⟨b, 1, none⟩ = some (.int .i64 k)) (hf : w.frozen? ⟨b, 1, none⟩ = false)
    (hk : k < len) (hl : len ≤ 9223372036854775807) (hc : w.cell? ⟨bb, off + k, none⟩ = some (.int .i64 x)) (hne : bb ≠ b) (ht : ∀ m m' : Nat, TapeOk B Bm (((w.drewN m).setCell ⟨b, 1, none⟩ (.int .i64 (k + 1 : Nat))).drewN m') b) :
    Calls Tryd.prog 27 #[.pointer (some ⟨b, 0, none⟩), .int .i64 n] w (TPost B Bm .i64 b w (NextP n)) := by
  have H := hid ht
  clear ht
  have t1 : decide (len ≤ k) = false := dF (by omega)
  have e2 : ((k : Int) + 1).toNat = k + 1 := by omega
  go_enter Tryd.func27, Tryd.ntmps27
  go_wp2
  go_quiet (fail)
  go_wp2
  go_quiet ((go_at_call 57; exact quiet_left (mod_any x n hx hn _)))
  go_wp2
  go_ret
  exact ⟨_, md_bd x n, rfl, H.out _ _, grown_drewN (grown_setCell (grown_drewN (grown_refl _ _) _) (.inl rfl) _) _⟩
theorem tape_moved {B Bm : Nat} (w : World) (b : Nat) (a : Option Addr) (len cap k : Nat) (h1 : b < B) (hB : B ≤ w.heap.size) (h2 : w.cell? ⟨b, 0, none⟩ = some (.slice a len cap)) (h3 : w.cell? ⟨b, 1, none⟩ = some (.int .i64 k)) (h4 : w.frozen? ⟨b, 1, none⟩ = false)
    (h5 : k < len) (h6 : len ≤ 9223372036854775807) (h7 : 0 < len → ∃ bb off, a = some ⟨bb, off, none⟩ ∧ bb ≠ b ∧ bb < B ∧ bb < Bm ∧ ∀ i, i < len → ∃ x, w.cell? ⟨bb, off + i, none⟩ = some (.int .i64 x) ∧ I64 x) (m m' : Nat) :
    TapeOk B Bm (((w.drewN m).setCell ⟨b, 1, none⟩ (.int .i64 (k + 1 : Nat))).drewN m') b := by
  have e : ((((w.drewN m).setCell ⟨b, 1, none⟩ (.int .i64 (k + 1 : Nat))).drewN m').heap.size) = w.heap.size := by simp [World.setCell, World.drewN]
  have other : ∀ p : Addr, p ≠ ⟨b, 1, none⟩ → (((w.drewN m).setCell ⟨b, 1, none⟩ (.int .i64 (k + 1 : Nat))).drewN m').cell? p = w.cell? p := fun p hp => by
    rw [World.cell?_drewN, World.cell?_setCell_other _ _ _ _ (fun e => hp e.symm), World.cell?_drewN]
  refine ⟨a, len, cap, k + 1, h1, by rw [e]; exact hB, ?_, ?_, ?_, by omega, h6, fun hl => ?_⟩
  · rw [other _ (by simp)]; exact h2
  · rw [World.cell?_drewN]; exact World.cell?_setCell_same _ _ _ (u := .int .i64 k) (by rw [World.cell?_drewN]; exact h3)
  · show World.frozen? ((w.drewN m).setCell ⟨b, 1, none⟩ _) _ = false
    rw [World.frozen?_setCell]; exact h4
  · obtain ⟨bb, off, ea, hne, hlt, hlm, hc⟩ := h7 hl
    refine ⟨bb, off, ea, hne, hlt, hlm, fun i hi => ?_⟩
    obtain ⟨x, hx, hix⟩ := hc i hi
    exact ⟨x, by rw [other _ (by simp; try (intro h; exact absurd h hne))]; exact hx, hix⟩
theorem next_any {B Bm : Nat} (b : Nat) (n : Int) (hn : I64 n) (w : World) (ht : TapeOk B Bm w b) :
    Calls Tryd.prog 27 #[.pointer (some ⟨b, 0, none⟩), .int .i64 n] w (TPost B Bm .i64 b w (NextP n)) := by
  have ht' := ht
  obtain ⟨a, len, cap, k, h1, hB, h2, h3, h4, h5, h6, h7⟩ := ht
  by_cases hk : k < len
  · obtain ⟨bb, off, rfl, hne, hlt, hlm, hc⟩ := h7 (by omega)
    obtain ⟨x, hx, hix⟩ := hc k hk
    exact next_more b n hn w bb off len cap k x hix h2 h3 h4 hk h6 hx hne (fun m m' => tape_moved w b _ len cap k h1 hB h2 h3 h4 hk h6 h7 m m')
  · obtain rfl : k = len := by omega
    exact next_end b n w a k cap h2 h3 h6 ht'
def BPost (B Bm : Nat) (b : Nat) (w : World) (e : Ending) (w' : World) : Prop := ∃ r : Bool, e = .returned (.bool r) ∧ TapeOk B Bm w' b ∧ w.grownBy w' (some b)
theorem bool_any {B Bm : Nat} (b : Nat) (n : Int) (h1 : 2 ≤ n) (h2 : n ≤ 1000) (w : World) (ht : TapeOk B Bm w b) :
    Calls Tryd.prog 29 #[.pointer (some ⟨b, 0, none⟩), .int .i64 n] w (BPost B Bm b w) := by
  have hn : I64 n := ⟨by omega, by omega⟩
  have t0 : (n == 0) = false := beq_eq_false_iff_ne.2 (by omega)
  have H : Hid (TapeOk B Bm w.drew b) := ht.drew
  clear ht
  go_enter Tryd.func29, Tryd.ntmps29
  go_wp2
  go_region_with (go_at_call 27; refine (next_any b n hn _ H.out).mono ?_; rintro e w' ⟨r, ⟨r1, r2, r3⟩, rfl, ht, hg⟩)
  all_goals (go_wp2; go_ret; exact ⟨_, rfl, ht, grown_of_drew hg⟩)
theorem word_any {B Bm : Nat} (b : Nat) (w : World) (ht : TapeOk B Bm w b) :
    Calls Tryd.prog 28 #[.pointer (some ⟨b, 0, none⟩)] w (TPost B Bm .u64 b w U64) := by
  have H := hid ht
  clear ht
  go_enter Tryd.func28, Tryd.ntmps28
  go_wp2
  go_loopw [3, 4] (fun x i wr => ∃ (k : Nat) (r : Int), k ≤ 4 ∧ U64 r ∧ x = .int .u64 r ∧ i = .int .i64 k ∧ TapeOk B Bm wr b ∧ w.grownBy wr (some b)) (fun _ i _ => 4 - (intOf i).toNat)
  case atStart => exact ⟨0, 0, by omega, ⟨by decide, by decide⟩, rfl, rfl, H.out, grown_refl _ _⟩
  case round =>
    obtain ⟨k, r, hk, hr, rfl, rfl, ht, hg⟩ := hrel
    have HT := hid ht
    have HG := hid hg
    clear ht hg
    by_cases hlt : k < 4
    · go_wp2_with (go_at_call 27; refine (next_any b 65536 ⟨by decide, by decide⟩ _ HT.out).mono ?_; rintro e w' ⟨r', ⟨r1, r2, r3⟩, rfl, ht, hg⟩)
      go_roundw
      case rel => exact ⟨k + 1, _, by omega, u64_wrap_in _, rfl, by go_num, ht, grown_trans HG.out hg⟩
      case measure => simp [intOf]; omega
    · go_wp2
      go_ret
      exact ⟨r, hr, rfl, HT.out, HG.out⟩
theorem int_any {B Bm : Nat} (b : Nat) (w : World) (ht0 : TapeOk B Bm w b) :
    Calls Tryd.prog 30 #[.pointer (some ⟨b, 0, none⟩)] w (TPost B Bm .i64 b w I64) := by
  go_enter Tryd.func30, Tryd.ntmps30
  go_wp2_with (first | (go_at_call 27; refine (next_any b _ (by exact ⟨by decide, by decide⟩) _ (by assumption)).mono ?_; rintro e w' ⟨r, ⟨r1, r2, r3⟩, rfl, ht, hg⟩) | (go_at_call 28; refine (word_any b _ (by assumption)).mono ?_; rintro e w' ⟨u, ⟨u1, u2⟩, rfl, ht, hg⟩))
  all_goals (go_ret; refine ⟨_, ?_, rfl, by assumption, by repeat (first | assumption | exact grown_refl _ _ | refine grown_trans ?_ (by assumption))⟩)
  all_goals first | exact i64_wrap_in _ | exact ⟨by omega, by omega⟩ | skip
end Go.Proofs.YtiiflgfnbgencaaDoor

/- Law: A law's frame: the arguments opened, and what is owed behind the call, once for all laws of this seat. -/
namespace Go.Proofs.YtiiflgfnbgencaaDoor
open Go.ChangeShapes Go.WideShapes Go.ChangeAt Go.RowKit
set_option linter.unusedVariables false
set_option linter.unusedSimpArgs false
theorem own : ownKnob Tryd.prog.godebug = none := by kernel_rfl
theorem laidOut : laidOutB Tryd.prog = true := by kernel_rfl
section
variable {H : Type} {enc : TypeId × Value → H} {P : Program}
def readB (P : Program) (ts : List TypeId) : Bool := ts.all fun t => P.readableRec t && decide (t < P.types.size)
theorem below_trodAll (hl : laidOutB P = true) {W W' : World} (hb : Below W.heap.size W W') {sp : Nat → Bool} :
    ∀ {ts : List TypeId} {vs : List Value} {ds : List (DataW H)} {ps : List MemPlace}, readB P ts = true → DataW.TrodAll enc P W 0 (fun _ => true) true ts vs ds ps → (∀ x ∈ ps, x.block < W.heap.size) → (∀ x ∈ ps, sp x.block = true) →
      DataW.TrodAll enc P W' 0 sp true ts vs ds ps := by
  intro ts
  induction ts with
  | nil =>
    intro vs ds ps _ h _ _
    obtain ⟨rfl, rfl, rfl⟩ := trodAll_nil h
    exact trodAll_mk0
  | cons t ts ih =>
    intro vs ds ps hr h hlt hsp
    obtain ⟨v, vs', d, ds', p, q, rfl, rfl, rfl, h0, h1⟩ := trodAll_cons h
    simp only [readB, List.all_cons, Bool.and_eq_true, decide_eq_true_eq] at hr
    refine trodAll_cons_mk (WideElems.Trod_stays hl hr.1.1 hr.1.2 h0 (fun x hx => hb.same (hlt x (List.mem_append_left _ hx))) (fun x hx => hsp x (List.mem_append_left _ hx))) ?_
    exact ih (by simpa [readB] using hr.2) h1 (fun x hx => hlt x (List.mem_append_right _ hx)) (fun x hx => hsp x (List.mem_append_right _ hx))
/-- What is owed behind a law's call: it returned true, and below the heap's old size nothing has turned. -/
theorem law_post {f : Func} {s : ChangeSpec} {W W' : World} {args : Array Value} {ds : List (DataW H)} {p : List MemPlace} {tb : TypeId}
    (hl : laidOutB P = true) (hr : readB P f.params.toList = true) (hvars : s.vars = []) (hrt : f.resultTypes = #[tb]) (htb : P.underlying tb = some .bool)
    (hW : DataW.Whole enc P f.params.toList s.vars false W args.toList ds [] p) (hs1 : (s.fn H (ds ++ [])).results = [.lit (.bool true)]) (hs2 : (s.fn H (ds ++ [])).args = ds) (hs3 : (s.fn H (ds ++ [])).vars = [])
    (hb : Below W.heap.size W W') : s.post enc P f false true false false W args (.bool true) W' := by
  have hlt : ∀ x ∈ p, x.block < W.heap.size := fun x hx => hW.lt x hx
  have hW2 := hW
  obtain ⟨p1, q1, hA, hV, rfl, hz, hn⟩ := hW2
  rw [hvars] at hV
  obtain ⟨_, rfl⟩ := trodVars_none hV
  simp only [List.append_nil] at hW hlt hz hn
  refine ⟨ds, [], p1, [], p1, [], hW, ?_, ?_, ?_, World.keptBut_mono (fun x hx => ⟨hx, Or.inr (Or.inl hx)⟩) (hb.frame (· ∈ p1)), fun h => by cases h⟩
  · rw [hs1, hrt]
    exact trodAll_mk1 (shut_bool htb _)
  · rw [hs2]
    exact below_trodAll hl hb hr hA hlt (fun x hx => by simpa using hlt x hx)
  · rw [hs3, hvars]; rfl
/-- A slice of integers as the world holds it. -/
def SlZ (W : World) (k : IntKind) (v : Value) (zs : List Int) : Prop := ∃ (a : Option Addr) (len cap : Nat), v = .slice a len cap ∧ zs.length = len ∧ len ≤ cap ∧ cap ≤ maxLen ∧ (∀ z ∈ zs, (Lit.int k z).wf = true) ∧
  (0 < len → ∃ b off, a = some ⟨b, off, none⟩ ∧ b < W.heap.size ∧ ∀ i, i < len → W.cell? ⟨b, off + i, none⟩ = some (.int k (zs.getD i 0)))
theorem open_slz {t e : TypeId} {k : IntKind} {v : Value} {d : DataW H} {ps : List MemPlace} {W : World} {base : Nat} (ht : P.underlying t = some (.slice e)) (he : P.underlying e = some (.int k)) (hc : P.cellsOf e = 1)
    (hv : Value.okWide P W .any base t v) (h : DataW.Trod enc P W 0 (fun _ => true) true t v d ps) (hlt : ∀ x ∈ ps, x.block < W.heap.size) : ∃ zs, SlZ W k v zs := by
  obtain ⟨a0, len, cap, rfl⟩ := okWide_slice ht hv
  obtain ⟨fuel, hf⟩ := h
  rcases open_ints ht he hc hf with ⟨hcs, hx⟩ | ⟨a, len', cap', zs, hcs, _, hl, hm, hz, hx, hcell, hwz⟩
  · simp [Value.cells] at hcs
    obtain ⟨rfl, rfl, rfl⟩ := hcs
    exact ⟨[], none, 0, 0, rfl, rfl, Nat.le_refl _, by simp [maxLen], by simp, fun h => absurd h (by omega)⟩
  · simp [Value.cells] at hcs
    obtain ⟨rfl, rfl, rfl⟩ := hcs
    simp only [Prod.mk.injEq] at hx
    obtain ⟨rfl, rfl⟩ := hx
    simp only [if_true] at hz
    refine ⟨zs.take len, some a, len, cap, rfl, by simp; omega, hl, hm, fun z hz' => hwz z (List.mem_of_mem_take hz'), fun hpos => ?_⟩
    obtain ⟨b, off, rfl, hc'⟩ := ints_at hcell (by omega)
    refine ⟨b, off, rfl, hlt (.cell b off) (MemPlace.mem_row.2 ⟨0, by omega, by simp⟩), fun i hi => ?_⟩
    rw [show (zs.take len).getD i 0 = zs.getD i 0 by simp [List.getD_eq_getElem?_getD, List.getElem?_take, hi]]
    exact hc' i (by omega)
end
end Go.Proofs.YtiiflgfnbgencaaDoor

/- MadeW: The tape's Wide, and the walk among calls of a tape's methods. -/
namespace Go.Proofs.YtiiflgfnbgencaaDoor
open Go.ChangeShapes Go.WideShapes Go.ChangeAt Go.RowKit
set_option linter.unusedVariables false
set_option linter.unusedSimpArgs false
theorem grown_drew {a w : World} {row : Option Nat} (h : a.grownBy w row) : a.grownBy w.drew row := ⟨h.os, h.tape, h.output, h.size, h.block⟩
theorem TapeOk.setc {B Bm : Nat} {w : World} {b : Nat} {p : Addr} {v : Value} (hp : B ≤ p.block) (h : TapeOk B Bm w b) : TapeOk B Bm (w.setCell p v) b := h.below ((Below.refl B w).setCell hp v)
/-- What is known while the tape's Wide runs: the tape, the blocks of the result and of the variable. -/
def AWs (B Bm b q : Nat) (w W : World) : Prop := TapeOk B Bm W b ∧ w.grownBy W (some b) ∧ HB W q #[.bool false, .int .u64 0, .int .u64 0, .int .u64 0, .int .u64 0] ∧ ∃ (n : Bool) (c0 c1 c2 c3 : Int), U64 c0 ∧ U64 c1 ∧ U64 c2 ∧ U64 c3 ∧ HB W (q + 1) #[.bool n, .int .u64 c0, .int .u64 c1, .int .u64 c2, .int .u64 c3]
theorem AWs.tape {B Bm b q : Nat} {w W : World} (h : AWs B Bm b q w W) : TapeOk B Bm W b := h.1
theorem AWs.drew {B Bm b q : Nat} {w W : World} (h : AWs B Bm b q w W) : AWs B Bm b q w W.drew := by
  obtain ⟨ht, hG, B1, n, c0, c1, c2, c3, u0, u1, u2, u3, B2⟩ := h
  exact ⟨ht.drew, grown_drew hG, B1.drew, n, c0, c1, c2, c3, u0, u1, u2, u3, B2.drew⟩
theorem AWs.alloc {B Bm b q : Nat} {w W : World} (h : AWs B Bm b q w W) (o : Obj) : AWs B Bm b q w (W.alloc o) := by
  obtain ⟨ht, hG, B1, n, c0, c1, c2, c3, u0, u1, u2, u3, B2⟩ := h
  exact ⟨ht.alloc _, grown_alloc hG _, B1.old B1.lt, n, c0, c1, c2, c3, u0, u1, u2, u3, B2.old B2.lt⟩
theorem AWs.store {B Bm b q : Nat} {w W : World} {j : Nat} {u : Int} (hu : U64 u) (hj : 1 ≤ j ∧ j ≤ 4) (hq : w.heap.size ≤ q) (hB : B ≤ q) (h : AWs B Bm b q w W) : AWs B Bm b q w (W.setCell ⟨q + 1, j, none⟩ (.int .u64 u)) := by
  obtain ⟨ht, hG, B1, n, c0, c1, c2, c3, u0, u1, u2, u3, B2⟩ := h
  have t := ht.setc (p := ⟨q + 1, j, none⟩) (v := .int .u64 u) (by show B ≤ q + 1; omega)
  have g := grown_setCell hG (p := ⟨q + 1, j, none⟩) (.inr (by show w.heap.size ≤ q + 1; omega)) (.int .u64 u)
  have b1 := B1.setne (a := ⟨q + 1, j, none⟩) (v := .int .u64 u) (by show q ≠ q + 1; omega)
  obtain rfl | rfl | rfl | rfl : j = 1 ∨ j = 2 ∨ j = 3 ∨ j = 4 := by omega
  · exact ⟨t, g, b1, n, u, c1, c2, c3, hu, u1, u2, u3, B2.set rfl⟩
  · exact ⟨t, g, b1, n, c0, u, c2, c3, u0, hu, u2, u3, B2.set rfl⟩
  · exact ⟨t, g, b1, n, c0, c1, u, c3, u0, u1, hu, u3, B2.set rfl⟩
  · exact ⟨t, g, b1, n, c0, c1, c2, u, u0, u1, u2, hu, B2.set rfl⟩
theorem AWs.at {B Bm b q m : Nat} {w W : World} (h : AWs B Bm b q w W) (hm : m ≤ 3) : ∃ c, W.cell? ⟨q + 1, 1 + m, none⟩ = some (.int .u64 c) ∧ W.frozen? ⟨q + 1, 1 + m, none⟩ = false ∧ q + 1 < W.heap.size ∧ B ≤ W.heap.size := by
  obtain ⟨ht, hG, B1, n, c0, c1, c2, c3, u0, u1, u2, u3, B2⟩ := h
  obtain ⟨B2, B2c, B2f, B2l⟩ := Bx.of B2
  obtain rfl | rfl | rfl | rfl : m = 0 ∨ m = 1 ∨ m = 2 ∨ m = 3 := by omega
  all_goals exact ⟨_, B2c _, B2f _, B2l, ht.leB⟩
theorem AWs.over {B Bm b q : Nat} {w W : World} {n' : Bool} {d0 d1 d2 d3 : Int} (v0 : U64 d0) (v1 : U64 d1) (v2 : U64 d2) (v3 : U64 d3) (hq : w.heap.size ≤ q) (hB : B ≤ q) (h : AWs B Bm b q w W) :
    AWs B Bm b q w (((((W.setCell ⟨q + 1, 0, none⟩ (.bool n')).setCell ⟨q + 1, 1, none⟩ (.int .u64 d0)).setCell ⟨q + 1, 2, none⟩ (.int .u64 d1)).setCell ⟨q + 1, 3, none⟩ (.int .u64 d2)).setCell ⟨q + 1, 4, none⟩ (.int .u64 d3)) := by
  obtain ⟨ht, hG, B1, n, c0, c1, c2, c3, u0, u1, u2, u3, B2⟩ := h
  have hp : ∀ (j : Nat), w.heap.size ≤ (⟨q + 1, j, none⟩ : Addr).block := fun j => by show w.heap.size ≤ q + 1; omega
  have hp' : ∀ (j : Nat), B ≤ (⟨q + 1, j, none⟩ : Addr).block := fun j => by show B ≤ q + 1; omega
  have hn : ∀ (j : Nat), q ≠ (⟨q + 1, j, none⟩ : Addr).block := fun j => by show q ≠ q + 1; omega
  exact ⟨((((ht.setc (hp' _)).setc (hp' _)).setc (hp' _)).setc (hp' _)).setc (hp' _),
    grown_setCell (grown_setCell (grown_setCell (grown_setCell (grown_setCell hG (.inr (hp _)) _) (.inr (hp _)) _) (.inr (hp _)) _) (.inr (hp _)) _) (.inr (hp _)) _,
    ((((B1.setne (hn _)).setne (hn _)).setne (hn _)).setne (hn _)).setne (hn _), n', d0, d1, d2, d3, v0, v1, v2, v3, HB.over5 (HN.of5 B2)⟩
end Go.Proofs.YtiiflgfnbgencaaDoor

/- LawT: A law's frame where a tape comes behind boxed arguments. -/
namespace Go.Proofs.YtiiflgfnbgencaaDoor
open Go.ChangeShapes Go.WideShapes Go.ChangeAt Go.RowKit
set_option linter.unusedVariables false
set_option linter.unusedSimpArgs false
theorem SlZ.below {W W' : World} {k : IntKind} {v : Value} {zs : List Int} (h : SlZ W k v zs) (hb : Below W.heap.size W W') : SlZ W' k v zs := by
  obtain ⟨a, len, cap, rfl, h1, h2, h3, h4, h5⟩ := h
  refine ⟨a, len, cap, rfl, h1, h2, h3, h4, fun hl => ?_⟩
  obtain ⟨b, off, rfl, hlt, hc⟩ := h5 hl
  exact ⟨b, off, rfl, Nat.lt_of_lt_of_le hlt hb.size, fun i hi => (hb.cell hlt).trans (hc i hi)⟩
theorem next_in {B Bm : Nat} (b : Nat) (n : Int) (h1 : 1 ≤ n) (h2 : n ≤ 1000000) (w : World) (ht : TapeOk B Bm w b) :
    Calls Tryd.prog 27 #[.pointer (some ⟨b, 0, none⟩), .int .i64 n] w (TPost B Bm .i64 b w fun r => 0 ≤ r ∧ r < n) :=
  (next_any b n ⟨by omega, by omega⟩ w ht).mono fun e w' ⟨r, ⟨r1, r2, r3⟩, he, h⟩ => ⟨r, ⟨r1, r2 h1⟩, he, h⟩
end Go.Proofs.YtiiflgfnbgencaaDoor

/- SxV: A symbolic run: Wides and fractions as atoms; tapes; pairs of slices. -/
namespace Go.Proofs.YtiiflgfnbgencaaDoor
open Go Go.RowKit
set_option linter.unusedVariables false
set_option linter.unusedSimpArgs false
/-- The Wide of an integer, and the Ratio of two, as names. -/
def WX (z : Int) : Value := WE z
def RX (p q : Int) : Value := .agg #[.bool (sg p), .int .u64 (lb0 (ab p)), .int .u64 (lb1 (ab p)), .int .u64 (lb2 (ab p)), .int .u64 (lb3 (ab p)), .bool (sg q), .int .u64 (lb0 (ab q)), .int .u64 (lb1 (ab q)), .int .u64 (lb2 (ab q)), .int .u64 (lb3 (ab q))]
/-- The negative 0. -/
def NZ : Value := WV true 0 0 0 0
theorem IsW.x {z : Int} (h : Fits z) : IsW (WX z) z := IsW.we h
theorem sg_ab (z : Int) : sg (ab z) = false := by unfold sg; exact decide_eq_false (by have := ab_nonneg z; omega)
namespace Sx
variable {C : Cx} {S : St} {K : St → Prop} {d : Option Nat}
theorem x_foldR (p q : Int) : Value.agg [.bool (sg p), .int .u64 (lb0 (ab p)), .int .u64 (lb1 (ab p)), .int .u64 (lb2 (ab p)), .int .u64 (lb3 (ab p)), .bool (sg q), .int .u64 (lb0 (ab q)), .int .u64 (lb1 (ab q)), .int .u64 (lb2 (ab q)), .int .u64 (lb3 (ab q))].toArray = RX p q := rfl
theorem x_foldW (z : Int) : Value.agg [.bool (sg z), .int .u64 (lb0 (ab z)), .int .u64 (lb1 (ab z)), .int .u64 (lb2 (ab z)), .int .u64 (lb3 (ab z))].toArray = WX z := rfl
theorem x_foldA (z : Int) : Value.agg [.bool false, .int .u64 (lb0 (ab z)), .int .u64 (lb1 (ab z)), .int .u64 (lb2 (ab z)), .int .u64 (lb3 (ab z))].toArray = WX (ab z) := by
  rw [← x_foldW, ab_ab, sg_ab]
theorem x_fold0 : Value.agg [.bool false, .int .u64 0, .int .u64 0, .int .u64 0, .int .u64 0].toArray = WX 0 := rfl
theorem x_foldR0 : Value.agg [.bool false, .int .u64 0, .int .u64 0, .int .u64 0, .int .u64 0, .bool false, .int .u64 0, .int .u64 0, .int .u64 0, .int .u64 0].toArray = RX 0 0 := rfl
theorem x_foldN : Value.agg [.bool true, .int .u64 0, .int .u64 0, .int .u64 0, .int .u64 0].toArray = NZ := rfl
theorem x_cN : cellsO true (some (.v NZ)) = some [.bool true, .int .u64 0, .int .u64 0, .int .u64 0, .int .u64 0] := rfl
theorem x_vN : cellsV (some (.v NZ)) = some [.bool true, .int .u64 0, .int .u64 0, .int .u64 0, .int .u64 0] := rfl
theorem x_fN0 : fdS false 1 0 (some (.v NZ)) = some (True, .bool true) := rfl
theorem x_csg1 {z : Int} {p q : St → Prop} (h : z < 0) : condT (sg z) p q S = p S := by unfold sg; rw [decide_eq_true h]; rfl
theorem x_csg0 {z : Int} {p q : St → Prop} (h : ¬ z < 0) : condT (sg z) p q S = q S := by unfold sg; rw [decide_eq_false h]; rfl
theorem x_gsg1 {z : Int} {m : M} {w : Bool} (h : z < 0) : gdT (sg z) w C m d K S = gdT true w C m d K S := by unfold sg; rw [decide_eq_true h]
theorem x_gsg0 {z : Int} {m : M} {w : Bool} (h : ¬ z < 0) : gdT (sg z) w C m d K S = gdT false w C m d K S := by unfold sg; rw [decide_eq_false h]
theorem x_psg1 {z : Int} {f g : Option SV} (h : z < 0) : pickS f g (some (.v (.bool (sg z)))) = sv1 f := by unfold sg; rw [decide_eq_true h]; rfl
theorem x_psg0 {z : Int} {f g : Option SV} (h : ¬ z < 0) : pickS f g (some (.v (.bool (sg z)))) = sv1 g := by unfold sg; rw [decide_eq_false h]; rfl
theorem x_cW (z : Int) : cellsO true (some (.v (WX z))) = some [.bool (sg z), .int .u64 (lb0 (ab z)), .int .u64 (lb1 (ab z)), .int .u64 (lb2 (ab z)), .int .u64 (lb3 (ab z))] := rfl
theorem x_cR (p q : Int) : cellsO true (some (.v (RX p q))) = some [.bool (sg p), .int .u64 (lb0 (ab p)), .int .u64 (lb1 (ab p)), .int .u64 (lb2 (ab p)), .int .u64 (lb3 (ab p)), .bool (sg q), .int .u64 (lb0 (ab q)), .int .u64 (lb1 (ab q)), .int .u64 (lb2 (ab q)), .int .u64 (lb3 (ab q))] := rfl
theorem x_vW (z : Int) : cellsV (some (.v (WX z))) = some [.bool (sg z), .int .u64 (lb0 (ab z)), .int .u64 (lb1 (ab z)), .int .u64 (lb2 (ab z)), .int .u64 (lb3 (ab z))] := rfl
theorem x_vR (p q : Int) : cellsV (some (.v (RX p q))) = some [.bool (sg p), .int .u64 (lb0 (ab p)), .int .u64 (lb1 (ab p)), .int .u64 (lb2 (ab p)), .int .u64 (lb3 (ab p)), .bool (sg q), .int .u64 (lb0 (ab q)), .int .u64 (lb1 (ab q)), .int .u64 (lb2 (ab q)), .int .u64 (lb3 (ab q))] := rfl
theorem x_fW0 (z : Int) : fdS false 1 0 (some (.v (WX z))) = some (True, .bool (sg z)) := rfl
theorem x_fR0 (p q : Int) : fdS true 5 0 (some (.v (RX p q))) = some (True, WX p) := rfl
theorem x_fR5 (p q : Int) : fdS true 5 5 (some (.v (RX p q))) = some (True, WX q) := rfl
theorem qxE : type_of% @x_foldR ∧ type_of% @x_foldW ∧ type_of% @x_foldA ∧ type_of% @x_fold0 ∧ type_of% @x_foldR0 ∧ type_of% @x_foldN ∧ type_of% @x_cN ∧ type_of% @x_vN ∧ type_of% @x_fN0 ∧ type_of% @x_csg1 ∧ type_of% @x_csg0 ∧ type_of% @x_gsg1 ∧ type_of% @x_gsg0 ∧ type_of% @x_psg1 ∧ type_of% @x_psg0 ∧ type_of% @x_cW ∧ type_of% @x_cR ∧ type_of% @x_vW ∧ type_of% @x_vR ∧ type_of% @x_fW0 ∧ type_of% @x_fR0 ∧ type_of% @x_fR5 :=
  ⟨@x_foldR, @x_foldW, @x_foldA, @x_fold0, @x_foldR0, @x_foldN, @x_cN, @x_vN, @x_fN0, @x_csg1, @x_csg0, @x_gsg1, @x_gsg0, @x_psg1, @x_psg0, @x_cW, @x_cR, @x_vW, @x_vR, @x_fW0, @x_fR0, @x_fR5⟩
theorem asks_r2 {f : FuncId} {l : List Value} {L : List Kn} {ws vs : List Int} (he : ∀ (l : Array Value) W, (callFunc f l).run C.P W = .ok (.enter f l) W) (hT : S.T = kX C.w0.heap.size L)
    (h : ∀ W, Below C.w0.heap.size C.w0 W → (∀ k ∈ L, k.ok C.w0.heap.size W) → Calls C.P f l.toArray W fun e w' => ∃ u v, e = .returned (.tuple #[u, v]) ∧ SlF w' W.heap.size u ws ∧ SlF w' W.heap.size v vs ∧ Below W.heap.size W w')
    (hk : ∀ a cap b cbp, Shp a ws.length cap → Shp b vs.length cbp → K (St.put ⟨S.n, S.E, S.H, kX C.w0.heap.size (.r (.slice a ws.length cap) ws :: .r (.slice b vs.length cbp) vs :: L)⟩ d (.v (.tuple #[.slice a ws.length cap, .slice b vs.length cbp])))) : asks C f l d K S := by
  refine asks_T (ι := {x : (Option Addr × Nat) × (Option Addr × Nat) // Shp x.1.1 ws.length x.1.2 ∧ Shp x.2.1 vs.length x.2.2}) (fun x => .tuple #[.slice x.1.1.1 ws.length x.1.1.2, .slice x.1.2.1 vs.length x.1.2.2]) (fun x => kX C.w0.heap.size (.r (.slice x.1.1.1 ws.length x.1.1.2) ws :: .r (.slice x.1.2.1 vs.length x.1.2.2) vs :: L)) (fun W hW hok hbs => givesT_calls he (fun i => kX_stab C _) ?_) (fun x => hk _ _ _ _ x.2.1 x.2.2)
  rw [hT] at hok
  refine (h W hW hok).mono fun e w' ⟨u, v, h1, h2, h3, h4⟩ => ?_
  obtain ⟨a, cap, rfl, hs⟩ := h2.1.shp
  obtain ⟨b, cbp, rfl, hs'⟩ := h3.1.shp
  have hok2 : (Kn.r (.slice a ws.length cap) ws).ok C.w0.heap.size w' := Kn.ok.base (k := .r _ ws) h2 hW.size (fun _ h => by cases h)
  have hok3 : (Kn.r (.slice b vs.length cbp) vs).ok C.w0.heap.size w' := Kn.ok.base (k := .r _ vs) h3 hW.size (fun _ h => by cases h)
  have hge : ∀ c ∈ rbs (.slice a ws.length cap), W.heap.size ≤ c := fun c hc => (Kn.ok.lt (k := .r (.slice a ws.length cap) ws) h2 c hc).1
  have hge' : ∀ c ∈ rbs (.slice b vs.length cbp), W.heap.size ≤ c := fun c hc => (Kn.ok.lt (k := .r (.slice b vs.length cbp) vs) h3 c hc).1
  refine ⟨⟨((a, cap), (b, cbp)), hs, hs'⟩, h1, ⟨h4.os, h4.tape, h4.output, h4.size, fun i hi _ => h4.block i hi⟩, ?_, ?_⟩
  · intro k hk
    rcases List.mem_cons.1 hk with rfl | hk
    · exact hok2
    · rcases List.mem_cons.1 hk with rfl | hk
      · exact hok3
      · exact (hok k hk).below h4
  · intro c hc
    obtain ⟨k, hk, hc⟩ := kX_bs.1 hc
    rcases List.mem_cons.1 hk with rfl | hk
    · exact ⟨.inr (hge c hc), (hok2.lt c hc).2⟩
    · rcases List.mem_cons.1 hk with rfl | hk
      · exact ⟨.inr (hge' c hc), (hok3.lt c hc).2⟩
      · exact ⟨.inl (by rw [hT]; exact kX_bs.2 ⟨k, hk, hc⟩), Nat.lt_of_lt_of_le ((hok k hk).lt c hc).2 h4.size⟩
/-- Block tb holds a tape whose numbers are the caller's. -/
def tK (tb : Nat) : KnG where
  bs := [tb]
  ok n W := n ≤ tb ∧ TapeOk (tb + 1) n W tb
  lt := fun {n W} h b hb => by
    rw [List.mem_singleton.1 hb]
    exact ⟨h.1, h.2.lt⟩
  keep := fun {n W W'} h hs hb ho => by
    obtain ⟨h0, a, len, cap, k, h1, h2, h3, h4, h5, h6, h7, h8⟩ := h
    have ht := hb tb (List.mem_singleton.2 rfl)
    refine ⟨h0, a, len, cap, k, h1, Nat.le_trans h2 hs, (World.cell?_of_block (a := ⟨tb, 0, none⟩) ht).trans h3, (World.cell?_of_block (a := ⟨tb, 1, none⟩) ht).trans h4, (World.frozen?_of_block (a := ⟨tb, 1, none⟩) ht).trans h5, h6, h7, fun hl => ?_⟩
    obtain ⟨bb, off, e, hne, hlt, hlm, hc⟩ := h8 hl
    refine ⟨bb, off, e, hne, hlt, hlm, fun i hi => ?_⟩
    obtain ⟨x, hx, hix⟩ := hc i hi
    exact ⟨x, (World.cell?_of_block (a := ⟨bb, off + i, none⟩) (ho bb hlm (by omega))).trans hx, hix⟩
/-- A new tape of the caller's numbers. -/
theorem asks_new {L : List Kn} {zs : List Int} {a : Option Addr} {len cap : Nat} (hP : C.P = Tryd.prog) (hT : S.T = kX C.w0.heap.size L) (h0 : SlZ C.w0 .i64 (.slice a len cap) zs) (he : ∀ (l : Array Value) W, (callFunc 9 l).run Tryd.prog W = .ok (.enter 9 l) W)
    (hk : ∀ tb, tb ∉ S.T.bs → K (St.put ⟨S.n, S.E, S.H, kX C.w0.heap.size (.g (tK tb) :: L)⟩ d (.v (.pointer (some ⟨tb, 0, none⟩))))) : asks C 9 [.slice a len cap] d K S := by
  refine asks_T (ι := {x : Nat // x ∉ S.T.bs}) (fun x => .pointer (some ⟨x.1, 0, none⟩)) (fun x => kX C.w0.heap.size (.g (tK x.1) :: L)) (fun W hW hok hbs => givesT_calls (by rw [hP]; exact he) (fun i => kX_stab C _) ?_) (fun x => hk _ x.2)
  rw [hT] at hok
  rw [hP]
  refine (new_any a len cap W).mono fun e w' ⟨he, hw⟩ => ?_
  subst hw
  have hb : Below W.heap.size W (W.alloc (.cells #[.slice a len cap, .int .i64 0] 50)) := (Below.refl _ _).alloc (Nat.le_refl _) _
  have ht : TapeOk (W.heap.size + 1) C.w0.heap.size (W.alloc (.cells #[.slice a len cap, .int .i64 0] 50)) W.heap.size := by
    obtain ⟨a', len', cap', e, hl, hlc, hcm, hwf, hc⟩ := h0
    cases e
    have hm : cap ≤ 9223372036854775807 := by simpa [maxLen] using hcm
    refine ⟨a, len, cap, 0, by omega, by simp, World.cell?_alloc_new _ _ _ _, World.cell?_alloc_new _ _ _ _, by simp [go_sem], by omega, by omega, fun hpos => ?_⟩
    obtain ⟨b, off, rfl, hlt, hcell⟩ := hc hpos
    have hsz := hW.size
    refine ⟨b, off, rfl, by omega, by omega, hlt, fun i hi => ⟨zs.getD i 0, (hb.cell (p := ⟨b, off + i, none⟩) (show b < _ by omega)).trans ((hW.cell (p := ⟨b, off + i, none⟩) hlt).trans (hcell i hi)), ?_⟩⟩
    refine I64.of_wf (hwf _ ?_)
    rw [List.getD_eq_getElem?_getD, List.getElem?_eq_getElem (by omega)]
    exact List.getElem_mem _
  refine ⟨⟨W.heap.size, fun hT2 => by have := (hbs _ hT2).2; omega⟩, he, ⟨hb.os, hb.tape, hb.output, hb.size, fun i hi _ => hb.block i hi⟩, ?_, ?_⟩
  · intro k hk
    rcases List.mem_cons.1 hk with rfl | hk
    · exact ⟨hW.size, ht⟩
    · exact (hok k hk).below hb
  · intro b hbb
    obtain ⟨k, hk, hbb⟩ := kX_bs.1 hbb
    rcases List.mem_cons.1 hk with rfl | hk
    · have : b = W.heap.size := List.mem_singleton.1 hbb
      subst this
      exact ⟨.inr (Nat.le_refl _), ht.lt⟩
    · exact ⟨.inl (by rw [hT]; exact kX_bs.2 ⟨k, hk, hbb⟩), Nat.lt_of_lt_of_le ((hok k hk).lt b hbb).2 hb.size⟩
end Sx
end Go.Proofs.YtiiflgfnbgencaaDoor

/- Hg: What calls of wide and of its reference give, on integers as atoms. -/
namespace Go.Proofs.YtiiflgfnbgencaaDoor
open Go Go.RowKit Sx
set_option linter.unusedVariables false
set_option linter.unusedSimpArgs false
theorem Fits.is {z : Int} (h : Fits z) : IsW (WX z) z := IsW.x h
theorem nz_is : IsW NZ 0 := ⟨true, 0, 0, 0, 0, rfl, rfl, ⟨by decide, by decide⟩, ⟨by decide, by decide⟩, ⟨by decide, by decide⟩, ⟨by decide, by decide⟩⟩
/-- A raw Wide: the Wide of an integer, or the negative 0. -/
theorem raw_cases (n : Bool) {a b c d : Int} (ha : U64 a) (hb : U64 b) (hc : U64 c) (hd : U64 d) : (∃ z, Fits z ∧ WV n a b c d = WX z) ∨ WV n a b c d = NZ := by
  by_cases h : (n && mz a b c d) = true
  · right
    rw [Bool.and_eq_true] at h
    obtain ⟨rfl, h2⟩ := h
    have hw : a = 0 ∧ b = 0 ∧ c = 0 ∧ d = 0 := by simpa [mz, meq] using h2
    obtain ⟨rfl, rfl, rfl, rfl⟩ := hw
    rfl
  · left
    refine ⟨wv n a b c d, ?_, ?_⟩
    · unfold Fits; rw [ab_wv ha hb hc hd]; exact up4_mv ha hb hc hd
    · have : cn n a b c d = n := by unfold cn; cases n <;> cases h2 : mz a b c d <;> simp_all
      have e := we_wv (n := n) ha hb hc hd
      rw [this] at e
      exact e
theorem valid_wx {z : Int} (h : Fits z) : (!sg z || !mz (lb0 (ab z)) (lb1 (ab z)) (lb2 (ab z)) (lb3 (ab z))) = true := by
  have a4 : A4 (ab z) := ⟨ab_nonneg z, (fits_lt z).1 h⟩
  rw [mz_me a4]
  unfold sg ab
  by_cases hz : z < 0
  · rw [decide_eq_true hz, if_pos hz, decide_eq_false (by omega)]; rfl
  · rw [decide_eq_false hz]; rfl
theorem tup2 {a b c d : Value} (h : a = c) (h' : b = d) : Value.tuple #[a, b] = Value.tuple #[c, d] := by rw [h, h']
theorem tup3 {a b c a' b' c' : Value} (h : a = a') (h1 : b = b') (h2 : c = c') : Value.tuple #[a, b, c] = Value.tuple #[a', b', c'] := by rw [h, h1, h2]
theorem gives_eq {P : Program} {f : FuncId} {l : List Value} {W : World} {u v : Value} (h : Gives P f l W (· = u)) (e : u = v) : Gives P f l W (· = v) := by subst e; exact h
theorem gx_valid {z : Int} (h : Fits z) (W : World) : Gives Tryd.prog 38 [WX z] W (· = .bool true) := gives_eq (g_valid _ _ _ _ _ W) (congrArg Value.bool (valid_wx h))
theorem gx_mul {x y : Int} (h : Fits x) (h' : Fits y) (hf : Fits (x * y)) (W : World) : Gives Tryd.prog 12 [WX x, WX y] W (· = .tuple #[WX (x * y), .bool true]) := gives_eq (g_mul h.is h'.is W) (tup2 (by rw [cl_fit hf]; rfl) (by rw [fb_fit hf]))
theorem gx_of {x : Int} (h : I64 x) (W : World) : Gives Tryd.prog 15 [.int .i64 x] W (· = WX x) := g_of h W
theorem gx_ofU {x : Int} (h : U64 x) (W : World) : Gives Tryd.prog 17 [.int .u64 x] W (· = WX x) := g_ofU h W
theorem gx_divmod {x y : Int} (h : Fits x) (h' : Fits y) (hy : y ≠ 0) (W : World) : Gives Tryd.prog 20 [WX x, WX y] W (· = .tuple #[WX (x / y), WX (x % y), .bool true]) := gives_eq (g_divmod h.is h'.is W) (tup3 rfl (by unfold dr; rw [if_neg hy]; rfl) (by rw [decide_eq_true hy]))
theorem rx_neg {x : Int} (h : Fits x) (W : World) : Gives Tryd.prog 31 [WX x] W (· = WX (-x)) := rg_neg h.is W
theorem rx_of {x : Int} (h : I64 x) (W : World) : Gives Tryd.prog 18 [.int .i64 x] W (· = WX x) := rg_Of h W
theorem we_inj {x y : Int} (h : Fits x) (h' : Fits y) : weq (sg x) (lb0 (ab x)) (lb1 (ab x)) (lb2 (ab x)) (lb3 (ab x)) (sg y) (lb0 (ab y)) (lb1 (ab y)) (lb2 (ab y)) (lb3 (ab y)) = decide (x = y) := by
  rw [Bool.eq_iff_iff, decide_eq_true_iff]
  constructor
  · intro e
    have e' : sg x = sg y ∧ lb0 (ab x) = lb0 (ab y) ∧ lb1 (ab x) = lb1 (ab y) ∧ lb2 (ab x) = lb2 (ab y) ∧ lb3 (ab x) = lb3 (ab y) := by simpa [weq, meq] using e
    obtain ⟨e0, e1, e2, e3, e4⟩ := e'
    have m1 := mv_me (z := ab x) ⟨ab_nonneg x, (fits_lt x).1 h⟩
    have m2 := mv_me (z := ab y) ⟨ab_nonneg y, (fits_lt y).1 h'⟩
    rw [e1, e2, e3, e4, m2] at m1
    unfold sg at e0
    have e0' : (x < 0) ↔ (y < 0) := by simpa using e0
    unfold ab at m1
    (repeat' (split at m1)) <;> omega
  · rintro rfl
    unfold weq meq; simp
theorem eqx_run {ng : Bool} {xo yo : Operand} {x y : Int} (h : Fits x) (h' : Fits y) (W : World) :
    ((do eqGuard (if ng then .neq else .eql) 28 xo yo (WX x) (WX y); binOp (if ng then .neq else .eql) 28 (WX x) (WX y)) : Sem Value).run Tryd.prog W = .ok (.bool (if ng then !decide (x = y) else decide (x = y))) W := by
  have := eqw_run (ng := ng) (xo := xo) (yo := yo) (sg x) (lb0 (ab x)) (lb1 (ab x)) (lb2 (ab x)) (lb3 (ab x)) (sg y) (lb0 (ab y)) (lb1 (ab y)) (lb2 (ab y)) (lb3 (ab y)) W
  rw [we_inj h h'] at this
  exact this
/-- A raw Wide that counts as z; b: it is valid. -/
def RW (v : Value) (b : Bool) (z : Int) : Prop := (b = true ∧ v = WX z ∧ Fits z) ∨ (b = false ∧ v = NZ ∧ z = 0)
theorem RW.five {v : Value} {b : Bool} {z : Int} (h : RW v b z) : ∃ c0 c1 c2 c3 c4, v = .agg #[c0, c1, c2, c3, c4] := by
  rcases h with ⟨-, rfl, -⟩ | ⟨-, rfl, -⟩ <;> exact ⟨_, _, _, _, _, rfl⟩
theorem RW.is {v : Value} {b : Bool} {z : Int} (h : RW v b z) : IsW v z := by
  rcases h with ⟨-, rfl, h⟩ | ⟨-, rfl, rfl⟩
  · exact h.is
  · exact nz_is
theorem RW.fits {v : Value} {b : Bool} {z : Int} (h : RW v b z) : Fits z := by
  rcases h with ⟨-, rfl, h⟩ | ⟨-, rfl, rfl⟩
  · exact h
  · exact fits_zero
theorem Fits.rw {z : Int} (h : Fits z) : RW (WX z) true z := .inl ⟨rfl, rfl, h⟩
theorem rw_raw (n : Bool) {a b c d : Int} (ha : U64 a) (hb : U64 b) (hc : U64 c) (hd : U64 d) : ∃ t z, RW (WV n a b c d) t z := by
  rcases raw_cases n ha hb hc hd with ⟨z, hz, e⟩ | e
  · exact ⟨true, z, by rw [e]; exact hz.rw⟩
  · exact ⟨false, 0, .inr ⟨rfl, e, rfl⟩⟩
end Go.Proofs.YtiiflgfnbgencaaDoor

/- Tp: A symbolic run: calls that move a tape. -/
namespace Go.Proofs.YtiiflgfnbgencaaDoor
open Go Go.RowKit Sx
set_option linter.unusedVariables false
set_option linter.unusedSimpArgs false
namespace Sx
variable {C : Cx} {S : St} {K : St → Prop} {d : Option Nat}
/-- What is known of a tape in the caller's world w: it is a tape, and nothing else of w has turned. -/
def hK (w : World) (tb B Bm : Nat) : KnG where
  bs := List.range' tb (w.heap.size - tb)
  ok n W := n = tb ∧ (tb < w.heap.size ∧ B ≤ w.heap.size) ∧ TapeOk B Bm W tb ∧ w.heap.size ≤ W.heap.size ∧ ∀ i, i < w.heap.size → i ≠ tb → W.heap[i]? = w.heap[i]?
  lt := fun {n W} h b hb => by
    obtain ⟨h0, ⟨h1, h1b⟩, h2, h3, -⟩ := h
    rw [List.mem_range'] at hb
    obtain ⟨i, hi, rfl⟩ := hb
    omega
  keep := fun {n W W'} h hs hb ho => by
    obtain ⟨h0, ⟨hw, hB⟩, ⟨a, len, cap, k, h1, h2, h3, h4, h5, h6, h7, h8⟩, hsz, hg⟩ := h
    have all : ∀ i, i < w.heap.size → W'.heap[i]? = W.heap[i]? := fun i hi => by
      rcases Nat.lt_or_ge i tb with h | h
      · exact ho i (by omega) (by omega)
      · exact hb i (List.mem_range'.2 ⟨i - tb, by omega, by omega⟩)
    have ht := all tb hw
    refine ⟨h0, ⟨hw, hB⟩, ⟨a, len, cap, k, h1, Nat.le_trans h2 hs, (World.cell?_of_block (a := ⟨tb, 0, none⟩) ht).trans h3, (World.cell?_of_block (a := ⟨tb, 1, none⟩) ht).trans h4, (World.frozen?_of_block (a := ⟨tb, 1, none⟩) ht).trans h5, h6, h7, fun hl => ?_⟩, Nat.le_trans hsz hs, fun i hi hn => (all i hi).trans (hg i hi hn)⟩
    obtain ⟨bb, off, e, hne, hlt, hlm, hc⟩ := h8 hl
    refine ⟨bb, off, e, hne, hlt, hlm, fun i hi => ?_⟩
    obtain ⟨x, hx, hix⟩ := hc i hi
    exact ⟨x, (World.cell?_of_block (a := ⟨bb, off + i, none⟩) (all bb (by omega))).trans hx, hix⟩
/-- It tells of the tape in block tb, and goes on behind calls that move it. -/
structure TpK (k : KnG) (n tb B Bm : Nat) : Prop where
  tape : ∀ {W}, k.ok n W → TapeOk B Bm W tb
  go : ∀ {W W'}, k.ok n W → TapeOk B Bm W' tb → W.grownBy W' (some tb) → k.ok n W'
  ge : ∀ {W}, k.ok n W → n ≤ tb
  mem : ∀ {W}, k.ok n W → tb ∈ k.bs
theorem tpk_t (n tb : Nat) : TpK (tK tb) n tb (tb + 1) n where
  tape h := h.2
  go h ht hg := ⟨h.1, ht⟩
  ge h := h.1
  mem h := List.mem_singleton.2 rfl
theorem tpk_h (w : World) (tb B Bm : Nat) : TpK (hK w tb B Bm) tb tb B Bm where
  tape h := h.2.2.1
  go h ht hg := ⟨h.1, h.2.1, ht, Nat.le_trans h.2.2.2.1 hg.size, fun i hi hn => (hg.block i (Nat.lt_of_lt_of_le hi h.2.2.2.1) (fun e => hn (Option.some.inj e))).trans (h.2.2.2.2 i hi hn)⟩
  ge h := Nat.le_of_eq h.1
  mem h := List.mem_range'.2 ⟨0, by have := h.2.1; omega, by omega⟩
/-- A call that moves the tape and nothing else that is known. -/
theorem asks_tp {f : FuncId} {l : List Value} {L : List Kn} {ι : Type} {P : ι → Prop} {k : KnG} {tb B Bm : Nat} (v : ι → Value) (hk : TpK k C.w0.heap.size tb B Bm) (he : ∀ (l : Array Value) W, (callFunc f l).run C.P W = .ok (.enter f l) W) (hT : S.T = kX C.w0.heap.size L) (hm : .g k ∈ L) (hmv : C.mv S = S.T.bs)
    (hL : ∀ j ∈ L, j = .g k ∨ tb ∉ j.bs)
    (h : ∀ W, TapeOk B Bm W tb → Calls C.P f l.toArray W fun e w' => ∃ i, P i ∧ e = .returned (v i) ∧ TapeOk B Bm w' tb ∧ W.grownBy w' (some tb))
    (hK : ∀ i, P i → K (St.put S d (.v (v i)))) : asks C f l d K S := by
  refine asks_T (ι := {i // P i}) (fun i => v i.1) (fun _ => S.T) (fun W hW hok hbs => givesT_calls he (fun i => by rw [hT]; exact kX_stab C L) ?_) (fun i => hK i.1 i.2)
  rw [hT] at hok
  have ho : k.ok C.w0.heap.size W := hok _ hm
  refine (h W (hk.tape ho)).mono fun e w' ⟨i, hi, he, h1, h2⟩ => ⟨⟨i, hi⟩, he, ⟨h2.os, h2.tape, h2.output, h2.size, fun j hj hn => h2.block j hj fun e => hn (by cases e; rw [hmv, hT]; exact kX_bs.2 ⟨_, hm, hk.mem ho⟩)⟩, ?_, fun b hb => ⟨.inl hb, ?_⟩⟩
  · rw [hT]
    intro j hj
    rcases hL j hj with rfl | hb
    · exact hk.go ho h1 h2
    · refine (hok j hj).keep h2.size (fun b hbb => h2.block b ((hok j hj).lt b hbb).2 fun e => hb (by cases e; exact hbb)) fun b hbn hbl => h2.block b hbl fun e => ?_
      have := hk.ge ho
      have e2 : b = tb := Option.some.inj e
      omega
  · rw [hT] at hb
    exact Nat.lt_of_lt_of_le (kX_lt hok b hb).2 h2.size
/-- The start of a function that is given a tape. -/
theorem hK_start {w : World} {tb B Bm : Nat} (h : TapeOk B Bm w tb) : (kX (cut w tb).heap.size [.g (hK w tb B Bm)]).ok w ∧ ∀ b ∈ (kX (cut w tb).heap.size [.g (hK w tb B Bm)]).bs, (cut w tb).heap.size ≤ b ∧ b < w.heap.size := by
  have hc := cut_size (Nat.le_of_lt h.lt)
  have h1 : (kX (cut w tb).heap.size [.g (hK w tb B Bm)]).ok w := fun k hk => by
    rw [List.mem_singleton.1 hk]
    exact ⟨hc, ⟨h.lt, h.leB⟩, h, Nat.le_refl _, fun _ _ _ => rfl⟩
  exact ⟨h1, kX_lt h1⟩
theorem hK_end {w w' : World} {tb B Bm : Nat} {L : List Kn} (h : (kX (cut w tb).heap.size L).ok w') (hm : .g (hK w tb B Bm) ∈ L) (hb : Below (cut w tb).heap.size (cut w tb) w') : TapeOk B Bm w' tb ∧ w.grownBy w' (some tb) := by
  have hk : (hK w tb B Bm).ok (cut w tb).heap.size w' := h _ hm
  exact ⟨hk.2.2.1, hb.os, hb.tape, hb.output, hk.2.2.2.1, fun i hi hn => hk.2.2.2.2 i hi fun e => hn (by rw [e])⟩
theorem tpk_h' {w : World} {tb B Bm : Nat} (h : TapeOk B Bm w tb) : TpK (hK w tb B Bm) (cut w tb).heap.size tb B Bm := by
  rw [cut_size (Nat.le_of_lt h.lt)]; exact tpk_h w tb B Bm
end Sx
/-- What a call that moves the tape in block tb gives. -/
def TpC (f : FuncId) (l : List Value) (tb : Nat) {ι : Type} (P : ι → Prop) (v : ι → Value) : Prop := ∀ {B Bm : Nat} (W : World), TapeOk B Bm W tb → Calls Tryd.prog f l.toArray W fun e w' => ∃ i, P i ∧ e = .returned (v i) ∧ TapeOk B Bm w' tb ∧ W.grownBy w' (some tb)
theorem t_next (tb : Nat) {n : Int} (h1 : 1 ≤ n) (h2 : n ≤ 1000000) : TpC 27 [.pointer (some ⟨tb, 0, none⟩), .int .i64 n] tb (fun r : Int => 0 ≤ r ∧ r < n) (fun r => .int .i64 r) :=
  fun W h => (next_in tb n h1 h2 W h).mono fun e w' ⟨r, a, b, c, d⟩ => ⟨r, a, b, c, d⟩
theorem t_bool (tb : Nat) {n : Int} (h1 : 2 ≤ n) (h2 : n ≤ 1000) : TpC 29 [.pointer (some ⟨tb, 0, none⟩), .int .i64 n] tb (fun _ : Bool => True) (fun r => .bool r) :=
  fun W h => (bool_any tb n h1 h2 W h).mono fun e w' ⟨r, b, c, d⟩ => ⟨r, trivial, b, c, d⟩
theorem t_word (tb : Nat) : TpC 28 [.pointer (some ⟨tb, 0, none⟩)] tb U64 (fun r => .int .u64 r) :=
  fun W h => (word_any tb W h).mono fun e w' ⟨r, a, b, c, d⟩ => ⟨r, a, b, c, d⟩
theorem t_int (tb : Nat) : TpC 30 [.pointer (some ⟨tb, 0, none⟩)] tb I64 (fun r => .int .i64 r) :=
  fun W h => (int_any tb W h).mono fun e w' ⟨r, a, b, c, d⟩ => ⟨r, a, b, c, d⟩
/-- A raw Wide by its cells. -/
structure RC where
  c0 : Value
  c1 : Value
  c2 : Value
  c3 : Value
  c4 : Value
def RC.v (c : RC) : Value := .agg #[c.c0, c.c1, c.c2, c.c3, c.c4]
theorem asks_tc {C : Cx} {S : St} {K : St → Prop} {d : Option Nat} {f : FuncId} {l : List Value} {L : List Kn} {ι : Type} {P : ι → Prop} {v : ι → Value} {k : KnG} {tb B Bm : Nat} (hP : C.P = Tryd.prog) (hk : TpK k C.w0.heap.size tb B Bm) (h : TpC f l tb P v) (he : ∀ (l : Array Value) W, (callFunc f l).run Tryd.prog W = .ok (.enter f l) W) (hT : S.T = kX C.w0.heap.size L) (hm : .g k ∈ L) (hmv : C.mv S = S.T.bs)
    (hL : ∀ j ∈ L, j = .g k ∨ tb ∉ j.bs) (hK : ∀ i, P i → K (St.put S d (.v (v i)))) : asks C f l d K S :=
  asks_tp v hk (by rw [hP]; exact he) hT hm hmv hL (fun W hW => by rw [hP]; exact h W hW) hK
end Go.Proofs.YtiiflgfnbgencaaDoor

/- Ck: A symbolic run: blocks of the call's own that are known cell by cell. -/
namespace Go.Proofs.YtiiflgfnbgencaaDoor
open Go Go.RowKit Sx
set_option linter.unusedVariables false
set_option linter.unusedSimpArgs false
namespace Sx
variable {C : Cx} {S : St} {K : St → Prop} {d : Option Nat}
/-- Block b holds these cells. -/
def cK (b : Nat) (cs : List Value) : KnG where
  bs := [b]
  ok n W := n ≤ b ∧ HB W b cs.toArray
  lt := fun {n W} h c hc => by
    rw [List.mem_singleton.1 hc]
    exact ⟨h.1, h.2.lt⟩
  keep := fun {n W W'} h hs hb ho => by
    obtain ⟨T, hT⟩ := h.2
    exact ⟨h.1, T, (hb b (List.mem_singleton.2 rfl)).trans hT⟩
theorem cK_cell {b : Nat} {cs : List Value} {n : Nat} {W : World} (h : (cK b cs).ok n W) {i : Nat} {v : Value} (hv : cs[i]? = some v) : W.cell? ⟨b, i, none⟩ = some v := by
  have hc := (Bx.of h.2).2.1 i
  rw [hc]
  simpa using hv
/-- An operation that makes a block. -/
theorem genA_c {q : GK} {l : List Value} {L : List Kn} {cs : List Value} {T : TypeId} (v : Nat → Value) (hT : S.T = kX C.w0.heap.size L)
    (h : ∀ W, (genRun q l).run C.P W = .ok (.value (v W.heap.size)) (W.alloc (.cells cs.toArray T (0, 0))))
    (hk : ∀ b, b ∉ S.T.bs → K (St.put ⟨S.n, S.E, S.H, kX C.w0.heap.size (.g (cK b cs) :: L)⟩ d (.v (v b)))) : genA C q l d K S := by
  refine genA_T (ι := {x : Nat // x ∉ S.T.bs}) (fun x => v x.1) (fun x => kX C.w0.heap.size (.g (cK x.1 cs) :: L)) (fun W hW hok hbs => ⟨?_⟩) (fun x => hk _ x.2)
  rw [hT] at hok
  rw [h W]
  have hb : Below W.heap.size W (W.alloc (.cells cs.toArray T (0, 0))) := (Below.refl _ _).alloc (Nat.le_refl _) _
  have hc : (cK W.heap.size cs).ok C.w0.heap.size (W.alloc (.cells cs.toArray T (0, 0))) := ⟨hW.size, HB.new W _ T rfl⟩
  refine ⟨⟨W.heap.size, fun hT2 => by have := (hbs _ hT2).2; omega⟩, rfl, ⟨hb.os, hb.tape, hb.output, hb.size, fun i hi _ => hb.block i hi⟩, ?_, kX_stab C _, ?_⟩
  · intro k hk
    rcases List.mem_cons.1 hk with rfl | hk
    · exact hc
    · exact (hok k hk).below hb
  · intro b hbb
    obtain ⟨k, hk, hbb⟩ := kX_bs.1 hbb
    rcases List.mem_cons.1 hk with rfl | hk
    · have : b = W.heap.size := List.mem_singleton.1 hbb
      subst this
      exact ⟨.inr (Nat.le_refl _), hc.2.lt⟩
    · exact ⟨.inl (by rw [hT]; exact kX_bs.2 ⟨k, hk, hbb⟩), Nat.lt_of_lt_of_le ((hok k hk).lt b hbb).2 hb.size⟩
/-- Cells of such a block are read. -/
theorem ldP_c {L : List Kn} {b o m : Nat} {g : Bool} {cs l : List Value} (hT : (C.kn S).T = kX C.w0.heap.size L) (hm : .g (cK b cs) ∈ L) (hl : l.length = m) (hs : ∀ j v, l[j]? = some v → cs[o + j]? = some v) (hk : K (S.put d (.v (mk g l)))) : ldP C g m ⟨b, o, none⟩ d K S :=
  ldP_ext l hl (fun W hW hok j v hj => by
    rw [hT] at hok
    have ho : (cK b cs).ok C.w0.heap.size W := hok _ hm
    rw [Addr.add_lit]
    exact cK_cell ho (hs j v hj)) hk
end Sx
end Go.Proofs.YtiiflgfnbgencaaDoor

/- Wk: A symbolic run: rows of the call's own that grow by append. -/
namespace Go.Proofs.YtiiflgfnbgencaaDoor
open Go Go.RowKit Sx
set_option linter.unusedVariables false
set_option linter.unusedSimpArgs false
theorem append_own {P : Program} {W : World} (base : Nat) (t ty e : TypeId) (i : TypeInfo) (z : Value) (size bytes : Nat) (ht : P.underlying t = some (.slice e)) (hi : P.info? e = some i) (hz : i.zero = some z)
    (hsize : i.size = size) (hby : i.bytes = bytes) (hzs : z.cells.size = size) (hsz : 0 < size) (v : Value) (n : Nat) (xs : List Value) (hown : W.ownsRow base e size v n xs)
    (b m c : Nat) (news : List Value) (hl : news.length = m * size) (hm : 0 < m) (hnews : ∀ (j : Nat) u, news[j]? = some u → W.cell? ⟨b, j, none⟩ = some u) (h1 : ∀ u ∈ news, u.oneCell' = true)
    (h63 : n + m ≤ maxLen) (hbytes : (n + m) * bytes ≤ 140737488355328) (hbase : base ≤ W.heap.size) :
    ∃ g cap w', (Builtin.append_ #[t, t] ty #[v, .slice (some ⟨b, 0, none⟩) m c]).run P W = .ok (.slice (some ⟨g, 0, none⟩) (n + m) cap) w' ∧ w'.ownsRow base e size (.slice (some ⟨g, 0, none⟩) (n + m) cap) (n + m) (xs ++ news) ∧ W.grownBy w' v.ownBlock ∧ (v.ownBlock = some g ∨ W.heap.size ≤ g) := by
  have hadd : ∀ (j : Nat) u, news[j]? = some u → W.cell? ((⟨b, 0, none⟩ : Addr).add j) = some u := fun j u hj => by
    have : (⟨b, 0, none⟩ : Addr).add j = ⟨b, j, none⟩ := by rw [Addr.add_lit, Nat.zero_add]
    rw [this]
    exact hnews j u hj
  obtain ⟨v', w', hr, ho, hg, -⟩ := run_append_own (P := P) (w := W) base t ty e i z size bytes ht hi hz hsize hby hzs hsz v n xs hown ⟨b, 0, none⟩ m c news hl hadd h1 h63 hbytes hbase
  have key : ∃ g cap, v' = .slice (some ⟨g, 0, none⟩) (n + m) cap ∧ (v.ownBlock = some g ∨ W.heap.size ≤ g) := by
    subst hsize; subst hby
    rcases hown.2 with ⟨rfl, rfl⟩ | ⟨g, cap, cur, rfl, hbg, hg2, hnc, hcm, hcs, htake⟩
    · have := run_append_nil (P := P) W t ty e i z ht hi hz ⟨b, 0, none⟩ m c news hl hadd hm (by simp only [maxLen] at h63; omega) (by rw [Nat.zero_add] at hbytes; omega)
      rw [hr] at this
      cases this
      exact ⟨_, _, by rw [Nat.zero_add], .inr (Nat.le_refl _)⟩
    · by_cases hroom : n + m ≤ cap
      · have hfit : n * i.size + news.length ≤ cur.size := by rw [hl, hcs, ← Nat.add_mul]; exact Nat.mul_le_mul_right _ hroom
        have := run_append_room (P := P) W t ty e i ht hi g n cap cur hg2 ⟨b, 0, none⟩ m c news hl hadd h1 hroom hfit
        rw [hr] at this
        cases this
        exact ⟨_, _, rfl, .inl rfl⟩
      · have holds : ∀ j u, xs[j]? = some u → W.cell? ((⟨g, 0, none⟩ : Addr).add j) = some u := hown.cells (g := g) rfl
        have := run_append_grow (P := P) W t ty e i z ht hi hz ⟨g, 0, none⟩ n cap xs hown.1 holds ⟨b, 0, none⟩ m c news hl hadd (by omega) (by simp only [maxLen] at h63; omega) (growslice_fits (by omega) hbytes)
        rw [hr] at this
        cases this
        exact ⟨_, _, rfl, .inr (Nat.le_refl _)⟩
  obtain ⟨g, cap, rfl, hgg⟩ := key
  exact ⟨g, cap, w', hr, ho, hg, hgg⟩
namespace Sx
variable {C : Cx} {S : St} {K : St → Prop} {d : Option Nat}
/-- v is a row of the call's own: n elements of the type e, with these cells. -/
def wK (e : TypeId) (s : Nat) (v : Value) (n : Nat) (xs : List Value) : KnG where
  bs := v.ownBlock.toList
  ok m W := W.ownsRow m e s v n xs
  lt := fun {m W} h b hb => h.lt b (by simpa using hb)
  keep := fun {m W W'} h hs hb ho => by
    refine ⟨h.1, ?_⟩
    rcases h.2 with hn | ⟨g, cap, cur, rfl, hbg, hg, hnc, hcm, hcs, htake⟩
    · exact .inl hn
    · exact .inr ⟨g, cap, cur, rfl, hbg, (hb g (by simp [Value.ownBlock])).trans hg, hnc, hcm, hcs, htake⟩
/-- append, of a new literal's elements. -/
theorem genA_grow {P : Program} (hP : C.P = P) {L : List Kn} (L' : Nat → Nat → List Kn) {t e : TypeId} {i : TypeInfo} {z : Value} {size bytes : Nat} {v : Value} {n : Nat} {xs : List Value} {b m c : Nat} {news : List Value} {cs : List Bool}
    (ht : P.underlying t = some (.slice e)) (hi : P.info? e = some i) (hz : i.zero = some z) (hsize : i.size = size) (hby : i.bytes = bytes) (hzs : z.cells.size = size) (hsz : 0 < size)
    (hT : S.T = kX C.w0.heap.size L) (hv : ∀ W, (∀ k ∈ L, k.ok C.w0.heap.size W) → W.ownsRow C.w0.heap.size e size v n xs) (hmv : ∀ g, v.ownBlock = some g → g ∈ S.T.bs ∧ g ∈ C.mv S)
    (hm : .g (cK b news) ∈ L) (hl : news.length = m * size) (hm0 : 0 < m) (h1 : ∀ u ∈ news, u.oneCell' = true) (h63 : n + m ≤ maxLen) (hbytes : (n + m) * bytes ≤ 140737488355328)
    (hL : ∀ g cap, ∀ k ∈ L' g cap, k = .g (wK e size (.slice (some ⟨g, 0, none⟩) (n + m) cap) (n + m) (xs ++ news)) ∨ (k ∈ L ∧ ∀ b ∈ k.bs, v.ownBlock ≠ some b))
    (hk : ∀ g cap, K (St.put ⟨S.n, S.E, S.H, kX C.w0.heap.size (L' g cap)⟩ d (.v (.slice (some ⟨g, 0, none⟩) (n + m) cap)))) : genA C (.bi .append [t, t] t cs) [v, .slice (some ⟨b, 0, none⟩) m c] d K S := by
  subst hP
  refine genA_T (ι := Nat × Nat) (fun x => .slice (some ⟨x.1, 0, none⟩) (n + m) x.2) (fun x => kX C.w0.heap.size (L' x.1 x.2)) (fun W hW hok hbs => ⟨?_⟩) (fun x => hk _ _)
  rw [hT] at hok
  have hc : (cK b news).ok C.w0.heap.size W := hok _ hm
  obtain ⟨g, cap, w', hr, ho, hg, hgg⟩ := append_own (P := C.P) C.w0.heap.size t t e i z size bytes ht hi hz hsize hby hzs hsz v n xs (hv W hok) b m c news hl hm0 (fun j u hj => cK_cell hc hj) h1 h63 hbytes hW.size
  have hr' : (genRun (.bi .append [t, t] t cs) [v, .slice (some ⟨b, 0, none⟩) m c]).run C.P W = .ok (.value (.slice (some ⟨g, 0, none⟩) (n + m) cap)) w' := by
    show (do let x ← Builtin.append_ #[t, t] t #[v, .slice (some ⟨b, 0, none⟩) m c]; pure (Next.value x)).run C.P W = _
    rw [run_bind_ok hr]; rfl
  rw [hr']
  refine ⟨⟨g, cap⟩, rfl, ⟨hg.os, hg.tape, hg.output, hg.size, fun j hj hn => hg.block j hj fun e => hn (hmv j e.symm).2⟩, ?_, kX_stab C _, ?_⟩
  · intro k hk
    rcases hL g cap k hk with rfl | ⟨hk, hb⟩
    · exact ho
    · exact (hok k hk).keep hg.size (fun b hbb => hg.block b ((hok k hk).lt b hbb).2 fun e => hb b hbb e.symm) fun b hbn hbl => hg.block b hbl fun e => by have := (hbs b (hmv b e.symm).1).1; omega
  · intro x hx
    obtain ⟨k, hk, hx⟩ := kX_bs.1 hx
    rcases hL g cap k hk with rfl | ⟨hk, hb⟩
    · have hxg : x = g := by
        have : x ∈ [g] := hx
        simpa using this
      subst hxg
      refine ⟨hgg.elim (fun e => .inl (hmv x e).1) .inr, ?_⟩
      exact (ho.lt x rfl).2
    · exact ⟨.inl (by rw [hT]; exact kX_bs.2 ⟨k, hk, hx⟩), Nat.lt_of_lt_of_le ((hok k hk).lt x hx).2 hg.size⟩
end Sx
end Go.Proofs.YtiiflgfnbgencaaDoor

/- Fu: strconv.FormatUint at base 10, for 100 and above (the table of powers of ten is laid). -/
namespace Go.Proofs.YtiiflgfnbgencaaDoor
open Go Go.Shelf Go.RowKit Go.Sort Go.Lib
set_option linter.unusedVariables false
set_option linter.unusedSimpArgs false
theorem holds_zero0 (w : World) (T : TypeId) (nd : Nat) (hs : nd ≤ 24) : Holds (fun (b : UInt8) => Value.int .u8 (b.toNat : Int)) (w.alloc (.cells zeros24 T)) w.heap.size 0 (Array.replicate nd (0 : UInt8)) := fun j hj => by
  have hj' : j < nd := by simpa using hj
  refine ⟨?_, World.frozen?_alloc_new _ _ _ _⟩
  rw [World.cell?_alloc_new, zeros24_at _ (by omega), getElem!_pos _ j hj]
  simp
theorem fin_zero (w : World) (o : Obj) (dk : Array UInt8) (k : Nat) : ∃ os, (putRow (fun (b : UInt8) => Value.int .u8 (b.toNat : Int)) (w.alloc o) w.heap.size 0 dk).drewN k = grow (w.drewN k) os := by
  rw [alloc_eq_grow]
  obtain ⟨os', _, e⟩ := putRow_grow_new (fun (b : UInt8) => Value.int .u8 (b.toNat : Int)) w #[o] w.heap.size 0 dk (Nat.le_refl _)
  exact ⟨os', by rw [e]; rfl⟩
set_option maxRecDepth 100000 in
set_option maxHeartbeats 6400000 in
theorem fmtU (u : Nat) (h1 : 100 ≤ u) (hu64 : u < 18446744073709551616) (w : World) (htab : Lib.TabIs Tryd.prog w "internal/strconv.uint64pow10" .u64 Lib.pow10Tab) :
    Calls Tryd.prog 67 #[.int .u64 u, .int .i64 10] w fun e w' => e = .returned (.string ⟨(Lib.decDigits u).toArray⟩) ∧ Below w.heap.size w w' := by
  have hu1 : 1 ≤ u := by omega
  have hnd20 : Lib.nDigits u ≤ 20 := by have := Lib.numDigits_eq u hu1 hu64; split at this <;> omega
  have hal : Tryd.prog.arrayLen 110 = 24 := by kernel_rfl
  have hsl1 : ∀ W, (Instr.sliceAt 110 (.pointer (some ⟨w.heap.size, 0, none⟩)) none (some (.int .i64 (Lib.nDigits u : Int))) none).run Tryd.prog W = .ok (.slice (some ⟨w.heap.size, 0, none⟩) (Lib.nDigits u) 24) W := fun W => by
    rw [run_sliceAt_array_h W 110 ⟨w.heap.size, 0, none⟩ (by simp [Program.arrayLen, Program.elem, Tryd.underlying110]) .i64 (Lib.nDigits u : Int) (by omega) (by rw [hal]; omega)]
    go_simp
  have hH0 := holds_zero0 w 110 (Lib.nDigits u) (by omega)
  have hfmt := Tryd.internal_strconv_formatBase10 w.heap.size 0 24 u (Array.replicate (Lib.nDigits u) 0) (w.alloc (.cells Lib.zeros24 110)) hH0 (by rw [Array.size_replicate]; exact Lib.lt_pow_nDigits u) hu64 (by rw [Array.size_replicate]; omega)
  rw [Array.size_replicate] at hfmt
  have HH0 := Lib.hid hH0
  clear hH0 hal
  have hc1 : decide ((u : Int) < 100) = false := decide_eq_false (by omega)
  go_enter Tryd.func67, Tryd.ntmps67
  go_wp2_with (first
    | (go_at_call 86; refine (Tryd.internal_strconv_numDigits u hu1 hu64 _ (Lib.tabIs_alloc htab _)).mono ?_; rintro e w' ⟨rfl, rfl⟩))
  go_at_call 87
  refine hfmt.mono ?_
  rintro e w' ⟨rfl, k, v', dk, rfl, hF⟩
  have hcv : (convert 76 9 (.slice (some ⟨w.heap.size, 0, none⟩) (Lib.nDigits u) 24)).run Tryd.prog ((putRow (fun (b : UInt8) => Value.int .u8 (b.toNat : Int)) (w.alloc (.cells Lib.zeros24 110)) w.heap.size 0 dk).drewN k) = .ok (.string ⟨(Lib.decDigits u).toArray⟩) ((putRow (fun (b : UInt8) => Value.int .u8 (b.toNat : Int)) (w.alloc (.cells Lib.zeros24 110)) w.heap.size 0 dk).drewN k) := by
    have h := run_convert_bytes_back (P := Tryd.prog) ((putRow (fun (b : UInt8) => Value.int .u8 (b.toNat : Int)) (w.alloc (.cells Lib.zeros24 110)) w.heap.size 0 dk).drewN k) 76 9 5 ⟨w.heap.size, 0, none⟩ 24 (Lib.decDigits u) Tryd.underlying76 Tryd.underlying5 Tryd.underlying9 (fun j hj => by
      rw [Lib.row_is_numeral hF j hj, Lib.add_plain, World.cell?_drewN]
      exact cell?_putRow (fun (b : UInt8) => Value.int .u8 (b.toNat : Int)) _ w.heap.size 0 _ dk HH0.out (by rw [hF.size, Array.size_replicate]) j (by rw [hF.size]; rw [Lib.decDigits_length] at hj; exact hj))
    rw [Lib.decDigits_length] at h
    exact h
  go_wp2
  go_ret
  obtain ⟨os, eo⟩ := fin_zero w (.cells Lib.zeros24 110) dk k
  refine ⟨rfl, ?_⟩
  rw [eo]
  exact Lib.below_grow _ w (Nat.le_refl _) k os
set_option maxRecDepth 100000 in
theorem fmtS (u : Nat) (h : u < 100) (w : World) :
    Calls Tryd.prog 67 #[.int .u64 u, .int .i64 10] w fun e w' => e = .returned (.string ⟨(Lib.decDigits u).toArray⟩) ∧ Below w.heap.size w w' := by
  have hc1 : decide ((u : Int) < 100) = true := decide_eq_true (by omega)
  have hw : IntKind.i64.wrap (u : Int) = u := by rw [IntKind.wrap_i64]; omega
  go_enter Tryd.func67, Tryd.ntmps67
  go_wp2_with (go_at_call 85; refine (Tryd.internal_strconv_small u h _).mono ?_; rintro e w' ⟨rfl, rfl⟩)
  go_ret
  exact ⟨rfl, Below.refl _ _⟩
set_option maxRecDepth 100000 in
theorem fmtT (u : Nat) (hu64 : u < 18446744073709551616) (w : World) (htab : Lib.TabIs Tryd.prog w "internal/strconv.uint64pow10" .u64 Lib.pow10Tab) :
    Calls Tryd.prog 41 #[.int .u64 u, .int .i64 10] w fun e w' => e = .returned (.string ⟨(Lib.decDigits u).toArray⟩) ∧ Below w.heap.size w w' := by
  have hc : Calls Tryd.prog 67 #[.int .u64 u, .int .i64 10] w fun e w' => e = .returned (.string ⟨(Lib.decDigits u).toArray⟩) ∧ Below w.heap.size w w' := by
    by_cases h : u < 100
    · exact fmtS u h w
    · exact fmtU u (by omega) hu64 w htab
  go_enter Tryd.func41, Tryd.ntmps41
  go_wp2_with (go_at_call 67; refine hc.mono ?_; rintro e w' ⟨rfl, hb⟩)
  go_ret
  exact ⟨rfl, hb⟩
end Go.Proofs.YtiiflgfnbgencaaDoor

/- CdL2: MADE BY PROGRAM (sxgen.py): the small code of some functions, points of it and their equations. -/
namespace Go.Proofs.YtiiflgfnbgencaaDoor
open Go Go.RowKit Sx
set_option linter.unusedVariables false
variable (C : Cx) (R L1 L2 L3 L4 : St → Prop)
namespace wide_Text
def r0 : List G := [(some 1, none, (.box true 5 (.tmp 0))), (some 2, none, (.mv (.const (.string ⟨#[]⟩))))]
def r1 : List G := [(some 9, none, (.ld true 5 (.tmp 1))), (some 10, none, (.call false 32 [(.tmp 9)])), (none, none, (.st true 5 (.tmp 1) (.tmp 10)))]
def r2 : List G := [(some 3, none, (.mv (.const (.slice none 0 0))))]
def r3 : List G := [(some 11, none, (.fa 1 (.tmp 1))), (some 12, none, (.ld true 4 (.tmp 11))), (some 4, none, (.new [(.int .u64 0), (.int .u64 0), (.int .u64 0), (.int .u64 0)])), (none, none, (.st true 4 (.tmp 4) (.tmp 12)))]
def r4 : List G := [(some 14, none, (.ld true 4 (.tmp 4))), (some 15, none, (.bd [(.int .u64 0), (.int .u64 0), (.int .u64 0), (.int .u64 0)] [(0, 1, (.const (.int .u64 1000000000000000000)))])), (some 16, none, (.call false 39 [(.tmp 14), (.tmp 15)])), (some 13, none, (.mv (.tmp 16))), (some 17, none, (.ex (.tmp 13) 0)), (some 18, none, (.ex (.tmp 13) 1)), (some 5, none, (.new [(.int .u64 0), (.int .u64 0), (.int .u64 0), (.int .u64 0)])), (some 6, none, (.new [(.int .u64 0), (.int .u64 0), (.int .u64 0), (.int .u64 0)])), (none, none, (.st true 4 (.tmp 5) (.tmp 17))), (none, none, (.st true 4 (.tmp 6) (.tmp 18)))]
def r5 : List G := [(some 19, none, (.ia 4 1 (.tmp 6) (.const (.int .i64 0)))), (some 20, none, (.ld false 1 (.tmp 19))), (some 21, none, (.call false 41 [(.tmp 20), (.const (.int .i64 10))])), (some 7, none, (.mv (.tmp 21)))]
def r6 : List G := [(some 22, none, (.ld true 4 (.tmp 5))), (some 23, none, (.bd [(.int .u64 0), (.int .u64 0), (.int .u64 0), (.int .u64 0)] [])), (some 24, none, (.eqg false 26 (.tmp 22) (.tmp 23)))]
def r7 : List G := [(some 25, none, (.mv (.tmp 3))), (some 26, none, (.mv (.tmp 7))), (some 27, none, (.gen false (.bsl 67 1 [0]) [(.tmp 26)])), (some 28, none, (.gen false (.bi .append [67, 67] 67 [false, false]) [(.tmp 25), (.tmp 27)])), (some 3, none, (.mv (.tmp 28)))]
def r8 : List G := [(some 29, none, (.mv (.tmp 3))), (some 30, none, (.mv (.tmp 7))), (some 31, none, (.len true (.tmp 30))), (some 32, none, (.bin .sub (.const (.int .i64 18)) (.tmp 31))), (some 33, none, (.call false 42 [(.const (.string ⟨#[48]⟩)), (.tmp 32)])), (some 34, none, (.mv (.tmp 7))), (some 35, none, (.bin .add (.tmp 33) (.tmp 34))), (some 36, none, (.gen false (.bsl 67 1 [0]) [(.tmp 35)])), (some 37, none, (.gen false (.bi .append [67, 67] 67 [false, false]) [(.tmp 29), (.tmp 36)])), (some 3, none, (.mv (.tmp 37)))]
def r9 : List G := [(some 38, none, (.ld true 4 (.tmp 5))), (none, none, (.st true 4 (.tmp 4) (.tmp 38)))]
def r10 : List G := [(some 39, none, (.ld true 4 (.tmp 4)))]
def r11 : List G := [(some 4, none, (.new [(.int .u64 0), (.int .u64 0), (.int .u64 0), (.int .u64 0)])), (none, none, (.st true 4 (.tmp 4) (.tmp 39)))]
def r12 : List G := [(some 40, none, (.mv (.tmp 3))), (some 41, none, (.call false 43 [(.tmp 40)]))]
def r13 : List G := [(some 42, none, (.mv (.tmp 3))), (some 43, none, (.call false 44 [(.tmp 42), (.const (.string ⟨#[]⟩))])), (some 8, none, (.mv (.tmp 43)))]
def r14 : List G := [(some 44, none, (.fa 0 (.tmp 1))), (some 45, none, (.ld false 1 (.tmp 44)))]
def r15 : List G := [(some 46, none, (.mv (.tmp 8))), (some 47, none, (.bin .add (.const (.string ⟨#[45]⟩)) (.tmp 46))), (some 2, none, (.mv (.tmp 47)))]
def r16 : List G := [(some 48, none, (.mv (.tmp 8))), (some 2, none, (.mv (.tmp 48)))]
def c : MC := (.seq (.reg r0 (some [1])) (.seq (.reg r1 (some [1])) (.seq (.reg r2 (some [1, 3])) (.seq (.seq (.reg r3 (some [1, 3, 4])) (.block 0 (.loop (.seq (.block 1 (.seq (.reg r4 (some [1, 3, 4, 5, 6])) (.seq (.reg r5 (some [1, 3, 4, 5, 7])) (.seq (.seq (.reg r6 (some [1, 3, 4, 5, 7, 24])) (.cond (.tmp 24) (.seq (.reg r7 (some [1, 3])) (.exit 0)) .skip)) (.seq (.reg r8 (some [1, 3, 4, 5])) (.reg r9 (some [1, 3, 4]))))))) (.seq (.reg r10 (some [1, 3, 39])) (.reg r11 (some [1, 3, 4]))))))) (.seq (.reg r12 (some [1, 3])) (.seq (.reg r13 (some [1, 8])) (.seq (.seq (.reg r14 (some [8, 45])) (.cond (.tmp 45) (.seq (.reg r15 (some [2])) .ret) .skip)) (.seq (.reg r16 (some [2])) .ret))))))))
def ann : Ann := [(0, (some [1], 0, [], [], [])), (1, (some [1], 0, [], [], [])), (2, (some [1, 3], 0, [], [], [])), (3, (some [1, 3, 4], 0, [], [], [])), (4, (some [1, 3, 4, 5, 6], 0, [], [], [])), (5, (some [1, 3, 4, 5, 7], 0, [], [], [])), (6, (some [1, 3, 4, 5, 7, 24], 0, [], [], [])), (7, (some [1, 3], 0, [], [], [])), (8, (some [1, 3, 4, 5], 0, [], [], [])), (9, (some [1, 3, 4], 0, [], [], [])), (10, (some [1, 3, 39], 0, [], [], [])), (11, (some [1, 3, 4], 0, [], [], [])), (12, (some [1, 3], 0, [], [], [])), (13, (some [1, 8], 0, [], [], [])), (14, (some [8, 45], 0, [], [], [])), (15, (some [2], 0, [], [], [])), (16, (some [2], 0, [], [], []))]
theorem ok : compF Tryd.prog Tryd.f24 ann = some (49, c, [(2, none)]) := by kernel_rfl
def p1 (S : St) : Prop := ops C r16 (kq [2] R) S
def p3 (S : St) : Prop := ops C r15 (kq [2] R) S
def p2 (S : St) : Prop := condX (S.ev (.tmp 45)) (p3 C R) (p1 C R) S
def p4 (S : St) : Prop := ops C r14 (kq [8, 45] (p2 C R)) S
def p5 (S : St) : Prop := ops C r13 (kq [1, 8] (p4 C R)) S
def p6 (S : St) : Prop := ops C r12 (kq [1, 3] (p5 C R)) S
def p8 (S : St) : Prop := ops C r11 (kq [1, 3, 4] L1) S
def p9 (S : St) : Prop := ops C r10 (kq [1, 3, 39] (p8 C L1)) S
def p10 (S : St) : Prop := ops C r9 (kq [1, 3, 4] (p9 C L1)) S
def p11 (S : St) : Prop := ops C r8 (kq [1, 3, 4, 5] (p10 C L1)) S
def p13 (S : St) : Prop := ops C r7 (kq [1, 3] (p6 C R)) S
def p12 (S : St) : Prop := condX (S.ev (.tmp 24)) (p13 C R) (p11 C L1) S
def p14 (S : St) : Prop := ops C r6 (kq [1, 3, 4, 5, 7, 24] (p12 C R L1)) S
def p15 (S : St) : Prop := ops C r5 (kq [1, 3, 4, 5, 7] (p14 C R L1)) S
def p16 (S : St) : Prop := ops C r4 (kq [1, 3, 4, 5, 6] (p15 C R L1)) S
def p7 (S : St) : Prop := LX C (fun L1 => (p16 C R L1)) S
theorem p7_l (S : St) : p7 C R S = LX C (fun L1 => (p16 C R L1)) S := rfl
def p17 (S : St) : Prop := ops C r3 (kq [1, 3, 4] (p7 C R)) S
def p18 (S : St) : Prop := ops C r2 (kq [1, 3] (p17 C R)) S
def p19 (S : St) : Prop := ops C r1 (kq [1] (p18 C R)) S
def p20 (S : St) : Prop := ops C r0 (kq [1] (p19 C R)) S
theorem s (S : St) : X C c (retK R) S = p20 C R S := by kernel_rfl
theorem E : type_of% @r16.eq_1 ∧ type_of% @p1.eq_1 ∧ type_of% @r15.eq_1 ∧ type_of% @p3.eq_1 ∧ type_of% @p2.eq_1 ∧ type_of% @r14.eq_1 ∧ type_of% @p4.eq_1 ∧ type_of% @r13.eq_1 ∧ type_of% @p5.eq_1 ∧ type_of% @r12.eq_1 ∧ type_of% @p6.eq_1 ∧ type_of% @r11.eq_1 ∧ type_of% @p8.eq_1 ∧ type_of% @r10.eq_1 ∧ type_of% @p9.eq_1 ∧ type_of% @r9.eq_1 ∧ type_of% @p10.eq_1 ∧ type_of% @r8.eq_1 ∧ type_of% @p11.eq_1 ∧ type_of% @r7.eq_1 ∧ type_of% @p13.eq_1 ∧ type_of% @p12.eq_1 ∧ type_of% @r6.eq_1 ∧ type_of% @p14.eq_1 ∧ type_of% @r5.eq_1 ∧ type_of% @p15.eq_1 ∧ type_of% @r4.eq_1 ∧ type_of% @p16.eq_1 ∧ type_of% @r3.eq_1 ∧ type_of% @p17.eq_1 ∧ type_of% @r2.eq_1 ∧ type_of% @p18.eq_1 ∧ type_of% @r1.eq_1 ∧ type_of% @p19.eq_1 ∧ type_of% @r0.eq_1 ∧ type_of% @p20.eq_1 ∧ type_of% @s := ⟨@r16.eq_1, @p1.eq_1, @r15.eq_1, @p3.eq_1, @p2.eq_1, @r14.eq_1, @p4.eq_1, @r13.eq_1, @p5.eq_1, @r12.eq_1, @p6.eq_1, @r11.eq_1, @p8.eq_1, @r10.eq_1, @p9.eq_1, @r9.eq_1, @p10.eq_1, @r8.eq_1, @p11.eq_1, @r7.eq_1, @p13.eq_1, @p12.eq_1, @r6.eq_1, @p14.eq_1, @r5.eq_1, @p15.eq_1, @r4.eq_1, @p16.eq_1, @r3.eq_1, @p17.eq_1, @r2.eq_1, @p18.eq_1, @r1.eq_1, @p19.eq_1, @r0.eq_1, @p20.eq_1, @s⟩
end wide_Text
namespace w02_known
def r0 : List G := [(some 0, none, (.mv (.const (.bool false))))]
def r1 : List G := [(some 7, none, (.call false 15 [(.const (.int .i64 (-3)))])), (some 8, none, (.call false 17 [(.const (.int .u64 9223372036854775808))])), (some 9, none, (.call false 12 [(.tmp 7), (.tmp 8)])), (some 6, none, (.mv (.tmp 9))), (some 10, none, (.ex (.tmp 6) 0)), (some 11, none, (.ex (.tmp 6) 1)), (some 1, none, (.new zW)), (none, none, (.st true 5 (.tmp 1) (.tmp 10))), (some 2, none, (.mv (.tmp 11)))]
def r2 : List G := [(some 13, none, (.call false 15 [(.const (.int .i64 (-7)))])), (some 14, none, (.call false 15 [(.const (.int .i64 2))])), (some 15, none, (.call false 20 [(.tmp 13), (.tmp 14)])), (some 12, none, (.mv (.tmp 15))), (some 16, none, (.ex (.tmp 12) 0)), (some 17, none, (.ex (.tmp 12) 1)), (some 18, none, (.ex (.tmp 12) 2)), (some 3, none, (.new zW)), (some 4, none, (.new zW)), (none, none, (.st true 5 (.tmp 3) (.tmp 16))), (none, none, (.st true 5 (.tmp 4) (.tmp 17))), (some 5, none, (.mv (.tmp 18)))]
def r3 : List G := [(some 19, none, (.mv (.tmp 2))), (some 20, none, (.mv (.tmp 19))), (some 21, some (20, true), (.mv (.tmp 5))), (some 22, none, (.pick (.tmp 20) (.tmp 21) (.const (.bool false)))), (some 23, none, (.mv (.tmp 22))), (some 24, some (23, true), (.ld true 5 (.tmp 1))), (some 25, some (23, true), (.call true 24 [(.tmp 24)])), (some 26, some (23, true), (.eqg false 9 (.tmp 25) (.const (.string ⟨#[45, 50, 55, 54, 55, 48, 49, 49, 54, 49, 49, 48, 53, 54, 52, 51, 50, 55, 52, 50, 52]⟩)))), (some 27, none, (.pick (.tmp 23) (.tmp 26) (.const (.bool false)))), (some 28, none, (.mv (.tmp 27))), (some 29, some (28, true), (.ld true 5 (.tmp 3))), (some 30, some (28, true), (.call true 15 [(.const (.int .i64 (-4)))])), (some 31, some (28, true), (.eqg false 28 (.tmp 29) (.tmp 30))), (some 32, none, (.pick (.tmp 28) (.tmp 31) (.const (.bool false)))), (some 33, none, (.mv (.tmp 32))), (some 34, some (33, true), (.ld true 5 (.tmp 4))), (some 35, some (33, true), (.call true 15 [(.const (.int .i64 1))])), (some 36, some (33, true), (.eqg false 28 (.tmp 34) (.tmp 35))), (some 37, none, (.pick (.tmp 33) (.tmp 36) (.const (.bool false)))), (some 38, none, (.mv (.tmp 37))), (some 39, some (38, true), (.ld true 5 (.tmp 1))), (some 40, some (38, true), (.call true 38 [(.tmp 39)])), (some 41, none, (.pick (.tmp 38) (.tmp 40) (.const (.bool false))))]
def t3 : List G := [(some 0, none, (.mv (.tmp 41)))]
def c : MC := (.seq (.reg r0 (some [])) (.seq (.reg r1 (some [1, 2])) (.seq (.reg r2 (some [1, 2, 3, 4, 5])) (.seq (.dreg r3 t3 (some [0])) .ret))))
def ann : Ann := [(0, (some [], 0, [], [], [])), (1, (some [1, 2], 0, [], [], [])), (2, (some [1, 2, 3, 4, 5], 0, [], [], [])), (3, (some [0], 23, [], [(0, 0), (1, 0), (2, 0), (3, 0), (4, 0), (5, 0), (6, 0), (7, 0), (8, 0), (9, 0), (10, 0), (11, 0), (12, 0), (13, 0), (14, 0), (15, 0), (16, 0), (17, 0), (18, 0), (19, 0), (20, 0), (21, 0), (22, 0)], []))]
theorem ok : compF Tryd.prog Tryd.f13 ann = some (42, c, [(0, none)]) := by kernel_rfl
def p1 (S : St) : Prop := ops C r3 (ops C t3 (kq [0] R)) S
def p2 (S : St) : Prop := ops C r2 (kq [1, 2, 3, 4, 5] (p1 C R)) S
def p3 (S : St) : Prop := ops C r1 (kq [1, 2] (p2 C R)) S
def p4 (S : St) : Prop := ops C r0 (kq [] (p3 C R)) S
theorem s (S : St) : X C c (retK R) S = p4 C R S := by kernel_rfl
theorem E : type_of% @r3.eq_1 ∧ type_of% @t3.eq_1 ∧ type_of% @p1.eq_1 ∧ type_of% @r2.eq_1 ∧ type_of% @p2.eq_1 ∧ type_of% @r1.eq_1 ∧ type_of% @p3.eq_1 ∧ type_of% @r0.eq_1 ∧ type_of% @p4.eq_1 ∧ type_of% @s := ⟨@r3.eq_1, @t3.eq_1, @p1.eq_1, @r2.eq_1, @p2.eq_1, @r1.eq_1, @p3.eq_1, @r0.eq_1, @p4.eq_1, @s⟩
end w02_known
end Go.Proofs.YtiiflgfnbgencaaDoor

/- Tx: The package wide: Text of one number (that of the sanity check). -/
namespace Go.Proofs.YtiiflgfnbgencaaDoor
open Go Go.RowKit Sx
set_option linter.unusedVariables false
set_option linter.unusedSimpArgs false
def s18 : ByteArray := ⟨#[54, 55, 48, 49, 49, 54, 49, 49, 48, 53, 54, 52, 51, 50, 55, 52, 50, 52]⟩
def s27 : ByteArray := ⟨#[50, 55]⟩
theorem en_fu (l : Array Value) (W : World) : (callFunc 41 l).run Tryd.prog W = .ok (.enter 41 l) W := Sx.en_of Tryd.func41 (by kernel_rfl) (by kernel_rfl) l W
theorem en_rep (l : Array Value) (W : World) : (callFunc 42 l).run Tryd.prog W = .ok (.enter 42 l) W := Sx.en_of Tryd.func42 (by kernel_rfl) (by kernel_rfl) l W
theorem en_rev (l : Array Value) (W : World) : (callFunc 43 l).run Tryd.prog W = .ok (.enter 43 l) W := Sx.en_of Tryd.func43 (by kernel_rfl) (by kernel_rfl) l W
theorem en_join (l : Array Value) (W : World) : (callFunc 44 l).run Tryd.prog W = .ok (.enter 44 l) W := Sx.en_of Tryd.func44 (by kernel_rfl) (by kernel_rfl) l W
def tabs (W : World) : Prop := Lib.TabIs Tryd.prog W "internal/strconv.uint64pow10" .u64 Lib.pow10Tab
theorem tabs_below {B : Nat} {W W' : World} (h : tabs W) (hB : W.heap.size = B) (hb : Below B W W') : tabs W' := by
  subst hB
  exact Lib.tabBelow_of_tabIs h W' hb
theorem fmt18 (W : World) (h : tabs W) : Gives Tryd.prog 41 [.int .u64 670116110564327424, .int .i64 10] W (· = .string s18) := by
  refine gives_known en_fu ?_
  have e : (⟨(Lib.decDigits 670116110564327424).toArray⟩ : ByteArray) = s18 := by decide +kernel
  rw [← e]
  exact fmtT 670116110564327424 (by decide) W h
theorem fmt27 (W : World) (h : tabs W) : Gives Tryd.prog 41 [.int .u64 27, .int .i64 10] W (· = .string s27) := by
  refine gives_known en_fu ?_
  have e : (⟨(Lib.decDigits 27).toArray⟩ : ByteArray) = s27 := by decide +kernel
  rw [← e]
  exact fmtT 27 (by decide) W h
theorem rep0 (W : World) : Gives Tryd.prog 42 [.string ⟨#[48]⟩, .int .i64 0] W (· = .string ⟨#[]⟩) :=
  gives_known en_rep ((Tryd.strings_Repeat_zero _ W).mono fun e w' ⟨h1, h2⟩ => ⟨h1, by rw [h2]; exact Below.refl _ _⟩)
namespace Sx
variable {C : Cx} {S : St} {K : St → Prop} {d : Option Nat}
/-- Block b reads as these cells; it has room for cap. -/
def rK (b cap : Nat) (cs : List Value) : KnG where
  bs := [b]
  ok n W := n ≤ b ∧ b < W.heap.size ∧ cs.length ≤ cap ∧ ∀ (j : Nat) x, cs[j]? = some x → W.cell? ⟨b, j, none⟩ = some x
  lt := fun {n W} h c hc => by rw [List.mem_singleton.1 hc]; exact ⟨h.1, h.2.1⟩
  keep := fun {n W W'} h hs hb ho => ⟨h.1, Nat.lt_of_lt_of_le h.2.1 hs, h.2.2.1, fun j x hj => (World.cell?_of_block (a := ⟨b, j, none⟩) (hb b (List.mem_singleton.2 rfl))).trans (h.2.2.2 j x hj)⟩
end Sx
theorem setCells_more (g : Nat) : ∀ (vs : List Value) (o : Nat) (w : World), (w.setCells g o vs).tape = w.tape ∧ (w.setCells g o vs).heap.size = w.heap.size
  | [], o, w => ⟨rfl, rfl⟩
  | v :: r, o, w => by
    rw [World.setCells]
    obtain ⟨h1, h2⟩ := setCells_more g r (o + 1) (w.setCell ⟨g, o, none⟩ v)
    exact ⟨h1.trans (by unfold World.setCell; (repeat' split) <;> rfl), h2.trans (World.size_setCell _ _ _)⟩
/-- slices.Reverse of a row of two texts. -/
theorem asks_rev {C : Cx} {S : St} {K : St → Prop} {d : Option Nat} {L : List Kn} {g cap : Nat} {a b : ByteArray} (hP : C.P = Tryd.prog) (hT : S.T = kX C.w0.heap.size L) (hm : .g (wK 9 1 (.slice (some ⟨g, 0, none⟩) 2 cap) 2 [.string a, .string b]) ∈ L)
    (hmv : g ∈ C.mv S) (hbs : g ∈ S.T.bs)
    (hk : K (St.put ⟨S.n, S.E, S.H, kX C.w0.heap.size [.g (rK g cap [.string b, .string a])]⟩ d (.v (.tuple #[])))) : asks C 43 [.slice (some ⟨g, 0, none⟩) 2 cap] d K S := by
  refine asks_kn (ι := Unit) (L := L) (gs := [g]) (fun _ => .tuple #[]) (fun _ => [.g (rK g cap [.string b, .string a])]) (by rw [hP]; exact en_rev) hT (fun x hx => by rw [List.mem_singleton.1 hx]; exact hmv) (fun W hok x hx => by
    rw [List.mem_singleton.1 hx]
    exact ((hok _ hm).lt g (by simp [Kn.bs, wK, Value.ownBlock])).1) (fun W hW hok => ?_) fun _ => hk
  rw [hP]
  have ho : W.ownsRow C.w0.heap.size 9 1 (.slice (some ⟨g, 0, none⟩) 2 cap) 2 [.string a, .string b] := hok _ hm
  have hlt := ho.lt g rfl
  have hcell : ∀ (j : Nat) x, [Value.string a, .string b][j]? = some x → W.cell? ⟨g, j, none⟩ = some x := fun j x hj => by
    have := ho.cells (g := g) rfl j x hj
    rw [Addr.add_lit, Nat.zero_add] at this
    exact this
  have hcap : 2 ≤ cap := by
    rcases ho.2 with ⟨h, -⟩ | ⟨g', cap', cur, h, -, -, hn, -⟩
    · cases h
    · cases h; exact hn
  have hfz : ∀ j, W.frozen? ⟨g, j, none⟩ = false := fun j => by
    rcases ho.2 with ⟨h, -⟩ | ⟨g', cap', cur, h, -, hg, -⟩
    · cases h
    · cases h
      simp [World.frozen?, hg]
  have hc : ∀ i, i < 2 → W.cell? ⟨g, 0 + i, none⟩ = some (.string ((fun i => if i = 0 then a else b) i)) := fun i hi => by
    rcases i with _ | _ | i
    · exact hcell 0 _ rfl
    · exact hcell 1 _ rfl
    · omega
  refine (Tryd.slices_Reverse_string_cells g 0 2 cap (fun i => if i = 0 then a else b) W (by decide) hc (fun j _ => hfz _)).mono fun e w' ⟨h1, q, h2⟩ => ⟨(), h1, ?_, ?_⟩
  · subst h2
    refine ⟨?_, ?_, ?_, ?_, ?_⟩
    · rw [World.os_setCells]; rfl
    · rw [(setCells_more g _ 0 (W.drewN q)).1]; rfl
    · rw [World.output_setCells]; rfl
    · rw [(setCells_more g _ 0 (W.drewN q)).2]; exact Nat.le_refl _
    · intro i hi hn
      exact World.heap_setCells_other _ g 0 _ hi fun e => hn (by rw [e]; exact List.mem_singleton.2 rfl)
  · intro k hk
    rw [List.mem_singleton.1 hk]
    right
    refine ⟨?_, fun x hx => .inl ?_⟩
    · subst h2
      have hv : (Lib.strsOf (fun i => if i = 0 then a else b) 2).reverse.map encStr = [Value.string b, .string a] := by
        show [encStr b.data.toList, encStr a.data.toList] = _
        simp [encStr]
      rw [hv]
      have hsome : ∀ j, j < [Value.string b, Value.string a].length → ((W.drewN q).cell? ⟨g, 0 + j, none⟩).isSome = true := fun j hj => by
        rw [World.cell?_drewN, hc j hj]; rfl
      refine ⟨hlt.1, by rw [(setCells_more g _ 0 (W.drewN q)).2]; exact hlt.2, hcap, fun j x hj => ?_⟩
      have hj' : j < 2 := by
        rcases j with _ | _ | j
        · omega
        · omega
        · cases hj
      have := World.cell?_setCells_in g [Value.string b, .string a] 0 (W.drewN q) hsome j hj'
      rw [Nat.zero_add] at this
      rw [this, ← hj, List.getElem?_eq_getElem hj']
    · rw [show x = g from List.mem_singleton.1 hx]
      exact hbs
def sJ : ByteArray := ⟨#[50, 55, 54, 55, 48, 49, 49, 54, 49, 49, 48, 53, 54, 52, 51, 50, 55, 52, 50, 52]⟩
theorem asks_join {C : Cx} {S : St} {K : St → Prop} {d : Option Nat} {g cap : Nat} (hP : C.P = Tryd.prog) (hT : S.T = kX C.w0.heap.size [.g (rK g cap [.string s27, .string s18])])
    (hk : K (St.put ⟨S.n, S.E, S.H, kX C.w0.heap.size [.g (rK g cap [.string s27, .string s18])]⟩ d (.v (.string sJ)))) : asks C 44 [.slice (some ⟨g, 0, none⟩) 2 cap, .string ⟨#[]⟩] d K S := by
  refine asks_kn (ι := Unit) (L := [.g (rK g cap [.string s27, .string s18])]) (gs := []) (fun _ => .string sJ) (fun _ => [.g (rK g cap [.string s27, .string s18])]) (by rw [hP]; exact en_join) hT (fun x hx => by cases hx) (fun W hok x hx => by cases hx) (fun W hW hok => ?_) fun _ => hk
  rw [hP]
  obtain ⟨h1, h2, h3, h4⟩ : (rK g cap [.string s27, .string s18]).ok C.w0.heap.size W := hok _ (List.mem_singleton.2 rfl)
  refine (Tryd.strings_Join g 0 cap [s27, s18] ⟨#[]⟩ W (fun j x hj => ?_) h2 (by decide) h3 (by decide)).mono fun e w' ⟨e1, e2⟩ => ⟨(), ?_, moves_below e2, fun k hk => .inl ⟨hk, fun _ _ h => by cases h⟩⟩
  · rw [Nat.zero_add]
    refine h4 j _ ?_
    rcases j with _ | _ | j
    · cases hj; rfl
    · cases hj; rfl
    · cases hj
  · rw [e1]
    have : (⟨(Lib.join ([s27, s18].map (·.data.toList)) (⟨#[]⟩ : ByteArray).data.toList).toArray⟩ : ByteArray) = sJ := by decide +kernel
    rw [this]
theorem info_str : (Tryd.prog.info? 9).map (fun i => (i.zero, i.size, i.bytes)) = some (some (.string ⟨#[]⟩), 1, 16) := by kernel_rfl
set_option maxRecDepth 100000 in
set_option maxHeartbeats 1000000 in
theorem g_text (W : World) (ht : tabs W) : Gives Tryd.prog 24 [.agg #[.bool true, .int .u64 9223372036854775808, .int .u64 1, .int .u64 0, .int .u64 0]] W (· = .string ⟨#[45, 50, 55, 54, 55, 48, 49, 49, 54, 49, 49, 48, 53, 54, 52, 51, 50, 55, 52, 50, 52]⟩) := by
  have cl : ∀ W, Gives Tryd.prog 32 [.agg #[.bool true, .int .u64 9223372036854775808, .int .u64 1, .int .u64 0, .int .u64 0]] W (· = .agg #[.bool true, .int .u64 9223372036854775808, .int .u64 1, .int .u64 0, .int .u64 0]) := fun W => g_clean true 9223372036854775808 1 0 0 W
  have dv1 : ∀ W, Gives Tryd.prog 39 [.agg #[.int .u64 9223372036854775808, .int .u64 1, .int .u64 0, .int .u64 0], .agg #[.int .u64 1000000000000000000, .int .u64 0, .int .u64 0, .int .u64 0]] W (· = .tuple #[.agg #[.int .u64 27, .int .u64 0, .int .u64 0, .int .u64 0], .agg #[.int .u64 670116110564327424, .int .u64 0, .int .u64 0, .int .u64 0]]) := fun W => g_div (a := 27670116110564327424) (b := 1000000000000000000) ⟨by decide, by decide⟩ ⟨by decide, by decide⟩ (by decide) W
  have dv2 : ∀ W, Gives Tryd.prog 39 [.agg #[.int .u64 27, .int .u64 0, .int .u64 0, .int .u64 0], .agg #[.int .u64 1000000000000000000, .int .u64 0, .int .u64 0, .int .u64 0]] W (· = .tuple #[.agg #[.int .u64 0, .int .u64 0, .int .u64 0, .int .u64 0], .agg #[.int .u64 27, .int .u64 0, .int .u64 0, .int .u64 0]]) := fun W => g_div (a := 27) (b := 1000000000000000000) ⟨by decide, by decide⟩ ⟨by decide, by decide⟩ (by decide) W
  have f1 := fun W' (hb : Below W.heap.size W W') => fmt18 W' (tabs_below ht rfl hb)
  have f2 := fun W' (hb : Below W.heap.size W W') => fmt27 W' (tabs_below ht rfl hb)
  have z1 : s18.size = 18 := rfl
  have q1 : meq 27 0 0 0 0 0 0 0 = false := rfl
  have q2 : meq 0 0 0 0 0 0 0 0 = true := rfl
  have c1 : ¬ (((⟨#[]⟩ : ByteArray).size + s18.size : Nat) : Int) > IntKind.i64.max := by decide
  have c3 : ¬ (((⟨#[45]⟩ : ByteArray).size + sJ.size : Nat) : Int) > IntKind.i64.max := by decide
  have c4 : (⟨#[45]⟩ : ByteArray) ++ sJ = ⟨#[45, 50, 55, 54, 55, 48, 49, 49, 54, 49, 49, 48, 53, 54, 52, 51, 50, 55, 52, 50, 52]⟩ := by decide +kernel
  have c2 : (⟨#[]⟩ : ByteArray) ++ s18 = s18 := by decide +kernel
  refine gives_known en_wide_Text ?_
  refine known_of (enter Tryd.func24 wide_Text.ok (args := [_]) (by simp) ?_)
  repeat' (first | simp (disch := omega) only [sxE, wide_Text.E, Nat.reduceAdd, Nat.reduceEqDiff, Nat.reduceMul, Nat.reduceSub, Int.reduceAdd, Int.reduceSub, Int.reduceMul, Int.reduceNeg, Int.reduceLT, Int.reduceLE, Int.reduceEq, Int.reduceToNat, ↓reduceIte, Int.reducePow, Nat.reduceLeDiff, Nat.reduceLT, ne_eq, eq_self, List.length_cons, List.length_nil, q1, q2, c1, c2, z1] | (with_reducible refine Sx.call_at (f := 32) (fun W hW => cl W) ?_) | (with_reducible refine Sx.call_at (f := 39) (fun W hW => dv1 W) ?_) | (with_reducible refine Sx.call_at (f := 39) (fun W hW => dv2 W) ?_) | (with_reducible refine Sx.call_at (f := 41) (fun W hW => f1 W hW) ?_) | (with_reducible refine Sx.call_at (f := 41) (fun W hW => f2 W hW) ?_) | (with_reducible refine Sx.call_at (f := 42) (fun W hW => rep0 W) ?_) | (with_reducible refine eq_is (fun W => by exact eqm_run _ _ _ _ _ _ _ _ W) ?_) | (rw [wide_Text.p7_l]) | (with_reducible apply LX_round))
  obtain ⟨i0, hi, hz0, hz1, hz2⟩ := info_parts info_str
  refine genA_c (L := []) (cs := [.string s18]) (T := 9) (fun b => .slice (some ⟨b, 0, none⟩) 1 1) (kX_nil _) (fun W => by kernel_rfl) fun b1 hb1 => ?_
  clear hb1
  repeat' (first | simp (disch := omega) only [sxE, wide_Text.E, Nat.reduceAdd, Nat.reduceEqDiff, Nat.reduceMul, Nat.reduceSub, Int.reduceAdd, Int.reduceSub, Int.reduceMul, Int.reduceNeg, Int.reduceLT, Int.reduceLE, Int.reduceEq, Int.reduceToNat, ↓reduceIte, Int.reducePow, Nat.reduceLeDiff, Nat.reduceLT, ne_eq, eq_self, List.length_cons, List.length_nil, q1, q2, c1, c2, z1] | (with_reducible refine Sx.call_at (f := 39) (fun W hW => dv1 W) ?_) | (with_reducible refine Sx.call_at (f := 39) (fun W hW => dv2 W) ?_) | (with_reducible refine Sx.call_at (f := 41) (fun W hW => f1 W hW) ?_) | (with_reducible refine Sx.call_at (f := 41) (fun W hW => f2 W hW) ?_) | (with_reducible refine Sx.call_at (f := 42) (fun W hW => rep0 W) ?_) | (with_reducible refine eq_is (fun W => by exact eqm_run _ _ _ _ _ _ _ _ W) ?_) | (rw [wide_Text.p7_l]) | (with_reducible apply LX_round))
  refine genA_grow (P := Tryd.prog) rfl (L := [.g (cK b1 [.string s18])]) (fun g cap => [.g (wK 9 1 (.slice (some ⟨g, 0, none⟩) (0 + 1) cap) (0 + 1) ([] ++ [.string s18]))]) Tryd.underlying67 hi hz0 hz1 hz2 rfl (by decide) rfl (fun W _ => World.ownsRow_nil _ _ _ _) (fun g h => by cases h) (List.mem_singleton.2 rfl) rfl (by decide) (fun u hu => by rw [List.mem_singleton.1 hu]; rfl) (by decide) (by decide) (fun g cap k hk => .inl (List.mem_singleton.1 hk)) fun g cap => ?_
  simp only [Nat.zero_add, List.nil_append]
  repeat' (first | simp (disch := omega) only [sxE, wide_Text.E, Nat.reduceAdd, Nat.reduceEqDiff, Nat.reduceMul, Nat.reduceSub, Int.reduceAdd, Int.reduceSub, Int.reduceMul, Int.reduceNeg, Int.reduceLT, Int.reduceLE, Int.reduceEq, Int.reduceToNat, ↓reduceIte, Int.reducePow, Nat.reduceLeDiff, Nat.reduceLT, ne_eq, eq_self, List.length_cons, List.length_nil, q1, q2, c1, c2, z1] | (with_reducible refine Sx.call_at (f := 39) (fun W hW => dv1 W) ?_) | (with_reducible refine Sx.call_at (f := 39) (fun W hW => dv2 W) ?_) | (with_reducible refine Sx.call_at (f := 41) (fun W hW => f1 W hW) ?_) | (with_reducible refine Sx.call_at (f := 41) (fun W hW => f2 W hW) ?_) | (with_reducible refine Sx.call_at (f := 42) (fun W hW => rep0 W) ?_) | (with_reducible refine eq_is (fun W => by exact eqm_run _ _ _ _ _ _ _ _ W) ?_) | (rw [wide_Text.p7_l]) | (with_reducible apply LX_round))
  refine genA_c (L := [.g (wK 9 1 (.slice (some ⟨g, 0, none⟩) 1 cap) 1 [.string s18])]) (cs := [.string s27]) (T := 9) (fun b => .slice (some ⟨b, 0, none⟩) 1 1) rfl (fun W => by kernel_rfl) fun b2 hb2 => ?_
  clear hb2
  repeat' (first | simp (disch := omega) only [sxE, wide_Text.E, Nat.reduceAdd, Nat.reduceEqDiff, Nat.reduceMul, Nat.reduceSub, Int.reduceAdd, Int.reduceSub, Int.reduceMul, Int.reduceNeg, Int.reduceLT, Int.reduceLE, Int.reduceEq, Int.reduceToNat, ↓reduceIte, Int.reducePow, Nat.reduceLeDiff, Nat.reduceLT, ne_eq, eq_self, List.length_cons, List.length_nil, q1, q2, c1, c2, z1] | (with_reducible refine Sx.call_at (f := 39) (fun W hW => dv1 W) ?_) | (with_reducible refine Sx.call_at (f := 39) (fun W hW => dv2 W) ?_) | (with_reducible refine Sx.call_at (f := 41) (fun W hW => f1 W hW) ?_) | (with_reducible refine Sx.call_at (f := 41) (fun W hW => f2 W hW) ?_) | (with_reducible refine Sx.call_at (f := 42) (fun W hW => rep0 W) ?_) | (with_reducible refine eq_is (fun W => by exact eqm_run _ _ _ _ _ _ _ _ W) ?_) | (rw [wide_Text.p7_l]) | (with_reducible apply LX_round))
  refine genA_grow (P := Tryd.prog) rfl (L := [.g (cK b2 [.string s27]), .g (wK 9 1 (.slice (some ⟨g, 0, none⟩) 1 cap) 1 [.string s18])]) (fun g cap => [.g (wK 9 1 (.slice (some ⟨g, 0, none⟩) (1 + 1) cap) (1 + 1) ([.string s18] ++ [.string s27]))]) Tryd.underlying67 hi hz0 hz1 hz2 rfl (by decide) rfl (fun W hok => hok (.g (wK 9 1 (.slice (some ⟨g, 0, none⟩) 1 cap) 1 [.string s18])) (List.mem_cons_of_mem _ (List.mem_singleton.2 rfl))) (fun g' h => by
    cases h
    have hm : g ∈ (kX W.heap.size [.g (cK b2 [.string s27]), .g (wK 9 1 (.slice (some ⟨g, 0, none⟩) 1 cap) 1 [.string s18])]).bs := kX_bs.2 ⟨_, List.mem_cons_of_mem _ (List.mem_singleton.2 rfl), by simp [Kn.bs, wK, Value.ownBlock]⟩
    exact ⟨hm, hm⟩) List.mem_cons_self rfl (by decide) (fun u hu => by rw [List.mem_singleton.1 hu]; rfl) (by decide) (by decide) (fun g cap k hk => .inl (List.mem_singleton.1 hk)) fun g2 cap2 => ?_
  simp only [Nat.reduceAdd, List.cons_append, List.nil_append]
  clear f1 f2
  repeat' (first | simp (disch := omega) only [sxE, wide_Text.E, Nat.reduceAdd, Nat.reduceEqDiff, Nat.reduceMul, Nat.reduceSub, Int.reduceAdd, Int.reduceSub, Int.reduceMul, Int.reduceNeg, Int.reduceLT, Int.reduceLE, Int.reduceEq, Int.reduceToNat, ↓reduceIte, Int.reducePow, Nat.reduceLeDiff, Nat.reduceLT, ne_eq, eq_self, List.length_cons, List.length_nil, q1, q2, c1, c2, z1])
  have hm : g2 ∈ (kX W.heap.size [.g (wK 9 1 (.slice (some ⟨g2, 0, none⟩) 2 cap2) 2 [.string s18, .string s27])]).bs := kX_bs.2 ⟨_, List.mem_singleton.2 rfl, by simp [Kn.bs, wK, Value.ownBlock]⟩
  refine asks_rev rfl rfl (List.mem_singleton.2 rfl) hm hm ?_
  repeat' (first | simp (disch := omega) only [sxE, wide_Text.E, Nat.reduceAdd, Nat.reduceEqDiff, Nat.reduceMul, Nat.reduceSub, Int.reduceAdd, Int.reduceSub, Int.reduceMul, Int.reduceNeg, Int.reduceLT, Int.reduceLE, Int.reduceEq, Int.reduceToNat, ↓reduceIte, Int.reducePow, Nat.reduceLeDiff, Nat.reduceLT, ne_eq, eq_self, List.length_cons, List.length_nil, q1, q2, c1, c2, z1])
  refine asks_join rfl rfl ?_
  repeat' (first | simp (disch := omega) only [sxE, wide_Text.E, Nat.reduceAdd, Nat.reduceEqDiff, Nat.reduceMul, Nat.reduceSub, Int.reduceAdd, Int.reduceSub, Int.reduceMul, Int.reduceNeg, Int.reduceLT, Int.reduceLE, Int.reduceEq, Int.reduceToNat, ↓reduceIte, Int.reducePow, Nat.reduceLeDiff, Nat.reduceLT, ne_eq, eq_self, List.length_cons, List.length_nil, c3, c4])
end Go.Proofs.YtiiflgfnbgencaaDoor

/- Ty: The package wide: Text, for all Wides. (Printed by gen/text.py.) -/
namespace Go.Proofs.YtiiflgfnbgencaaDoor
open Go Go.RowKit Sx
set_option linter.unusedVariables false
set_option linter.unusedSimpArgs false
/-- The last k digits. -/
def pd : Nat → Nat → List UInt8
  | 0, _ => []
  | k + 1, r => pd k (r / 10) ++ [UInt8.ofNat (48 + r % 10)]
theorem dec_big {u : Nat} (h : ¬ u < 10) : Lib.decDigits u = Lib.decDigits (u / 10) ++ [UInt8.ofNat (48 + u % 10)] := by rw [Lib.decDigits, dif_neg h]
theorem dec_split : ∀ (k q r : Nat), 0 < q → r < 10 ^ k → Lib.decDigits (q * 10 ^ k + r) = Lib.decDigits q ++ pd k r
  | 0, q, r, hq, hr => by
    have : r = 0 := by simpa using hr
    subst this
    simp [pd]
  | k + 1, q, r, hq, hr => by
    have e0 : 10 ^ (k + 1) = 10 * 10 ^ k := by rw [Nat.pow_succ, Nat.mul_comm]
    have hp : 0 < 10 ^ k := Nat.pos_of_ne_zero (by simp)
    have e1 : (q * 10 ^ (k + 1) + r) / 10 = q * 10 ^ k + r / 10 := by
      rw [e0, Nat.mul_left_comm, Nat.mul_add_div (by decide)]
    have e2 : (q * 10 ^ (k + 1) + r) % 10 = r % 10 := by
      rw [e0, Nat.mul_left_comm, Nat.mul_add_mod]
    have hb : ¬ q * 10 ^ (k + 1) + r < 10 := by
      have : 1 * 10 ^ (k + 1) ≤ q * 10 ^ (k + 1) := Nat.mul_le_mul_right _ hq
      rw [e0] at *
      omega
    rw [dec_big hb, e1, e2, dec_split k q (r / 10) hq (by rw [e0] at hr; omega), List.append_assoc]
    rfl
theorem pd_zero : ∀ k, pd k 0 = List.replicate k 48
  | 0 => rfl
  | k + 1 => by
    show pd k 0 ++ [UInt8.ofNat 48] = _
    rw [pd_zero k, List.replicate_succ']
    rfl
theorem pd_pad : ∀ (k r : Nat), 0 < k → r < 10 ^ k → pd k r = List.replicate (k - (Lib.decDigits r).length) 48 ++ Lib.decDigits r ∧ (Lib.decDigits r).length ≤ k
  | 1, r, _, hr => by
    have h : r < 10 := by simpa using hr
    rw [Lib.decDigits_one h]
    have : r % 10 = r := Nat.mod_eq_of_lt h
    simp [pd, this]
  | k + 2, r, _, hr => by
    have e0 : 10 ^ (k + 2) = 10 * 10 ^ (k + 1) := by rw [Nat.pow_succ 10 (k + 1), Nat.mul_comm]
    obtain ⟨h1, h2⟩ := pd_pad (k + 1) (r / 10) (by omega) (by rw [e0] at hr; omega)
    by_cases h : r < 10
    · have d0 : r / 10 = 0 := by omega
      have d1 : r % 10 = r := Nat.mod_eq_of_lt h
      refine ⟨?_, by rw [Lib.decDigits_one h]; simp⟩
      show pd (k + 1) (r / 10) ++ [UInt8.ofNat (48 + r % 10)] = _
      rw [d0, d1, pd_zero, Lib.decDigits_one h]
      rfl
    · rw [dec_big h]
      refine ⟨?_, by rw [List.length_append]; simp; omega⟩
      show pd (k + 1) (r / 10) ++ [UInt8.ofNat (48 + r % 10)] = _
      rw [h1, List.append_assoc, List.length_append]
      congr 2
      simp
theorem strs_map (xs : List ByteArray) : Lib.strsOf (fun i => xs.getD i ⟨#[]⟩) xs.length = xs.map (·.data.toList) := by
  unfold Lib.strsOf
  refine List.ext_getElem (by simp) fun i h1 h2 => ?_
  have hi : i < xs.length := by simpa using h2
  simp [List.getD, hi]
theorem asks_revL {C : Cx} {S : St} {K : St → Prop} {d : Option Nat} {L : List Kn} {g cap : Nat} (xs : List ByteArray) (hx : xs.length ≤ 9223372036854775807) (h0 : 0 < xs.length) (hP : C.P = Tryd.prog) (hT : S.T = kX C.w0.heap.size L) (hm : .g (wK 9 1 (.slice (some ⟨g, 0, none⟩) xs.length cap) xs.length (xs.map .string)) ∈ L)
    (hmv : g ∈ C.mv S) (hbs : g ∈ S.T.bs)
    (hk : K (St.put ⟨S.n, S.E, S.H, kX C.w0.heap.size [.g (rK g cap (xs.reverse.map .string))]⟩ d (.v (.tuple #[])))) : asks C 43 [.slice (some ⟨g, 0, none⟩) xs.length cap] d K S := by
  refine asks_kn (ι := Unit) (L := L) (gs := [g]) (fun _ => .tuple #[]) (fun _ => [.g (rK g cap (xs.reverse.map .string))]) (by rw [hP]; exact en_rev) hT (fun x hx => by rw [List.mem_singleton.1 hx]; exact hmv) (fun W hok x hx => by
    rw [List.mem_singleton.1 hx]
    exact ((hok _ hm).lt g (by simp [Kn.bs, wK, Value.ownBlock])).1) (fun W hW hok => ?_) fun _ => hk
  rw [hP]
  have ho : W.ownsRow C.w0.heap.size 9 1 (.slice (some ⟨g, 0, none⟩) xs.length cap) xs.length (xs.map .string) := hok _ hm
  have hlt := ho.lt g rfl
  have hcap : xs.length ≤ cap := by
    rcases ho.2 with ⟨h, -⟩ | ⟨g', cap', cur, h, -, -, hn, -⟩
    · cases h
    · cases h; exact hn
  have hfz : ∀ j, W.frozen? ⟨g, j, none⟩ = false := fun j => by
    rcases ho.2 with ⟨h, -⟩ | ⟨g', cap', cur, h, -, hg, -⟩
    · cases h
    · cases h
      simp [World.frozen?, hg]
  have hc : ∀ i, i < xs.length → W.cell? ⟨g, 0 + i, none⟩ = some (.string ((fun i => xs.getD i ⟨#[]⟩) i)) := fun i hi => by
    have := ho.cells (g := g) rfl i (.string xs[i]) (by simp [hi])
    rw [Addr.add_lit] at this
    rw [this]
    simp [List.getD, hi]
  refine (Tryd.slices_Reverse_string_cells g 0 xs.length cap (fun i => xs.getD i ⟨#[]⟩) W hx hc (fun j _ => hfz _)).mono fun e w' ⟨h1, q, h2⟩ => ⟨(), h1, ?_, ?_⟩
  · subst h2
    refine ⟨?_, ?_, ?_, ?_, ?_⟩
    · rw [World.os_setCells]; rfl
    · rw [(setCells_more g _ 0 (W.drewN q)).1]; rfl
    · rw [World.output_setCells]; rfl
    · rw [(setCells_more g _ 0 (W.drewN q)).2]; exact Nat.le_refl _
    · intro i hi hn
      exact World.heap_setCells_other _ g 0 _ hi fun e => hn (by rw [e]; exact List.mem_singleton.2 rfl)
  · intro k hk
    rw [List.mem_singleton.1 hk]
    right
    refine ⟨?_, fun x hx => .inl (by rw [show x = g from List.mem_singleton.1 hx]; exact hbs)⟩
    subst h2
    have hv : (Lib.strsOf (fun i => xs.getD i ⟨#[]⟩) xs.length).reverse.map encStr = xs.reverse.map Value.string := by
      rw [strs_map, ← List.map_reverse, List.map_map]
      refine List.map_congr_left fun x _ => ?_
      simp [encStr]
    rw [hv]
    have hsome : ∀ j, j < (xs.reverse.map Value.string).length → ((W.drewN q).cell? ⟨g, 0 + j, none⟩).isSome = true := fun j hj => by
      rw [World.cell?_drewN, hc j (by simpa using hj)]; rfl
    refine ⟨hlt.1, by rw [(setCells_more g _ 0 (W.drewN q)).2]; exact hlt.2, by simpa using hcap, fun j x hj => ?_⟩
    have hj' : j < (xs.reverse.map Value.string).length := (List.getElem?_eq_some_iff.1 hj).1
    have := World.cell?_setCells_in g (xs.reverse.map Value.string) 0 (W.drewN q) hsome j hj'
    rw [Nat.zero_add] at this
    rw [this, ← hj, List.getElem?_eq_getElem hj']
theorem join_flat (xs : List (List UInt8)) : Lib.join xs [] = xs.flatten := by
  unfold Lib.join
  induction xs with
  | nil => rfl
  | cons x r ih =>
    cases r with
    | nil => simp [List.intercalate]
    | cons y r =>
      simp only [List.intercalate, List.intersperse] at ih ⊢
      simpa using ih
theorem asks_joinL {C : Cx} {S : St} {K : St → Prop} {d : Option Nat} {g cap : Nat} (xs : List ByteArray) (h1 : xs.length ≤ 140737488355328) (h2 : (xs.map (·.data.toList)).flatten.length ≤ 140737488355328) (hP : C.P = Tryd.prog) (hT : S.T = kX C.w0.heap.size [.g (rK g cap (xs.map .string))])
    (hk : K (St.put ⟨S.n, S.E, S.H, kX C.w0.heap.size [.g (rK g cap (xs.map .string))]⟩ d (.v (.string ⟨(xs.map (·.data.toList)).flatten.toArray⟩)))) : asks C 44 [.slice (some ⟨g, 0, none⟩) xs.length cap, .string ⟨#[]⟩] d K S := by
  refine asks_kn (ι := Unit) (L := [.g (rK g cap (xs.map .string))]) (gs := []) (fun _ => .string ⟨(xs.map (·.data.toList)).flatten.toArray⟩) (fun _ => [.g (rK g cap (xs.map .string))]) (by rw [hP]; exact en_join) hT (fun x hx => by cases hx) (fun W hok x hx => by cases hx) (fun W hW hok => ?_) fun _ => hk
  rw [hP]
  obtain ⟨k1, k2, k3, k4⟩ : (rK g cap (xs.map .string)).ok C.w0.heap.size W := hok _ (List.mem_singleton.2 rfl)
  have hj := join_flat (xs.map (·.data.toList))
  refine (Tryd.strings_Join g 0 cap xs ⟨#[]⟩ W (fun j x hx => ?_) k2 h1 (by simpa using k3) (by rw [hj]; exact h2)).mono fun e w' ⟨e1, e2⟩ => ⟨(), ?_, moves_below e2, fun k hk => .inl ⟨hk, fun _ _ h => by cases h⟩⟩
  · rw [Nat.zero_add]
    exact k4 j _ (by rw [List.getElem?_map, hx]; rfl)
  · rw [e1]
    show Ending.returned (.string ⟨(Lib.join (xs.map (·.data.toList)) []).toArray⟩) = _
    rw [hj]
structure Lv (u q r : Nat) : Prop where
  dv : ∀ W, Gives Tryd.prog 39 [.agg #[.int .u64 (lb0 u), .int .u64 (lb1 u), .int .u64 (lb2 u), .int .u64 (lb3 u)], .agg #[.int .u64 1000000000000000000, .int .u64 0, .int .u64 0, .int .u64 0]] W (· = .tuple #[.agg #[.int .u64 (lb0 q), .int .u64 (lb1 q), .int .u64 (lb2 q), .int .u64 (lb3 q)], .agg #[.int .u64 r, .int .u64 0, .int .u64 0, .int .u64 0]])
  a4 : A4 q
  lt : r < 10 ^ 18
  eq : u = q * 10 ^ 18 + r
  qe : q = u / 10 ^ 18
theorem me_small {r : Nat} (h : r < 10 ^ 18) : lb0 r = r ∧ lb1 r = 0 ∧ lb2 r = 0 ∧ lb3 r = 0 := by
  have h1 : (r : Int) < 18446744073709551616 := by
    have : (10 : Nat) ^ 18 = 1000000000000000000 := by decide
    omega
  have h0 : (0 : Int) ≤ r := by omega
  have u1 : up1 (r : Int) = 0 := Int.ediv_eq_zero_of_lt h0 h1
  refine ⟨Int.emod_eq_of_lt h0 h1, ?_, ?_, ?_⟩
  · unfold lb1; rw [u1]; rfl
  · unfold lb2; rw [u1]; rfl
  · unfold lb3; rw [u1]; rfl
theorem lv_of {u : Nat} (h : A4 u) : Lv u (u / 10 ^ 18) (u % 10 ^ 18) := by
  have hp : (10 : Nat) ^ 18 = 1000000000000000000 := by decide
  have hr : u % 10 ^ 18 < 10 ^ 18 := Nat.mod_lt _ (by decide)
  have hq : A4 ((u / 10 ^ 18 : Nat) : Int) := ⟨by omega, by
    have h1 := h.2
    have h2 : u / 10 ^ 18 ≤ u := Nat.div_le_self _ _
    omega⟩
  refine ⟨fun W => ?_, hq, hr, (Nat.div_add_mod' u (10 ^ 18)).symm, rfl⟩
  have hd := g_div (a := (u : Int)) (b := 1000000000000000000) h ⟨by decide, by decide⟩ (by decide) W
  have e1 : (u : Int) / 1000000000000000000 = ((u / 10 ^ 18 : Nat) : Int) := by rw [hp]; omega
  have e2 : (u : Int) % 1000000000000000000 = ((u % 10 ^ 18 : Nat) : Int) := by rw [hp]; omega
  rw [e1, e2] at hd
  obtain ⟨k0, k1, k2, k3⟩ := me_small hr
  have e3 : ME ((u % 10 ^ 18 : Nat) : Int) = .agg #[.int .u64 ((u % 10 ^ 18 : Nat) : Int), .int .u64 0, .int .u64 0, .int .u64 0] := by
    show Value.agg #[.int .u64 (lb0 _), .int .u64 (lb1 _), .int .u64 (lb2 _), .int .u64 (lb3 _)] = _
    rw [k0, k1, k2, k3]
  rw [e3] at hd
  exact hd
theorem meq_zero {q : Nat} (h : A4 q) : meq (lb0 q) (lb1 q) (lb2 q) (lb3 q) 0 0 0 0 = decide (q = 0) := by
  have h4 := mv_me h
  have b0 := lb0_in (q : Int)
  have b1 := lb1_in (q : Int)
  have b2 := lb2_in (q : Int)
  have b3 := lb3_in (q : Int)
  rw [Bool.eq_iff_iff, decide_eq_true_eq]
  unfold meq
  generalize lb0 (q : Int) = a at *
  generalize lb1 (q : Int) = b at *
  generalize lb2 (q : Int) = c at *
  generalize lb3 (q : Int) = d at *
  unfold MV at h4
  obtain ⟨a1, a2⟩ := b0
  obtain ⟨c1, c2⟩ := b1
  obtain ⟨d1, d2⟩ := b2
  obtain ⟨e1, e2⟩ := b3
  simp only [Bool.and_eq_true, beq_iff_eq]
  omega
structure Pt (r : Nat) (s z p : ByteArray) : Prop where
  fm : ∀ W, tabs W → Gives Tryd.prog 41 [.int .u64 r, .int .i64 10] W (· = .string s)
  rp : ∀ W, Gives Tryd.prog 42 [.string ⟨#[48]⟩, .int .i64 (IntKind.i64.wrap (18 - (s.size : Int)))] W (· = .string z)
  ad : z ++ s = p
  cd : ¬ ((z.size + s.size : Nat) : Int) > IntKind.i64.max
  sl : s.data.toList = Lib.decDigits r
  pl : p.data.toList = pd 18 r
  sz : s.size ≤ 18
theorem pt_of {r : Nat} (h : r < 10 ^ 18) : ∃ s z p, Pt r s z p := by
  obtain ⟨h1, h2⟩ := pd_pad 18 r (by decide) h
  have hp : (10 : Nat) ^ 18 = 1000000000000000000 := by decide
  have hs : (⟨(Lib.decDigits r).toArray⟩ : ByteArray).size = (Lib.decDigits r).length := by show (Lib.decDigits r).toArray.size = _; simp
  have hz : (⟨(List.replicate (18 - (Lib.decDigits r).length) (48 : UInt8)).toArray⟩ : ByteArray).size = 18 - (Lib.decDigits r).length := by show (List.replicate (18 - (Lib.decDigits r).length) (48 : UInt8)).toArray.size = _; simp
  refine ⟨⟨(Lib.decDigits r).toArray⟩, ⟨(List.replicate (18 - (Lib.decDigits r).length) 48).toArray⟩, _, ⟨fun W ht => gives_known en_fu (fmtT r (by omega) W ht), fun W => ?_, rfl, ?_, by simp, ?_, by rw [hs]; exact h2⟩⟩
  · have hw : IntKind.i64.wrap (18 - ((⟨(Lib.decDigits r).toArray⟩ : ByteArray).size : Int)) = ((18 - (Lib.decDigits r).length : Nat) : Int) := by
      rw [hs, wrap_i64_lo _ (by omega) (by omega)]
      omega
    rw [hw]
    have hh := Tryd.strings_Repeat ⟨#[48]⟩ (18 - (Lib.decDigits r).length) W (by omega) (by show 1 * _ ≤ _; omega)
    have e : Lib.repeatL (⟨#[48]⟩ : ByteArray).data.toList (18 - (Lib.decDigits r).length) = List.replicate (18 - (Lib.decDigits r).length) 48 := by
      have := Lib.repeatL_replicate 48 1 (18 - (Lib.decDigits r).length)
      rw [Nat.mul_one] at this
      exact this
    rw [e] at hh
    exact gives_known en_rep hh
  · rw [hs, hz]
    have : IntKind.i64.max = 9223372036854775807 := by decide
    omega
  · rw [h1]
    simp [ByteArray.append]
def txt (z : Int) : ByteArray := ⟨((if z < 0 then [45] else []) ++ Lib.decDigits (ab z).toNat).toArray⟩
theorem dec_len {m : Int} (h : A4 m) : (Lib.decDigits m.toNat).length ≤ 1000 := by
  have key : ∀ (k u : Nat), u < 10 ^ (k + 1) → (Lib.decDigits u).length ≤ k + 1 := fun k u hu => (pd_pad (k + 1) u (by omega) hu).2
  have h2 := h.2
  refine Nat.le_trans (key 77 m.toNat ?_) (by decide)
  have e1 : (10 : Nat) ^ (77 + 1) = 1000000000000000000000000000000000000000000000000000000000000000000000000000000 := by decide
  rw [e1]
  omega
set_option maxRecDepth 100000 in
set_option maxHeartbeats 8000000 in
theorem g_textA {v : Value} {z : Int} (h : IsW v z) (W : World) (ht : tabs W) : Gives Tryd.prog 24 [v] W (· = .string (txt z)) := by
  obtain ⟨n, m, rfl, am, hab, hz, hn⟩ := h.me
  obtain ⟨u0, rfl⟩ : ∃ u0 : Nat, m = (u0 : Int) := ⟨m.toNat, (Int.toNat_of_nonneg am.1).symm⟩
  have cl : ∀ W, Gives Tryd.prog 32 [.agg #[.bool n, .int .u64 (lb0 u0), .int .u64 (lb1 u0), .int .u64 (lb2 u0), .int .u64 (lb3 u0)]] W (· = .agg #[.bool (decide (z < 0)), .int .u64 (lb0 u0), .int .u64 (lb1 u0), .int .u64 (lb2 u0), .int .u64 (lb3 u0)]) := fun W => by
    rw [← hn]
    exact g_clean n _ _ _ _ W
  have etx : txt z = (if decide (z < 0) then ⟨(45 :: Lib.decDigits u0).toArray⟩ else ⟨(Lib.decDigits u0).toArray⟩) := by
    unfold txt
    rw [hab]
    by_cases hneg : z < 0
    · simp [hneg]
    · simp [hneg]
  rw [etx]
  clear h hz hn hab etx
  have a0 : A4 (u0 : Int) := am
  have hlen : (Lib.decDigits u0).length ≤ 1000 := dec_len am
  generalize decide (z < 0) = nb at *
  have l0 := lv_of a0
  obtain ⟨u1, hu1⟩ : ∃ q, q = u0 / 10 ^ 18 := ⟨_, rfl⟩
  obtain ⟨r0, hr0⟩ : ∃ q, q = u0 % 10 ^ 18 := ⟨_, rfl⟩
  rw [← hu1, ← hr0] at l0
  obtain ⟨s0, y0, p0, t0⟩ := pt_of l0.lt
  have f0 := fun W' (hb : Below W.heap.size W W') => t0.fm W' (tabs_below ht rfl hb)
  have l1 := lv_of l0.a4
  obtain ⟨u2, hu2⟩ : ∃ q, q = u1 / 10 ^ 18 := ⟨_, rfl⟩
  obtain ⟨r1, hr1⟩ : ∃ q, q = u1 % 10 ^ 18 := ⟨_, rfl⟩
  rw [← hu2, ← hr1] at l1
  obtain ⟨s1, y1, p1, t1⟩ := pt_of l1.lt
  have f1 := fun W' (hb : Below W.heap.size W W') => t1.fm W' (tabs_below ht rfl hb)
  have l2 := lv_of l1.a4
  obtain ⟨u3, hu3⟩ : ∃ q, q = u2 / 10 ^ 18 := ⟨_, rfl⟩
  obtain ⟨r2, hr2⟩ : ∃ q, q = u2 % 10 ^ 18 := ⟨_, rfl⟩
  rw [← hu3, ← hr2] at l2
  obtain ⟨s2, y2, p2, t2⟩ := pt_of l2.lt
  have f2 := fun W' (hb : Below W.heap.size W W') => t2.fm W' (tabs_below ht rfl hb)
  have l3 := lv_of l2.a4
  obtain ⟨u4, hu4⟩ : ∃ q, q = u3 / 10 ^ 18 := ⟨_, rfl⟩
  obtain ⟨r3, hr3⟩ : ∃ q, q = u3 % 10 ^ 18 := ⟨_, rfl⟩
  rw [← hu4, ← hr3] at l3
  obtain ⟨s3, y3, p3, t3⟩ := pt_of l3.lt
  have f3 := fun W' (hb : Below W.heap.size W W') => t3.fm W' (tabs_below ht rfl hb)
  have l4 := lv_of l3.a4
  obtain ⟨u5, hu5⟩ : ∃ q, q = u4 / 10 ^ 18 := ⟨_, rfl⟩
  obtain ⟨r4, hr4⟩ : ∃ q, q = u4 % 10 ^ 18 := ⟨_, rfl⟩
  rw [← hu5, ← hr4] at l4
  obtain ⟨s4, y4, p4, t4⟩ := pt_of l4.lt
  have f4 := fun W' (hb : Below W.heap.size W W') => t4.fm W' (tabs_below ht rfl hb)
  have hbig : u5 = 0 := by
    have := am.2
    have e1 : (10 : Nat) ^ 18 = 1000000000000000000 := by decide
    omega
  clear hu1 hu2 hu3 hu4 hu5 hr0 hr1 hr2 hr3 hr4
  have fin0 : (if false = true then (⟨(45 :: Lib.decDigits u0).toArray⟩ : ByteArray) else ⟨(Lib.decDigits u0).toArray⟩) = ⟨(Lib.decDigits u0).toArray⟩ := rfl
  have fin1 : (⟨#[45]⟩ : ByteArray) ++ ⟨(Lib.decDigits u0).toArray⟩ = ⟨(45 :: Lib.decDigits u0).toArray⟩ := ByteArray.ext (by simp)
  have cc : ¬ (((⟨#[45]⟩ : ByteArray).size + (⟨(Lib.decDigits u0).toArray⟩ : ByteArray).size : Nat) : Int) > IntKind.i64.max := by
    have e1 : (⟨(Lib.decDigits u0).toArray⟩ : ByteArray).size = (Lib.decDigits u0).length := by show (Lib.decDigits u0).toArray.size = _; simp
    have e2 : IntKind.i64.max = 9223372036854775807 := by decide
    have e3 : (⟨#[45]⟩ : ByteArray).size = 1 := rfl
    rw [e1, e2, e3]
    omega
  have z1 := True.intro
  have am' := a0
  obtain ⟨i0, hi, hz0, hz1, hz2⟩ := info_parts info_str
  refine gives_known en_wide_Text ?_
  refine known_of (enter Tryd.func24 wide_Text.ok (args := [_]) (by simp) ?_)
  repeat' (first | simp (disch := omega) only [sxE, wide_Text.E, Nat.reduceAdd, Nat.reduceEqDiff, Nat.reduceMul, Nat.reduceSub, Int.reduceAdd, Int.reduceSub, Int.reduceMul, Int.reduceNeg, Int.reduceLT, Int.reduceLE, Int.reduceEq, Int.reduceToNat, ↓reduceIte, Int.reducePow, Nat.reduceLeDiff, Nat.reduceLT, ne_eq, eq_self, List.length_cons, List.length_nil] | (with_reducible refine Sx.call_at (f := 32) (fun W hW => cl W) ?_) | (with_reducible refine Sx.call_at (f := 39) (fun W hW => l0.dv W) ?_) | (with_reducible refine Sx.call_at (f := 41) (fun W hW => f0 W hW) ?_) | (with_reducible refine eq_is (fun W => by exact eqm_run _ _ _ _ _ _ _ _ W) ?_) | (rw [wide_Text.p7_l]) | (with_reducible apply LX_round))
  by_cases hq0 : u1 = 0
  · have e : meq (lb0 (u1 : Int)) (lb1 (u1 : Int)) (lb2 (u1 : Int)) (lb3 (u1 : Int)) 0 0 0 0 = true := by rw [meq_zero l0.a4]; exact decide_eq_true hq0
    repeat' (first | simp (disch := omega) only [sxE, wide_Text.E, Nat.reduceAdd, Nat.reduceEqDiff, Nat.reduceMul, Nat.reduceSub, Int.reduceAdd, Int.reduceSub, Int.reduceMul, Int.reduceNeg, Int.reduceLT, Int.reduceLE, Int.reduceEq, Int.reduceToNat, ↓reduceIte, Int.reducePow, Nat.reduceLeDiff, Nat.reduceLT, ne_eq, eq_self, List.length_cons, List.length_nil, e, z1] | (with_reducible refine Sx.call_at (f := 39) (fun W hW => l0.dv W) ?_) | (with_reducible refine Sx.call_at (f := 41) (fun W hW => f0 W hW) ?_) | (with_reducible refine Sx.call_at (f := 42) (fun W hW => t0.rp W) ?_) | (with_reducible refine eq_is (fun W => by exact eqm_run _ _ _ _ _ _ _ _ W) ?_) | (rw [wide_Text.p7_l]) | (with_reducible apply LX_round))
    refine genA_c (L := []) (cs := [.string s0]) (T := 9) (fun b => .slice (some ⟨b, 0, none⟩) 1 1) (kX_nil _) (fun W => by kernel_rfl) fun bz hb => ?_
    clear hb
    repeat' (first | simp (disch := omega) only [sxE, wide_Text.E, Nat.reduceAdd, Nat.reduceEqDiff, Nat.reduceMul, Nat.reduceSub, Int.reduceAdd, Int.reduceSub, Int.reduceMul, Int.reduceNeg, Int.reduceLT, Int.reduceLE, Int.reduceEq, Int.reduceToNat, ↓reduceIte, Int.reducePow, Nat.reduceLeDiff, Nat.reduceLT, ne_eq, eq_self, List.length_cons, List.length_nil, z1] | (with_reducible refine Sx.call_at (f := 39) (fun W hW => l0.dv W) ?_) | (with_reducible refine Sx.call_at (f := 41) (fun W hW => f0 W hW) ?_) | (with_reducible refine Sx.call_at (f := 42) (fun W hW => t0.rp W) ?_) | (with_reducible refine eq_is (fun W => by exact eqm_run _ _ _ _ _ _ _ _ W) ?_) | (rw [wide_Text.p7_l]) | (with_reducible apply LX_round))
    refine genA_grow (P := Tryd.prog) rfl (L := [.g (cK bz [.string s0])]) (fun g cap => [.g (wK 9 1 (.slice (some ⟨g, 0, none⟩) (0 + 1) cap) (0 + 1) ([] ++ [.string s0]))]) Tryd.underlying67 hi hz0 hz1 hz2 rfl (by decide) rfl (fun W _ => World.ownsRow_nil _ _ _ _) (fun g h => by cases h) List.mem_cons_self rfl (by decide) (fun u hu => by rw [List.mem_singleton.1 hu]; rfl) (by decide) (by decide) (fun g cap k hk => .inl (List.mem_singleton.1 hk)) fun g1 cap1 => ?_
    simp only [Nat.reduceAdd, List.cons_append, List.nil_append]
    repeat' (first | simp (disch := omega) only [sxE, wide_Text.E, Nat.reduceAdd, Nat.reduceEqDiff, Nat.reduceMul, Nat.reduceSub, Int.reduceAdd, Int.reduceSub, Int.reduceMul, Int.reduceNeg, Int.reduceLT, Int.reduceLE, Int.reduceEq, Int.reduceToNat, ↓reduceIte, Int.reducePow, Nat.reduceLeDiff, Nat.reduceLT, ne_eq, eq_self, List.length_cons, List.length_nil, z1] | (with_reducible refine Sx.call_at (f := 39) (fun W hW => l0.dv W) ?_) | (with_reducible refine Sx.call_at (f := 41) (fun W hW => f0 W hW) ?_) | (with_reducible refine Sx.call_at (f := 42) (fun W hW => t0.rp W) ?_) | (with_reducible refine eq_is (fun W => by exact eqm_run _ _ _ _ _ _ _ _ W) ?_) | (rw [wide_Text.p7_l]) | (with_reducible apply LX_round))
    have hm : g1 ∈ (kX W.heap.size [.g (wK 9 1 (.slice (some ⟨g1, 0, none⟩) 1 cap1) 1 [.string s0])]).bs := kX_bs.2 ⟨_, List.mem_singleton.2 rfl, by simp [Kn.bs, wK, Value.ownBlock]⟩
    refine asks_revL [s0] (by simp) (by simp) rfl rfl (List.mem_singleton.2 rfl) hm hm ?_
    repeat' (first | simp (disch := omega) only [sxE, wide_Text.E, Nat.reduceAdd, Nat.reduceEqDiff, Nat.reduceMul, Nat.reduceSub, Int.reduceAdd, Int.reduceSub, Int.reduceMul, Int.reduceNeg, Int.reduceLT, Int.reduceLE, Int.reduceEq, Int.reduceToNat, ↓reduceIte, Int.reducePow, Nat.reduceLeDiff, Nat.reduceLT, ne_eq, eq_self, List.length_cons, List.length_nil, z1] | (with_reducible refine Sx.call_at (f := 39) (fun W hW => l0.dv W) ?_) | (with_reducible refine Sx.call_at (f := 41) (fun W hW => f0 W hW) ?_) | (with_reducible refine Sx.call_at (f := 42) (fun W hW => t0.rp W) ?_) | (with_reducible refine eq_is (fun W => by exact eqm_run _ _ _ _ _ _ _ _ W) ?_) | (rw [wide_Text.p7_l]) | (with_reducible apply LX_round))
    have hflat : ([s0].map (·.data.toList)).flatten = Lib.decDigits u0 := by
      simp only [List.map_cons, List.map_nil, List.flatten_cons, List.flatten_nil, List.append_nil]
      rw [t0.sl]
      have w0 : u0 = r0 := by have := l0.eq; rw [hq0] at this; omega
      rw [← w0]
    refine asks_joinL [s0] (by simp) (by rw [hflat]; omega) rfl rfl ?_
    rw [hflat]
    generalize hD : (⟨(Lib.decDigits u0).toArray⟩ : ByteArray) = D at *
    cases nb
    · repeat' (first | simp (disch := omega) only [sxE, wide_Text.E, Nat.reduceAdd, Nat.reduceEqDiff, Nat.reduceMul, Nat.reduceSub, Int.reduceAdd, Int.reduceSub, Int.reduceMul, Int.reduceNeg, Int.reduceLT, Int.reduceLE, Int.reduceEq, Int.reduceToNat, ↓reduceIte, Int.reducePow, Nat.reduceLeDiff, Nat.reduceLT, ne_eq, eq_self, List.length_cons, List.length_nil, fin0])
    · repeat' (first | simp (disch := omega) only [sxE, wide_Text.E, Nat.reduceAdd, Nat.reduceEqDiff, Nat.reduceMul, Nat.reduceSub, Int.reduceAdd, Int.reduceSub, Int.reduceMul, Int.reduceNeg, Int.reduceLT, Int.reduceLE, Int.reduceEq, Int.reduceToNat, ↓reduceIte, Int.reducePow, Nat.reduceLeDiff, Nat.reduceLT, ne_eq, eq_self, List.length_cons, List.length_nil, cc, fin1])
  · have e : meq (lb0 (u1 : Int)) (lb1 (u1 : Int)) (lb2 (u1 : Int)) (lb3 (u1 : Int)) 0 0 0 0 = false := by rw [meq_zero l0.a4]; exact decide_eq_false hq0
    have ta := t0.ad
    have tc := t0.cd
    repeat' (first | simp (disch := omega) only [sxE, wide_Text.E, Nat.reduceAdd, Nat.reduceEqDiff, Nat.reduceMul, Nat.reduceSub, Int.reduceAdd, Int.reduceSub, Int.reduceMul, Int.reduceNeg, Int.reduceLT, Int.reduceLE, Int.reduceEq, Int.reduceToNat, ↓reduceIte, Int.reducePow, Nat.reduceLeDiff, Nat.reduceLT, ne_eq, eq_self, List.length_cons, List.length_nil, e, z1, ta, tc] | (with_reducible refine Sx.call_at (f := 39) (fun W hW => l0.dv W) ?_) | (with_reducible refine Sx.call_at (f := 41) (fun W hW => f0 W hW) ?_) | (with_reducible refine Sx.call_at (f := 42) (fun W hW => t0.rp W) ?_) | (with_reducible refine eq_is (fun W => by exact eqm_run _ _ _ _ _ _ _ _ W) ?_) | (rw [wide_Text.p7_l]) | (with_reducible apply LX_round))
    refine genA_c (L := []) (cs := [.string p0]) (T := 9) (fun b => .slice (some ⟨b, 0, none⟩) 1 1) (kX_nil _) (fun W => by kernel_rfl) fun b0 hb => ?_
    clear hb
    repeat' (first | simp (disch := omega) only [sxE, wide_Text.E, Nat.reduceAdd, Nat.reduceEqDiff, Nat.reduceMul, Nat.reduceSub, Int.reduceAdd, Int.reduceSub, Int.reduceMul, Int.reduceNeg, Int.reduceLT, Int.reduceLE, Int.reduceEq, Int.reduceToNat, ↓reduceIte, Int.reducePow, Nat.reduceLeDiff, Nat.reduceLT, ne_eq, eq_self, List.length_cons, List.length_nil, z1] | (with_reducible refine Sx.call_at (f := 39) (fun W hW => l0.dv W) ?_) | (with_reducible refine Sx.call_at (f := 41) (fun W hW => f0 W hW) ?_) | (with_reducible refine Sx.call_at (f := 42) (fun W hW => t0.rp W) ?_) | (with_reducible refine eq_is (fun W => by exact eqm_run _ _ _ _ _ _ _ _ W) ?_) | (rw [wide_Text.p7_l]) | (with_reducible apply LX_round))
    refine genA_grow (P := Tryd.prog) rfl (L := [.g (cK b0 [.string p0])]) (fun g cap => [.g (wK 9 1 (.slice (some ⟨g, 0, none⟩) (0 + 1) cap) (0 + 1) ([] ++ [.string p0]))]) Tryd.underlying67 hi hz0 hz1 hz2 rfl (by decide) rfl (fun W _ => World.ownsRow_nil _ _ _ _) (fun g h => by cases h) List.mem_cons_self rfl (by decide) (fun u hu => by rw [List.mem_singleton.1 hu]; rfl) (by decide) (by decide) (fun g cap k hk => .inl (List.mem_singleton.1 hk)) fun g1 cap1 => ?_
    simp only [Nat.reduceAdd, List.cons_append, List.nil_append]
    clear e ta tc
    by_cases hq1 : u2 = 0
    · have e : meq (lb0 (u2 : Int)) (lb1 (u2 : Int)) (lb2 (u2 : Int)) (lb3 (u2 : Int)) 0 0 0 0 = true := by rw [meq_zero l1.a4]; exact decide_eq_true hq1
      repeat' (first | simp (disch := omega) only [sxE, wide_Text.E, Nat.reduceAdd, Nat.reduceEqDiff, Nat.reduceMul, Nat.reduceSub, Int.reduceAdd, Int.reduceSub, Int.reduceMul, Int.reduceNeg, Int.reduceLT, Int.reduceLE, Int.reduceEq, Int.reduceToNat, ↓reduceIte, Int.reducePow, Nat.reduceLeDiff, Nat.reduceLT, ne_eq, eq_self, List.length_cons, List.length_nil, e, z1] | (with_reducible refine Sx.call_at (f := 39) (fun W hW => l1.dv W) ?_) | (with_reducible refine Sx.call_at (f := 41) (fun W hW => f1 W hW) ?_) | (with_reducible refine Sx.call_at (f := 42) (fun W hW => t1.rp W) ?_) | (with_reducible refine eq_is (fun W => by exact eqm_run _ _ _ _ _ _ _ _ W) ?_) | (rw [wide_Text.p7_l]) | (with_reducible apply LX_round))
      refine genA_c (L := [.g (wK 9 1 (.slice (some ⟨g1, 0, none⟩) 1 cap1) 1 [.string p0])]) (cs := [.string s1]) (T := 9) (fun b => .slice (some ⟨b, 0, none⟩) 1 1) rfl (fun W => by kernel_rfl) fun bz hb => ?_
      clear hb
      repeat' (first | simp (disch := omega) only [sxE, wide_Text.E, Nat.reduceAdd, Nat.reduceEqDiff, Nat.reduceMul, Nat.reduceSub, Int.reduceAdd, Int.reduceSub, Int.reduceMul, Int.reduceNeg, Int.reduceLT, Int.reduceLE, Int.reduceEq, Int.reduceToNat, ↓reduceIte, Int.reducePow, Nat.reduceLeDiff, Nat.reduceLT, ne_eq, eq_self, List.length_cons, List.length_nil, z1] | (with_reducible refine Sx.call_at (f := 39) (fun W hW => l1.dv W) ?_) | (with_reducible refine Sx.call_at (f := 41) (fun W hW => f1 W hW) ?_) | (with_reducible refine Sx.call_at (f := 42) (fun W hW => t1.rp W) ?_) | (with_reducible refine eq_is (fun W => by exact eqm_run _ _ _ _ _ _ _ _ W) ?_) | (rw [wide_Text.p7_l]) | (with_reducible apply LX_round))
      refine genA_grow (P := Tryd.prog) rfl (L := [.g (cK bz [.string s1]), .g (wK 9 1 (.slice (some ⟨g1, 0, none⟩) 1 cap1) 1 [.string p0])]) (fun g cap => [.g (wK 9 1 (.slice (some ⟨g, 0, none⟩) (1 + 1) cap) (1 + 1) ([.string p0] ++ [.string s1]))]) Tryd.underlying67 hi hz0 hz1 hz2 rfl (by decide) rfl (fun W hok => hok (.g (wK 9 1 (.slice (some ⟨g1, 0, none⟩) 1 cap1) 1 [.string p0])) (List.mem_cons_of_mem _ (List.mem_singleton.2 rfl))) (fun g' h => by
        cases h
        have hm : g1 ∈ (kX W.heap.size [.g (cK bz [.string s1]), .g (wK 9 1 (.slice (some ⟨g1, 0, none⟩) 1 cap1) 1 [.string p0])]).bs := kX_bs.2 ⟨_, List.mem_cons_of_mem _ (List.mem_singleton.2 rfl), by simp [Kn.bs, wK, Value.ownBlock]⟩
        exact ⟨hm, hm⟩) List.mem_cons_self rfl (by decide) (fun u hu => by rw [List.mem_singleton.1 hu]; rfl) (by decide) (by decide) (fun g cap k hk => .inl (List.mem_singleton.1 hk)) fun g2 cap2 => ?_
      simp only [Nat.reduceAdd, List.cons_append, List.nil_append]
      repeat' (first | simp (disch := omega) only [sxE, wide_Text.E, Nat.reduceAdd, Nat.reduceEqDiff, Nat.reduceMul, Nat.reduceSub, Int.reduceAdd, Int.reduceSub, Int.reduceMul, Int.reduceNeg, Int.reduceLT, Int.reduceLE, Int.reduceEq, Int.reduceToNat, ↓reduceIte, Int.reducePow, Nat.reduceLeDiff, Nat.reduceLT, ne_eq, eq_self, List.length_cons, List.length_nil, z1] | (with_reducible refine Sx.call_at (f := 39) (fun W hW => l1.dv W) ?_) | (with_reducible refine Sx.call_at (f := 41) (fun W hW => f1 W hW) ?_) | (with_reducible refine Sx.call_at (f := 42) (fun W hW => t1.rp W) ?_) | (with_reducible refine eq_is (fun W => by exact eqm_run _ _ _ _ _ _ _ _ W) ?_) | (rw [wide_Text.p7_l]) | (with_reducible apply LX_round))
      have hm : g2 ∈ (kX W.heap.size [.g (wK 9 1 (.slice (some ⟨g2, 0, none⟩) 2 cap2) 2 [.string p0, .string s1])]).bs := kX_bs.2 ⟨_, List.mem_singleton.2 rfl, by simp [Kn.bs, wK, Value.ownBlock]⟩
      refine asks_revL [p0, s1] (by simp) (by simp) rfl rfl (List.mem_singleton.2 rfl) hm hm ?_
      repeat' (first | simp (disch := omega) only [sxE, wide_Text.E, Nat.reduceAdd, Nat.reduceEqDiff, Nat.reduceMul, Nat.reduceSub, Int.reduceAdd, Int.reduceSub, Int.reduceMul, Int.reduceNeg, Int.reduceLT, Int.reduceLE, Int.reduceEq, Int.reduceToNat, ↓reduceIte, Int.reducePow, Nat.reduceLeDiff, Nat.reduceLT, ne_eq, eq_self, List.length_cons, List.length_nil, z1] | (with_reducible refine Sx.call_at (f := 39) (fun W hW => l1.dv W) ?_) | (with_reducible refine Sx.call_at (f := 41) (fun W hW => f1 W hW) ?_) | (with_reducible refine Sx.call_at (f := 42) (fun W hW => t1.rp W) ?_) | (with_reducible refine eq_is (fun W => by exact eqm_run _ _ _ _ _ _ _ _ W) ?_) | (rw [wide_Text.p7_l]) | (with_reducible apply LX_round))
      have hflat : ([s1, p0].map (·.data.toList)).flatten = Lib.decDigits u0 := by
        simp only [List.map_cons, List.map_nil, List.flatten_cons, List.flatten_nil, List.append_nil]
        rw [t1.sl, t0.pl]
        have w1 : u1 = r1 := by have := l1.eq; rw [hq1] at this; omega
        rw [← w1]
        have x0 : Lib.decDigits u0 = Lib.decDigits u1 ++ pd 18 r0 := by rw [l0.eq]; exact dec_split 18 u1 r0 (by omega) l0.lt
        rw [← x0]
      refine asks_joinL [s1, p0] (by simp) (by rw [hflat]; omega) rfl rfl ?_
      rw [hflat]
      generalize hD : (⟨(Lib.decDigits u0).toArray⟩ : ByteArray) = D at *
      cases nb
      · repeat' (first | simp (disch := omega) only [sxE, wide_Text.E, Nat.reduceAdd, Nat.reduceEqDiff, Nat.reduceMul, Nat.reduceSub, Int.reduceAdd, Int.reduceSub, Int.reduceMul, Int.reduceNeg, Int.reduceLT, Int.reduceLE, Int.reduceEq, Int.reduceToNat, ↓reduceIte, Int.reducePow, Nat.reduceLeDiff, Nat.reduceLT, ne_eq, eq_self, List.length_cons, List.length_nil, fin0])
      · repeat' (first | simp (disch := omega) only [sxE, wide_Text.E, Nat.reduceAdd, Nat.reduceEqDiff, Nat.reduceMul, Nat.reduceSub, Int.reduceAdd, Int.reduceSub, Int.reduceMul, Int.reduceNeg, Int.reduceLT, Int.reduceLE, Int.reduceEq, Int.reduceToNat, ↓reduceIte, Int.reducePow, Nat.reduceLeDiff, Nat.reduceLT, ne_eq, eq_self, List.length_cons, List.length_nil, cc, fin1])
    · have e : meq (lb0 (u2 : Int)) (lb1 (u2 : Int)) (lb2 (u2 : Int)) (lb3 (u2 : Int)) 0 0 0 0 = false := by rw [meq_zero l1.a4]; exact decide_eq_false hq1
      have ta := t1.ad
      have tc := t1.cd
      repeat' (first | simp (disch := omega) only [sxE, wide_Text.E, Nat.reduceAdd, Nat.reduceEqDiff, Nat.reduceMul, Nat.reduceSub, Int.reduceAdd, Int.reduceSub, Int.reduceMul, Int.reduceNeg, Int.reduceLT, Int.reduceLE, Int.reduceEq, Int.reduceToNat, ↓reduceIte, Int.reducePow, Nat.reduceLeDiff, Nat.reduceLT, ne_eq, eq_self, List.length_cons, List.length_nil, e, z1, ta, tc] | (with_reducible refine Sx.call_at (f := 39) (fun W hW => l1.dv W) ?_) | (with_reducible refine Sx.call_at (f := 41) (fun W hW => f1 W hW) ?_) | (with_reducible refine Sx.call_at (f := 42) (fun W hW => t1.rp W) ?_) | (with_reducible refine eq_is (fun W => by exact eqm_run _ _ _ _ _ _ _ _ W) ?_) | (rw [wide_Text.p7_l]) | (with_reducible apply LX_round))
      refine genA_c (L := [.g (wK 9 1 (.slice (some ⟨g1, 0, none⟩) 1 cap1) 1 [.string p0])]) (cs := [.string p1]) (T := 9) (fun b => .slice (some ⟨b, 0, none⟩) 1 1) rfl (fun W => by kernel_rfl) fun b1 hb => ?_
      clear hb
      repeat' (first | simp (disch := omega) only [sxE, wide_Text.E, Nat.reduceAdd, Nat.reduceEqDiff, Nat.reduceMul, Nat.reduceSub, Int.reduceAdd, Int.reduceSub, Int.reduceMul, Int.reduceNeg, Int.reduceLT, Int.reduceLE, Int.reduceEq, Int.reduceToNat, ↓reduceIte, Int.reducePow, Nat.reduceLeDiff, Nat.reduceLT, ne_eq, eq_self, List.length_cons, List.length_nil, z1] | (with_reducible refine Sx.call_at (f := 39) (fun W hW => l1.dv W) ?_) | (with_reducible refine Sx.call_at (f := 41) (fun W hW => f1 W hW) ?_) | (with_reducible refine Sx.call_at (f := 42) (fun W hW => t1.rp W) ?_) | (with_reducible refine eq_is (fun W => by exact eqm_run _ _ _ _ _ _ _ _ W) ?_) | (rw [wide_Text.p7_l]) | (with_reducible apply LX_round))
      refine genA_grow (P := Tryd.prog) rfl (L := [.g (cK b1 [.string p1]), .g (wK 9 1 (.slice (some ⟨g1, 0, none⟩) 1 cap1) 1 [.string p0])]) (fun g cap => [.g (wK 9 1 (.slice (some ⟨g, 0, none⟩) (1 + 1) cap) (1 + 1) ([.string p0] ++ [.string p1]))]) Tryd.underlying67 hi hz0 hz1 hz2 rfl (by decide) rfl (fun W hok => hok (.g (wK 9 1 (.slice (some ⟨g1, 0, none⟩) 1 cap1) 1 [.string p0])) (List.mem_cons_of_mem _ (List.mem_singleton.2 rfl))) (fun g' h => by
        cases h
        have hm : g1 ∈ (kX W.heap.size [.g (cK b1 [.string p1]), .g (wK 9 1 (.slice (some ⟨g1, 0, none⟩) 1 cap1) 1 [.string p0])]).bs := kX_bs.2 ⟨_, List.mem_cons_of_mem _ (List.mem_singleton.2 rfl), by simp [Kn.bs, wK, Value.ownBlock]⟩
        exact ⟨hm, hm⟩) List.mem_cons_self rfl (by decide) (fun u hu => by rw [List.mem_singleton.1 hu]; rfl) (by decide) (by decide) (fun g cap k hk => .inl (List.mem_singleton.1 hk)) fun g2 cap2 => ?_
      simp only [Nat.reduceAdd, List.cons_append, List.nil_append]
      clear e ta tc
      by_cases hq2 : u3 = 0
      · have e : meq (lb0 (u3 : Int)) (lb1 (u3 : Int)) (lb2 (u3 : Int)) (lb3 (u3 : Int)) 0 0 0 0 = true := by rw [meq_zero l2.a4]; exact decide_eq_true hq2
        repeat' (first | simp (disch := omega) only [sxE, wide_Text.E, Nat.reduceAdd, Nat.reduceEqDiff, Nat.reduceMul, Nat.reduceSub, Int.reduceAdd, Int.reduceSub, Int.reduceMul, Int.reduceNeg, Int.reduceLT, Int.reduceLE, Int.reduceEq, Int.reduceToNat, ↓reduceIte, Int.reducePow, Nat.reduceLeDiff, Nat.reduceLT, ne_eq, eq_self, List.length_cons, List.length_nil, e, z1] | (with_reducible refine Sx.call_at (f := 39) (fun W hW => l2.dv W) ?_) | (with_reducible refine Sx.call_at (f := 41) (fun W hW => f2 W hW) ?_) | (with_reducible refine Sx.call_at (f := 42) (fun W hW => t2.rp W) ?_) | (with_reducible refine eq_is (fun W => by exact eqm_run _ _ _ _ _ _ _ _ W) ?_) | (rw [wide_Text.p7_l]) | (with_reducible apply LX_round))
        refine genA_c (L := [.g (wK 9 1 (.slice (some ⟨g2, 0, none⟩) 2 cap2) 2 [.string p0, .string p1])]) (cs := [.string s2]) (T := 9) (fun b => .slice (some ⟨b, 0, none⟩) 1 1) rfl (fun W => by kernel_rfl) fun bz hb => ?_
        clear hb
        repeat' (first | simp (disch := omega) only [sxE, wide_Text.E, Nat.reduceAdd, Nat.reduceEqDiff, Nat.reduceMul, Nat.reduceSub, Int.reduceAdd, Int.reduceSub, Int.reduceMul, Int.reduceNeg, Int.reduceLT, Int.reduceLE, Int.reduceEq, Int.reduceToNat, ↓reduceIte, Int.reducePow, Nat.reduceLeDiff, Nat.reduceLT, ne_eq, eq_self, List.length_cons, List.length_nil, z1] | (with_reducible refine Sx.call_at (f := 39) (fun W hW => l2.dv W) ?_) | (with_reducible refine Sx.call_at (f := 41) (fun W hW => f2 W hW) ?_) | (with_reducible refine Sx.call_at (f := 42) (fun W hW => t2.rp W) ?_) | (with_reducible refine eq_is (fun W => by exact eqm_run _ _ _ _ _ _ _ _ W) ?_) | (rw [wide_Text.p7_l]) | (with_reducible apply LX_round))
        refine genA_grow (P := Tryd.prog) rfl (L := [.g (cK bz [.string s2]), .g (wK 9 1 (.slice (some ⟨g2, 0, none⟩) 2 cap2) 2 [.string p0, .string p1])]) (fun g cap => [.g (wK 9 1 (.slice (some ⟨g, 0, none⟩) (2 + 1) cap) (2 + 1) ([.string p0, .string p1] ++ [.string s2]))]) Tryd.underlying67 hi hz0 hz1 hz2 rfl (by decide) rfl (fun W hok => hok (.g (wK 9 1 (.slice (some ⟨g2, 0, none⟩) 2 cap2) 2 [.string p0, .string p1])) (List.mem_cons_of_mem _ (List.mem_singleton.2 rfl))) (fun g' h => by
          cases h
          have hm : g2 ∈ (kX W.heap.size [.g (cK bz [.string s2]), .g (wK 9 1 (.slice (some ⟨g2, 0, none⟩) 2 cap2) 2 [.string p0, .string p1])]).bs := kX_bs.2 ⟨_, List.mem_cons_of_mem _ (List.mem_singleton.2 rfl), by simp [Kn.bs, wK, Value.ownBlock]⟩
          exact ⟨hm, hm⟩) List.mem_cons_self rfl (by decide) (fun u hu => by rw [List.mem_singleton.1 hu]; rfl) (by decide) (by decide) (fun g cap k hk => .inl (List.mem_singleton.1 hk)) fun g3 cap3 => ?_
        simp only [Nat.reduceAdd, List.cons_append, List.nil_append]
        repeat' (first | simp (disch := omega) only [sxE, wide_Text.E, Nat.reduceAdd, Nat.reduceEqDiff, Nat.reduceMul, Nat.reduceSub, Int.reduceAdd, Int.reduceSub, Int.reduceMul, Int.reduceNeg, Int.reduceLT, Int.reduceLE, Int.reduceEq, Int.reduceToNat, ↓reduceIte, Int.reducePow, Nat.reduceLeDiff, Nat.reduceLT, ne_eq, eq_self, List.length_cons, List.length_nil, z1] | (with_reducible refine Sx.call_at (f := 39) (fun W hW => l2.dv W) ?_) | (with_reducible refine Sx.call_at (f := 41) (fun W hW => f2 W hW) ?_) | (with_reducible refine Sx.call_at (f := 42) (fun W hW => t2.rp W) ?_) | (with_reducible refine eq_is (fun W => by exact eqm_run _ _ _ _ _ _ _ _ W) ?_) | (rw [wide_Text.p7_l]) | (with_reducible apply LX_round))
        have hm : g3 ∈ (kX W.heap.size [.g (wK 9 1 (.slice (some ⟨g3, 0, none⟩) 3 cap3) 3 [.string p0, .string p1, .string s2])]).bs := kX_bs.2 ⟨_, List.mem_singleton.2 rfl, by simp [Kn.bs, wK, Value.ownBlock]⟩
        refine asks_revL [p0, p1, s2] (by simp) (by simp) rfl rfl (List.mem_singleton.2 rfl) hm hm ?_
        repeat' (first | simp (disch := omega) only [sxE, wide_Text.E, Nat.reduceAdd, Nat.reduceEqDiff, Nat.reduceMul, Nat.reduceSub, Int.reduceAdd, Int.reduceSub, Int.reduceMul, Int.reduceNeg, Int.reduceLT, Int.reduceLE, Int.reduceEq, Int.reduceToNat, ↓reduceIte, Int.reducePow, Nat.reduceLeDiff, Nat.reduceLT, ne_eq, eq_self, List.length_cons, List.length_nil, z1] | (with_reducible refine Sx.call_at (f := 39) (fun W hW => l2.dv W) ?_) | (with_reducible refine Sx.call_at (f := 41) (fun W hW => f2 W hW) ?_) | (with_reducible refine Sx.call_at (f := 42) (fun W hW => t2.rp W) ?_) | (with_reducible refine eq_is (fun W => by exact eqm_run _ _ _ _ _ _ _ _ W) ?_) | (rw [wide_Text.p7_l]) | (with_reducible apply LX_round))
        have hflat : ([s2, p1, p0].map (·.data.toList)).flatten = Lib.decDigits u0 := by
          simp only [List.map_cons, List.map_nil, List.flatten_cons, List.flatten_nil, List.append_nil]
          rw [t2.sl, t1.pl, t0.pl]
          have w2 : u2 = r2 := by have := l2.eq; rw [hq2] at this; omega
          rw [← w2]
          have x1 : Lib.decDigits u1 = Lib.decDigits u2 ++ pd 18 r1 := by rw [l1.eq]; exact dec_split 18 u2 r1 (by omega) l1.lt
          have x0 : Lib.decDigits u0 = Lib.decDigits u1 ++ pd 18 r0 := by rw [l0.eq]; exact dec_split 18 u1 r0 (by omega) l0.lt
          simp only [← List.append_assoc]
          rw [← x1, ← x0]
        refine asks_joinL [s2, p1, p0] (by simp) (by rw [hflat]; omega) rfl rfl ?_
        rw [hflat]
        generalize hD : (⟨(Lib.decDigits u0).toArray⟩ : ByteArray) = D at *
        cases nb
        · repeat' (first | simp (disch := omega) only [sxE, wide_Text.E, Nat.reduceAdd, Nat.reduceEqDiff, Nat.reduceMul, Nat.reduceSub, Int.reduceAdd, Int.reduceSub, Int.reduceMul, Int.reduceNeg, Int.reduceLT, Int.reduceLE, Int.reduceEq, Int.reduceToNat, ↓reduceIte, Int.reducePow, Nat.reduceLeDiff, Nat.reduceLT, ne_eq, eq_self, List.length_cons, List.length_nil, fin0])
        · repeat' (first | simp (disch := omega) only [sxE, wide_Text.E, Nat.reduceAdd, Nat.reduceEqDiff, Nat.reduceMul, Nat.reduceSub, Int.reduceAdd, Int.reduceSub, Int.reduceMul, Int.reduceNeg, Int.reduceLT, Int.reduceLE, Int.reduceEq, Int.reduceToNat, ↓reduceIte, Int.reducePow, Nat.reduceLeDiff, Nat.reduceLT, ne_eq, eq_self, List.length_cons, List.length_nil, cc, fin1])
      · have e : meq (lb0 (u3 : Int)) (lb1 (u3 : Int)) (lb2 (u3 : Int)) (lb3 (u3 : Int)) 0 0 0 0 = false := by rw [meq_zero l2.a4]; exact decide_eq_false hq2
        have ta := t2.ad
        have tc := t2.cd
        repeat' (first | simp (disch := omega) only [sxE, wide_Text.E, Nat.reduceAdd, Nat.reduceEqDiff, Nat.reduceMul, Nat.reduceSub, Int.reduceAdd, Int.reduceSub, Int.reduceMul, Int.reduceNeg, Int.reduceLT, Int.reduceLE, Int.reduceEq, Int.reduceToNat, ↓reduceIte, Int.reducePow, Nat.reduceLeDiff, Nat.reduceLT, ne_eq, eq_self, List.length_cons, List.length_nil, e, z1, ta, tc] | (with_reducible refine Sx.call_at (f := 39) (fun W hW => l2.dv W) ?_) | (with_reducible refine Sx.call_at (f := 41) (fun W hW => f2 W hW) ?_) | (with_reducible refine Sx.call_at (f := 42) (fun W hW => t2.rp W) ?_) | (with_reducible refine eq_is (fun W => by exact eqm_run _ _ _ _ _ _ _ _ W) ?_) | (rw [wide_Text.p7_l]) | (with_reducible apply LX_round))
        refine genA_c (L := [.g (wK 9 1 (.slice (some ⟨g2, 0, none⟩) 2 cap2) 2 [.string p0, .string p1])]) (cs := [.string p2]) (T := 9) (fun b => .slice (some ⟨b, 0, none⟩) 1 1) rfl (fun W => by kernel_rfl) fun b2 hb => ?_
        clear hb
        repeat' (first | simp (disch := omega) only [sxE, wide_Text.E, Nat.reduceAdd, Nat.reduceEqDiff, Nat.reduceMul, Nat.reduceSub, Int.reduceAdd, Int.reduceSub, Int.reduceMul, Int.reduceNeg, Int.reduceLT, Int.reduceLE, Int.reduceEq, Int.reduceToNat, ↓reduceIte, Int.reducePow, Nat.reduceLeDiff, Nat.reduceLT, ne_eq, eq_self, List.length_cons, List.length_nil, z1] | (with_reducible refine Sx.call_at (f := 39) (fun W hW => l2.dv W) ?_) | (with_reducible refine Sx.call_at (f := 41) (fun W hW => f2 W hW) ?_) | (with_reducible refine Sx.call_at (f := 42) (fun W hW => t2.rp W) ?_) | (with_reducible refine eq_is (fun W => by exact eqm_run _ _ _ _ _ _ _ _ W) ?_) | (rw [wide_Text.p7_l]) | (with_reducible apply LX_round))
        refine genA_grow (P := Tryd.prog) rfl (L := [.g (cK b2 [.string p2]), .g (wK 9 1 (.slice (some ⟨g2, 0, none⟩) 2 cap2) 2 [.string p0, .string p1])]) (fun g cap => [.g (wK 9 1 (.slice (some ⟨g, 0, none⟩) (2 + 1) cap) (2 + 1) ([.string p0, .string p1] ++ [.string p2]))]) Tryd.underlying67 hi hz0 hz1 hz2 rfl (by decide) rfl (fun W hok => hok (.g (wK 9 1 (.slice (some ⟨g2, 0, none⟩) 2 cap2) 2 [.string p0, .string p1])) (List.mem_cons_of_mem _ (List.mem_singleton.2 rfl))) (fun g' h => by
          cases h
          have hm : g2 ∈ (kX W.heap.size [.g (cK b2 [.string p2]), .g (wK 9 1 (.slice (some ⟨g2, 0, none⟩) 2 cap2) 2 [.string p0, .string p1])]).bs := kX_bs.2 ⟨_, List.mem_cons_of_mem _ (List.mem_singleton.2 rfl), by simp [Kn.bs, wK, Value.ownBlock]⟩
          exact ⟨hm, hm⟩) List.mem_cons_self rfl (by decide) (fun u hu => by rw [List.mem_singleton.1 hu]; rfl) (by decide) (by decide) (fun g cap k hk => .inl (List.mem_singleton.1 hk)) fun g3 cap3 => ?_
        simp only [Nat.reduceAdd, List.cons_append, List.nil_append]
        clear e ta tc
        by_cases hq3 : u4 = 0
        · have e : meq (lb0 (u4 : Int)) (lb1 (u4 : Int)) (lb2 (u4 : Int)) (lb3 (u4 : Int)) 0 0 0 0 = true := by rw [meq_zero l3.a4]; exact decide_eq_true hq3
          repeat' (first | simp (disch := omega) only [sxE, wide_Text.E, Nat.reduceAdd, Nat.reduceEqDiff, Nat.reduceMul, Nat.reduceSub, Int.reduceAdd, Int.reduceSub, Int.reduceMul, Int.reduceNeg, Int.reduceLT, Int.reduceLE, Int.reduceEq, Int.reduceToNat, ↓reduceIte, Int.reducePow, Nat.reduceLeDiff, Nat.reduceLT, ne_eq, eq_self, List.length_cons, List.length_nil, e, z1] | (with_reducible refine Sx.call_at (f := 39) (fun W hW => l3.dv W) ?_) | (with_reducible refine Sx.call_at (f := 41) (fun W hW => f3 W hW) ?_) | (with_reducible refine Sx.call_at (f := 42) (fun W hW => t3.rp W) ?_) | (with_reducible refine eq_is (fun W => by exact eqm_run _ _ _ _ _ _ _ _ W) ?_) | (rw [wide_Text.p7_l]) | (with_reducible apply LX_round))
          refine genA_c (L := [.g (wK 9 1 (.slice (some ⟨g3, 0, none⟩) 3 cap3) 3 [.string p0, .string p1, .string p2])]) (cs := [.string s3]) (T := 9) (fun b => .slice (some ⟨b, 0, none⟩) 1 1) rfl (fun W => by kernel_rfl) fun bz hb => ?_
          clear hb
          repeat' (first | simp (disch := omega) only [sxE, wide_Text.E, Nat.reduceAdd, Nat.reduceEqDiff, Nat.reduceMul, Nat.reduceSub, Int.reduceAdd, Int.reduceSub, Int.reduceMul, Int.reduceNeg, Int.reduceLT, Int.reduceLE, Int.reduceEq, Int.reduceToNat, ↓reduceIte, Int.reducePow, Nat.reduceLeDiff, Nat.reduceLT, ne_eq, eq_self, List.length_cons, List.length_nil, z1] | (with_reducible refine Sx.call_at (f := 39) (fun W hW => l3.dv W) ?_) | (with_reducible refine Sx.call_at (f := 41) (fun W hW => f3 W hW) ?_) | (with_reducible refine Sx.call_at (f := 42) (fun W hW => t3.rp W) ?_) | (with_reducible refine eq_is (fun W => by exact eqm_run _ _ _ _ _ _ _ _ W) ?_) | (rw [wide_Text.p7_l]) | (with_reducible apply LX_round))
          refine genA_grow (P := Tryd.prog) rfl (L := [.g (cK bz [.string s3]), .g (wK 9 1 (.slice (some ⟨g3, 0, none⟩) 3 cap3) 3 [.string p0, .string p1, .string p2])]) (fun g cap => [.g (wK 9 1 (.slice (some ⟨g, 0, none⟩) (3 + 1) cap) (3 + 1) ([.string p0, .string p1, .string p2] ++ [.string s3]))]) Tryd.underlying67 hi hz0 hz1 hz2 rfl (by decide) rfl (fun W hok => hok (.g (wK 9 1 (.slice (some ⟨g3, 0, none⟩) 3 cap3) 3 [.string p0, .string p1, .string p2])) (List.mem_cons_of_mem _ (List.mem_singleton.2 rfl))) (fun g' h => by
            cases h
            have hm : g3 ∈ (kX W.heap.size [.g (cK bz [.string s3]), .g (wK 9 1 (.slice (some ⟨g3, 0, none⟩) 3 cap3) 3 [.string p0, .string p1, .string p2])]).bs := kX_bs.2 ⟨_, List.mem_cons_of_mem _ (List.mem_singleton.2 rfl), by simp [Kn.bs, wK, Value.ownBlock]⟩
            exact ⟨hm, hm⟩) List.mem_cons_self rfl (by decide) (fun u hu => by rw [List.mem_singleton.1 hu]; rfl) (by decide) (by decide) (fun g cap k hk => .inl (List.mem_singleton.1 hk)) fun g4 cap4 => ?_
          simp only [Nat.reduceAdd, List.cons_append, List.nil_append]
          repeat' (first | simp (disch := omega) only [sxE, wide_Text.E, Nat.reduceAdd, Nat.reduceEqDiff, Nat.reduceMul, Nat.reduceSub, Int.reduceAdd, Int.reduceSub, Int.reduceMul, Int.reduceNeg, Int.reduceLT, Int.reduceLE, Int.reduceEq, Int.reduceToNat, ↓reduceIte, Int.reducePow, Nat.reduceLeDiff, Nat.reduceLT, ne_eq, eq_self, List.length_cons, List.length_nil, z1] | (with_reducible refine Sx.call_at (f := 39) (fun W hW => l3.dv W) ?_) | (with_reducible refine Sx.call_at (f := 41) (fun W hW => f3 W hW) ?_) | (with_reducible refine Sx.call_at (f := 42) (fun W hW => t3.rp W) ?_) | (with_reducible refine eq_is (fun W => by exact eqm_run _ _ _ _ _ _ _ _ W) ?_) | (rw [wide_Text.p7_l]) | (with_reducible apply LX_round))
          have hm : g4 ∈ (kX W.heap.size [.g (wK 9 1 (.slice (some ⟨g4, 0, none⟩) 4 cap4) 4 [.string p0, .string p1, .string p2, .string s3])]).bs := kX_bs.2 ⟨_, List.mem_singleton.2 rfl, by simp [Kn.bs, wK, Value.ownBlock]⟩
          refine asks_revL [p0, p1, p2, s3] (by simp) (by simp) rfl rfl (List.mem_singleton.2 rfl) hm hm ?_
          repeat' (first | simp (disch := omega) only [sxE, wide_Text.E, Nat.reduceAdd, Nat.reduceEqDiff, Nat.reduceMul, Nat.reduceSub, Int.reduceAdd, Int.reduceSub, Int.reduceMul, Int.reduceNeg, Int.reduceLT, Int.reduceLE, Int.reduceEq, Int.reduceToNat, ↓reduceIte, Int.reducePow, Nat.reduceLeDiff, Nat.reduceLT, ne_eq, eq_self, List.length_cons, List.length_nil, z1] | (with_reducible refine Sx.call_at (f := 39) (fun W hW => l3.dv W) ?_) | (with_reducible refine Sx.call_at (f := 41) (fun W hW => f3 W hW) ?_) | (with_reducible refine Sx.call_at (f := 42) (fun W hW => t3.rp W) ?_) | (with_reducible refine eq_is (fun W => by exact eqm_run _ _ _ _ _ _ _ _ W) ?_) | (rw [wide_Text.p7_l]) | (with_reducible apply LX_round))
          have hflat : ([s3, p2, p1, p0].map (·.data.toList)).flatten = Lib.decDigits u0 := by
            simp only [List.map_cons, List.map_nil, List.flatten_cons, List.flatten_nil, List.append_nil]
            rw [t3.sl, t2.pl, t1.pl, t0.pl]
            have w3 : u3 = r3 := by have := l3.eq; rw [hq3] at this; omega
            rw [← w3]
            have x2 : Lib.decDigits u2 = Lib.decDigits u3 ++ pd 18 r2 := by rw [l2.eq]; exact dec_split 18 u3 r2 (by omega) l2.lt
            have x1 : Lib.decDigits u1 = Lib.decDigits u2 ++ pd 18 r1 := by rw [l1.eq]; exact dec_split 18 u2 r1 (by omega) l1.lt
            have x0 : Lib.decDigits u0 = Lib.decDigits u1 ++ pd 18 r0 := by rw [l0.eq]; exact dec_split 18 u1 r0 (by omega) l0.lt
            simp only [← List.append_assoc]
            rw [← x2, ← x1, ← x0]
          refine asks_joinL [s3, p2, p1, p0] (by simp) (by rw [hflat]; omega) rfl rfl ?_
          rw [hflat]
          generalize hD : (⟨(Lib.decDigits u0).toArray⟩ : ByteArray) = D at *
          cases nb
          · repeat' (first | simp (disch := omega) only [sxE, wide_Text.E, Nat.reduceAdd, Nat.reduceEqDiff, Nat.reduceMul, Nat.reduceSub, Int.reduceAdd, Int.reduceSub, Int.reduceMul, Int.reduceNeg, Int.reduceLT, Int.reduceLE, Int.reduceEq, Int.reduceToNat, ↓reduceIte, Int.reducePow, Nat.reduceLeDiff, Nat.reduceLT, ne_eq, eq_self, List.length_cons, List.length_nil, fin0])
          · repeat' (first | simp (disch := omega) only [sxE, wide_Text.E, Nat.reduceAdd, Nat.reduceEqDiff, Nat.reduceMul, Nat.reduceSub, Int.reduceAdd, Int.reduceSub, Int.reduceMul, Int.reduceNeg, Int.reduceLT, Int.reduceLE, Int.reduceEq, Int.reduceToNat, ↓reduceIte, Int.reducePow, Nat.reduceLeDiff, Nat.reduceLT, ne_eq, eq_self, List.length_cons, List.length_nil, cc, fin1])
        · have e : meq (lb0 (u4 : Int)) (lb1 (u4 : Int)) (lb2 (u4 : Int)) (lb3 (u4 : Int)) 0 0 0 0 = false := by rw [meq_zero l3.a4]; exact decide_eq_false hq3
          have ta := t3.ad
          have tc := t3.cd
          repeat' (first | simp (disch := omega) only [sxE, wide_Text.E, Nat.reduceAdd, Nat.reduceEqDiff, Nat.reduceMul, Nat.reduceSub, Int.reduceAdd, Int.reduceSub, Int.reduceMul, Int.reduceNeg, Int.reduceLT, Int.reduceLE, Int.reduceEq, Int.reduceToNat, ↓reduceIte, Int.reducePow, Nat.reduceLeDiff, Nat.reduceLT, ne_eq, eq_self, List.length_cons, List.length_nil, e, z1, ta, tc] | (with_reducible refine Sx.call_at (f := 39) (fun W hW => l3.dv W) ?_) | (with_reducible refine Sx.call_at (f := 41) (fun W hW => f3 W hW) ?_) | (with_reducible refine Sx.call_at (f := 42) (fun W hW => t3.rp W) ?_) | (with_reducible refine eq_is (fun W => by exact eqm_run _ _ _ _ _ _ _ _ W) ?_) | (rw [wide_Text.p7_l]) | (with_reducible apply LX_round))
          refine genA_c (L := [.g (wK 9 1 (.slice (some ⟨g3, 0, none⟩) 3 cap3) 3 [.string p0, .string p1, .string p2])]) (cs := [.string p3]) (T := 9) (fun b => .slice (some ⟨b, 0, none⟩) 1 1) rfl (fun W => by kernel_rfl) fun b3 hb => ?_
          clear hb
          repeat' (first | simp (disch := omega) only [sxE, wide_Text.E, Nat.reduceAdd, Nat.reduceEqDiff, Nat.reduceMul, Nat.reduceSub, Int.reduceAdd, Int.reduceSub, Int.reduceMul, Int.reduceNeg, Int.reduceLT, Int.reduceLE, Int.reduceEq, Int.reduceToNat, ↓reduceIte, Int.reducePow, Nat.reduceLeDiff, Nat.reduceLT, ne_eq, eq_self, List.length_cons, List.length_nil, z1] | (with_reducible refine Sx.call_at (f := 39) (fun W hW => l3.dv W) ?_) | (with_reducible refine Sx.call_at (f := 41) (fun W hW => f3 W hW) ?_) | (with_reducible refine Sx.call_at (f := 42) (fun W hW => t3.rp W) ?_) | (with_reducible refine eq_is (fun W => by exact eqm_run _ _ _ _ _ _ _ _ W) ?_) | (rw [wide_Text.p7_l]) | (with_reducible apply LX_round))
          refine genA_grow (P := Tryd.prog) rfl (L := [.g (cK b3 [.string p3]), .g (wK 9 1 (.slice (some ⟨g3, 0, none⟩) 3 cap3) 3 [.string p0, .string p1, .string p2])]) (fun g cap => [.g (wK 9 1 (.slice (some ⟨g, 0, none⟩) (3 + 1) cap) (3 + 1) ([.string p0, .string p1, .string p2] ++ [.string p3]))]) Tryd.underlying67 hi hz0 hz1 hz2 rfl (by decide) rfl (fun W hok => hok (.g (wK 9 1 (.slice (some ⟨g3, 0, none⟩) 3 cap3) 3 [.string p0, .string p1, .string p2])) (List.mem_cons_of_mem _ (List.mem_singleton.2 rfl))) (fun g' h => by
            cases h
            have hm : g3 ∈ (kX W.heap.size [.g (cK b3 [.string p3]), .g (wK 9 1 (.slice (some ⟨g3, 0, none⟩) 3 cap3) 3 [.string p0, .string p1, .string p2])]).bs := kX_bs.2 ⟨_, List.mem_cons_of_mem _ (List.mem_singleton.2 rfl), by simp [Kn.bs, wK, Value.ownBlock]⟩
            exact ⟨hm, hm⟩) List.mem_cons_self rfl (by decide) (fun u hu => by rw [List.mem_singleton.1 hu]; rfl) (by decide) (by decide) (fun g cap k hk => .inl (List.mem_singleton.1 hk)) fun g4 cap4 => ?_
          simp only [Nat.reduceAdd, List.cons_append, List.nil_append]
          clear e ta tc
          by_cases hq4 : u5 = 0
          · have e : meq (lb0 (u5 : Int)) (lb1 (u5 : Int)) (lb2 (u5 : Int)) (lb3 (u5 : Int)) 0 0 0 0 = true := by rw [meq_zero l4.a4]; exact decide_eq_true hq4
            repeat' (first | simp (disch := omega) only [sxE, wide_Text.E, Nat.reduceAdd, Nat.reduceEqDiff, Nat.reduceMul, Nat.reduceSub, Int.reduceAdd, Int.reduceSub, Int.reduceMul, Int.reduceNeg, Int.reduceLT, Int.reduceLE, Int.reduceEq, Int.reduceToNat, ↓reduceIte, Int.reducePow, Nat.reduceLeDiff, Nat.reduceLT, ne_eq, eq_self, List.length_cons, List.length_nil, e, z1] | (with_reducible refine Sx.call_at (f := 39) (fun W hW => l4.dv W) ?_) | (with_reducible refine Sx.call_at (f := 41) (fun W hW => f4 W hW) ?_) | (with_reducible refine Sx.call_at (f := 42) (fun W hW => t4.rp W) ?_) | (with_reducible refine eq_is (fun W => by exact eqm_run _ _ _ _ _ _ _ _ W) ?_) | (rw [wide_Text.p7_l]) | (with_reducible apply LX_round))
            refine genA_c (L := [.g (wK 9 1 (.slice (some ⟨g4, 0, none⟩) 4 cap4) 4 [.string p0, .string p1, .string p2, .string p3])]) (cs := [.string s4]) (T := 9) (fun b => .slice (some ⟨b, 0, none⟩) 1 1) rfl (fun W => by kernel_rfl) fun bz hb => ?_
            clear hb
            repeat' (first | simp (disch := omega) only [sxE, wide_Text.E, Nat.reduceAdd, Nat.reduceEqDiff, Nat.reduceMul, Nat.reduceSub, Int.reduceAdd, Int.reduceSub, Int.reduceMul, Int.reduceNeg, Int.reduceLT, Int.reduceLE, Int.reduceEq, Int.reduceToNat, ↓reduceIte, Int.reducePow, Nat.reduceLeDiff, Nat.reduceLT, ne_eq, eq_self, List.length_cons, List.length_nil, z1] | (with_reducible refine Sx.call_at (f := 39) (fun W hW => l4.dv W) ?_) | (with_reducible refine Sx.call_at (f := 41) (fun W hW => f4 W hW) ?_) | (with_reducible refine Sx.call_at (f := 42) (fun W hW => t4.rp W) ?_) | (with_reducible refine eq_is (fun W => by exact eqm_run _ _ _ _ _ _ _ _ W) ?_) | (rw [wide_Text.p7_l]) | (with_reducible apply LX_round))
            refine genA_grow (P := Tryd.prog) rfl (L := [.g (cK bz [.string s4]), .g (wK 9 1 (.slice (some ⟨g4, 0, none⟩) 4 cap4) 4 [.string p0, .string p1, .string p2, .string p3])]) (fun g cap => [.g (wK 9 1 (.slice (some ⟨g, 0, none⟩) (4 + 1) cap) (4 + 1) ([.string p0, .string p1, .string p2, .string p3] ++ [.string s4]))]) Tryd.underlying67 hi hz0 hz1 hz2 rfl (by decide) rfl (fun W hok => hok (.g (wK 9 1 (.slice (some ⟨g4, 0, none⟩) 4 cap4) 4 [.string p0, .string p1, .string p2, .string p3])) (List.mem_cons_of_mem _ (List.mem_singleton.2 rfl))) (fun g' h => by
              cases h
              have hm : g4 ∈ (kX W.heap.size [.g (cK bz [.string s4]), .g (wK 9 1 (.slice (some ⟨g4, 0, none⟩) 4 cap4) 4 [.string p0, .string p1, .string p2, .string p3])]).bs := kX_bs.2 ⟨_, List.mem_cons_of_mem _ (List.mem_singleton.2 rfl), by simp [Kn.bs, wK, Value.ownBlock]⟩
              exact ⟨hm, hm⟩) List.mem_cons_self rfl (by decide) (fun u hu => by rw [List.mem_singleton.1 hu]; rfl) (by decide) (by decide) (fun g cap k hk => .inl (List.mem_singleton.1 hk)) fun g5 cap5 => ?_
            simp only [Nat.reduceAdd, List.cons_append, List.nil_append]
            repeat' (first | simp (disch := omega) only [sxE, wide_Text.E, Nat.reduceAdd, Nat.reduceEqDiff, Nat.reduceMul, Nat.reduceSub, Int.reduceAdd, Int.reduceSub, Int.reduceMul, Int.reduceNeg, Int.reduceLT, Int.reduceLE, Int.reduceEq, Int.reduceToNat, ↓reduceIte, Int.reducePow, Nat.reduceLeDiff, Nat.reduceLT, ne_eq, eq_self, List.length_cons, List.length_nil, z1] | (with_reducible refine Sx.call_at (f := 39) (fun W hW => l4.dv W) ?_) | (with_reducible refine Sx.call_at (f := 41) (fun W hW => f4 W hW) ?_) | (with_reducible refine Sx.call_at (f := 42) (fun W hW => t4.rp W) ?_) | (with_reducible refine eq_is (fun W => by exact eqm_run _ _ _ _ _ _ _ _ W) ?_) | (rw [wide_Text.p7_l]) | (with_reducible apply LX_round))
            have hm : g5 ∈ (kX W.heap.size [.g (wK 9 1 (.slice (some ⟨g5, 0, none⟩) 5 cap5) 5 [.string p0, .string p1, .string p2, .string p3, .string s4])]).bs := kX_bs.2 ⟨_, List.mem_singleton.2 rfl, by simp [Kn.bs, wK, Value.ownBlock]⟩
            refine asks_revL [p0, p1, p2, p3, s4] (by simp) (by simp) rfl rfl (List.mem_singleton.2 rfl) hm hm ?_
            repeat' (first | simp (disch := omega) only [sxE, wide_Text.E, Nat.reduceAdd, Nat.reduceEqDiff, Nat.reduceMul, Nat.reduceSub, Int.reduceAdd, Int.reduceSub, Int.reduceMul, Int.reduceNeg, Int.reduceLT, Int.reduceLE, Int.reduceEq, Int.reduceToNat, ↓reduceIte, Int.reducePow, Nat.reduceLeDiff, Nat.reduceLT, ne_eq, eq_self, List.length_cons, List.length_nil, z1] | (with_reducible refine Sx.call_at (f := 39) (fun W hW => l4.dv W) ?_) | (with_reducible refine Sx.call_at (f := 41) (fun W hW => f4 W hW) ?_) | (with_reducible refine Sx.call_at (f := 42) (fun W hW => t4.rp W) ?_) | (with_reducible refine eq_is (fun W => by exact eqm_run _ _ _ _ _ _ _ _ W) ?_) | (rw [wide_Text.p7_l]) | (with_reducible apply LX_round))
            have hflat : ([s4, p3, p2, p1, p0].map (·.data.toList)).flatten = Lib.decDigits u0 := by
              simp only [List.map_cons, List.map_nil, List.flatten_cons, List.flatten_nil, List.append_nil]
              rw [t4.sl, t3.pl, t2.pl, t1.pl, t0.pl]
              have w4 : u4 = r4 := by have := l4.eq; rw [hq4] at this; omega
              rw [← w4]
              have x3 : Lib.decDigits u3 = Lib.decDigits u4 ++ pd 18 r3 := by rw [l3.eq]; exact dec_split 18 u4 r3 (by omega) l3.lt
              have x2 : Lib.decDigits u2 = Lib.decDigits u3 ++ pd 18 r2 := by rw [l2.eq]; exact dec_split 18 u3 r2 (by omega) l2.lt
              have x1 : Lib.decDigits u1 = Lib.decDigits u2 ++ pd 18 r1 := by rw [l1.eq]; exact dec_split 18 u2 r1 (by omega) l1.lt
              have x0 : Lib.decDigits u0 = Lib.decDigits u1 ++ pd 18 r0 := by rw [l0.eq]; exact dec_split 18 u1 r0 (by omega) l0.lt
              simp only [← List.append_assoc]
              rw [← x3, ← x2, ← x1, ← x0]
            refine asks_joinL [s4, p3, p2, p1, p0] (by simp) (by rw [hflat]; omega) rfl rfl ?_
            rw [hflat]
            generalize hD : (⟨(Lib.decDigits u0).toArray⟩ : ByteArray) = D at *
            cases nb
            · repeat' (first | simp (disch := omega) only [sxE, wide_Text.E, Nat.reduceAdd, Nat.reduceEqDiff, Nat.reduceMul, Nat.reduceSub, Int.reduceAdd, Int.reduceSub, Int.reduceMul, Int.reduceNeg, Int.reduceLT, Int.reduceLE, Int.reduceEq, Int.reduceToNat, ↓reduceIte, Int.reducePow, Nat.reduceLeDiff, Nat.reduceLT, ne_eq, eq_self, List.length_cons, List.length_nil, fin0])
            · repeat' (first | simp (disch := omega) only [sxE, wide_Text.E, Nat.reduceAdd, Nat.reduceEqDiff, Nat.reduceMul, Nat.reduceSub, Int.reduceAdd, Int.reduceSub, Int.reduceMul, Int.reduceNeg, Int.reduceLT, Int.reduceLE, Int.reduceEq, Int.reduceToNat, ↓reduceIte, Int.reducePow, Nat.reduceLeDiff, Nat.reduceLT, ne_eq, eq_self, List.length_cons, List.length_nil, cc, fin1])
          · exact absurd hbig hq4
end Go.Proofs.YtiiflgfnbgencaaDoor

/- Spl: Plain facts of the simplest fraction of an interval. -/
namespace Go.Proofs.YtiiflgfnbgencaaDoor
set_option linter.unusedVariables false
set_option linter.unusedSimpArgs false
/-- The simplest fraction from a / b to c / d, both greater than 0. -/
def sp : Nat → Int → Int → Int → Int → Int × Int
  | 0, _, _, _, _ => (0, 0)
  | n + 1, a, b, c, d =>
    if a % b = 0 then (a / b, 1)
    else if a / b < c / d then (a / b + 1, 1)
    else (a / b * (sp n d (c % d) b (a % b)).1 + (sp n d (c % d) b (a % b)).2, (sp n d (c % d) b (a % b)).1)
end Go.Proofs.YtiiflgfnbgencaaDoor

/- Hi: The reference's Int64 of a number that fits. -/
namespace Go.Proofs.YtiiflgfnbgencaaDoor
open Go Go.RowKit Sx
set_option linter.unusedVariables false
set_option linter.unusedSimpArgs false
set_option maxHeartbeats 1000000
def U8 (x : Int) : Prop := 0 ≤ x ∧ x ≤ 255
theorem U8.of_wf {x : Int} (h : (Lit.int .u8 x).wf = true) : U8 x := by
  have e : IntKind.u8.min = 0 := by decide
  have e' : IntKind.u8.max = 255 := by decide
  simp [Lit.wf, e, e'] at h
  exact h
end Go.Proofs.YtiiflgfnbgencaaDoor

/- CdR2: MADE BY PROGRAM (sxgen.py): the small code of some functions, points of it and their equations. -/
namespace Go.Proofs.YtiiflgfnbgencaaDoor
open Go Go.RowKit Sx
set_option linter.unusedVariables false
variable (C : Cx) (R L1 L2 L3 L4 : St → Prop)
namespace r02_Text
def r0 : List G := [(some 1, none, (.box true 5 (.tmp 0))), (some 2, none, (.mv (.const (.string ⟨#[]⟩))))]
def r1 : List G := [(some 8, none, (.ld true 5 (.tmp 1))), (some 9, none, (.call false 45 [(.tmp 8)])), (none, none, (.st true 5 (.tmp 1) (.tmp 9)))]
def r2 : List G := [(some 10, none, (.ld true 5 (.tmp 1))), (some 11, none, (.call false 46 [(.tmp 10)])), (some 3, none, (.mv (.tmp 11)))]
def r3 : List G := [(some 12, none, (.mv (.tmp 3))), (some 13, none, (.len false (.tmp 12))), (some 14, none, (.bin .eql (.tmp 13) (.const (.int .i64 0))))]
def r4 : List G := [(some 2, none, (.mv (.const (.string ⟨#[48]⟩))))]
def r5 : List G := [(some 4, none, (.mv (.const (.string ⟨#[]⟩))))]
def r6 : List G := [(some 15, none, (.mv (.tmp 3))), (some 16, none, (.len false (.tmp 15))), (some 17, none, (.bin .gtr (.tmp 16) (.const (.int .i64 0))))]
def r7 : List G := [(some 19, none, (.mv (.tmp 3))), (some 20, none, (.gen false (.bsl 72 1 [0]) [(.const (.int .u64 10))])), (some 21, none, (.call false 47 [(.tmp 19), (.tmp 20)])), (some 18, none, (.mv (.tmp 21))), (some 22, none, (.ex (.tmp 18) 0)), (some 23, none, (.ex (.tmp 18) 1)), (some 5, none, (.mv (.tmp 22))), (some 6, none, (.mv (.tmp 23)))]
def r8 : List G := [(some 7, none, (.mv (.const (.int .u64 0))))]
def r9 : List G := [(some 24, none, (.mv (.tmp 6))), (some 25, none, (.len false (.tmp 24))), (some 26, none, (.bin .gtr (.tmp 25) (.const (.int .i64 0))))]
def r10 : List G := [(some 27, none, (.mv (.tmp 6))), (some 28, none, (.is 1 (.tmp 27) (.const (.int .i64 0)))), (some 29, none, (.ld false 1 (.tmp 28))), (some 7, none, (.mv (.tmp 29)))]
def r11 : List G := [(some 30, none, (.mv (.tmp 7))), (some 31, none, (.bin .add (.const (.int .u64 48)) (.tmp 30))), (some 32, none, (.cv .u8 (.tmp 31))), (some 33, none, (.gen false (.bsl 76 1 [0]) [(.tmp 32)])), (some 34, none, (.gen false (.cvt 76 9) [(.tmp 33)])), (some 35, none, (.mv (.tmp 4))), (some 36, none, (.bin .add (.tmp 34) (.tmp 35))), (some 4, none, (.mv (.tmp 36)))]
def r12 : List G := [(some 37, none, (.mv (.tmp 5))), (some 3, none, (.mv (.tmp 37)))]
def r13 : List G := [(some 38, none, (.fa 0 (.tmp 1))), (some 39, none, (.ld false 1 (.tmp 38)))]
def r14 : List G := [(some 40, none, (.mv (.tmp 4))), (some 41, none, (.bin .add (.const (.string ⟨#[45]⟩)) (.tmp 40))), (some 2, none, (.mv (.tmp 41)))]
def r15 : List G := [(some 42, none, (.mv (.tmp 4))), (some 2, none, (.mv (.tmp 42)))]
def c : MC := (.seq (.reg r0 (some [1])) (.seq (.reg r1 (some [1])) (.seq (.reg r2 (some [1, 3])) (.seq (.seq (.reg r3 (some [1, 3, 14])) (.cond (.tmp 14) (.seq (.reg r4 (some [2])) .ret) .skip)) (.seq (.reg r5 (some [1, 3, 4])) (.seq (.block 0 (.loop (.seq (.seq (.reg r6 (some [1, 3, 4, 17])) (.cond (.tmp 17) .skip (.exit 0))) (.block 1 (.seq (.reg r7 (some [1, 4, 5, 6])) (.seq (.reg r8 (some [1, 4, 5, 6, 7])) (.seq (.seq (.reg r9 (some [1, 4, 5, 6, 7, 26])) (.cond (.tmp 26) (.reg r10 (some [1, 4, 5, 7])) .skip)) (.seq (.reg r11 (some [1, 4, 5])) (.reg r12 (some [1, 3, 4])))))))))) (.seq (.seq (.reg r13 (some [4, 39])) (.cond (.tmp 39) (.seq (.reg r14 (some [2])) .ret) .skip)) (.seq (.reg r15 (some [2])) .ret))))))))
def ann : Ann := [(0, (some [1], 0, [], [], [])), (1, (some [1], 0, [], [], [])), (2, (some [1, 3], 0, [], [], [])), (3, (some [1, 3, 14], 0, [], [], [])), (4, (some [2], 0, [], [], [])), (5, (some [1, 3, 4], 0, [], [], [])), (6, (some [1, 3, 4, 17], 0, [], [], [])), (7, (some [1, 4, 5, 6], 0, [], [], [])), (8, (some [1, 4, 5, 6, 7], 0, [], [], [])), (9, (some [1, 4, 5, 6, 7, 26], 0, [], [], [])), (10, (some [1, 4, 5, 7], 0, [], [], [])), (11, (some [1, 4, 5], 0, [], [], [])), (12, (some [1, 3, 4], 0, [], [], [])), (13, (some [4, 39], 0, [], [], [])), (14, (some [2], 0, [], [], [])), (15, (some [2], 0, [], [], []))]
theorem ok : compF Tryd.prog Tryd.f25 ann = some (43, c, [(2, none)]) := by kernel_rfl
def p1 (S : St) : Prop := ops C r15 (kq [2] R) S
def p3 (S : St) : Prop := ops C r14 (kq [2] R) S
def p2 (S : St) : Prop := condX (S.ev (.tmp 39)) (p3 C R) (p1 C R) S
def p4 (S : St) : Prop := ops C r13 (kq [4, 39] (p2 C R)) S
def p6 (S : St) : Prop := ops C r12 (kq [1, 3, 4] L1) S
def p7 (S : St) : Prop := ops C r11 (kq [1, 4, 5] (p6 C L1)) S
def p9 (S : St) : Prop := ops C r10 (kq [1, 4, 5, 7] (p7 C L1)) S
def p8 (S : St) : Prop := condX (S.ev (.tmp 26)) (p9 C L1) (p7 C L1) S
def p10 (S : St) : Prop := ops C r9 (kq [1, 4, 5, 6, 7, 26] (p8 C L1)) S
def p11 (S : St) : Prop := ops C r8 (kq [1, 4, 5, 6, 7] (p10 C L1)) S
def p12 (S : St) : Prop := ops C r7 (kq [1, 4, 5, 6] (p11 C L1)) S
def p13 (S : St) : Prop := condX (S.ev (.tmp 17)) (p12 C L1) (p4 C R) S
def p14 (S : St) : Prop := ops C r6 (kq [1, 3, 4, 17] (p13 C R L1)) S
def p5 (S : St) : Prop := LX C (fun L1 => (p14 C R L1)) S
theorem p5_l (S : St) : p5 C R S = LX C (fun L1 => (p14 C R L1)) S := rfl
def p15 (S : St) : Prop := ops C r5 (kq [1, 3, 4] (p5 C R)) S
def p17 (S : St) : Prop := ops C r4 (kq [2] R) S
def p16 (S : St) : Prop := condX (S.ev (.tmp 14)) (p17 C R) (p15 C R) S
def p18 (S : St) : Prop := ops C r3 (kq [1, 3, 14] (p16 C R)) S
def p19 (S : St) : Prop := ops C r2 (kq [1, 3] (p18 C R)) S
def p20 (S : St) : Prop := ops C r1 (kq [1] (p19 C R)) S
def p21 (S : St) : Prop := ops C r0 (kq [1] (p20 C R)) S
theorem s (S : St) : X C c (retK R) S = p21 C R S := by kernel_rfl
theorem E : type_of% @r15.eq_1 ∧ type_of% @p1.eq_1 ∧ type_of% @r14.eq_1 ∧ type_of% @p3.eq_1 ∧ type_of% @p2.eq_1 ∧ type_of% @r13.eq_1 ∧ type_of% @p4.eq_1 ∧ type_of% @r12.eq_1 ∧ type_of% @p6.eq_1 ∧ type_of% @r11.eq_1 ∧ type_of% @p7.eq_1 ∧ type_of% @r10.eq_1 ∧ type_of% @p9.eq_1 ∧ type_of% @p8.eq_1 ∧ type_of% @r9.eq_1 ∧ type_of% @p10.eq_1 ∧ type_of% @r8.eq_1 ∧ type_of% @p11.eq_1 ∧ type_of% @r7.eq_1 ∧ type_of% @p12.eq_1 ∧ type_of% @p13.eq_1 ∧ type_of% @r6.eq_1 ∧ type_of% @p14.eq_1 ∧ type_of% @r5.eq_1 ∧ type_of% @p15.eq_1 ∧ type_of% @r4.eq_1 ∧ type_of% @p17.eq_1 ∧ type_of% @p16.eq_1 ∧ type_of% @r3.eq_1 ∧ type_of% @p18.eq_1 ∧ type_of% @r2.eq_1 ∧ type_of% @p19.eq_1 ∧ type_of% @r1.eq_1 ∧ type_of% @p20.eq_1 ∧ type_of% @r0.eq_1 ∧ type_of% @p21.eq_1 ∧ type_of% @s := ⟨@r15.eq_1, @p1.eq_1, @r14.eq_1, @p3.eq_1, @p2.eq_1, @r13.eq_1, @p4.eq_1, @r12.eq_1, @p6.eq_1, @r11.eq_1, @p7.eq_1, @r10.eq_1, @p9.eq_1, @p8.eq_1, @r9.eq_1, @p10.eq_1, @r8.eq_1, @p11.eq_1, @r7.eq_1, @p12.eq_1, @p13.eq_1, @r6.eq_1, @p14.eq_1, @r5.eq_1, @p15.eq_1, @r4.eq_1, @p17.eq_1, @p16.eq_1, @r3.eq_1, @p18.eq_1, @r2.eq_1, @p19.eq_1, @r1.eq_1, @p20.eq_1, @r0.eq_1, @p21.eq_1, @s⟩
end r02_Text
end Go.Proofs.YtiiflgfnbgencaaDoor

/- Tz: The reference's Text, for all Wides. -/
namespace Go.Proofs.YtiiflgfnbgencaaDoor
open Go Go.RowKit Sx
set_option linter.unusedVariables false
set_option linter.unusedSimpArgs false
/-- string(b) of a row of bytes that is known cell by cell. -/
theorem genA_cvt {C : Cx} {S : St} {K : St → Prop} {d : Option Nat} {t u e : TypeId} {L : List Kn} {b cap : Nat} (bs : List UInt8) (hP : C.P = Tryd.prog) (hs : Tryd.prog.underlying t = some (.slice e)) (he : Tryd.prog.underlying e = some (.int .u8)) (hd : Tryd.prog.underlying u = some .string)
    (hT : S.T = kX C.w0.heap.size L) (hm : .g (cK b (bs.map fun x => .int .u8 (x.toNat : Int))) ∈ L)
    (hk : K (S.put d (.v (.string ⟨bs.toArray⟩)))) : genA C (.cvt t u) [.slice (some ⟨b, 0, none⟩) bs.length cap] d K S := by
  refine genA_T (ι := Unit) (fun _ => .string ⟨bs.toArray⟩) (fun _ => S.T) (fun W hW hok hbs => ⟨?_⟩) (fun _ => hk)
  have hok' := hok
  rw [hT] at hok'
  have ho : (cK b (bs.map fun x => .int .u8 (x.toNat : Int))).ok C.w0.heap.size W := hok' _ hm
  have hr : (convert t u (.slice (some ⟨b, 0, none⟩) bs.length cap)).run C.P W = .ok (.string ⟨bs.toArray⟩) W := by
    rw [hP]
    refine run_convert_bytes_back W t u e _ cap bs hs he hd fun j hj => ?_
    rw [Addr.add_lit]
    exact cK_cell ho (by rw [Nat.zero_add, List.getElem?_map, List.getElem?_eq_getElem hj]; rfl)
  have hr' : (genRun (.cvt t u) [.slice (some ⟨b, 0, none⟩) bs.length cap]).run C.P W = .ok (.value (.string ⟨bs.toArray⟩)) W := by
    show (do pure (Next.value (← convert t u (.slice (some ⟨b, 0, none⟩) bs.length cap)))).run C.P W = _
    rw [run_bind_ok hr]
    rfl
  rw [hr']
  refine ⟨(), rfl, ⟨rfl, rfl, rfl, Nat.le_refl _, fun _ _ _ => rfl⟩, hok, ?_, fun x hx => ⟨.inl hx, (hbs x hx).2⟩⟩
  rw [hT]
  exact kX_stab C _
theorem wl_ten : wl 10 = [10] := by rw [wl_cons (by omega), wl_nil (by omega)]; rfl
theorem slu_ten {W : World} {b n : Nat} (h : (cK b [.int .u64 10]).ok n W) : SlU W (.slice (some ⟨b, 0, none⟩) (wl 10).length 1) (wl 10) := by
  rw [wl_ten]
  refine ⟨_, 1, 1, rfl, rfl, Nat.le_refl _, by decide, fun x hx => ?_, fun _ => ⟨b, 0, rfl, ((cK b [.int .u64 10]).lt h b (List.mem_singleton.2 rfl)).2, fun i hi => ?_⟩⟩
  · rw [List.mem_singleton.1 hx]
    exact ⟨by decide, by decide⟩
  · obtain rfl : i = 0 := by omega
    exact cK_cell h rfl
theorem am_nat {m : Nat} {k : Nat} (h : A4 (m : Int)) (hk : k ≤ m) : A4 (k : Int) := ⟨by omega, by have := h.2; omega⟩
theorem wl_digit {d : Nat} (h : d < 10) : wl (d : Int) = if d = 0 then [] else [(d : Int)] := by
  by_cases h0 : d = 0
  · rw [if_pos h0, h0]; exact wl_nil (by omega)
  · rw [if_neg h0, wl_cons (by omega), wl_nil (by omega), Int.emod_eq_of_lt (by omega) (by omega)]
theorem wl_pos {m : Int} (h : 0 < m) : 0 < (wl m).length := by rw [wl_cons h]; exact Nat.succ_pos _
theorem dig_byte {d : Nat} (h : d < 10) : ((UInt8.ofNat (48 + d)).toNat : Int) = 48 + (d : Int) := by
  have e : (UInt8.ofNat (48 + d)).toNat = (48 + d) % 2 ^ 8 := UInt8.toNat_ofNat' ..
  have : (48 + d) % 2 ^ 8 = 48 + d := Nat.mod_eq_of_lt (by omega)
  omega
def digs (m : Nat) : List UInt8 := if m = 0 then [] else Lib.decDigits m
theorem digs_step {m : Nat} (h : 0 < m) : digs m = digs (m / 10) ++ [UInt8.ofNat (48 + m % 10)] := by
  unfold digs
  rw [if_neg (by omega)]
  by_cases h1 : m < 10
  · rw [if_pos (by omega), Lib.decDigits_one h1, Nat.mod_eq_of_lt h1]; rfl
  · rw [if_neg (by omega), dec_big h1]
structure TxS where
  m : Nat
  a : Option Addr
  cap : Nat
  out : ByteArray
def txF (n0 : Nat) (cs : List Value) (x : TxS) : St := ⟨1, [(1, .p 0 0), (3, .v (.slice x.a (wl (x.m : Int)).length x.cap)), (4, .v (.string x.out))], [(0, cs)], kX n0 [.r (.slice x.a (wl (x.m : Int)).length x.cap) (wl (x.m : Int))]⟩
set_option maxRecDepth 100000 in
set_option maxHeartbeats 2000000 in
theorem rg_textA {v : Value} {z : Int} (h : IsW v z) (W : World) : Gives Tryd.prog 25 [v] W (· = .string (txt z)) := by
  obtain ⟨n, m, rfl, am, hab, hz, hn⟩ := h.me
  obtain ⟨M, rfl⟩ : ∃ u0 : Nat, m = (u0 : Int) := ⟨m.toNat, (Int.toNat_of_nonneg am.1).symm⟩
  have etx : txt z = (if decide (z < 0) then ⟨(45 :: Lib.decDigits M).toArray⟩ else ⟨(Lib.decDigits M).toArray⟩) := by
    unfold txt
    rw [hab]
    by_cases hneg : z < 0
    · simp [hneg]
    · simp [hneg]
  have p1 : cn n (lb0 (M : Int)) (lb1 (M : Int)) (lb2 (M : Int)) (lb3 (M : Int)) = decide (z < 0) := hn
  have hz0 : M = 0 → decide (z < 0) = false := fun e => decide_eq_false (by subst e; unfold ab at hab; split at hab <;> omega)
  rw [etx]
  clear h hz hn hab etx
  have hlen : (Lib.decDigits M).length ≤ 1000 := dec_len am
  generalize decide (z < 0) = nb at *
  refine gives_known en_r02_Text ?_
  refine known_of (enter Tryd.func25 r02_Text.ok (args := [_]) (by simp) ?_)
  repeat' (first | simp (disch := omega) only [sxE, r02_Text.E, Nat.reduceAdd, Nat.reduceEqDiff, Nat.reduceMul, Nat.reduceSub, Int.reduceAdd, Int.reduceSub, Int.reduceMul, Int.reduceNeg, Int.reduceLT, Int.reduceLE, Int.reduceEq, Int.reduceToNat, ↓reduceIte, Int.reducePow, Nat.reduceLeDiff, Nat.reduceLT, ne_eq, eq_self, List.length_cons, List.length_nil, p1] | (with_reducible refine Sx.call_at (f := 45) (fun W hW => rg_clean _ (lb0_in _) (lb1_in _) (lb2_in _) (lb3_in _) W) ?_))
  by_cases h0 : M = 0
  · rw [hz0 h0] at *
    refine asks_r (L := []) (ws := []) en_r02_of (kX_nil _) (fun W hW _ => by have := of_mag (n := false) am W; unfold MagP at this; rwa [show wl (M : Int) = [] by rw [h0]; exact wl_nil (Int.le_refl _)] at this) fun a1 c1 hs1 hn1 => ?_
    have e0 : (⟨(Lib.decDigits M).toArray⟩ : ByteArray) = ⟨#[48]⟩ := by rw [h0, Lib.decDigits_one (by decide)]; rfl
    clear hs1 hn1 hlen
    repeat' (first | simp (disch := omega) only [sxE, r02_Text.E, Nat.reduceAdd, Nat.reduceEqDiff, Nat.reduceMul, Nat.reduceSub, Int.reduceAdd, Int.reduceSub, Int.reduceMul, Int.reduceNeg, Int.reduceLT, Int.reduceLE, Int.reduceEq, Int.reduceToNat, ↓reduceIte, Int.reducePow, Nat.reduceLeDiff, Nat.reduceLT, ne_eq, eq_self, List.length_cons, List.length_nil, e0])
  · refine asks_r (L := []) (ws := wl (M : Int)) en_r02_of (kX_nil _) (fun W hW _ => by have := of_mag (n := nb) am W; unfold MagP at this; exact this) fun a1 c1 hs1 hn1 => ?_
    have hpos : 0 < (wl (M : Int)).length := wl_pos (by omega)
    clear hs1 hn1
    repeat' (first | simp (disch := omega) only [sxE, r02_Text.E, Nat.reduceAdd, Nat.reduceEqDiff, Nat.reduceMul, Nat.reduceSub, Int.reduceAdd, Int.reduceSub, Int.reduceMul, Int.reduceNeg, Int.reduceLT, Int.reduceLE, Int.reduceEq, Int.reduceToNat, ↓reduceIte, Int.reducePow, Nat.reduceLeDiff, Nat.reduceLT, ne_eq, eq_self, List.length_cons, List.length_nil])
    rw [r02_Text.p5_l]
    refine LX_inv (txF W.heap.size [.bool nb, .int .u64 (lb0 (M : Int)), .int .u64 (lb1 (M : Int)), .int .u64 (lb2 (M : Int)), .int .u64 (lb3 (M : Int))]) (fun x => A4 (x.m : Int) ∧ digs x.m ++ x.out.data.toList = Lib.decDigits M) (fun x => x.m) ?round ⟨M, a1, c1, ⟨#[]⟩⟩ ⟨am, by unfold digs; rw [if_neg h0]; simp⟩ ?start
    case start => simp (disch := omega) only [sxE, r02_Text.E, Nat.reduceAdd, Nat.reduceEqDiff, Nat.reduceMul, Nat.reduceSub, Int.reduceAdd, Int.reduceSub, Int.reduceMul, Int.reduceNeg, Int.reduceLT, Int.reduceLE, Int.reduceEq, Int.reduceToNat, ↓reduceIte, Int.reducePow, Nat.reduceLeDiff, Nat.reduceLT, ne_eq, eq_self, List.length_cons, List.length_nil, txF]
    case round =>
      rintro ⟨m, a, cap, out⟩ ⟨am', hI⟩
      dsimp only at am' hI ⊢
      unfold txF
      dsimp only
      have hsz : out.size ≤ 1000 := by
        have e1 : out.size = out.data.toList.length := by show out.data.size = _; simp
        rw [e1]
        have : (digs m ++ out.data.toList).length ≤ 1000 := by rw [hI]; exact hlen
        rw [List.length_append] at this
        omega
      by_cases hm0 : m = 0
      · have ew : (wl (m : Int)).length = 0 := by rw [hm0, wl_nil (by omega)]; rfl
        have eo : out = ⟨(Lib.decDigits M).toArray⟩ := by
          rw [← hI]
          unfold digs
          rw [if_pos hm0]
          simp
        rw [ew]
        clear hI hsz
        subst eo
        generalize hD : (⟨(Lib.decDigits M).toArray⟩ : ByteArray) = D at *
        have fin0 : (if false = true then (⟨(45 :: Lib.decDigits M).toArray⟩ : ByteArray) else D) = D := rfl
        have fin1 : (⟨#[45]⟩ : ByteArray) ++ D = ⟨(45 :: Lib.decDigits M).toArray⟩ := by rw [← hD]; exact ByteArray.ext (by simp)
        have cc : ¬ (((⟨#[45]⟩ : ByteArray).size + D.size : Nat) : Int) > IntKind.i64.max := by
          have e1 : D.size = (Lib.decDigits M).length := by rw [← hD]; show (Lib.decDigits M).toArray.size = _; simp
          have e2 : IntKind.i64.max = 9223372036854775807 := by decide
          have e3 : (⟨#[45]⟩ : ByteArray).size = 1 := rfl
          rw [e1, e2, e3]
          omega
        cases nb
        · repeat' (first | simp (disch := omega) only [sxE, r02_Text.E, Nat.reduceAdd, Nat.reduceEqDiff, Nat.reduceMul, Nat.reduceSub, Int.reduceAdd, Int.reduceSub, Int.reduceMul, Int.reduceNeg, Int.reduceLT, Int.reduceLE, Int.reduceEq, Int.reduceToNat, ↓reduceIte, Int.reducePow, Nat.reduceLeDiff, Nat.reduceLT, ne_eq, eq_self, List.length_cons, List.length_nil, fin0])
        · repeat' (first | simp (disch := omega) only [sxE, r02_Text.E, Nat.reduceAdd, Nat.reduceEqDiff, Nat.reduceMul, Nat.reduceSub, Int.reduceAdd, Int.reduceSub, Int.reduceMul, Int.reduceNeg, Int.reduceLT, Int.reduceLE, Int.reduceEq, Int.reduceToNat, ↓reduceIte, Int.reducePow, Nat.reduceLeDiff, Nat.reduceLT, ne_eq, eq_self, List.length_cons, List.length_nil, cc, fin1])
      · have hp : 0 < (wl (m : Int)).length := wl_pos (by omega)
        repeat' (first | simp (disch := omega) only [sxE, r02_Text.E, Nat.reduceAdd, Nat.reduceEqDiff, Nat.reduceMul, Nat.reduceSub, Int.reduceAdd, Int.reduceSub, Int.reduceMul, Int.reduceNeg, Int.reduceLT, Int.reduceLE, Int.reduceEq, Int.reduceToNat, ↓reduceIte, Int.reducePow, Nat.reduceLeDiff, Nat.reduceLT, ne_eq, eq_self, List.length_cons, List.length_nil])
        refine genA_c (L := [.r (.slice a (wl (m : Int)).length cap) (wl (m : Int))]) (cs := [.int .u64 10]) (T := 25) (fun b => .slice (some ⟨b, 0, none⟩) 1 1) rfl (fun W => by kernel_rfl) fun gb hgb => ?_
        clear hgb
        repeat' (first | simp (disch := omega) only [sxE, r02_Text.E, Nat.reduceAdd, Nat.reduceEqDiff, Nat.reduceMul, Nat.reduceSub, Int.reduceAdd, Int.reduceSub, Int.reduceMul, Int.reduceNeg, Int.reduceLT, Int.reduceLE, Int.reduceEq, Int.reduceToNat, ↓reduceIte, Int.reducePow, Nat.reduceLeDiff, Nat.reduceLT, ne_eq, eq_self, List.length_cons, List.length_nil])
        have e1 : (m : Int) / 10 = ((m / 10 : Nat) : Int) := by omega
        have e2 : (m : Int) % 10 = ((m % 10 : Nat) : Int) := by omega
        have hd10 : m % 10 < 10 := Nat.mod_lt _ (by decide)
        refine asks_r2 (L := [.g (cK gb [.int .u64 10]), .r (.slice a (wl (m : Int)).length cap) (wl (m : Int))]) (ws := wl ((m / 10 : Nat) : Int)) (vs := wl ((m % 10 : Nat) : Int)) en_r02_divmod rfl (fun W hW hok => by
          have h1 : SlU W (.slice a (wl (m : Int)).length cap) (wl (m : Int)) := (hok (.r (.slice a (wl (m : Int)).length cap) (wl (m : Int))) (List.mem_cons_of_mem _ (List.mem_singleton.2 rfl))).1
          have h2 := slu_ten (hok (.g (cK gb [.int .u64 10])) List.mem_cons_self)
          have := rdivmod_any (y := 10) am' ⟨by decide, by decide⟩ (by decide) h1 h2
          rw [e1, e2] at this
          simpa [wl_ten] using this) fun a2 c2 b2 d2 hs2 hs3 => ?_
        have hdg := wl_digit hd10
        have hstep := digs_step (m := m) (by omega)
        have am2 : A4 ((m / 10 : Nat) : Int) := am_nat am' (Nat.div_le_self _ _)
        have hlt : m / 10 < m := Nat.div_lt_self (by omega) (by decide)
        clear e1 e2
        have hb := dig_byte hd10
        generalize hq : m / 10 = q at *
        generalize hdd : m % 10 = dd at *
        clear hq hdd
        generalize UInt8.ofNat (48 + dd) = c at *
        have w2 : IntKind.u64.wrap (48 + (dd : Int)) = (c.toNat : Int) := by unfold IntKind.wrap; simp [IntKind.signed, IntKind.bits]; omega
        have w3 : IntKind.u8.wrap (c.toNat : Int) = (c.toNat : Int) := by unfold IntKind.wrap; simp [IntKind.signed, IntKind.bits]; omega
        have cd : ¬ (((⟨#[c]⟩ : ByteArray).size + out.size : Nat) : Int) > IntKind.i64.max := by
          have e2 : IntKind.i64.max = 9223372036854775807 := by decide
          have e3 : (⟨#[c]⟩ : ByteArray).size = 1 := rfl
          rw [e2, e3]
          omega
        have hfin : digs q ++ ((⟨#[c]⟩ : ByteArray) ++ out).data.toList = Lib.decDigits M := by
          rw [← hI, hstep]
          simp
        clear hI hstep hsz hm0 hp hlen
        by_cases hd0 : dd = 0
        · have ew : (wl (dd : Int)).length = 0 := by rw [hdg, if_pos hd0]; rfl
          have w4 : IntKind.u8.wrap 48 = (c.toNat : Int) := by rw [hb, hd0]; rfl
          rw [ew]
          repeat' (first | simp (disch := omega) only [sxE, r02_Text.E, Nat.reduceAdd, Nat.reduceEqDiff, Nat.reduceMul, Nat.reduceSub, Int.reduceAdd, Int.reduceSub, Int.reduceMul, Int.reduceNeg, Int.reduceLT, Int.reduceLE, Int.reduceEq, Int.reduceToNat, ↓reduceIte, Int.reducePow, Nat.reduceLeDiff, Nat.reduceLT, ne_eq, eq_self, List.length_cons, List.length_nil, w4])
          refine genA_c (L := [.r (.slice a2 (wl (q : Int)).length c2) (wl (q : Int)), .r (.slice b2 0 d2) (wl (dd : Int)), .g (cK gb [.int .u64 10]), .r (.slice a (wl (m : Int)).length cap) (wl (m : Int))]) (cs := [.int .u8 (c.toNat : Int)]) (T := 5) (fun b => .slice (some ⟨b, 0, none⟩) 1 1) rfl (fun W => by kernel_rfl) fun g3 hg3 => ?_
          clear hg3
          repeat' (first | simp (disch := omega) only [sxE, r02_Text.E, Nat.reduceAdd, Nat.reduceEqDiff, Nat.reduceMul, Nat.reduceSub, Int.reduceAdd, Int.reduceSub, Int.reduceMul, Int.reduceNeg, Int.reduceLT, Int.reduceLE, Int.reduceEq, Int.reduceToNat, ↓reduceIte, Int.reducePow, Nat.reduceLeDiff, Nat.reduceLT, ne_eq, eq_self, List.length_cons, List.length_nil])
          refine genA_cvt (L := [.g (cK g3 [.int .u8 (c.toNat : Int)]), .r (.slice a2 (wl (q : Int)).length c2) (wl (q : Int)), .r (.slice b2 0 d2) (wl (dd : Int)), .g (cK gb [.int .u64 10]), .r (.slice a (wl (m : Int)).length cap) (wl (m : Int))]) [c] rfl Tryd.underlying76 Tryd.underlying5 Tryd.underlying9 rfl List.mem_cons_self ?_
          repeat' (first | simp (disch := omega) only [sxE, r02_Text.E, Nat.reduceAdd, Nat.reduceEqDiff, Nat.reduceMul, Nat.reduceSub, Int.reduceAdd, Int.reduceSub, Int.reduceMul, Int.reduceNeg, Int.reduceLT, Int.reduceLE, Int.reduceEq, Int.reduceToNat, ↓reduceIte, Int.reducePow, Nat.reduceLeDiff, Nat.reduceLT, ne_eq, eq_self, List.length_cons, List.length_nil, cd])
          exact ⟨⟨q, a2, c2, (⟨#[c]⟩ : ByteArray) ++ out⟩, ⟨am2, hfin⟩, hlt, ⟨⟨rfl, rfl⟩, extS_kn fun k hk => by rw [List.mem_singleton.1 hk]; exact List.mem_cons_of_mem _ List.mem_cons_self⟩⟩
        · rw [hdg, if_neg hd0] at hs3
          rw [hdg, if_neg hd0]
          obtain ⟨b3, o3, rfl⟩ : ∃ b off, b2 = some ⟨b, off, none⟩ := hs3.some Nat.zero_lt_one
          have g0 : [(dd : Int)].getD 0 0 = dd := rfl
          repeat' (first | simp (disch := omega) only [sxE, r02_Text.E, Nat.reduceAdd, Nat.reduceEqDiff, Nat.reduceMul, Nat.reduceSub, Int.reduceAdd, Int.reduceSub, Int.reduceMul, Int.reduceNeg, Int.reduceLT, Int.reduceLE, Int.reduceEq, Int.reduceToNat, ↓reduceIte, Int.reducePow, Nat.reduceLeDiff, Nat.reduceLT, ne_eq, eq_self, List.length_cons, List.length_nil, w2, w3, g0, Nat.add_zero] | (refine ldP_r 0 rfl (List.mem_cons_of_mem _ List.mem_cons_self) Nat.zero_lt_one ?_))
          refine genA_c (L := [.r (.slice a2 (wl (q : Int)).length c2) (wl (q : Int)), .r (.slice (some ⟨b3, o3, none⟩) 1 d2) [(dd : Int)], .g (cK gb [.int .u64 10]), .r (.slice a (wl (m : Int)).length cap) (wl (m : Int))]) (cs := [.int .u8 (c.toNat : Int)]) (T := 5) (fun b => .slice (some ⟨b, 0, none⟩) 1 1) rfl (fun W => by kernel_rfl) fun g3 hg3 => ?_
          clear hg3
          repeat' (first | simp (disch := omega) only [sxE, r02_Text.E, Nat.reduceAdd, Nat.reduceEqDiff, Nat.reduceMul, Nat.reduceSub, Int.reduceAdd, Int.reduceSub, Int.reduceMul, Int.reduceNeg, Int.reduceLT, Int.reduceLE, Int.reduceEq, Int.reduceToNat, ↓reduceIte, Int.reducePow, Nat.reduceLeDiff, Nat.reduceLT, ne_eq, eq_self, List.length_cons, List.length_nil])
          refine genA_cvt (L := [.g (cK g3 [.int .u8 (c.toNat : Int)]), .r (.slice a2 (wl (q : Int)).length c2) (wl (q : Int)), .r (.slice (some ⟨b3, o3, none⟩) 1 d2) [(dd : Int)], .g (cK gb [.int .u64 10]), .r (.slice a (wl (m : Int)).length cap) (wl (m : Int))]) [c] rfl Tryd.underlying76 Tryd.underlying5 Tryd.underlying9 rfl List.mem_cons_self ?_
          repeat' (first | simp (disch := omega) only [sxE, r02_Text.E, Nat.reduceAdd, Nat.reduceEqDiff, Nat.reduceMul, Nat.reduceSub, Int.reduceAdd, Int.reduceSub, Int.reduceMul, Int.reduceNeg, Int.reduceLT, Int.reduceLE, Int.reduceEq, Int.reduceToNat, ↓reduceIte, Int.reducePow, Nat.reduceLeDiff, Nat.reduceLT, ne_eq, eq_self, List.length_cons, List.length_nil, cd])
          exact ⟨⟨q, a2, c2, (⟨#[c]⟩ : ByteArray) ++ out⟩, ⟨am2, hfin⟩, hlt, ⟨⟨rfl, rfl⟩, extS_kn fun k hk => by rw [List.mem_singleton.1 hk]; exact List.mem_cons_of_mem _ List.mem_cons_self⟩⟩
end Go.Proofs.YtiiflgfnbgencaaDoor

/- L02: Helpers of the statements about wide: Int64, Unsigned, Sub of the program; known. -/
namespace Go.Proofs.YtiiflgfnbgencaaDoor
open Go Go.RowKit Sx
set_option linter.unusedVariables false
set_option linter.unusedSimpArgs false
theorem eqs_run {ng : Bool} {xo yo : Operand} (a : ByteArray) (W : World) :
    ((do eqGuard (if ng then .neq else .eql) 9 xo yo (.string a) (.string a); binOp (if ng then .neq else .eql) 9 (.string a) (.string a)) : Sem Value).run Tryd.prog W = .ok (.bool (if ng then false else true)) W := by
  have e : (a.toList == a.toList) = true := beq_self_eq_true _
  cases ng
  · have g : (eqGuard .eql 9 xo yo (.string a) (.string a)).run Tryd.prog W = .ok () W := by unfold eqGuard; rfl
    show (do eqGuard .eql 9 xo yo (.string a) (.string a); binOp .eql 9 (.string a) (.string a) : Sem Value).run Tryd.prog W = _
    rw [run_bind_ok g]
    have e2 : binOp .eql 9 (.string a) (.string a) = Op.stringOp .eql a a := by unfold binOp; rfl
    rw [e2]
    unfold Op.stringOp
    simp only [e]
    rfl
  · have g : (eqGuard .neq 9 xo yo (.string a) (.string a)).run Tryd.prog W = .ok () W := by unfold eqGuard; rfl
    show (do eqGuard .neq 9 xo yo (.string a) (.string a); binOp .neq 9 (.string a) (.string a) : Sem Value).run Tryd.prog W = _
    rw [run_bind_ok g]
    have e2 : binOp .neq 9 (.string a) (.string a) = Op.stringOp .neq a a := by unfold binOp; rfl
    rw [e2]
    unfold Op.stringOp
    simp only [e]
    rfl
set_option maxRecDepth 100000 in
set_option maxHeartbeats 1000000 in
theorem g_known02 (W : World) (ht : tabs W) : Gives Tryd.prog 13 [] W (· = .bool true) := by
  have i3 : I64 (-3) := ⟨by decide, by decide⟩
  have i7 : I64 (-7) := ⟨by decide, by decide⟩
  have i2 : I64 2 := ⟨by decide, by decide⟩
  have i4 : I64 (-4) := ⟨by decide, by decide⟩
  have i1 : I64 1 := ⟨by decide, by decide⟩
  have u3 : U64 9223372036854775808 := ⟨by decide, by decide⟩
  have f3 := (bd_i64 i3).fits
  have f7 := (bd_i64 i7).fits
  have f2 := (bd_i64 i2).fits
  have f4 := (bd_i64 i4).fits
  have f1 := (bd_i64 i1).fits
  have fu := (bd_u64 u3).fits
  have fp : Fits (-27670116110564327424) := (fits_lt _).2 (by decide)
  have o3 := fun W => gx_of i3 W
  have o7 := fun W => gx_of i7 W
  have o2 := fun W => gx_of i2 W
  have o4 := fun W => gx_of i4 W
  have o1 := fun W => gx_of i1 W
  have ou := fun W => gx_ofU u3 W
  have mu : ∀ W, Gives Tryd.prog 12 [WX (-3), WX 9223372036854775808] W (· = .tuple #[WX (-27670116110564327424), .bool true]) := fun W => gx_mul f3 fu fp W
  have dv : ∀ W, Gives Tryd.prog 20 [WX (-7), WX 2] W (· = .tuple #[WX (-4), WX 1, .bool true]) := fun W => gx_divmod f7 f2 (by decide) W
  have tx : ∀ W', Below W.heap.size W W' → Gives Tryd.prog 24 [WX (-27670116110564327424)] W' (· = .string ⟨#[45, 50, 55, 54, 55, 48, 49, 49, 54, 49, 49, 48, 53, 54, 52, 51, 50, 55, 52, 50, 52]⟩) := fun W' hb => g_text W' (tabs_below ht rfl hb)
  have va := fun W => gx_valid fp W
  refine gives_known en_w02_known ?_
  refine known_of (enter Tryd.func13 w02_known.ok (args := []) (by simp) ?_)
  repeat' (first | simp (disch := omega) only [sxE, w02_known.E, Nat.reduceAdd, Nat.reduceEqDiff, Nat.reduceMul, Nat.reduceSub, Int.reduceAdd, Int.reduceSub, Int.reduceMul, Int.reduceNeg, Int.reduceLT, Int.reduceLE, Int.reduceEq, Int.reduceToNat, ↓reduceIte, Int.reducePow, Nat.reduceLeDiff, Nat.reduceLT, ne_eq, eq_self, List.length_cons, List.length_nil, qxE, beq_self_eq_true] | (with_reducible refine Sx.call_at (f := 15) (fun W hW => o3 W) ?_) | (with_reducible refine Sx.call_at (f := 15) (fun W hW => o7 W) ?_) | (with_reducible refine Sx.call_at (f := 15) (fun W hW => o2 W) ?_) | (with_reducible refine Sx.call_at (f := 15) (fun W hW => o4 W) ?_) | (with_reducible refine Sx.call_at (f := 15) (fun W hW => o1 W) ?_) | (with_reducible refine Sx.call_at (f := 17) (fun W hW => ou W) ?_) | (with_reducible refine Sx.call_at (f := 12) (fun W hW => mu W) ?_) | (with_reducible refine Sx.call_at (f := 20) (fun W hW => dv W) ?_) | (with_reducible refine Sx.call_at (f := 24) (fun W hW => tx W hW) ?_) | (with_reducible refine Sx.call_at (f := 38) (fun W hW => va W) ?_) | (with_reducible refine eq_is (fun W => by exact eqs_run _ W) ?_) | (with_reducible refine eq_is (fun W => by first | exact eqx_run f4 f4 W | exact eqx_run f1 f1 W) ?_))
end Go.Proofs.YtiiflgfnbgencaaDoor

/- LwD: The tables that the rows list: a world that has them; what they give the walks. -/
namespace Go.Proofs.YtiiflgfnbgencaaDoor
open Go.ChangeShapes Go.WideShapes Go.ChangeAt Go.WideMaps Go.WideElems Go.RowKit
set_option linter.unusedVariables false
set_option linter.unusedSimpArgs false
def laidD : List (String × DataW Unit) := [("math/bits.deBruijn32tab", Rows.laid_math_bits_deBruijn32tab), ("math/bits.deBruijn64tab", Rows.laid_math_bits_deBruijn64tab), ("internal/strconv.uint64pow10", Rows.laid_internal_strconv_uint64pow10)]
theorem door_met (os : Os) (args : Array Value) : laidMetH Tryd.prog laidD ((World.doorLaid Tryd.prog 400 os).forCall (fun _ _ => 0) ⟨#[], args, []⟩).memory :=
  laidMetH_of_parts3 (fuel := 8) (laidMet_of_run' 8 (by kernel_rfl) (by kernel_rfl)) (by kernel_rfl) (by kernel_rfl)
theorem tabs_of_laid {W : World} (h : laidMetH Tryd.prog laidD W) : tabs W := by
  rw [MakeChecks.laidMetH_plain _ _ _ (by kernel_rfl)] at h
  obtain ⟨ps, ⟨g0, t0, cs0, f0, p0, q0, _, _, _, _, ⟨g1, t1, cs1, f1, p1, q1, _, _, _, _, ⟨g2, t2, cs2, f2, p2, q2, hg2, ht2, hv2, hd2, _, _⟩, _⟩, _⟩, _⟩ := h
  have hty : (Tryd.prog.globals[g2]?).map (·.type) = some 119 := by
    have h1 : Tryd.prog.globalNamed "internal/strconv.uint64pow10" = some 2 := by kernel_rfl
    have h3 : (Tryd.prog.globals[2]?).map (·.type) = some 119 := by kernel_rfl
    obtain rfl := Option.some.inj (h1.symm.trans hg2)
    exact h3
  obtain rfl := Option.some.inj (hty.symm.trans ht2)
  unfold tabs Lib.TabIs
  rw [hv2, ← Lib.cells_of_tab (k := .u64) (zs := Lib.pow10Tab) Tryd.underlying119 Tryd.underlying25 (by kernel_rfl) (by kernel_rfl) (show _ = some (Lib.tabData .u64 Lib.pow10Tab, p2) from hd2)]
end Go.Proofs.YtiiflgfnbgencaaDoor

/- CdTw: MADE BY PROGRAM (sxgen.py): the small code of some functions, points of it and their equations. -/
namespace Go.Proofs.YtiiflgfnbgencaaDoor
open Go Go.RowKit Sx
set_option linter.unusedVariables false
variable (C : Cx) (R L1 L2 L3 L4 : St → Prop)
namespace m_Tape__Wide
def r0 : List G := [(some 2, none, (.new zW))]
def r1 : List G := [(some 5, none, (.bd zW [])), (some 3, none, (.new zW)), (none, none, (.st true 5 (.tmp 3) (.tmp 5)))]
def r2 : List G := [(some 6, none, (.mv (.tmp 0))), (some 7, none, (.call false 27 [(.tmp 6), (.const (.int .i64 5))])), (some 4, none, (.mv (.tmp 7)))]
def r3 : List G := [(some 8, none, (.mv (.tmp 4))), (some 9, none, (.bin .gtr (.tmp 8) (.const (.int .i64 0))))]
def r5 : List G := [(some 12, none, (.mv (.tmp 4))), (some 13, none, (.bin .sub (.tmp 12) (.const (.int .i64 1)))), (some 14, none, (.mv (.tmp 0))), (some 15, none, (.call false 28 [(.tmp 14)])), (some 16, none, (.fa 1 (.tmp 3))), (some 17, none, (.ia 4 1 (.tmp 16) (.tmp 13))), (none, none, (.st false 1 (.tmp 17) (.tmp 15)))]
def r6 : List G := [(some 18, none, (.mv (.tmp 0))), (some 19, none, (.call false 29 [(.tmp 18), (.const (.int .i64 4))]))]
def r7 : List G := [(some 20, none, (.mv (.tmp 4))), (some 21, none, (.bin .sub (.tmp 20) (.const (.int .i64 1)))), (some 22, none, (.gen false (.bsl 54 4 [0, 1, 2, 3]) [(.const (.int .u64 0)), (.const (.int .u64 1)), (.const (.int .u64 9223372036854775808)), (.const (.int .u64 18446744073709551615))])), (some 23, none, (.mv (.tmp 0))), (some 24, none, (.call false 27 [(.tmp 23), (.const (.int .i64 4))])), (some 25, none, (.is 1 (.tmp 22) (.tmp 24))), (some 26, none, (.ld false 1 (.tmp 25))), (some 27, none, (.fa 1 (.tmp 3))), (some 28, none, (.ia 4 1 (.tmp 27) (.tmp 21))), (none, none, (.st false 1 (.tmp 28) (.tmp 26)))]
def r4 : List G := [(some 10, none, (.mv (.tmp 4))), (some 11, none, (.bin .sub (.tmp 10) (.const (.int .i64 1)))), (some 4, none, (.mv (.tmp 11)))]
def r8 : List G := [(some 29, none, (.mv (.tmp 0))), (some 30, none, (.call false 29 [(.tmp 29), (.const (.int .i64 3))]))]
def r9 : List G := [(some 31, none, (.mv (.tmp 0))), (some 32, none, (.call false 30 [(.tmp 31)])), (some 33, none, (.call false 18 [(.tmp 32)])), (none, none, (.st true 5 (.tmp 3) (.tmp 33)))]
def r10 : List G := [(some 34, none, (.mv (.tmp 0))), (some 35, none, (.call false 29 [(.tmp 34), (.const (.int .i64 2))]))]
def r11 : List G := [(some 36, none, (.ld true 5 (.tmp 3))), (some 37, none, (.call false 31 [(.tmp 36)])), (none, none, (.st true 5 (.tmp 3) (.tmp 37)))]
def r12 : List G := [(some 38, none, (.ld true 5 (.tmp 3))), (none, none, (.st true 5 (.tmp 2) (.tmp 38)))]
def c : MC := (.seq (.reg r0 (some [0, 2])) (.seq (.reg r1 (some [0, 2, 3])) (.seq (.seq (.reg r2 (some [0, 2, 3, 4])) (.block 0 (.loop (.seq (.seq (.reg r3 (some [0, 2, 3, 4, 9])) (.cond (.tmp 9) .skip (.exit 0))) (.seq (.block 1 (.seq (.reg r5 (some [0, 2, 3, 4])) (.seq (.reg r6 (some [0, 2, 3, 4, 19])) (.cond (.tmp 19) (.reg r7 (some [0, 2, 3, 4])) .skip)))) (.reg r4 (some [0, 2, 3, 4]))))))) (.seq (.seq (.reg r8 (some [0, 2, 3, 30])) (.cond (.tmp 30) (.reg r9 (some [0, 2, 3])) .skip)) (.seq (.seq (.reg r10 (some [2, 3, 35])) (.cond (.tmp 35) (.reg r11 (some [2, 3])) .skip)) (.seq (.reg r12 (some [2])) .ret))))))
def ann : Ann := [(0, (some [0, 2], 0, [], [], [])), (1, (some [0, 2, 3], 0, [], [], [])), (2, (some [0, 2, 3, 4], 0, [], [], [])), (3, (some [0, 2, 3, 4, 9], 0, [], [], [])), (4, (some [0, 2, 3, 4], 0, [], [], [])), (5, (some [0, 2, 3, 4], 0, [], [], [])), (6, (some [0, 2, 3, 4, 19], 0, [], [], [])), (7, (some [0, 2, 3, 4], 0, [], [], [])), (8, (some [0, 2, 3, 30], 0, [], [], [])), (9, (some [0, 2, 3], 0, [], [], [])), (10, (some [2, 3, 35], 0, [], [], [])), (11, (some [2, 3], 0, [], [], [])), (12, (some [2], 0, [], [], []))]
theorem ok : compF Tryd.prog Tryd.f10 ann = some (39, c, [(2, some (true, 5))]) := by kernel_rfl
def p1 (S : St) : Prop := ops C r12 (kq [2] R) S
def p3 (S : St) : Prop := ops C r11 (kq [2, 3] (p1 C R)) S
def p2 (S : St) : Prop := condX (S.ev (.tmp 35)) (p3 C R) (p1 C R) S
def p4 (S : St) : Prop := ops C r10 (kq [2, 3, 35] (p2 C R)) S
def p6 (S : St) : Prop := ops C r9 (kq [0, 2, 3] (p4 C R)) S
def p5 (S : St) : Prop := condX (S.ev (.tmp 30)) (p6 C R) (p4 C R) S
def p7 (S : St) : Prop := ops C r8 (kq [0, 2, 3, 30] (p5 C R)) S
def p9 (S : St) : Prop := ops C r4 (kq [0, 2, 3, 4] L1) S
def p11 (S : St) : Prop := ops C r7 (kq [0, 2, 3, 4] (p9 C L1)) S
def p10 (S : St) : Prop := condX (S.ev (.tmp 19)) (p11 C L1) (p9 C L1) S
def p12 (S : St) : Prop := ops C r6 (kq [0, 2, 3, 4, 19] (p10 C L1)) S
def p13 (S : St) : Prop := ops C r5 (kq [0, 2, 3, 4] (p12 C L1)) S
def p14 (S : St) : Prop := condX (S.ev (.tmp 9)) (p13 C L1) (p7 C R) S
def p15 (S : St) : Prop := ops C r3 (kq [0, 2, 3, 4, 9] (p14 C R L1)) S
def p8 (S : St) : Prop := LX C (fun L1 => (p15 C R L1)) S
theorem p8_l (S : St) : p8 C R S = LX C (fun L1 => (p15 C R L1)) S := rfl
def p16 (S : St) : Prop := ops C r2 (kq [0, 2, 3, 4] (p8 C R)) S
def p17 (S : St) : Prop := ops C r1 (kq [0, 2, 3] (p16 C R)) S
def p18 (S : St) : Prop := ops C r0 (kq [0, 2] (p17 C R)) S
theorem s (S : St) : X C c (retK R) S = p18 C R S := by kernel_rfl
theorem E : type_of% @r12.eq_1 ∧ type_of% @p1.eq_1 ∧ type_of% @r11.eq_1 ∧ type_of% @p3.eq_1 ∧ type_of% @p2.eq_1 ∧ type_of% @r10.eq_1 ∧ type_of% @p4.eq_1 ∧ type_of% @r9.eq_1 ∧ type_of% @p6.eq_1 ∧ type_of% @p5.eq_1 ∧ type_of% @r8.eq_1 ∧ type_of% @p7.eq_1 ∧ type_of% @r4.eq_1 ∧ type_of% @p9.eq_1 ∧ type_of% @r7.eq_1 ∧ type_of% @p11.eq_1 ∧ type_of% @p10.eq_1 ∧ type_of% @r6.eq_1 ∧ type_of% @p12.eq_1 ∧ type_of% @r5.eq_1 ∧ type_of% @p13.eq_1 ∧ type_of% @p14.eq_1 ∧ type_of% @r3.eq_1 ∧ type_of% @p15.eq_1 ∧ type_of% @r2.eq_1 ∧ type_of% @p16.eq_1 ∧ type_of% @r1.eq_1 ∧ type_of% @p17.eq_1 ∧ type_of% @r0.eq_1 ∧ type_of% @p18.eq_1 ∧ type_of% @s := ⟨@r12.eq_1, @p1.eq_1, @r11.eq_1, @p3.eq_1, @p2.eq_1, @r10.eq_1, @p4.eq_1, @r9.eq_1, @p6.eq_1, @p5.eq_1, @r8.eq_1, @p7.eq_1, @r4.eq_1, @p9.eq_1, @r7.eq_1, @p11.eq_1, @p10.eq_1, @r6.eq_1, @p12.eq_1, @r5.eq_1, @p13.eq_1, @p14.eq_1, @r3.eq_1, @p15.eq_1, @r2.eq_1, @p16.eq_1, @r1.eq_1, @p17.eq_1, @r0.eq_1, @p18.eq_1, @s⟩
end m_Tape__Wide
end Go.Proofs.YtiiflgfnbgencaaDoor

/- Tw: The tape's Wide is valid: by the symbolic run. -/
namespace Go.Proofs.YtiiflgfnbgencaaDoor
open Go Go.RowKit Sx
set_option linter.unusedVariables false
set_option linter.unusedSimpArgs false
def IsX (v : Value) : Prop := ∃ z : Int, Fits z ∧ v = WX z
theorem raw_false {a b c d : Int} (ha : U64 a) (hb : U64 b) (hc : U64 c) (hd : U64 d) : ∃ z, Fits z ∧ Value.agg #[.bool false, .int .u64 a, .int .u64 b, .int .u64 c, .int .u64 d] = WX z := by
  rcases raw_cases false ha hb hc hd with ⟨z, h, e⟩ | e
  · exact ⟨z, h, e⟩
  · cases e
theorem neg_fits {a b c d : Int} (ha : U64 a) (hb : U64 b) (hc : U64 c) (hd : U64 d) : Fits (-(wv false a b c d)) := by
  have h := a4_mv ha hb hc hd
  refine (fits_lt _).2 ?_
  show ab (-MV a b c d) < _
  rw [ab_neg, ab_pos h.1]
  exact h.2
theorem hK_bs {w : World} {tb B Bm : Nat} (h : tb < w.heap.size) : tb ∈ (Kn.g (hK w tb B Bm)).bs := by simp [Kn.bs, hK]; omega
set_option maxHeartbeats 8000000 in
set_option maxRecDepth 100000 in
theorem t_wideV (tb : Nat) : TpC 10 [.pointer (some ⟨tb, 0, none⟩)] tb (fun z : Int => Fits z) (fun z => WX z) := by
  intro B Bm w ht
  refine Calls.mono (enterG Tryd.func10 m_Tape__Wide.ok (args := [.pointer (some ⟨tb, 0, none⟩)]) (w0 := cut w tb) (T := kX (cut w tb).heap.size [.g (hK w tb B Bm)]) (R := fun v X => (IsX) v ∧ X = kX (cut w tb).heap.size [.g (hK w tb B Bm)]) (by simp) (below_cut (Nat.le_of_lt ht.lt)) (hK_start ht).1 (kX_stab (Sx.cx _ (cut w tb) _) _) (hK_start ht).2 ?run) ?fin; have hk := tpk_h' ht
  case fin =>
    rintro e w' ⟨v, X, rfl, ⟨⟨x, hx, rfl⟩, rfl⟩, hX, hb, -⟩
    obtain ⟨h1, h2⟩ := hK_end hX (List.mem_singleton.2 rfl) hb
    exact ⟨x, hx, rfl, h1, h2⟩
  case run =>
    try dsimp only
    repeat' (first | simp (disch := omega) only [sxE, m_Tape__Wide.E, Nat.reduceAdd, Nat.reduceEqDiff, Nat.reduceMul, Nat.reduceSub, Int.reduceAdd, Int.reduceSub, Int.reduceMul, Int.reduceNeg, Int.reduceLT, Int.reduceLE, Int.reduceEq, Int.reduceToNat, ↓reduceIte, Int.reducePow, Nat.reduceLeDiff, Nat.reduceLT, ne_eq, eq_self, List.length_cons, List.length_nil, qxE])
    refine asks_tc rfl (hk) (t_next tb (by decide) (by decide)) en_m_Tape__Next rfl (by first | exact List.mem_singleton.2 rfl | simp) rfl (by first | exact fun j hj => .inl (List.mem_singleton.1 hj) | simp) ?_
    rintro r ⟨r1, r2⟩
    repeat' (first | simp (disch := omega) only [sxE, m_Tape__Wide.E, Nat.reduceAdd, Nat.reduceEqDiff, Nat.reduceMul, Nat.reduceSub, Int.reduceAdd, Int.reduceSub, Int.reduceMul, Int.reduceNeg, Int.reduceLT, Int.reduceLE, Int.reduceEq, Int.reduceToNat, ↓reduceIte, Int.reducePow, Nat.reduceLeDiff, Nat.reduceLT, ne_eq, eq_self, List.length_cons, List.length_nil, qxE])
    obtain ⟨n, rfl⟩ : ∃ n : Nat, r = n := ⟨r.toNat, by omega⟩
    have hz : U64 0 := ⟨by decide, by decide⟩
    rw [m_Tape__Wide.p8_l]
    refine LX_inv (fun x : Nat × Int × Int × Int × Int => ⟨2, [(0, .v (.pointer (some ⟨tb, 0, none⟩))), (2, .p 0 0), (3, .p 1 0), (4, .v (.int .i64 (x.1 : Int)))], [(1, [.bool false, .int .u64 x.2.1, .int .u64 x.2.2.1, .int .u64 x.2.2.2.1, .int .u64 x.2.2.2.2]), (0, [.bool false, .int .u64 0, .int .u64 0, .int .u64 0, .int .u64 0])], kX (cut w tb).heap.size [.g (hK w tb B Bm)]⟩) (fun x => x.1 ≤ 4 ∧ U64 x.2.1 ∧ U64 x.2.2.1 ∧ U64 x.2.2.2.1 ∧ U64 x.2.2.2.2) (fun x => x.1) ?round (n, 0, 0, 0, 0) ⟨by dsimp only; omega, hz, hz, hz, hz⟩ ?start
    case start =>
      have y0 : sg 0 = false := rfl
      have y1 : lb0 (ab 0) = 0 := rfl
      have y2 : lb1 (ab 0) = 0 := rfl
      have y3 : lb2 (ab 0) = 0 := rfl
      have y4 : lb3 (ab 0) = 0 := rfl
      simp (disch := omega) only [sxE, m_Tape__Wide.E, Nat.reduceAdd, Nat.reduceEqDiff, Nat.reduceMul, Nat.reduceSub, Int.reduceAdd, Int.reduceSub, Int.reduceMul, Int.reduceNeg, Int.reduceLT, Int.reduceLE, Int.reduceEq, Int.reduceToNat, ↓reduceIte, Int.reducePow, Nat.reduceLeDiff, Nat.reduceLT, ne_eq, eq_self, List.length_cons, List.length_nil, y0, y1, y2, y3, y4]
    case round =>
      rintro ⟨i, c0, c1, c2, c3⟩ ⟨hi, u0, u1, u2, u3⟩
      try dsimp only at hi u0 u1 u2 u3 ⊢
      clear r1 r2
      rcases i with _ | i
      · rw [show ((0 : Nat) : Int) = 0 from rfl]
        have hn := raw_false u0 u1 u2 u3
        have ng : ∀ W, Gives Tryd.prog 31 [.agg #[.bool false, .int .u64 c0, .int .u64 c1, .int .u64 c2, .int .u64 c3]] W (· = WX (-(wv false c0 c1 c2 c3))) := fun W => rg_neg ⟨false, c0, c1, c2, c3, rfl, rfl, u0, u1, u2, u3⟩ W
        obtain ⟨zz, fz, ez⟩ := hn
        have fw : Fits (-(wv false c0 c1 c2 c3)) := neg_fits u0 u1 u2 u3
        repeat' (first | simp (disch := omega) only [sxE, m_Tape__Wide.E, Nat.reduceAdd, Nat.reduceEqDiff, Nat.reduceMul, Nat.reduceSub, Int.reduceAdd, Int.reduceSub, Int.reduceMul, Int.reduceNeg, Int.reduceLT, Int.reduceLE, Int.reduceEq, Int.reduceToNat, ↓reduceIte, Int.reducePow, Nat.reduceLeDiff, Nat.reduceLT, ne_eq, eq_self, List.length_cons, List.length_nil, qxE])
        refine asks_tc rfl (hk) (t_bool tb (by decide) (by decide)) en_m_Tape__Bool rfl (by first | exact List.mem_singleton.2 rfl | simp) rfl (by first | exact fun j hj => .inl (List.mem_singleton.1 hj) | simp) ?_
        rintro (_ | _) -
        · repeat' (first | simp (disch := omega) only [sxE, m_Tape__Wide.E, Nat.reduceAdd, Nat.reduceEqDiff, Nat.reduceMul, Nat.reduceSub, Int.reduceAdd, Int.reduceSub, Int.reduceMul, Int.reduceNeg, Int.reduceLT, Int.reduceLE, Int.reduceEq, Int.reduceToNat, ↓reduceIte, Int.reducePow, Nat.reduceLeDiff, Nat.reduceLT, ne_eq, eq_self, List.length_cons, List.length_nil, qxE])
          refine asks_tc rfl (hk) (t_bool tb (by decide) (by decide)) en_m_Tape__Bool rfl (by first | exact List.mem_singleton.2 rfl | simp) rfl (by first | exact fun j hj => .inl (List.mem_singleton.1 hj) | simp) ?_
          rintro (_ | _) -
          · repeat' (first | simp (disch := omega) only [sxE, m_Tape__Wide.E, Nat.reduceAdd, Nat.reduceEqDiff, Nat.reduceMul, Nat.reduceSub, Int.reduceAdd, Int.reduceSub, Int.reduceMul, Int.reduceNeg, Int.reduceLT, Int.reduceLE, Int.reduceEq, Int.reduceToNat, ↓reduceIte, Int.reducePow, Nat.reduceLeDiff, Nat.reduceLT, ne_eq, eq_self, List.length_cons, List.length_nil, qxE])
            exact ⟨zz, fz, ez⟩
          · repeat' (first | simp (disch := omega) only [sxE, m_Tape__Wide.E, Nat.reduceAdd, Nat.reduceEqDiff, Nat.reduceMul, Nat.reduceSub, Int.reduceAdd, Int.reduceSub, Int.reduceMul, Int.reduceNeg, Int.reduceLT, Int.reduceLE, Int.reduceEq, Int.reduceToNat, ↓reduceIte, Int.reducePow, Nat.reduceLeDiff, Nat.reduceLT, ne_eq, eq_self, List.length_cons, List.length_nil, qxE] | (with_reducible refine Sx.call_at (f := 31) (fun W hW => ng W) ?_))
            exact ⟨_, fw, rfl⟩
        · repeat' (first | simp (disch := omega) only [sxE, m_Tape__Wide.E, Nat.reduceAdd, Nat.reduceEqDiff, Nat.reduceMul, Nat.reduceSub, Int.reduceAdd, Int.reduceSub, Int.reduceMul, Int.reduceNeg, Int.reduceLT, Int.reduceLE, Int.reduceEq, Int.reduceToNat, ↓reduceIte, Int.reducePow, Nat.reduceLeDiff, Nat.reduceLT, ne_eq, eq_self, List.length_cons, List.length_nil, qxE])
          refine asks_tc rfl (hk) (t_int tb) en_m_Tape__Int rfl (by first | exact List.mem_singleton.2 rfl | simp) rfl (by first | exact fun j hj => .inl (List.mem_singleton.1 hj) | simp) ?_
          intro x hx
          have o1 := fun W => rx_of hx W
          have fx := (bd_i64 hx).fits
          have fnx : Fits (-x) := fits_le fx (by rw [ab_neg]; exact Int.le_refl _)
          have n2 := fun W => rx_neg fx W
          repeat' (first | simp (disch := omega) only [sxE, m_Tape__Wide.E, Nat.reduceAdd, Nat.reduceEqDiff, Nat.reduceMul, Nat.reduceSub, Int.reduceAdd, Int.reduceSub, Int.reduceMul, Int.reduceNeg, Int.reduceLT, Int.reduceLE, Int.reduceEq, Int.reduceToNat, ↓reduceIte, Int.reducePow, Nat.reduceLeDiff, Nat.reduceLT, ne_eq, eq_self, List.length_cons, List.length_nil, qxE] | (with_reducible refine Sx.call_at (f := 18) (fun W hW => o1 W) ?_))
          refine asks_tc rfl (hk) (t_bool tb (by decide) (by decide)) en_m_Tape__Bool rfl (by first | exact List.mem_singleton.2 rfl | simp) rfl (by first | exact fun j hj => .inl (List.mem_singleton.1 hj) | simp) ?_
          rintro (_ | _) -
          · repeat' (first | simp (disch := omega) only [sxE, m_Tape__Wide.E, Nat.reduceAdd, Nat.reduceEqDiff, Nat.reduceMul, Nat.reduceSub, Int.reduceAdd, Int.reduceSub, Int.reduceMul, Int.reduceNeg, Int.reduceLT, Int.reduceLE, Int.reduceEq, Int.reduceToNat, ↓reduceIte, Int.reducePow, Nat.reduceLeDiff, Nat.reduceLT, ne_eq, eq_self, List.length_cons, List.length_nil, qxE])
            exact ⟨x, fx, rfl⟩
          · repeat' (first | simp (disch := omega) only [sxE, m_Tape__Wide.E, Nat.reduceAdd, Nat.reduceEqDiff, Nat.reduceMul, Nat.reduceSub, Int.reduceAdd, Int.reduceSub, Int.reduceMul, Int.reduceNeg, Int.reduceLT, Int.reduceLE, Int.reduceEq, Int.reduceToNat, ↓reduceIte, Int.reducePow, Nat.reduceLeDiff, Nat.reduceLT, ne_eq, eq_self, List.length_cons, List.length_nil, qxE] | (with_reducible refine Sx.call_at (f := 31) (fun W hW => n2 W) ?_))
            exact ⟨_, fnx, rfl⟩
      · obtain rfl | rfl | rfl | rfl : i = 0 ∨ i = 1 ∨ i = 2 ∨ i = 3 := by omega
        · rw [show ((0 + 1 : Nat) : Int) = 1 from rfl]
          repeat' (first | simp (disch := omega) only [sxE, m_Tape__Wide.E, Nat.reduceAdd, Nat.reduceEqDiff, Nat.reduceMul, Nat.reduceSub, Int.reduceAdd, Int.reduceSub, Int.reduceMul, Int.reduceNeg, Int.reduceLT, Int.reduceLE, Int.reduceEq, Int.reduceToNat, ↓reduceIte, Int.reducePow, Nat.reduceLeDiff, Nat.reduceLT, ne_eq, eq_self, List.length_cons, List.length_nil, qxE])
          refine asks_tc rfl (hk) (t_word tb) en_m_Tape__Word rfl (by first | exact List.mem_singleton.2 rfl | simp) rfl (by first | exact fun j hj => .inl (List.mem_singleton.1 hj) | simp) ?_
          intro u hu
          repeat' (first | simp (disch := omega) only [sxE, m_Tape__Wide.E, Nat.reduceAdd, Nat.reduceEqDiff, Nat.reduceMul, Nat.reduceSub, Int.reduceAdd, Int.reduceSub, Int.reduceMul, Int.reduceNeg, Int.reduceLT, Int.reduceLE, Int.reduceEq, Int.reduceToNat, ↓reduceIte, Int.reducePow, Nat.reduceLeDiff, Nat.reduceLT, ne_eq, eq_self, List.length_cons, List.length_nil, qxE])
          refine asks_tc rfl (hk) (t_bool tb (by decide) (by decide)) en_m_Tape__Bool rfl (by first | exact List.mem_singleton.2 rfl | simp) rfl (by first | exact fun j hj => .inl (List.mem_singleton.1 hj) | simp) ?_
          rintro (_ | _) -
          case' false =>
            repeat' (first | simp (disch := omega) only [sxE, m_Tape__Wide.E, Nat.reduceAdd, Nat.reduceEqDiff, Nat.reduceMul, Nat.reduceSub, Int.reduceAdd, Int.reduceSub, Int.reduceMul, Int.reduceNeg, Int.reduceLT, Int.reduceLE, Int.reduceEq, Int.reduceToNat, ↓reduceIte, Int.reducePow, Nat.reduceLeDiff, Nat.reduceLT, ne_eq, eq_self, List.length_cons, List.length_nil, qxE])
            exact ⟨(0, u, c1, c2, c3), ⟨by dsimp only; omega, hu, u1, u2, u3⟩, by dsimp only; omega, ⟨rfl, rfl⟩⟩
          case' true =>
            repeat' (first | simp (disch := omega) only [sxE, m_Tape__Wide.E, Nat.reduceAdd, Nat.reduceEqDiff, Nat.reduceMul, Nat.reduceSub, Int.reduceAdd, Int.reduceSub, Int.reduceMul, Int.reduceNeg, Int.reduceLT, Int.reduceLE, Int.reduceEq, Int.reduceToNat, ↓reduceIte, Int.reducePow, Nat.reduceLeDiff, Nat.reduceLT, ne_eq, eq_self, List.length_cons, List.length_nil, qxE])
            refine genA_c (L := [.g (hK w tb B Bm)]) (cs := [.int .u64 0, .int .u64 1, .int .u64 9223372036854775808, .int .u64 18446744073709551615]) (T := 25) (fun b => .slice (some ⟨b, 0, none⟩) 4 4) rfl (fun W => by kernel_rfl) fun gb hgb => ?_
            have hne : tb ∉ (Kn.g (cK gb [.int .u64 0, .int .u64 1, .int .u64 9223372036854775808, .int .u64 18446744073709551615])).bs := fun h => hgb (by rw [← List.mem_singleton.1 h]; exact kX_bs.2 ⟨_, List.mem_singleton.2 rfl, hK_bs ht.lt⟩)
            clear hgb
            repeat' (first | simp (disch := omega) only [sxE, m_Tape__Wide.E, Nat.reduceAdd, Nat.reduceEqDiff, Nat.reduceMul, Nat.reduceSub, Int.reduceAdd, Int.reduceSub, Int.reduceMul, Int.reduceNeg, Int.reduceLT, Int.reduceLE, Int.reduceEq, Int.reduceToNat, ↓reduceIte, Int.reducePow, Nat.reduceLeDiff, Nat.reduceLT, ne_eq, eq_self, List.length_cons, List.length_nil, qxE])
            refine asks_tc rfl hk (t_next tb (by decide) (by decide)) en_m_Tape__Next rfl (List.mem_cons_of_mem _ (List.mem_singleton.2 rfl)) rfl (fun j hj => by
              rcases List.mem_cons.1 hj with rfl | hj
              · exact .inr hne
              · exact .inl (List.mem_singleton.1 hj)) ?_
            rintro q ⟨q1, q2⟩
            rcases (show q = 0 ∨ q = 1 ∨ q = 2 ∨ q = 3 by omega) with rfl | rfl | rfl | rfl
            · repeat' (first | simp (disch := omega) only [sxE, m_Tape__Wide.E, Nat.reduceAdd, Nat.reduceEqDiff, Nat.reduceMul, Nat.reduceSub, Int.reduceAdd, Int.reduceSub, Int.reduceMul, Int.reduceNeg, Int.reduceLT, Int.reduceLE, Int.reduceEq, Int.reduceToNat, ↓reduceIte, Int.reducePow, Nat.reduceLeDiff, Nat.reduceLT, ne_eq, eq_self, List.length_cons, List.length_nil, qxE, Nat.zero_add, Nat.add_zero, Nat.one_mul, Nat.mul_one] | (refine ldP_c (cs := [.int .u64 0, .int .u64 1, .int .u64 9223372036854775808, .int .u64 18446744073709551615]) (l := [.int .u64 0]) rfl List.mem_cons_self rfl (fun j v h => by rcases j with _ | j; exact h; cases h) ?_))
              exact ⟨(0, 0, c1, c2, c3), ⟨by dsimp only; omega, ⟨by dsimp only; omega, by dsimp only; omega⟩, u1, u2, u3⟩, by dsimp only; omega, ⟨rfl, rfl, extS_kn fun k hk => by rw [List.mem_singleton.1 hk]; exact List.mem_cons_of_mem _ (List.mem_singleton.2 rfl)⟩⟩
            · repeat' (first | simp (disch := omega) only [sxE, m_Tape__Wide.E, Nat.reduceAdd, Nat.reduceEqDiff, Nat.reduceMul, Nat.reduceSub, Int.reduceAdd, Int.reduceSub, Int.reduceMul, Int.reduceNeg, Int.reduceLT, Int.reduceLE, Int.reduceEq, Int.reduceToNat, ↓reduceIte, Int.reducePow, Nat.reduceLeDiff, Nat.reduceLT, ne_eq, eq_self, List.length_cons, List.length_nil, qxE, Nat.zero_add, Nat.add_zero, Nat.one_mul, Nat.mul_one] | (refine ldP_c (cs := [.int .u64 0, .int .u64 1, .int .u64 9223372036854775808, .int .u64 18446744073709551615]) (l := [.int .u64 1]) rfl List.mem_cons_self rfl (fun j v h => by rcases j with _ | j; exact h; cases h) ?_))
              exact ⟨(0, 1, c1, c2, c3), ⟨by dsimp only; omega, ⟨by dsimp only; omega, by dsimp only; omega⟩, u1, u2, u3⟩, by dsimp only; omega, ⟨rfl, rfl, extS_kn fun k hk => by rw [List.mem_singleton.1 hk]; exact List.mem_cons_of_mem _ (List.mem_singleton.2 rfl)⟩⟩
            · repeat' (first | simp (disch := omega) only [sxE, m_Tape__Wide.E, Nat.reduceAdd, Nat.reduceEqDiff, Nat.reduceMul, Nat.reduceSub, Int.reduceAdd, Int.reduceSub, Int.reduceMul, Int.reduceNeg, Int.reduceLT, Int.reduceLE, Int.reduceEq, Int.reduceToNat, ↓reduceIte, Int.reducePow, Nat.reduceLeDiff, Nat.reduceLT, ne_eq, eq_self, List.length_cons, List.length_nil, qxE, Nat.zero_add, Nat.add_zero, Nat.one_mul, Nat.mul_one] | (refine ldP_c (cs := [.int .u64 0, .int .u64 1, .int .u64 9223372036854775808, .int .u64 18446744073709551615]) (l := [.int .u64 9223372036854775808]) rfl List.mem_cons_self rfl (fun j v h => by rcases j with _ | j; exact h; cases h) ?_))
              exact ⟨(0, 9223372036854775808, c1, c2, c3), ⟨by dsimp only; omega, ⟨by dsimp only; omega, by dsimp only; omega⟩, u1, u2, u3⟩, by dsimp only; omega, ⟨rfl, rfl, extS_kn fun k hk => by rw [List.mem_singleton.1 hk]; exact List.mem_cons_of_mem _ (List.mem_singleton.2 rfl)⟩⟩
            · repeat' (first | simp (disch := omega) only [sxE, m_Tape__Wide.E, Nat.reduceAdd, Nat.reduceEqDiff, Nat.reduceMul, Nat.reduceSub, Int.reduceAdd, Int.reduceSub, Int.reduceMul, Int.reduceNeg, Int.reduceLT, Int.reduceLE, Int.reduceEq, Int.reduceToNat, ↓reduceIte, Int.reducePow, Nat.reduceLeDiff, Nat.reduceLT, ne_eq, eq_self, List.length_cons, List.length_nil, qxE, Nat.zero_add, Nat.add_zero, Nat.one_mul, Nat.mul_one] | (refine ldP_c (cs := [.int .u64 0, .int .u64 1, .int .u64 9223372036854775808, .int .u64 18446744073709551615]) (l := [.int .u64 18446744073709551615]) rfl List.mem_cons_self rfl (fun j v h => by rcases j with _ | j; exact h; cases h) ?_))
              exact ⟨(0, 18446744073709551615, c1, c2, c3), ⟨by dsimp only; omega, ⟨by dsimp only; omega, by dsimp only; omega⟩, u1, u2, u3⟩, by dsimp only; omega, ⟨rfl, rfl, extS_kn fun k hk => by rw [List.mem_singleton.1 hk]; exact List.mem_cons_of_mem _ (List.mem_singleton.2 rfl)⟩⟩
        · rw [show ((1 + 1 : Nat) : Int) = 2 from rfl]
          repeat' (first | simp (disch := omega) only [sxE, m_Tape__Wide.E, Nat.reduceAdd, Nat.reduceEqDiff, Nat.reduceMul, Nat.reduceSub, Int.reduceAdd, Int.reduceSub, Int.reduceMul, Int.reduceNeg, Int.reduceLT, Int.reduceLE, Int.reduceEq, Int.reduceToNat, ↓reduceIte, Int.reducePow, Nat.reduceLeDiff, Nat.reduceLT, ne_eq, eq_self, List.length_cons, List.length_nil, qxE])
          refine asks_tc rfl (hk) (t_word tb) en_m_Tape__Word rfl (by first | exact List.mem_singleton.2 rfl | simp) rfl (by first | exact fun j hj => .inl (List.mem_singleton.1 hj) | simp) ?_
          intro u hu
          repeat' (first | simp (disch := omega) only [sxE, m_Tape__Wide.E, Nat.reduceAdd, Nat.reduceEqDiff, Nat.reduceMul, Nat.reduceSub, Int.reduceAdd, Int.reduceSub, Int.reduceMul, Int.reduceNeg, Int.reduceLT, Int.reduceLE, Int.reduceEq, Int.reduceToNat, ↓reduceIte, Int.reducePow, Nat.reduceLeDiff, Nat.reduceLT, ne_eq, eq_self, List.length_cons, List.length_nil, qxE])
          refine asks_tc rfl (hk) (t_bool tb (by decide) (by decide)) en_m_Tape__Bool rfl (by first | exact List.mem_singleton.2 rfl | simp) rfl (by first | exact fun j hj => .inl (List.mem_singleton.1 hj) | simp) ?_
          rintro (_ | _) -
          case' false =>
            repeat' (first | simp (disch := omega) only [sxE, m_Tape__Wide.E, Nat.reduceAdd, Nat.reduceEqDiff, Nat.reduceMul, Nat.reduceSub, Int.reduceAdd, Int.reduceSub, Int.reduceMul, Int.reduceNeg, Int.reduceLT, Int.reduceLE, Int.reduceEq, Int.reduceToNat, ↓reduceIte, Int.reducePow, Nat.reduceLeDiff, Nat.reduceLT, ne_eq, eq_self, List.length_cons, List.length_nil, qxE])
            exact ⟨(1, c0, u, c2, c3), ⟨by dsimp only; omega, u0, hu, u2, u3⟩, by dsimp only; omega, ⟨rfl, rfl⟩⟩
          case' true =>
            repeat' (first | simp (disch := omega) only [sxE, m_Tape__Wide.E, Nat.reduceAdd, Nat.reduceEqDiff, Nat.reduceMul, Nat.reduceSub, Int.reduceAdd, Int.reduceSub, Int.reduceMul, Int.reduceNeg, Int.reduceLT, Int.reduceLE, Int.reduceEq, Int.reduceToNat, ↓reduceIte, Int.reducePow, Nat.reduceLeDiff, Nat.reduceLT, ne_eq, eq_self, List.length_cons, List.length_nil, qxE])
            refine genA_c (L := [.g (hK w tb B Bm)]) (cs := [.int .u64 0, .int .u64 1, .int .u64 9223372036854775808, .int .u64 18446744073709551615]) (T := 25) (fun b => .slice (some ⟨b, 0, none⟩) 4 4) rfl (fun W => by kernel_rfl) fun gb hgb => ?_
            have hne : tb ∉ (Kn.g (cK gb [.int .u64 0, .int .u64 1, .int .u64 9223372036854775808, .int .u64 18446744073709551615])).bs := fun h => hgb (by rw [← List.mem_singleton.1 h]; exact kX_bs.2 ⟨_, List.mem_singleton.2 rfl, hK_bs ht.lt⟩)
            clear hgb
            repeat' (first | simp (disch := omega) only [sxE, m_Tape__Wide.E, Nat.reduceAdd, Nat.reduceEqDiff, Nat.reduceMul, Nat.reduceSub, Int.reduceAdd, Int.reduceSub, Int.reduceMul, Int.reduceNeg, Int.reduceLT, Int.reduceLE, Int.reduceEq, Int.reduceToNat, ↓reduceIte, Int.reducePow, Nat.reduceLeDiff, Nat.reduceLT, ne_eq, eq_self, List.length_cons, List.length_nil, qxE])
            refine asks_tc rfl hk (t_next tb (by decide) (by decide)) en_m_Tape__Next rfl (List.mem_cons_of_mem _ (List.mem_singleton.2 rfl)) rfl (fun j hj => by
              rcases List.mem_cons.1 hj with rfl | hj
              · exact .inr hne
              · exact .inl (List.mem_singleton.1 hj)) ?_
            rintro q ⟨q1, q2⟩
            rcases (show q = 0 ∨ q = 1 ∨ q = 2 ∨ q = 3 by omega) with rfl | rfl | rfl | rfl
            · repeat' (first | simp (disch := omega) only [sxE, m_Tape__Wide.E, Nat.reduceAdd, Nat.reduceEqDiff, Nat.reduceMul, Nat.reduceSub, Int.reduceAdd, Int.reduceSub, Int.reduceMul, Int.reduceNeg, Int.reduceLT, Int.reduceLE, Int.reduceEq, Int.reduceToNat, ↓reduceIte, Int.reducePow, Nat.reduceLeDiff, Nat.reduceLT, ne_eq, eq_self, List.length_cons, List.length_nil, qxE, Nat.zero_add, Nat.add_zero, Nat.one_mul, Nat.mul_one] | (refine ldP_c (cs := [.int .u64 0, .int .u64 1, .int .u64 9223372036854775808, .int .u64 18446744073709551615]) (l := [.int .u64 0]) rfl List.mem_cons_self rfl (fun j v h => by rcases j with _ | j; exact h; cases h) ?_))
              exact ⟨(1, c0, 0, c2, c3), ⟨by dsimp only; omega, u0, ⟨by dsimp only; omega, by dsimp only; omega⟩, u2, u3⟩, by dsimp only; omega, ⟨rfl, rfl, extS_kn fun k hk => by rw [List.mem_singleton.1 hk]; exact List.mem_cons_of_mem _ (List.mem_singleton.2 rfl)⟩⟩
            · repeat' (first | simp (disch := omega) only [sxE, m_Tape__Wide.E, Nat.reduceAdd, Nat.reduceEqDiff, Nat.reduceMul, Nat.reduceSub, Int.reduceAdd, Int.reduceSub, Int.reduceMul, Int.reduceNeg, Int.reduceLT, Int.reduceLE, Int.reduceEq, Int.reduceToNat, ↓reduceIte, Int.reducePow, Nat.reduceLeDiff, Nat.reduceLT, ne_eq, eq_self, List.length_cons, List.length_nil, qxE, Nat.zero_add, Nat.add_zero, Nat.one_mul, Nat.mul_one] | (refine ldP_c (cs := [.int .u64 0, .int .u64 1, .int .u64 9223372036854775808, .int .u64 18446744073709551615]) (l := [.int .u64 1]) rfl List.mem_cons_self rfl (fun j v h => by rcases j with _ | j; exact h; cases h) ?_))
              exact ⟨(1, c0, 1, c2, c3), ⟨by dsimp only; omega, u0, ⟨by dsimp only; omega, by dsimp only; omega⟩, u2, u3⟩, by dsimp only; omega, ⟨rfl, rfl, extS_kn fun k hk => by rw [List.mem_singleton.1 hk]; exact List.mem_cons_of_mem _ (List.mem_singleton.2 rfl)⟩⟩
            · repeat' (first | simp (disch := omega) only [sxE, m_Tape__Wide.E, Nat.reduceAdd, Nat.reduceEqDiff, Nat.reduceMul, Nat.reduceSub, Int.reduceAdd, Int.reduceSub, Int.reduceMul, Int.reduceNeg, Int.reduceLT, Int.reduceLE, Int.reduceEq, Int.reduceToNat, ↓reduceIte, Int.reducePow, Nat.reduceLeDiff, Nat.reduceLT, ne_eq, eq_self, List.length_cons, List.length_nil, qxE, Nat.zero_add, Nat.add_zero, Nat.one_mul, Nat.mul_one] | (refine ldP_c (cs := [.int .u64 0, .int .u64 1, .int .u64 9223372036854775808, .int .u64 18446744073709551615]) (l := [.int .u64 9223372036854775808]) rfl List.mem_cons_self rfl (fun j v h => by rcases j with _ | j; exact h; cases h) ?_))
              exact ⟨(1, c0, 9223372036854775808, c2, c3), ⟨by dsimp only; omega, u0, ⟨by dsimp only; omega, by dsimp only; omega⟩, u2, u3⟩, by dsimp only; omega, ⟨rfl, rfl, extS_kn fun k hk => by rw [List.mem_singleton.1 hk]; exact List.mem_cons_of_mem _ (List.mem_singleton.2 rfl)⟩⟩
            · repeat' (first | simp (disch := omega) only [sxE, m_Tape__Wide.E, Nat.reduceAdd, Nat.reduceEqDiff, Nat.reduceMul, Nat.reduceSub, Int.reduceAdd, Int.reduceSub, Int.reduceMul, Int.reduceNeg, Int.reduceLT, Int.reduceLE, Int.reduceEq, Int.reduceToNat, ↓reduceIte, Int.reducePow, Nat.reduceLeDiff, Nat.reduceLT, ne_eq, eq_self, List.length_cons, List.length_nil, qxE, Nat.zero_add, Nat.add_zero, Nat.one_mul, Nat.mul_one] | (refine ldP_c (cs := [.int .u64 0, .int .u64 1, .int .u64 9223372036854775808, .int .u64 18446744073709551615]) (l := [.int .u64 18446744073709551615]) rfl List.mem_cons_self rfl (fun j v h => by rcases j with _ | j; exact h; cases h) ?_))
              exact ⟨(1, c0, 18446744073709551615, c2, c3), ⟨by dsimp only; omega, u0, ⟨by dsimp only; omega, by dsimp only; omega⟩, u2, u3⟩, by dsimp only; omega, ⟨rfl, rfl, extS_kn fun k hk => by rw [List.mem_singleton.1 hk]; exact List.mem_cons_of_mem _ (List.mem_singleton.2 rfl)⟩⟩
        · rw [show ((2 + 1 : Nat) : Int) = 3 from rfl]
          repeat' (first | simp (disch := omega) only [sxE, m_Tape__Wide.E, Nat.reduceAdd, Nat.reduceEqDiff, Nat.reduceMul, Nat.reduceSub, Int.reduceAdd, Int.reduceSub, Int.reduceMul, Int.reduceNeg, Int.reduceLT, Int.reduceLE, Int.reduceEq, Int.reduceToNat, ↓reduceIte, Int.reducePow, Nat.reduceLeDiff, Nat.reduceLT, ne_eq, eq_self, List.length_cons, List.length_nil, qxE])
          refine asks_tc rfl (hk) (t_word tb) en_m_Tape__Word rfl (by first | exact List.mem_singleton.2 rfl | simp) rfl (by first | exact fun j hj => .inl (List.mem_singleton.1 hj) | simp) ?_
          intro u hu
          repeat' (first | simp (disch := omega) only [sxE, m_Tape__Wide.E, Nat.reduceAdd, Nat.reduceEqDiff, Nat.reduceMul, Nat.reduceSub, Int.reduceAdd, Int.reduceSub, Int.reduceMul, Int.reduceNeg, Int.reduceLT, Int.reduceLE, Int.reduceEq, Int.reduceToNat, ↓reduceIte, Int.reducePow, Nat.reduceLeDiff, Nat.reduceLT, ne_eq, eq_self, List.length_cons, List.length_nil, qxE])
          refine asks_tc rfl (hk) (t_bool tb (by decide) (by decide)) en_m_Tape__Bool rfl (by first | exact List.mem_singleton.2 rfl | simp) rfl (by first | exact fun j hj => .inl (List.mem_singleton.1 hj) | simp) ?_
          rintro (_ | _) -
          case' false =>
            repeat' (first | simp (disch := omega) only [sxE, m_Tape__Wide.E, Nat.reduceAdd, Nat.reduceEqDiff, Nat.reduceMul, Nat.reduceSub, Int.reduceAdd, Int.reduceSub, Int.reduceMul, Int.reduceNeg, Int.reduceLT, Int.reduceLE, Int.reduceEq, Int.reduceToNat, ↓reduceIte, Int.reducePow, Nat.reduceLeDiff, Nat.reduceLT, ne_eq, eq_self, List.length_cons, List.length_nil, qxE])
            exact ⟨(2, c0, c1, u, c3), ⟨by dsimp only; omega, u0, u1, hu, u3⟩, by dsimp only; omega, ⟨rfl, rfl⟩⟩
          case' true =>
            repeat' (first | simp (disch := omega) only [sxE, m_Tape__Wide.E, Nat.reduceAdd, Nat.reduceEqDiff, Nat.reduceMul, Nat.reduceSub, Int.reduceAdd, Int.reduceSub, Int.reduceMul, Int.reduceNeg, Int.reduceLT, Int.reduceLE, Int.reduceEq, Int.reduceToNat, ↓reduceIte, Int.reducePow, Nat.reduceLeDiff, Nat.reduceLT, ne_eq, eq_self, List.length_cons, List.length_nil, qxE])
            refine genA_c (L := [.g (hK w tb B Bm)]) (cs := [.int .u64 0, .int .u64 1, .int .u64 9223372036854775808, .int .u64 18446744073709551615]) (T := 25) (fun b => .slice (some ⟨b, 0, none⟩) 4 4) rfl (fun W => by kernel_rfl) fun gb hgb => ?_
            have hne : tb ∉ (Kn.g (cK gb [.int .u64 0, .int .u64 1, .int .u64 9223372036854775808, .int .u64 18446744073709551615])).bs := fun h => hgb (by rw [← List.mem_singleton.1 h]; exact kX_bs.2 ⟨_, List.mem_singleton.2 rfl, hK_bs ht.lt⟩)
            clear hgb
            repeat' (first | simp (disch := omega) only [sxE, m_Tape__Wide.E, Nat.reduceAdd, Nat.reduceEqDiff, Nat.reduceMul, Nat.reduceSub, Int.reduceAdd, Int.reduceSub, Int.reduceMul, Int.reduceNeg, Int.reduceLT, Int.reduceLE, Int.reduceEq, Int.reduceToNat, ↓reduceIte, Int.reducePow, Nat.reduceLeDiff, Nat.reduceLT, ne_eq, eq_self, List.length_cons, List.length_nil, qxE])
            refine asks_tc rfl hk (t_next tb (by decide) (by decide)) en_m_Tape__Next rfl (List.mem_cons_of_mem _ (List.mem_singleton.2 rfl)) rfl (fun j hj => by
              rcases List.mem_cons.1 hj with rfl | hj
              · exact .inr hne
              · exact .inl (List.mem_singleton.1 hj)) ?_
            rintro q ⟨q1, q2⟩
            rcases (show q = 0 ∨ q = 1 ∨ q = 2 ∨ q = 3 by omega) with rfl | rfl | rfl | rfl
            · repeat' (first | simp (disch := omega) only [sxE, m_Tape__Wide.E, Nat.reduceAdd, Nat.reduceEqDiff, Nat.reduceMul, Nat.reduceSub, Int.reduceAdd, Int.reduceSub, Int.reduceMul, Int.reduceNeg, Int.reduceLT, Int.reduceLE, Int.reduceEq, Int.reduceToNat, ↓reduceIte, Int.reducePow, Nat.reduceLeDiff, Nat.reduceLT, ne_eq, eq_self, List.length_cons, List.length_nil, qxE, Nat.zero_add, Nat.add_zero, Nat.one_mul, Nat.mul_one] | (refine ldP_c (cs := [.int .u64 0, .int .u64 1, .int .u64 9223372036854775808, .int .u64 18446744073709551615]) (l := [.int .u64 0]) rfl List.mem_cons_self rfl (fun j v h => by rcases j with _ | j; exact h; cases h) ?_))
              exact ⟨(2, c0, c1, 0, c3), ⟨by dsimp only; omega, u0, u1, ⟨by dsimp only; omega, by dsimp only; omega⟩, u3⟩, by dsimp only; omega, ⟨rfl, rfl, extS_kn fun k hk => by rw [List.mem_singleton.1 hk]; exact List.mem_cons_of_mem _ (List.mem_singleton.2 rfl)⟩⟩
            · repeat' (first | simp (disch := omega) only [sxE, m_Tape__Wide.E, Nat.reduceAdd, Nat.reduceEqDiff, Nat.reduceMul, Nat.reduceSub, Int.reduceAdd, Int.reduceSub, Int.reduceMul, Int.reduceNeg, Int.reduceLT, Int.reduceLE, Int.reduceEq, Int.reduceToNat, ↓reduceIte, Int.reducePow, Nat.reduceLeDiff, Nat.reduceLT, ne_eq, eq_self, List.length_cons, List.length_nil, qxE, Nat.zero_add, Nat.add_zero, Nat.one_mul, Nat.mul_one] | (refine ldP_c (cs := [.int .u64 0, .int .u64 1, .int .u64 9223372036854775808, .int .u64 18446744073709551615]) (l := [.int .u64 1]) rfl List.mem_cons_self rfl (fun j v h => by rcases j with _ | j; exact h; cases h) ?_))
              exact ⟨(2, c0, c1, 1, c3), ⟨by dsimp only; omega, u0, u1, ⟨by dsimp only; omega, by dsimp only; omega⟩, u3⟩, by dsimp only; omega, ⟨rfl, rfl, extS_kn fun k hk => by rw [List.mem_singleton.1 hk]; exact List.mem_cons_of_mem _ (List.mem_singleton.2 rfl)⟩⟩
            · repeat' (first | simp (disch := omega) only [sxE, m_Tape__Wide.E, Nat.reduceAdd, Nat.reduceEqDiff, Nat.reduceMul, Nat.reduceSub, Int.reduceAdd, Int.reduceSub, Int.reduceMul, Int.reduceNeg, Int.reduceLT, Int.reduceLE, Int.reduceEq, Int.reduceToNat, ↓reduceIte, Int.reducePow, Nat.reduceLeDiff, Nat.reduceLT, ne_eq, eq_self, List.length_cons, List.length_nil, qxE, Nat.zero_add, Nat.add_zero, Nat.one_mul, Nat.mul_one] | (refine ldP_c (cs := [.int .u64 0, .int .u64 1, .int .u64 9223372036854775808, .int .u64 18446744073709551615]) (l := [.int .u64 9223372036854775808]) rfl List.mem_cons_self rfl (fun j v h => by rcases j with _ | j; exact h; cases h) ?_))
              exact ⟨(2, c0, c1, 9223372036854775808, c3), ⟨by dsimp only; omega, u0, u1, ⟨by dsimp only; omega, by dsimp only; omega⟩, u3⟩, by dsimp only; omega, ⟨rfl, rfl, extS_kn fun k hk => by rw [List.mem_singleton.1 hk]; exact List.mem_cons_of_mem _ (List.mem_singleton.2 rfl)⟩⟩
            · repeat' (first | simp (disch := omega) only [sxE, m_Tape__Wide.E, Nat.reduceAdd, Nat.reduceEqDiff, Nat.reduceMul, Nat.reduceSub, Int.reduceAdd, Int.reduceSub, Int.reduceMul, Int.reduceNeg, Int.reduceLT, Int.reduceLE, Int.reduceEq, Int.reduceToNat, ↓reduceIte, Int.reducePow, Nat.reduceLeDiff, Nat.reduceLT, ne_eq, eq_self, List.length_cons, List.length_nil, qxE, Nat.zero_add, Nat.add_zero, Nat.one_mul, Nat.mul_one] | (refine ldP_c (cs := [.int .u64 0, .int .u64 1, .int .u64 9223372036854775808, .int .u64 18446744073709551615]) (l := [.int .u64 18446744073709551615]) rfl List.mem_cons_self rfl (fun j v h => by rcases j with _ | j; exact h; cases h) ?_))
              exact ⟨(2, c0, c1, 18446744073709551615, c3), ⟨by dsimp only; omega, u0, u1, ⟨by dsimp only; omega, by dsimp only; omega⟩, u3⟩, by dsimp only; omega, ⟨rfl, rfl, extS_kn fun k hk => by rw [List.mem_singleton.1 hk]; exact List.mem_cons_of_mem _ (List.mem_singleton.2 rfl)⟩⟩
        · rw [show ((3 + 1 : Nat) : Int) = 4 from rfl]
          repeat' (first | simp (disch := omega) only [sxE, m_Tape__Wide.E, Nat.reduceAdd, Nat.reduceEqDiff, Nat.reduceMul, Nat.reduceSub, Int.reduceAdd, Int.reduceSub, Int.reduceMul, Int.reduceNeg, Int.reduceLT, Int.reduceLE, Int.reduceEq, Int.reduceToNat, ↓reduceIte, Int.reducePow, Nat.reduceLeDiff, Nat.reduceLT, ne_eq, eq_self, List.length_cons, List.length_nil, qxE])
          refine asks_tc rfl (hk) (t_word tb) en_m_Tape__Word rfl (by first | exact List.mem_singleton.2 rfl | simp) rfl (by first | exact fun j hj => .inl (List.mem_singleton.1 hj) | simp) ?_
          intro u hu
          repeat' (first | simp (disch := omega) only [sxE, m_Tape__Wide.E, Nat.reduceAdd, Nat.reduceEqDiff, Nat.reduceMul, Nat.reduceSub, Int.reduceAdd, Int.reduceSub, Int.reduceMul, Int.reduceNeg, Int.reduceLT, Int.reduceLE, Int.reduceEq, Int.reduceToNat, ↓reduceIte, Int.reducePow, Nat.reduceLeDiff, Nat.reduceLT, ne_eq, eq_self, List.length_cons, List.length_nil, qxE])
          refine asks_tc rfl (hk) (t_bool tb (by decide) (by decide)) en_m_Tape__Bool rfl (by first | exact List.mem_singleton.2 rfl | simp) rfl (by first | exact fun j hj => .inl (List.mem_singleton.1 hj) | simp) ?_
          rintro (_ | _) -
          case' false =>
            repeat' (first | simp (disch := omega) only [sxE, m_Tape__Wide.E, Nat.reduceAdd, Nat.reduceEqDiff, Nat.reduceMul, Nat.reduceSub, Int.reduceAdd, Int.reduceSub, Int.reduceMul, Int.reduceNeg, Int.reduceLT, Int.reduceLE, Int.reduceEq, Int.reduceToNat, ↓reduceIte, Int.reducePow, Nat.reduceLeDiff, Nat.reduceLT, ne_eq, eq_self, List.length_cons, List.length_nil, qxE])
            exact ⟨(3, c0, c1, c2, u), ⟨by dsimp only; omega, u0, u1, u2, hu⟩, by dsimp only; omega, ⟨rfl, rfl⟩⟩
          case' true =>
            repeat' (first | simp (disch := omega) only [sxE, m_Tape__Wide.E, Nat.reduceAdd, Nat.reduceEqDiff, Nat.reduceMul, Nat.reduceSub, Int.reduceAdd, Int.reduceSub, Int.reduceMul, Int.reduceNeg, Int.reduceLT, Int.reduceLE, Int.reduceEq, Int.reduceToNat, ↓reduceIte, Int.reducePow, Nat.reduceLeDiff, Nat.reduceLT, ne_eq, eq_self, List.length_cons, List.length_nil, qxE])
            refine genA_c (L := [.g (hK w tb B Bm)]) (cs := [.int .u64 0, .int .u64 1, .int .u64 9223372036854775808, .int .u64 18446744073709551615]) (T := 25) (fun b => .slice (some ⟨b, 0, none⟩) 4 4) rfl (fun W => by kernel_rfl) fun gb hgb => ?_
            have hne : tb ∉ (Kn.g (cK gb [.int .u64 0, .int .u64 1, .int .u64 9223372036854775808, .int .u64 18446744073709551615])).bs := fun h => hgb (by rw [← List.mem_singleton.1 h]; exact kX_bs.2 ⟨_, List.mem_singleton.2 rfl, hK_bs ht.lt⟩)
            clear hgb
            repeat' (first | simp (disch := omega) only [sxE, m_Tape__Wide.E, Nat.reduceAdd, Nat.reduceEqDiff, Nat.reduceMul, Nat.reduceSub, Int.reduceAdd, Int.reduceSub, Int.reduceMul, Int.reduceNeg, Int.reduceLT, Int.reduceLE, Int.reduceEq, Int.reduceToNat, ↓reduceIte, Int.reducePow, Nat.reduceLeDiff, Nat.reduceLT, ne_eq, eq_self, List.length_cons, List.length_nil, qxE])
            refine asks_tc rfl hk (t_next tb (by decide) (by decide)) en_m_Tape__Next rfl (List.mem_cons_of_mem _ (List.mem_singleton.2 rfl)) rfl (fun j hj => by
              rcases List.mem_cons.1 hj with rfl | hj
              · exact .inr hne
              · exact .inl (List.mem_singleton.1 hj)) ?_
            rintro q ⟨q1, q2⟩
            rcases (show q = 0 ∨ q = 1 ∨ q = 2 ∨ q = 3 by omega) with rfl | rfl | rfl | rfl
            · repeat' (first | simp (disch := omega) only [sxE, m_Tape__Wide.E, Nat.reduceAdd, Nat.reduceEqDiff, Nat.reduceMul, Nat.reduceSub, Int.reduceAdd, Int.reduceSub, Int.reduceMul, Int.reduceNeg, Int.reduceLT, Int.reduceLE, Int.reduceEq, Int.reduceToNat, ↓reduceIte, Int.reducePow, Nat.reduceLeDiff, Nat.reduceLT, ne_eq, eq_self, List.length_cons, List.length_nil, qxE, Nat.zero_add, Nat.add_zero, Nat.one_mul, Nat.mul_one] | (refine ldP_c (cs := [.int .u64 0, .int .u64 1, .int .u64 9223372036854775808, .int .u64 18446744073709551615]) (l := [.int .u64 0]) rfl List.mem_cons_self rfl (fun j v h => by rcases j with _ | j; exact h; cases h) ?_))
              exact ⟨(3, c0, c1, c2, 0), ⟨by dsimp only; omega, u0, u1, u2, ⟨by dsimp only; omega, by dsimp only; omega⟩⟩, by dsimp only; omega, ⟨rfl, rfl, extS_kn fun k hk => by rw [List.mem_singleton.1 hk]; exact List.mem_cons_of_mem _ (List.mem_singleton.2 rfl)⟩⟩
            · repeat' (first | simp (disch := omega) only [sxE, m_Tape__Wide.E, Nat.reduceAdd, Nat.reduceEqDiff, Nat.reduceMul, Nat.reduceSub, Int.reduceAdd, Int.reduceSub, Int.reduceMul, Int.reduceNeg, Int.reduceLT, Int.reduceLE, Int.reduceEq, Int.reduceToNat, ↓reduceIte, Int.reducePow, Nat.reduceLeDiff, Nat.reduceLT, ne_eq, eq_self, List.length_cons, List.length_nil, qxE, Nat.zero_add, Nat.add_zero, Nat.one_mul, Nat.mul_one] | (refine ldP_c (cs := [.int .u64 0, .int .u64 1, .int .u64 9223372036854775808, .int .u64 18446744073709551615]) (l := [.int .u64 1]) rfl List.mem_cons_self rfl (fun j v h => by rcases j with _ | j; exact h; cases h) ?_))
              exact ⟨(3, c0, c1, c2, 1), ⟨by dsimp only; omega, u0, u1, u2, ⟨by dsimp only; omega, by dsimp only; omega⟩⟩, by dsimp only; omega, ⟨rfl, rfl, extS_kn fun k hk => by rw [List.mem_singleton.1 hk]; exact List.mem_cons_of_mem _ (List.mem_singleton.2 rfl)⟩⟩
            · repeat' (first | simp (disch := omega) only [sxE, m_Tape__Wide.E, Nat.reduceAdd, Nat.reduceEqDiff, Nat.reduceMul, Nat.reduceSub, Int.reduceAdd, Int.reduceSub, Int.reduceMul, Int.reduceNeg, Int.reduceLT, Int.reduceLE, Int.reduceEq, Int.reduceToNat, ↓reduceIte, Int.reducePow, Nat.reduceLeDiff, Nat.reduceLT, ne_eq, eq_self, List.length_cons, List.length_nil, qxE, Nat.zero_add, Nat.add_zero, Nat.one_mul, Nat.mul_one] | (refine ldP_c (cs := [.int .u64 0, .int .u64 1, .int .u64 9223372036854775808, .int .u64 18446744073709551615]) (l := [.int .u64 9223372036854775808]) rfl List.mem_cons_self rfl (fun j v h => by rcases j with _ | j; exact h; cases h) ?_))
              exact ⟨(3, c0, c1, c2, 9223372036854775808), ⟨by dsimp only; omega, u0, u1, u2, ⟨by dsimp only; omega, by dsimp only; omega⟩⟩, by dsimp only; omega, ⟨rfl, rfl, extS_kn fun k hk => by rw [List.mem_singleton.1 hk]; exact List.mem_cons_of_mem _ (List.mem_singleton.2 rfl)⟩⟩
            · repeat' (first | simp (disch := omega) only [sxE, m_Tape__Wide.E, Nat.reduceAdd, Nat.reduceEqDiff, Nat.reduceMul, Nat.reduceSub, Int.reduceAdd, Int.reduceSub, Int.reduceMul, Int.reduceNeg, Int.reduceLT, Int.reduceLE, Int.reduceEq, Int.reduceToNat, ↓reduceIte, Int.reducePow, Nat.reduceLeDiff, Nat.reduceLT, ne_eq, eq_self, List.length_cons, List.length_nil, qxE, Nat.zero_add, Nat.add_zero, Nat.one_mul, Nat.mul_one] | (refine ldP_c (cs := [.int .u64 0, .int .u64 1, .int .u64 9223372036854775808, .int .u64 18446744073709551615]) (l := [.int .u64 18446744073709551615]) rfl List.mem_cons_self rfl (fun j v h => by rcases j with _ | j; exact h; cases h) ?_))
              exact ⟨(3, c0, c1, c2, 18446744073709551615), ⟨by dsimp only; omega, u0, u1, u2, ⟨by dsimp only; omega, by dsimp only; omega⟩⟩, by dsimp only; omega, ⟨rfl, rfl, extS_kn fun k hk => by rw [List.mem_singleton.1 hk]; exact List.mem_cons_of_mem _ (List.mem_singleton.2 rfl)⟩⟩
end Go.Proofs.YtiiflgfnbgencaaDoor

/- Open: Opening arguments that are structs: samples and Wides. -/
namespace Go.Proofs.YtiiflgfnbgencaaDoor
open Go.ChangeShapes Go.WideShapes Go.ChangeAt Go.RowKit
set_option linter.unusedVariables false
set_option linter.unusedSimpArgs false
section
variable {H : Type} {enc : TypeId × Value → H} {P : Program}
theorem list5 {l : List Value} (h : l.length = 5) : ∃ x y z u v, l = [x, y, z, u, v] := by
  match l, h with
  | [x, y, z, u, v], _ => exact ⟨x, y, z, u, v, rfl⟩
theorem open_wid {t e : TypeId} {f0 f1 : Field} {v : Value} {d : DataW H} {ps : List MemPlace} {W : World} {base : Nat} (ht : P.underlying t = some (.struct #[f0, f1])) (k0 : P.underlying f0.type = some .bool) (k1 : P.underlying f1.type = some (.array 4 e)) (ke : P.underlying e = some (.int .u64)) (o0 : f0.offset = 0) (o1 : f1.offset = 1)
    (c0 : P.cellsOf f0.type = 1) (c1 : P.cellsOf f1.type = 4) (ce : P.cellsOf e = 1) (ct : P.cellsOf t = 5) (hv : Value.okWide P W .any base t v) (h : DataW.Trod enc P W 0 (fun _ => true) true t v d ps) : ∃ n a b c d', v = WV n a b c d' ∧ U64 a ∧ U64 b ∧ U64 c ∧ U64 d' := by
  obtain ⟨cs, rfl, hsz⟩ := okWide_struct ht hv
  obtain ⟨fuel, hf⟩ := h
  obtain ⟨y0, y1, n, _, hlen, e0, e1⟩ := trod_struct2 ht hf
  have hl : cs.toList.length = 5 := by rw [Array.length_toList, hsz, ct]
  obtain ⟨x, y, z, u, v, hxy⟩ := list5 hl
  have hcs : cs = #[x, y, z, u, v] := by rw [← Array.toArray_toList (xs := cs), hxy]
  subst hcs
  rw [o0, c0] at e0
  rw [o1, c1] at e1
  obtain ⟨nb, en, -⟩ := DataW.trod_bool k0 e0
  have e1' : DataW.trod enc P W 0 (fun _ => true) true n f1.type [y, z, u, v] = some y1 := by simpa [Value.cells] using e1
  obtain ⟨z0, z1, z2, z3, m, _, g0, g1, g2, g3⟩ := trod_array4 k1 ce e1'
  obtain ⟨a0, r0, -, w0⟩ := DataW.trod_int ke g0
  obtain ⟨a1, r1, -, w1⟩ := DataW.trod_int ke g1
  obtain ⟨a2, r2, -, w2⟩ := DataW.trod_int ke g2
  obtain ⟨a3, r3, -, w3⟩ := DataW.trod_int ke g3
  simp [Value.cells] at en r0 r1 r2 r3
  subst en; subst r0; subst r1; subst r2; subst r3
  exact ⟨nb, a0, a1, a2, a3, rfl, U64.of_wf w0, U64.of_wf w1, U64.of_wf w2, U64.of_wf w3⟩
end
set_option maxRecDepth 100000 in
theorem open_wide {H : Type} {enc : TypeId × Value → H} {v : Value} {d : DataW H} {ps : List MemPlace} {W : World} {base : Nat} (hv : Value.okWide Tryd.prog W .any base 28 v) (h : DataW.Trod enc Tryd.prog W 0 (fun _ => true) true 28 v d ps) : ∃ n a b c d', v = WV n a b c d' ∧ U64 a ∧ U64 b ∧ U64 c ∧ U64 d' :=
  open_wid Tryd.underlying28 Tryd.underlying4 Tryd.underlying26 Tryd.underlying25 rfl rfl (by kernel_rfl) (by kernel_rfl) (by kernel_rfl) (by kernel_rfl) hv h
end Go.Proofs.YtiiflgfnbgencaaDoor
