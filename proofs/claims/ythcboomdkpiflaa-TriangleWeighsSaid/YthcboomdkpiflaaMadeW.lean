/- The tape's Wide, and the walk among calls of a tape's methods. -/
import Derived.Test.YthcboomdkpiflaaRows
import Derived.Test.YthcboomdkpiflaaMade
import Derived.Test.YthcboomdkpiflaaWideD
import Derived.WalkKit
import Derived.ProofKit
import Derived.WalkLawsBesides
import Derived.WalkSpells
import Derived.RegionTactic
import Derived.ChangeAlike
import Derived.Outline
import Derived.Deep.RegionWith
namespace Go.Proofs.Ythcboomdkpiflaa
open Go.ChangeShapes Go.WideShapes Go.ChangeAt Go.RowKit
set_option linter.unusedVariables false
set_option linter.unusedSimpArgs false

theorem HB.gne {W W' : World} {b g : Nat} {cs : Array Value} (h : HB W b cs) (hg : W.grownBy W' (some g)) (hne : b ≠ g) : HB W' b cs := by
  have hl := h.lt
  obtain ⟨T, h⟩ := h
  exact ⟨T, (hg.block b hl (fun e => hne (Option.some.inj e))).trans h⟩
theorem grown_bel {a w w' : World} {row : Option Nat} (h : a.grownBy w row) (hb : Below w.heap.size w w') : a.grownBy w' row := grown_trans h (grown_below hb row)
theorem grown_drew {a w : World} {row : Option Nat} (h : a.grownBy w row) : a.grownBy w.drew row := ⟨h.os, h.tape, h.output, h.size, h.block⟩
theorem TapeOk.bel {B : Nat} {w w' : World} {b : Nat} (h : TapeOk B w b) (hb : Below w.heap.size w w') : TapeOk B w' b := h.below (Below.mono hb h.leB)
theorem TapeOk.setc {B : Nat} {w : World} {b : Nat} {p : Addr} {v : Value} (hp : B ≤ p.block) (h : TapeOk B w b) : TapeOk B (w.setCell p v) b := h.below ((Below.refl B w).setCell hp v)
theorem TapeOk.genB {B B' : Nat} {w : World} {b : Nat} (h : TapeOk B w b) (h1 : B ≤ B') (h2 : B' ≤ w.heap.size) : TapeOk B' w b := by
  obtain ⟨a, len, cap, k, h1', h0, h2', h3, h4, h5, h6, h7⟩ := h
  exact ⟨a, len, cap, k, Nat.lt_of_lt_of_le h1' h1, h2, h2', h3, h4, h5, h6, fun hl => by
    obtain ⟨bb, off, e, hne, hlt, hc⟩ := h7 hl
    exact ⟨bb, off, e, hne, Nat.lt_of_lt_of_le hlt h1, hc⟩⟩

/-- What is known while the tape's Wide runs: the tape, the blocks of the result and of the variable. -/
def AWs (B b q : Nat) (w W : World) : Prop := TapeOk B W b ∧ w.grownBy W (some b) ∧ HB W q #[.bool false, .int .u64 0, .int .u64 0, .int .u64 0, .int .u64 0] ∧ ∃ (n : Bool) (c0 c1 c2 c3 : Int), U64 c0 ∧ U64 c1 ∧ U64 c2 ∧ U64 c3 ∧ HB W (q + 1) #[.bool n, .int .u64 c0, .int .u64 c1, .int .u64 c2, .int .u64 c3]
def WPost (B : Nat) (b : Nat) (w : World) (e : Ending) (w' : World) : Prop := ∃ n a b' c d, U64 a ∧ U64 b' ∧ U64 c ∧ U64 d ∧ e = .returned (WV n a b' c d) ∧ TapeOk B w' b ∧ w.grownBy w' (some b)
theorem AWs.tape {B b q : Nat} {w W : World} (h : AWs B b q w W) : TapeOk B W b := h.1
theorem AWs.drew {B b q : Nat} {w W : World} (h : AWs B b q w W) : AWs B b q w W.drew := by
  obtain ⟨ht, hG, B1, n, c0, c1, c2, c3, u0, u1, u2, u3, B2⟩ := h
  exact ⟨ht.drew, grown_drew hG, B1.drew, n, c0, c1, c2, c3, u0, u1, u2, u3, B2.drew⟩
theorem AWs.alloc {B b q : Nat} {w W : World} (h : AWs B b q w W) (o : Obj) : AWs B b q w (W.alloc o) := by
  obtain ⟨ht, hG, B1, n, c0, c1, c2, c3, u0, u1, u2, u3, B2⟩ := h
  exact ⟨ht.alloc _, grown_alloc hG _, B1.old B1.lt, n, c0, c1, c2, c3, u0, u1, u2, u3, B2.old B2.lt⟩
theorem AWs.bel {B b q : Nat} {w W W' : World} (h : AWs B b q w W) (hb : Below W.heap.size W W') : AWs B b q w W' := by
  obtain ⟨ht, hG, B1, n, c0, c1, c2, c3, u0, u1, u2, u3, B2⟩ := h
  exact ⟨ht.bel hb, grown_bel hG hb, B1.below hb, n, c0, c1, c2, c3, u0, u1, u2, u3, B2.below hb⟩
theorem AWs.gne {B b q : Nat} {w W W' : World} (h : AWs B b q w W) (hg : W.grownBy W' (some b)) (ht' : TapeOk B W' b) (hq : b < q) : AWs B b q w W' := by
  obtain ⟨ht, hG, B1, n, c0, c1, c2, c3, u0, u1, u2, u3, B2⟩ := h
  exact ⟨ht', grown_trans hG hg, B1.gne hg (by omega), n, c0, c1, c2, c3, u0, u1, u2, u3, B2.gne hg (by omega)⟩
theorem AWs.store {B b q : Nat} {w W : World} {j : Nat} {u : Int} (hu : U64 u) (hj : 1 ≤ j ∧ j ≤ 4) (hq : w.heap.size ≤ q) (hB : B ≤ q) (h : AWs B b q w W) : AWs B b q w (W.setCell ⟨q + 1, j, none⟩ (.int .u64 u)) := by
  obtain ⟨ht, hG, B1, n, c0, c1, c2, c3, u0, u1, u2, u3, B2⟩ := h
  have t := ht.setc (p := ⟨q + 1, j, none⟩) (v := .int .u64 u) (by show B ≤ q + 1; omega)
  have g := grown_setCell hG (p := ⟨q + 1, j, none⟩) (.inr (by show w.heap.size ≤ q + 1; omega)) (.int .u64 u)
  have b1 := B1.setne (a := ⟨q + 1, j, none⟩) (v := .int .u64 u) (by show q ≠ q + 1; omega)
  obtain rfl | rfl | rfl | rfl : j = 1 ∨ j = 2 ∨ j = 3 ∨ j = 4 := by omega
  · exact ⟨t, g, b1, n, u, c1, c2, c3, hu, u1, u2, u3, B2.set rfl⟩
  · exact ⟨t, g, b1, n, c0, u, c2, c3, u0, hu, u2, u3, B2.set rfl⟩
  · exact ⟨t, g, b1, n, c0, c1, u, c3, u0, u1, hu, u3, B2.set rfl⟩
  · exact ⟨t, g, b1, n, c0, c1, c2, u, u0, u1, u2, hu, B2.set rfl⟩
theorem AWs.at {B b q m : Nat} {w W : World} (h : AWs B b q w W) (hm : m ≤ 3) : ∃ c, W.cell? ⟨q + 1, 1 + m, none⟩ = some (.int .u64 c) ∧ W.frozen? ⟨q + 1, 1 + m, none⟩ = false ∧ q + 1 < W.heap.size ∧ B ≤ W.heap.size := by
  obtain ⟨ht, hG, B1, n, c0, c1, c2, c3, u0, u1, u2, u3, B2⟩ := h
  obtain ⟨B2, B2c, B2f, B2l⟩ := Bx.of B2
  obtain rfl | rfl | rfl | rfl : m = 0 ∨ m = 1 ∨ m = 2 ∨ m = 3 := by omega
  all_goals exact ⟨_, B2c _, B2f _, B2l, ht.leB⟩
theorem four_at {W : World} {g r : Nat} (h : HB W g #[.int .u64 0, .int .u64 1, .int .u64 9223372036854775808, .int .u64 18446744073709551615]) (hr : (r : Int) < 4) : ∃ x, W.cell? ⟨g, r, none⟩ = some (.int .u64 x) ∧ U64 x := by
  obtain ⟨B2, B2c, B2f, B2l⟩ := Bx.of h
  obtain rfl | rfl | rfl | rfl : r = 0 ∨ r = 1 ∨ r = 2 ∨ r = 3 := by omega
  all_goals exact ⟨_, B2c _, by decide, by decide⟩
theorem AWs.over {B b q : Nat} {w W : World} {n' : Bool} {d0 d1 d2 d3 : Int} (v0 : U64 d0) (v1 : U64 d1) (v2 : U64 d2) (v3 : U64 d3) (hq : w.heap.size ≤ q) (hB : B ≤ q) (h : AWs B b q w W) :
    AWs B b q w (((((W.setCell ⟨q + 1, 0, none⟩ (.bool n')).setCell ⟨q + 1, 1, none⟩ (.int .u64 d0)).setCell ⟨q + 1, 2, none⟩ (.int .u64 d1)).setCell ⟨q + 1, 3, none⟩ (.int .u64 d2)).setCell ⟨q + 1, 4, none⟩ (.int .u64 d3)) := by
  obtain ⟨ht, hG, B1, n, c0, c1, c2, c3, u0, u1, u2, u3, B2⟩ := h
  have hp : ∀ (j : Nat), w.heap.size ≤ (⟨q + 1, j, none⟩ : Addr).block := fun j => by show w.heap.size ≤ q + 1; omega
  have hp' : ∀ (j : Nat), B ≤ (⟨q + 1, j, none⟩ : Addr).block := fun j => by show B ≤ q + 1; omega
  have hn : ∀ (j : Nat), q ≠ (⟨q + 1, j, none⟩ : Addr).block := fun j => by show q ≠ q + 1; omega
  exact ⟨((((ht.setc (hp' _)).setc (hp' _)).setc (hp' _)).setc (hp' _)).setc (hp' _),
    grown_setCell (grown_setCell (grown_setCell (grown_setCell (grown_setCell hG (.inr (hp _)) _) (.inr (hp _)) _) (.inr (hp _)) _) (.inr (hp _)) _) (.inr (hp _)) _,
    ((((B1.setne (hn _)).setne (hn _)).setne (hn _)).setne (hn _)).setne (hn _), n', d0, d1, d2, d3, v0, v1, v2, v3, HB.over5 (HN.of5 B2)⟩









set_option maxHeartbeats 4000000 in
set_option maxRecDepth 100000 in
theorem twide_any {B : Nat} (b : Nat) (w : World) (ht : TapeOk B w b) :
    Calls Try.prog 13 #[.pointer (some ⟨b, 0, none⟩)] w (WPost B b w) := by
  have hG := grown_refl w (some b)
  have hBl := ht.ltB
  have hBs := ht.leB
  go_enter Try.func13, Try.ntmps13
  (repeat' (first | (go_big_may; (first | (go_at_call 14; refine (next_any (B := B) b 5 ⟨by decide, by decide⟩ _ (by (repeat' (first | (with_reducible exact ht) | (with_reducible refine TapeOk.alloc ?_ _) | (with_reducible refine TapeOk.drew ?_) | (with_reducible refine TapeOk.setc (by first | go_size | (dsimp only; omega)) ?_))))).mono ?_; rintro e w' ⟨k, ⟨k1, k2, k3⟩, rfl, ht', hg⟩; have N1 := Bx.of (HB.gne (b := w.heap.size) (cs := #[.bool false, .int .u64 0, .int .u64 0, .int .u64 0, .int .u64 0]) (by (repeat' (first | (with_reducible assumption) | ((with_reducible refine HB.new _ _ _ ?_) <;> (go_size; done)) | (with_reducible refine HB.old (by go_size) ?_) | (with_reducible refine HB.drew ?_) | (with_reducible refine HB.over5 ?_) | (with_reducible refine HB.over4 ?_) | (with_reducible refine HB.setne (by first | go_size | (dsimp only; omega)) ?_) | (with_reducible refine HN.set ?_) | (with_reducible refine HN.setne (by first | go_size | (dsimp only; omega)) ?_) | (with_reducible refine HN.drew ?_) | (with_reducible refine HN.old (by go_size) ?_) | (with_reducible exact HN.of5 (by assumption)) | (with_reducible exact HN.new5 _ _ (by go_size)) | (with_reducible exact HN.of4 (by assumption)) | (with_reducible exact HN.new4 _ _ (by go_size))))) hg (by first | omega | (go_size; done))); have N2 := Bx.of (HB.gne (b := w.heap.size + 1) (cs := #[.bool false, .int .u64 0, .int .u64 0, .int .u64 0, .int .u64 0]) (by (repeat' (first | (with_reducible assumption) | ((with_reducible refine HB.new _ _ _ ?_) <;> (go_size; done)) | (with_reducible refine HB.old (by go_size) ?_) | (with_reducible refine HB.drew ?_) | (with_reducible refine HB.over5 ?_) | (with_reducible refine HB.over4 ?_) | (with_reducible refine HB.setne (by first | go_size | (dsimp only; omega)) ?_) | (with_reducible refine HN.set ?_) | (with_reducible refine HN.setne (by first | go_size | (dsimp only; omega)) ?_) | (with_reducible refine HN.drew ?_) | (with_reducible refine HN.old (by go_size) ?_) | (with_reducible exact HN.of5 (by assumption)) | (with_reducible exact HN.new5 _ _ (by go_size)) | (with_reducible exact HN.of4 (by assumption)) | (with_reducible exact HN.new4 _ _ (by go_size))))) hg (by first | omega | (go_size; done))); have hG' : w.grownBy w' (some (b)) := grown_trans (by (repeat' (first | (with_reducible exact hG) | (with_reducible refine grown_alloc ?_ _) | (with_reducible refine grown_drew ?_) | (with_reducible refine grown_setCell ?_ (.inr (by first | go_size | (dsimp only; omega))) _)))) hg; have hsz := hg.size; clear ht hG; have ht := ht'; have hG := hG'; clear ht' hG'; (try simp only [World.size_alloc, World.size_setCell, World.size_drew] at hsz); clear hg; (try clear B1 B1c B1f B1l); obtain ⟨B1, B1c, B1f, B1l⟩ := N1; (try clear B2 B2c B2f B2l); obtain ⟨B2, B2c, B2f, B2l⟩ := N2))) | go_values | go_skip | go_guarded | go_step | go_upon | (simp only [Int.not_lt, Int.not_le] at *; go_simp) | (go_values <;> (try go_simp)) | (go_ite <;> go_prune <;> (try go_simp)) | (split <;> (first | (rename_i hx; exact (hx _ rfl).elim) | go_prune))))
  have k4 := k2 (by decide)
  clear k2 k3
  go_loopw [4] (fun i wr => ∃ k : Nat, i = .int .i64 k ∧ k ≤ 4 ∧ AWs B b w.heap.size w wr) (fun i _ => (intOf i).toNat)
  case atStart => exact ⟨k.toNat, by rw [Int.toNat_of_nonneg k1], by omega, ht, hG, B1, _, 0, 0, 0, 0, ⟨by decide, by decide⟩, ⟨by decide, by decide⟩, ⟨by decide, by decide⟩, ⟨by decide, by decide⟩, B2⟩
  case round =>
    clear ht hG B1 B1c B1f B1l B2 B2c B2f B2l k1 k4
    obtain ⟨k, rfl, hk, hA'⟩ := hrel
    have hA := hA'
    by_cases h0 : k = 0
    · subst h0
      clear hA; have hA := hA'; clear hA'; have hA2 := hA; obtain ⟨ht, hG, B1, n, c0, c1, c2, c3, u0, u1, u2, u3, B2⟩ := hA2; obtain ⟨B1, B1c, B1f, B1l⟩ := Bx.of B1; obtain ⟨B2, B2c, B2f, B2l⟩ := Bx.of B2
      (repeat' (first | (go_big_may; (first | (go_at_call 36; refine (bool_any (B := B) b _ (by decide) (by decide) _ (AWs.tape (q := w.heap.size) (w := w) (by (repeat' (first | (with_reducible exact hA) | (with_reducible refine AWs.alloc ?_ _) | (with_reducible refine AWs.drew ?_) | (with_reducible refine AWs.over (lb0_in _) (lb1_in _) (lb2_in _) (lb3_in _) (by omega) (by omega) ?_) | (with_reducible refine AWs.store (by assumption) (by omega) (by omega) (by omega) ?_)))))).mono ?_; rintro e w' ⟨r, rfl, ht', hg⟩; have hA' : AWs B b w.heap.size w w' := AWs.gne (by (repeat' (first | (with_reducible exact hA) | (with_reducible refine AWs.alloc ?_ _) | (with_reducible refine AWs.drew ?_) | (with_reducible refine AWs.over (lb0_in _) (lb1_in _) (lb2_in _) (lb3_in _) (by omega) (by omega) ?_) | (with_reducible refine AWs.store (by assumption) (by omega) (by omega) (by omega) ?_)))) hg ht' (by omega); clear hg ht'; clear ht hG B1 B1c B1f B1l B2 B2c B2f B2l u0 u1 u2 u3; clear hA; have hA := hA'; clear hA'; have hA2 := hA; obtain ⟨ht, hG, B1, n, c0, c1, c2, c3, u0, u1, u2, u3, B2⟩ := hA2; obtain ⟨B1, B1c, B1f, B1l⟩ := Bx.of B1; obtain ⟨B2, B2c, B2f, B2l⟩ := Bx.of B2) | (go_at_call 34; refine (int_any (B := B) b _ (AWs.tape (q := w.heap.size) (w := w) (by (repeat' (first | (with_reducible exact hA) | (with_reducible refine AWs.alloc ?_ _) | (with_reducible refine AWs.drew ?_) | (with_reducible refine AWs.over (lb0_in _) (lb1_in _) (lb2_in _) (lb3_in _) (by omega) (by omega) ?_) | (with_reducible refine AWs.store (by assumption) (by omega) (by omega) (by omega) ?_)))))).mono ?_; rintro e w' ⟨z, hz, rfl, ht', hg⟩; have hA' : AWs B b w.heap.size w w' := AWs.gne (by (repeat' (first | (with_reducible exact hA) | (with_reducible refine AWs.alloc ?_ _) | (with_reducible refine AWs.drew ?_) | (with_reducible refine AWs.over (lb0_in _) (lb1_in _) (lb2_in _) (lb3_in _) (by omega) (by omega) ?_) | (with_reducible refine AWs.store (by assumption) (by omega) (by omega) (by omega) ?_)))) hg ht' (by omega); clear hg ht'; clear ht hG B1 B1c B1f B1l B2 B2c B2f B2l u0 u1 u2 u3; clear hA; have hA := hA'; clear hA'; have hA2 := hA; obtain ⟨ht, hG, B1, n, c0, c1, c2, c3, u0, u1, u2, u3, B2⟩ := hA2; obtain ⟨B1, B1c, B1f, B1l⟩ := Bx.of B1; obtain ⟨B2, B2c, B2f, B2l⟩ := Bx.of B2) | (go_at_call 20; refine (rOf_any _ hz _).mono ?_; rintro e w' ⟨rfl, hbw⟩; have hA' : AWs B b w.heap.size w w' := AWs.bel (by (repeat' (first | (with_reducible exact hA) | (with_reducible refine AWs.alloc ?_ _) | (with_reducible refine AWs.drew ?_) | (with_reducible refine AWs.over (lb0_in _) (lb1_in _) (lb2_in _) (lb3_in _) (by omega) (by omega) ?_) | (with_reducible refine AWs.store (by assumption) (by omega) (by omega) (by omega) ?_)))) hbw; clear hbw; clear ht hG B1 B1c B1f B1l B2 B2c B2f B2l u0 u1 u2 u3; clear hA; have hA := hA'; clear hA'; have hA2 := hA; obtain ⟨ht, hG, B1, n, c0, c1, c2, c3, u0, u1, u2, u3, B2⟩ := hA2; obtain ⟨B1, B1c, B1f, B1l⟩ := Bx.of B1; obtain ⟨B2, B2c, B2f, B2l⟩ := Bx.of B2) | (go_at_call 37; refine (rneg_any n c0 c1 c2 c3 u0 u1 u2 u3 _).mono ?_; rintro e w' ⟨rfl, hbw⟩; generalize -(wv n c0 c1 c2 c3) = zz; have hA' : AWs B b w.heap.size w w' := AWs.bel (by (repeat' (first | (with_reducible exact hA) | (with_reducible refine AWs.alloc ?_ _) | (with_reducible refine AWs.drew ?_) | (with_reducible refine AWs.over (lb0_in _) (lb1_in _) (lb2_in _) (lb3_in _) (by omega) (by omega) ?_) | (with_reducible refine AWs.store (by assumption) (by omega) (by omega) (by omega) ?_)))) hbw; clear hbw; clear ht hG B1 B1c B1f B1l B2 B2c B2f B2l u0 u1 u2 u3; clear hA; have hA := hA'; clear hA'; have hA2 := hA; obtain ⟨ht, hG, B1, n, c0, c1, c2, c3, u0, u1, u2, u3, B2⟩ := hA2; obtain ⟨B1, B1c, B1f, B1l⟩ := Bx.of B1; obtain ⟨B2, B2c, B2f, B2l⟩ := Bx.of B2))) | go_values | go_skip | go_guarded | go_step | go_upon | (simp only [Int.not_lt, Int.not_le] at *; go_simp) | (go_values <;> (try go_simp)) | (go_ite <;> go_prune <;> (try go_simp)) | (split <;> (first | (rename_i hx; exact (hx _ rfl).elim) | go_prune))))
      all_goals first | (refine bodyPost_ret (v := WE zz) ?_ rfl ⟨_, _, _, _, _, lb0_in _, lb1_in _, lb2_in _, lb3_in _, rfl, by (repeat' (first | (with_reducible exact ht) | (with_reducible refine TapeOk.alloc ?_ _) | (with_reducible refine TapeOk.drew ?_) | (with_reducible refine TapeOk.setc (by first | go_size | (dsimp only; omega)) ?_))), by (repeat' (first | (with_reducible exact hG) | (with_reducible refine grown_alloc ?_ _) | (with_reducible refine grown_drew ?_) | (with_reducible refine grown_setCell ?_ (.inr (by first | go_size | (dsimp only; omega))) _)))⟩; simp [results, Try.results13, go_sem, B1c, B1f, B1l]; done) | (refine bodyPost_ret (v := WV n c0 c1 c2 c3) ?_ rfl ⟨_, _, _, _, _, u0, u1, u2, u3, rfl, by (repeat' (first | (with_reducible exact ht) | (with_reducible refine TapeOk.alloc ?_ _) | (with_reducible refine TapeOk.drew ?_) | (with_reducible refine TapeOk.setc (by first | go_size | (dsimp only; omega)) ?_))), by (repeat' (first | (with_reducible exact hG) | (with_reducible refine grown_alloc ?_ _) | (with_reducible refine grown_drew ?_) | (with_reducible refine grown_setCell ?_ (.inr (by first | go_size | (dsimp only; omega))) _)))⟩; simp [results, Try.results13, go_sem, B1c, B1f, B1l]; done)
    · obtain ⟨m, rfl⟩ : ∃ m, k = m + 1 := ⟨k - 1, by omega⟩
      have hm : m ≤ 3 := by omega
      have e1 : ((m + 1 : Nat) : Int) = (m : Int) + 1 := by omega
      simp only [e1]
      clear hA' h0 hk
      obtain ⟨c, hc, hf, hl, hlB⟩ := hA.at hm
      have E1 := hid e1
      clear e1
      (repeat' (first | (go_big_may; (first | (go_at_call 35; refine (word_any (B := B) b _ (AWs.tape (q := w.heap.size) (w := w) (by (repeat' (first | (with_reducible exact hA) | (with_reducible refine AWs.alloc ?_ _) | (with_reducible refine AWs.drew ?_) | (with_reducible refine AWs.over (lb0_in _) (lb1_in _) (lb2_in _) (lb3_in _) (by omega) (by omega) ?_) | (with_reducible refine AWs.store (by assumption) (by omega) (by omega) (by omega) ?_)))))).mono ?_; rintro e w' ⟨u, hu, rfl, ht', hg⟩; have hA' : AWs B b w.heap.size w w' := AWs.gne (by (repeat' (first | (with_reducible exact hA) | (with_reducible refine AWs.alloc ?_ _) | (with_reducible refine AWs.drew ?_) | (with_reducible refine AWs.over (lb0_in _) (lb1_in _) (lb2_in _) (lb3_in _) (by omega) (by omega) ?_) | (with_reducible refine AWs.store (by assumption) (by omega) (by omega) (by omega) ?_)))) hg ht' (by omega); clear hg ht' hc hf hl hlB hA; have hA := hA'; clear hA'; obtain ⟨c, hc, hf, hl, hlB⟩ := hA.at hm) | (go_at_call 36; refine (bool_any (B := B) b 4 (by decide) (by decide) _ (AWs.tape (q := w.heap.size) (w := w) (by (repeat' (first | (with_reducible exact hA) | (with_reducible refine AWs.alloc ?_ _) | (with_reducible refine AWs.drew ?_) | (with_reducible refine AWs.over (lb0_in _) (lb1_in _) (lb2_in _) (lb3_in _) (by omega) (by omega) ?_) | (with_reducible refine AWs.store (by assumption) (by omega) (by omega) (by omega) ?_)))))).mono ?_; rintro e w' ⟨r, rfl, ht', hg⟩; have hA' : AWs B b w.heap.size w w' := AWs.gne (by (repeat' (first | (with_reducible exact hA) | (with_reducible refine AWs.alloc ?_ _) | (with_reducible refine AWs.drew ?_) | (with_reducible refine AWs.over (lb0_in _) (lb1_in _) (lb2_in _) (lb3_in _) (by omega) (by omega) ?_) | (with_reducible refine AWs.store (by assumption) (by omega) (by omega) (by omega) ?_)))) hg ht' (by omega); clear hg ht' hc hf hl hlB hA; have hA := hA'; clear hA'; obtain ⟨c, hc, hf, hl, hlB⟩ := hA.at hm) | (go_at_call 14; refine (next_any (B := B) b 4 ⟨by decide, by decide⟩ _ (AWs.tape (q := w.heap.size) (w := w) (by (repeat' (first | (with_reducible exact hA) | (with_reducible refine AWs.alloc ?_ _) | (with_reducible refine AWs.drew ?_) | (with_reducible refine AWs.over (lb0_in _) (lb1_in _) (lb2_in _) (lb3_in _) (by omega) (by omega) ?_) | (with_reducible refine AWs.store (by assumption) (by omega) (by omega) (by omega) ?_)))))).mono ?_; rintro e w' ⟨r, ⟨r1, r2, r3⟩, rfl, ht', hg⟩; have r4 := r2 (by decide); clear r2 r3; obtain ⟨r, rfl⟩ := Int.eq_ofNat_of_zero_le r1; clear r1; obtain ⟨x, hx, hxu⟩ := four_at (HB.gne (HB.new _ _ _ rfl) hg (by omega)) r4; have hA' : AWs B b w.heap.size w w' := AWs.gne (by (repeat' (first | (with_reducible exact hA) | (with_reducible refine AWs.alloc ?_ _) | (with_reducible refine AWs.drew ?_) | (with_reducible refine AWs.over (lb0_in _) (lb1_in _) (lb2_in _) (lb3_in _) (by omega) (by omega) ?_) | (with_reducible refine AWs.store (by assumption) (by omega) (by omega) (by omega) ?_)))) hg ht' (by omega); clear hg ht' hc hf hl hlB hA; have hA := hA'; clear hA'; obtain ⟨c, hc, hf, hl, hlB⟩ := hA.at hm))) | go_values | go_skip | go_guarded | go_step | go_upon | (simp only [Int.not_lt, Int.not_le] at *; go_simp) | (go_values <;> (try go_simp)) | (go_ite <;> go_prune <;> (try go_simp)) | (split <;> (first | (rename_i hx; exact (hx _ rfl).elim) | go_prune))))
      all_goals go_roundw
      all_goals first
        | (case rel => exact ⟨m, rfl, by omega, by (repeat' (first | (with_reducible exact hA) | (with_reducible refine AWs.alloc ?_ _) | (with_reducible refine AWs.drew ?_) | (with_reducible refine AWs.over (lb0_in _) (lb1_in _) (lb2_in _) (lb3_in _) (by omega) (by omega) ?_) | (with_reducible refine AWs.store (by assumption) (by omega) (by omega) (by omega) ?_)))⟩)
        | (case measure => (simp [intOf]; try omega))
end Go.Proofs.Ythcboomdkpiflaa
