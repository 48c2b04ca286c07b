/- Several texts in one: MadeW, LawT, SxV, Hf, Hg, Tp, Ck, Wk, CdB, Re, CdR, Qa, Ql, Qb, CdX, Qc, CdT, Tr, Rw, CdI, Wi. -/
import Derived.Test.YtncmmbacoknefaaRows
import Derived.WalkKit
import Derived.ProofKit
import Derived.WalkLawsBesides
import Derived.WalkSpells
import Derived.RegionTactic
import Derived.ChangeAlike
import Derived.Outline
import Derived.Deep.RegionWith
import Derived.Laws.AppendOwn
import Derived.Test.YtncmmbacoknefaaProg
import Derived.Laws.CopyRow
import Derived.Test.YtncmmbacoknefaaRb2
import Derived.Test.YtncmmbacoknefaaRb4

/- MadeW: The tape's Wide, and the walk among calls of a tape's methods. -/
namespace Go.Proofs.Ytncmmbacoknefaa
open Go.ChangeShapes Go.WideShapes Go.ChangeAt Go.RowKit
set_option linter.unusedVariables false
set_option linter.unusedSimpArgs false
theorem HB.gne {W W' : World} {b g : Nat} {cs : Array Value} (h : HB W b cs) (hg : W.grownBy W' (some g)) (hne : b ≠ g) : HB W' b cs := by
  have hl := h.lt
  obtain ⟨T, h⟩ := h
  exact ⟨T, (hg.block b hl (fun e => hne (Option.some.inj e))).trans h⟩
theorem grown_bel {a w w' : World} {row : Option Nat} (h : a.grownBy w row) (hb : Below w.heap.size w w') : a.grownBy w' row := grown_trans h (grown_below hb row)
theorem grown_drew {a w : World} {row : Option Nat} (h : a.grownBy w row) : a.grownBy w.drew row := ⟨h.os, h.tape, h.output, h.size, h.block⟩
theorem TapeOk.bel {B Bm : Nat} {w w' : World} {b : Nat} (h : TapeOk B Bm w b) (hb : Below w.heap.size w w') : TapeOk B Bm w' b := h.below (Below.mono hb h.leB)
theorem TapeOk.setc {B Bm : Nat} {w : World} {b : Nat} {p : Addr} {v : Value} (hp : B ≤ p.block) (h : TapeOk B Bm w b) : TapeOk B Bm (w.setCell p v) b := h.below ((Below.refl B w).setCell hp v)
/-- What is known while the tape's Wide runs: the tape, the blocks of the result and of the variable. -/
def AWs (B Bm b q : Nat) (w W : World) : Prop := TapeOk B Bm W b ∧ w.grownBy W (some b) ∧ HB W q #[.bool false, .int .u64 0, .int .u64 0, .int .u64 0, .int .u64 0] ∧ ∃ (n : Bool) (c0 c1 c2 c3 : Int), U64 c0 ∧ U64 c1 ∧ U64 c2 ∧ U64 c3 ∧ HB W (q + 1) #[.bool n, .int .u64 c0, .int .u64 c1, .int .u64 c2, .int .u64 c3]
def WPost (B Bm : Nat) (b : Nat) (w : World) (e : Ending) (w' : World) : Prop := ∃ n a b' c d, U64 a ∧ U64 b' ∧ U64 c ∧ U64 d ∧ e = .returned (WV n a b' c d) ∧ TapeOk B Bm w' b ∧ w.grownBy w' (some b)
theorem AWs.tape {B Bm b q : Nat} {w W : World} (h : AWs B Bm b q w W) : TapeOk B Bm W b := h.1
theorem AWs.drew {B Bm b q : Nat} {w W : World} (h : AWs B Bm b q w W) : AWs B Bm b q w W.drew := by
  obtain ⟨ht, hG, B1, n, c0, c1, c2, c3, u0, u1, u2, u3, B2⟩ := h
  exact ⟨ht.drew, grown_drew hG, B1.drew, n, c0, c1, c2, c3, u0, u1, u2, u3, B2.drew⟩
theorem AWs.alloc {B Bm b q : Nat} {w W : World} (h : AWs B Bm b q w W) (o : Obj) : AWs B Bm b q w (W.alloc o) := by
  obtain ⟨ht, hG, B1, n, c0, c1, c2, c3, u0, u1, u2, u3, B2⟩ := h
  exact ⟨ht.alloc _, grown_alloc hG _, B1.old B1.lt, n, c0, c1, c2, c3, u0, u1, u2, u3, B2.old B2.lt⟩
theorem AWs.bel {B Bm b q : Nat} {w W W' : World} (h : AWs B Bm b q w W) (hb : Below W.heap.size W W') : AWs B Bm b q w W' := by
  obtain ⟨ht, hG, B1, n, c0, c1, c2, c3, u0, u1, u2, u3, B2⟩ := h
  exact ⟨ht.bel hb, grown_bel hG hb, B1.below hb, n, c0, c1, c2, c3, u0, u1, u2, u3, B2.below hb⟩
theorem AWs.gne {B Bm b q : Nat} {w W W' : World} (h : AWs B Bm b q w W) (hg : W.grownBy W' (some b)) (ht' : TapeOk B Bm W' b) (hq : b < q) : AWs B Bm b q w W' := by
  obtain ⟨ht, hG, B1, n, c0, c1, c2, c3, u0, u1, u2, u3, B2⟩ := h
  exact ⟨ht', grown_trans hG hg, B1.gne hg (by omega), n, c0, c1, c2, c3, u0, u1, u2, u3, B2.gne hg (by omega)⟩
theorem AWs.store {B Bm b q : Nat} {w W : World} {j : Nat} {u : Int} (hu : U64 u) (hj : 1 ≤ j ∧ j ≤ 4) (hq : w.heap.size ≤ q) (hB : B ≤ q) (h : AWs B Bm b q w W) : AWs B Bm b q w (W.setCell ⟨q + 1, j, none⟩ (.int .u64 u)) := by
  obtain ⟨ht, hG, B1, n, c0, c1, c2, c3, u0, u1, u2, u3, B2⟩ := h
  have t := ht.setc (p := ⟨q + 1, j, none⟩) (v := .int .u64 u) (by show B ≤ q + 1; omega)
  have g := grown_setCell hG (p := ⟨q + 1, j, none⟩) (.inr (by show w.heap.size ≤ q + 1; omega)) (.int .u64 u)
  have b1 := B1.setne (a := ⟨q + 1, j, none⟩) (v := .int .u64 u) (by show q ≠ q + 1; omega)
  obtain rfl | rfl | rfl | rfl : j = 1 ∨ j = 2 ∨ j = 3 ∨ j = 4 := by omega
  · exact ⟨t, g, b1, n, u, c1, c2, c3, hu, u1, u2, u3, B2.set rfl⟩
  · exact ⟨t, g, b1, n, c0, u, c2, c3, u0, hu, u2, u3, B2.set rfl⟩
  · exact ⟨t, g, b1, n, c0, c1, u, c3, u0, u1, hu, u3, B2.set rfl⟩
  · exact ⟨t, g, b1, n, c0, c1, c2, u, u0, u1, u2, hu, B2.set rfl⟩
theorem AWs.at {B Bm b q m : Nat} {w W : World} (h : AWs B Bm b q w W) (hm : m ≤ 3) : ∃ c, W.cell? ⟨q + 1, 1 + m, none⟩ = some (.int .u64 c) ∧ W.frozen? ⟨q + 1, 1 + m, none⟩ = false ∧ q + 1 < W.heap.size ∧ B ≤ W.heap.size := by
  obtain ⟨ht, hG, B1, n, c0, c1, c2, c3, u0, u1, u2, u3, B2⟩ := h
  obtain ⟨B2, B2c, B2f, B2l⟩ := Bx.of B2
  obtain rfl | rfl | rfl | rfl : m = 0 ∨ m = 1 ∨ m = 2 ∨ m = 3 := by omega
  all_goals exact ⟨_, B2c _, B2f _, B2l, ht.leB⟩
theorem four_at {W : World} {g r : Nat} (h : HB W g #[.int .u64 0, .int .u64 1, .int .u64 9223372036854775808, .int .u64 18446744073709551615]) (hr : (r : Int) < 4) : ∃ x, W.cell? ⟨g, r, none⟩ = some (.int .u64 x) ∧ U64 x := by
  obtain ⟨B2, B2c, B2f, B2l⟩ := Bx.of h
  obtain rfl | rfl | rfl | rfl : r = 0 ∨ r = 1 ∨ r = 2 ∨ r = 3 := by omega
  all_goals exact ⟨_, B2c _, by decide, by decide⟩
theorem AWs.over {B Bm b q : Nat} {w W : World} {n' : Bool} {d0 d1 d2 d3 : Int} (v0 : U64 d0) (v1 : U64 d1) (v2 : U64 d2) (v3 : U64 d3) (hq : w.heap.size ≤ q) (hB : B ≤ q) (h : AWs B Bm b q w W) :
    AWs B Bm b q w (((((W.setCell ⟨q + 1, 0, none⟩ (.bool n')).setCell ⟨q + 1, 1, none⟩ (.int .u64 d0)).setCell ⟨q + 1, 2, none⟩ (.int .u64 d1)).setCell ⟨q + 1, 3, none⟩ (.int .u64 d2)).setCell ⟨q + 1, 4, none⟩ (.int .u64 d3)) := by
  obtain ⟨ht, hG, B1, n, c0, c1, c2, c3, u0, u1, u2, u3, B2⟩ := h
  have hp : ∀ (j : Nat), w.heap.size ≤ (⟨q + 1, j, none⟩ : Addr).block := fun j => by show w.heap.size ≤ q + 1; omega
  have hp' : ∀ (j : Nat), B ≤ (⟨q + 1, j, none⟩ : Addr).block := fun j => by show B ≤ q + 1; omega
  have hn : ∀ (j : Nat), q ≠ (⟨q + 1, j, none⟩ : Addr).block := fun j => by show q ≠ q + 1; omega
  exact ⟨((((ht.setc (hp' _)).setc (hp' _)).setc (hp' _)).setc (hp' _)).setc (hp' _),
    grown_setCell (grown_setCell (grown_setCell (grown_setCell (grown_setCell hG (.inr (hp _)) _) (.inr (hp _)) _) (.inr (hp _)) _) (.inr (hp _)) _) (.inr (hp _)) _,
    ((((B1.setne (hn _)).setne (hn _)).setne (hn _)).setne (hn _)).setne (hn _), n', d0, d1, d2, d3, v0, v1, v2, v3, HB.over5 (HN.of5 B2)⟩
set_option maxHeartbeats 4000000 in
set_option maxRecDepth 100000 in
theorem twide_any {B Bm : Nat} (b : Nat) (w : World) (ht : TapeOk B Bm w b) :
    Calls Try.prog 28 #[.pointer (some ⟨b, 0, none⟩)] w (WPost B Bm b w) := by
  have hG := grown_refl w (some b)
  have hBl := ht.ltB
  have hBs := ht.leB
  go_enter Try.func28, Try.ntmps28
  (repeat' (first | (go_big_may; (first | (go_at_call 31; refine (next_any (B := B) (Bm := Bm) b 5 ⟨by decide, by decide⟩ _ (by (repeat' (first | (with_reducible exact ht) | (with_reducible refine TapeOk.alloc ?_ _) | (with_reducible refine TapeOk.drew ?_) | (with_reducible refine TapeOk.setc (by first | go_size | (dsimp only; omega)) ?_))))).mono ?_; rintro e w' ⟨k, ⟨k1, k2, k3⟩, rfl, ht', hg⟩; have N1 := Bx.of (HB.gne (b := w.heap.size) (cs := #[.bool false, .int .u64 0, .int .u64 0, .int .u64 0, .int .u64 0]) (by (repeat' (first | (with_reducible assumption) | ((with_reducible refine HB.new _ _ _ ?_) <;> (go_size; done)) | (with_reducible refine HB.old (by go_size) ?_) | (with_reducible refine HB.drew ?_) | (with_reducible refine HB.over5 ?_) | (with_reducible refine HB.over4 ?_) | (with_reducible refine HB.setne (by first | go_size | (dsimp only; omega)) ?_) | (with_reducible refine HN.set ?_) | (with_reducible refine HN.setne (by first | go_size | (dsimp only; omega)) ?_) | (with_reducible refine HN.drew ?_) | (with_reducible refine HN.old (by go_size) ?_) | (with_reducible exact HN.of5 (by assumption)) | (with_reducible exact HN.new5 _ _ (by go_size)) | (with_reducible exact HN.of4 (by assumption)) | (with_reducible exact HN.new4 _ _ (by go_size))))) hg (by first | omega | (go_size; done))); have N2 := Bx.of (HB.gne (b := w.heap.size + 1) (cs := #[.bool false, .int .u64 0, .int .u64 0, .int .u64 0, .int .u64 0]) (by (repeat' (first | (with_reducible assumption) | ((with_reducible refine HB.new _ _ _ ?_) <;> (go_size; done)) | (with_reducible refine HB.old (by go_size) ?_) | (with_reducible refine HB.drew ?_) | (with_reducible refine HB.over5 ?_) | (with_reducible refine HB.over4 ?_) | (with_reducible refine HB.setne (by first | go_size | (dsimp only; omega)) ?_) | (with_reducible refine HN.set ?_) | (with_reducible refine HN.setne (by first | go_size | (dsimp only; omega)) ?_) | (with_reducible refine HN.drew ?_) | (with_reducible refine HN.old (by go_size) ?_) | (with_reducible exact HN.of5 (by assumption)) | (with_reducible exact HN.new5 _ _ (by go_size)) | (with_reducible exact HN.of4 (by assumption)) | (with_reducible exact HN.new4 _ _ (by go_size))))) hg (by first | omega | (go_size; done))); have hG' : w.grownBy w' (some (b)) := grown_trans (by (repeat' (first | (with_reducible exact hG) | (with_reducible refine grown_alloc ?_ _) | (with_reducible refine grown_drew ?_) | (with_reducible refine grown_setCell ?_ (.inr (by first | go_size | (dsimp only; omega))) _)))) hg; have hsz := hg.size; clear ht hG; have ht := ht'; have hG := hG'; clear ht' hG'; (try simp only [World.size_alloc, World.size_setCell, World.size_drew] at hsz); clear hg; (try clear B1 B1c B1f B1l); obtain ⟨B1, B1c, B1f, B1l⟩ := N1; (try clear B2 B2c B2f B2l); obtain ⟨B2, B2c, B2f, B2l⟩ := N2))) | go_values | go_skip | go_guarded | go_step | go_upon | (simp only [Int.not_lt, Int.not_le] at *; go_simp) | (go_values <;> (try go_simp)) | (go_ite <;> go_prune <;> (try go_simp)) | (split <;> (first | (rename_i hx; exact (hx _ rfl).elim) | go_prune))))
  have k4 := k2 (by decide)
  clear k2 k3
  go_loopw [4] (fun i wr => ∃ k : Nat, i = .int .i64 k ∧ k ≤ 4 ∧ AWs B Bm b w.heap.size w wr) (fun i _ => (intOf i).toNat)
  case atStart => exact ⟨k.toNat, by rw [Int.toNat_of_nonneg k1], by omega, ht, hG, B1, _, 0, 0, 0, 0, ⟨by decide, by decide⟩, ⟨by decide, by decide⟩, ⟨by decide, by decide⟩, ⟨by decide, by decide⟩, B2⟩
  case round =>
    clear ht hG B1 B1c B1f B1l B2 B2c B2f B2l k1 k4
    obtain ⟨k, rfl, hk, hA'⟩ := hrel
    have hA := hA'
    by_cases h0 : k = 0
    · subst h0
      clear hA; have hA := hA'; clear hA'; have hA2 := hA; obtain ⟨ht, hG, B1, n, c0, c1, c2, c3, u0, u1, u2, u3, B2⟩ := hA2; obtain ⟨B1, B1c, B1f, B1l⟩ := Bx.of B1; obtain ⟨B2, B2c, B2f, B2l⟩ := Bx.of B2
      (repeat' (first | (go_big_may; (first | (go_at_call 52; refine (bool_any (B := B) (Bm := Bm) b _ (by decide) (by decide) _ (AWs.tape (q := w.heap.size) (w := w) (by (repeat' (first | (with_reducible exact hA) | (with_reducible refine AWs.alloc ?_ _) | (with_reducible refine AWs.drew ?_) | (with_reducible refine AWs.over (lb0_in _) (lb1_in _) (lb2_in _) (lb3_in _) (by omega) (by omega) ?_) | (with_reducible refine AWs.store (by assumption) (by omega) (by omega) (by omega) ?_)))))).mono ?_; rintro e w' ⟨r, rfl, ht', hg⟩; have hA' : AWs B Bm b w.heap.size w w' := AWs.gne (by (repeat' (first | (with_reducible exact hA) | (with_reducible refine AWs.alloc ?_ _) | (with_reducible refine AWs.drew ?_) | (with_reducible refine AWs.over (lb0_in _) (lb1_in _) (lb2_in _) (lb3_in _) (by omega) (by omega) ?_) | (with_reducible refine AWs.store (by assumption) (by omega) (by omega) (by omega) ?_)))) hg ht' (by omega); clear hg ht'; clear ht hG B1 B1c B1f B1l B2 B2c B2f B2l u0 u1 u2 u3; clear hA; have hA := hA'; clear hA'; have hA2 := hA; obtain ⟨ht, hG, B1, n, c0, c1, c2, c3, u0, u1, u2, u3, B2⟩ := hA2; obtain ⟨B1, B1c, B1f, B1l⟩ := Bx.of B1; obtain ⟨B2, B2c, B2f, B2l⟩ := Bx.of B2) | (go_at_call 32; refine (int_any (B := B) (Bm := Bm) b _ (AWs.tape (q := w.heap.size) (w := w) (by (repeat' (first | (with_reducible exact hA) | (with_reducible refine AWs.alloc ?_ _) | (with_reducible refine AWs.drew ?_) | (with_reducible refine AWs.over (lb0_in _) (lb1_in _) (lb2_in _) (lb3_in _) (by omega) (by omega) ?_) | (with_reducible refine AWs.store (by assumption) (by omega) (by omega) (by omega) ?_)))))).mono ?_; rintro e w' ⟨z, hz, rfl, ht', hg⟩; have hA' : AWs B Bm b w.heap.size w w' := AWs.gne (by (repeat' (first | (with_reducible exact hA) | (with_reducible refine AWs.alloc ?_ _) | (with_reducible refine AWs.drew ?_) | (with_reducible refine AWs.over (lb0_in _) (lb1_in _) (lb2_in _) (lb3_in _) (by omega) (by omega) ?_) | (with_reducible refine AWs.store (by assumption) (by omega) (by omega) (by omega) ?_)))) hg ht' (by omega); clear hg ht'; clear ht hG B1 B1c B1f B1l B2 B2c B2f B2l u0 u1 u2 u3; clear hA; have hA := hA'; clear hA'; have hA2 := hA; obtain ⟨ht, hG, B1, n, c0, c1, c2, c3, u0, u1, u2, u3, B2⟩ := hA2; obtain ⟨B1, B1c, B1f, B1l⟩ := Bx.of B1; obtain ⟨B2, B2c, B2f, B2l⟩ := Bx.of B2) | (go_at_call 20; refine (rOf_any _ hz _).mono ?_; rintro e w' ⟨rfl, hbw⟩; have hA' : AWs B Bm b w.heap.size w w' := AWs.bel (by (repeat' (first | (with_reducible exact hA) | (with_reducible refine AWs.alloc ?_ _) | (with_reducible refine AWs.drew ?_) | (with_reducible refine AWs.over (lb0_in _) (lb1_in _) (lb2_in _) (lb3_in _) (by omega) (by omega) ?_) | (with_reducible refine AWs.store (by assumption) (by omega) (by omega) (by omega) ?_)))) hbw; clear hbw; clear ht hG B1 B1c B1f B1l B2 B2c B2f B2l u0 u1 u2 u3; clear hA; have hA := hA'; clear hA'; have hA2 := hA; obtain ⟨ht, hG, B1, n, c0, c1, c2, c3, u0, u1, u2, u3, B2⟩ := hA2; obtain ⟨B1, B1c, B1f, B1l⟩ := Bx.of B1; obtain ⟨B2, B2c, B2f, B2l⟩ := Bx.of B2) | (go_at_call 53; refine (rneg_any n c0 c1 c2 c3 u0 u1 u2 u3 _).mono ?_; rintro e w' ⟨rfl, hbw⟩; generalize -(wv n c0 c1 c2 c3) = zz; have hA' : AWs B Bm b w.heap.size w w' := AWs.bel (by (repeat' (first | (with_reducible exact hA) | (with_reducible refine AWs.alloc ?_ _) | (with_reducible refine AWs.drew ?_) | (with_reducible refine AWs.over (lb0_in _) (lb1_in _) (lb2_in _) (lb3_in _) (by omega) (by omega) ?_) | (with_reducible refine AWs.store (by assumption) (by omega) (by omega) (by omega) ?_)))) hbw; clear hbw; clear ht hG B1 B1c B1f B1l B2 B2c B2f B2l u0 u1 u2 u3; clear hA; have hA := hA'; clear hA'; have hA2 := hA; obtain ⟨ht, hG, B1, n, c0, c1, c2, c3, u0, u1, u2, u3, B2⟩ := hA2; obtain ⟨B1, B1c, B1f, B1l⟩ := Bx.of B1; obtain ⟨B2, B2c, B2f, B2l⟩ := Bx.of B2))) | go_values | go_skip | go_guarded | go_step | go_upon | (simp only [Int.not_lt, Int.not_le] at *; go_simp) | (go_values <;> (try go_simp)) | (go_ite <;> go_prune <;> (try go_simp)) | (split <;> (first | (rename_i hx; exact (hx _ rfl).elim) | go_prune))))
      all_goals first | (refine bodyPost_ret (v := WE zz) ?_ rfl ⟨_, _, _, _, _, lb0_in _, lb1_in _, lb2_in _, lb3_in _, rfl, by (repeat' (first | (with_reducible exact ht) | (with_reducible refine TapeOk.alloc ?_ _) | (with_reducible refine TapeOk.drew ?_) | (with_reducible refine TapeOk.setc (by first | go_size | (dsimp only; omega)) ?_))), by (repeat' (first | (with_reducible exact hG) | (with_reducible refine grown_alloc ?_ _) | (with_reducible refine grown_drew ?_) | (with_reducible refine grown_setCell ?_ (.inr (by first | go_size | (dsimp only; omega))) _)))⟩; simp [results, Try.results28, go_sem, B1c, B1f, B1l]; done) | (refine bodyPost_ret (v := WV n c0 c1 c2 c3) ?_ rfl ⟨_, _, _, _, _, u0, u1, u2, u3, rfl, by (repeat' (first | (with_reducible exact ht) | (with_reducible refine TapeOk.alloc ?_ _) | (with_reducible refine TapeOk.drew ?_) | (with_reducible refine TapeOk.setc (by first | go_size | (dsimp only; omega)) ?_))), by (repeat' (first | (with_reducible exact hG) | (with_reducible refine grown_alloc ?_ _) | (with_reducible refine grown_drew ?_) | (with_reducible refine grown_setCell ?_ (.inr (by first | go_size | (dsimp only; omega))) _)))⟩; simp [results, Try.results28, go_sem, B1c, B1f, B1l]; done)
    · obtain ⟨m, rfl⟩ : ∃ m, k = m + 1 := ⟨k - 1, by omega⟩
      have hm : m ≤ 3 := by omega
      have e1 : ((m + 1 : Nat) : Int) = (m : Int) + 1 := by omega
      simp only [e1]
      clear hA' h0 hk
      obtain ⟨c, hc, hf, hl, hlB⟩ := hA.at hm
      have E1 := hid e1
      clear e1
      (repeat' (first | (go_big_may; (first | (go_at_call 30; refine (word_any (B := B) (Bm := Bm) b _ (AWs.tape (q := w.heap.size) (w := w) (by (repeat' (first | (with_reducible exact hA) | (with_reducible refine AWs.alloc ?_ _) | (with_reducible refine AWs.drew ?_) | (with_reducible refine AWs.over (lb0_in _) (lb1_in _) (lb2_in _) (lb3_in _) (by omega) (by omega) ?_) | (with_reducible refine AWs.store (by assumption) (by omega) (by omega) (by omega) ?_)))))).mono ?_; rintro e w' ⟨u, hu, rfl, ht', hg⟩; have hA' : AWs B Bm b w.heap.size w w' := AWs.gne (by (repeat' (first | (with_reducible exact hA) | (with_reducible refine AWs.alloc ?_ _) | (with_reducible refine AWs.drew ?_) | (with_reducible refine AWs.over (lb0_in _) (lb1_in _) (lb2_in _) (lb3_in _) (by omega) (by omega) ?_) | (with_reducible refine AWs.store (by assumption) (by omega) (by omega) (by omega) ?_)))) hg ht' (by omega); clear hg ht' hc hf hl hlB hA; have hA := hA'; clear hA'; obtain ⟨c, hc, hf, hl, hlB⟩ := hA.at hm) | (go_at_call 52; refine (bool_any (B := B) (Bm := Bm) b 4 (by decide) (by decide) _ (AWs.tape (q := w.heap.size) (w := w) (by (repeat' (first | (with_reducible exact hA) | (with_reducible refine AWs.alloc ?_ _) | (with_reducible refine AWs.drew ?_) | (with_reducible refine AWs.over (lb0_in _) (lb1_in _) (lb2_in _) (lb3_in _) (by omega) (by omega) ?_) | (with_reducible refine AWs.store (by assumption) (by omega) (by omega) (by omega) ?_)))))).mono ?_; rintro e w' ⟨r, rfl, ht', hg⟩; have hA' : AWs B Bm b w.heap.size w w' := AWs.gne (by (repeat' (first | (with_reducible exact hA) | (with_reducible refine AWs.alloc ?_ _) | (with_reducible refine AWs.drew ?_) | (with_reducible refine AWs.over (lb0_in _) (lb1_in _) (lb2_in _) (lb3_in _) (by omega) (by omega) ?_) | (with_reducible refine AWs.store (by assumption) (by omega) (by omega) (by omega) ?_)))) hg ht' (by omega); clear hg ht' hc hf hl hlB hA; have hA := hA'; clear hA'; obtain ⟨c, hc, hf, hl, hlB⟩ := hA.at hm) | (go_at_call 31; refine (next_any (B := B) (Bm := Bm) b 4 ⟨by decide, by decide⟩ _ (AWs.tape (q := w.heap.size) (w := w) (by (repeat' (first | (with_reducible exact hA) | (with_reducible refine AWs.alloc ?_ _) | (with_reducible refine AWs.drew ?_) | (with_reducible refine AWs.over (lb0_in _) (lb1_in _) (lb2_in _) (lb3_in _) (by omega) (by omega) ?_) | (with_reducible refine AWs.store (by assumption) (by omega) (by omega) (by omega) ?_)))))).mono ?_; rintro e w' ⟨r, ⟨r1, r2, r3⟩, rfl, ht', hg⟩; have r4 := r2 (by decide); clear r2 r3; obtain ⟨r, rfl⟩ := Int.eq_ofNat_of_zero_le r1; clear r1; obtain ⟨x, hx, hxu⟩ := four_at (HB.gne (HB.new _ _ _ rfl) hg (by omega)) r4; have hA' : AWs B Bm b w.heap.size w w' := AWs.gne (by (repeat' (first | (with_reducible exact hA) | (with_reducible refine AWs.alloc ?_ _) | (with_reducible refine AWs.drew ?_) | (with_reducible refine AWs.over (lb0_in _) (lb1_in _) (lb2_in _) (lb3_in _) (by omega) (by omega) ?_) | (with_reducible refine AWs.store (by assumption) (by omega) (by omega) (by omega) ?_)))) hg ht' (by omega); clear hg ht' hc hf hl hlB hA; have hA := hA'; clear hA'; obtain ⟨c, hc, hf, hl, hlB⟩ := hA.at hm))) | go_values | go_skip | go_guarded | go_step | go_upon | (simp only [Int.not_lt, Int.not_le] at *; go_simp) | (go_values <;> (try go_simp)) | (go_ite <;> go_prune <;> (try go_simp)) | (split <;> (first | (rename_i hx; exact (hx _ rfl).elim) | go_prune))))
      all_goals go_roundw
      all_goals first
        | (case rel => exact ⟨m, rfl, by omega, by (repeat' (first | (with_reducible exact hA) | (with_reducible refine AWs.alloc ?_ _) | (with_reducible refine AWs.drew ?_) | (with_reducible refine AWs.over (lb0_in _) (lb1_in _) (lb2_in _) (lb3_in _) (by omega) (by omega) ?_) | (with_reducible refine AWs.store (by assumption) (by omega) (by omega) (by omega) ?_)))⟩)
        | (case measure => (simp [intOf]; try omega))
end Go.Proofs.Ytncmmbacoknefaa

/- LawT: A law's frame where a tape comes behind boxed arguments. -/
namespace Go.Proofs.Ytncmmbacoknefaa
open Go.ChangeShapes Go.WideShapes Go.ChangeAt Go.RowKit
set_option linter.unusedVariables false
set_option linter.unusedSimpArgs false
theorem SlZ.below {W W' : World} {k : IntKind} {v : Value} {zs : List Int} (h : SlZ W k v zs) (hb : Below W.heap.size W W') : SlZ W' k v zs := by
  obtain ⟨a, len, cap, rfl, h1, h2, h3, h4, h5⟩ := h
  refine ⟨a, len, cap, rfl, h1, h2, h3, h4, fun hl => ?_⟩
  obtain ⟨b, off, rfl, hlt, hc⟩ := h5 hl
  exact ⟨b, off, rfl, Nat.lt_of_lt_of_le hlt hb.size, fun i hi => (hb.cell hlt).trans (hc i hi)⟩
theorem next_in {B Bm : Nat} (b : Nat) (n : Int) (h1 : 1 ≤ n) (h2 : n ≤ 1000000) (w : World) (ht : TapeOk B Bm w b) :
    Calls Try.prog 31 #[.pointer (some ⟨b, 0, none⟩), .int .i64 n] w (TPost B Bm .i64 b w fun r => 0 ≤ r ∧ r < n) :=
  (next_any b n ⟨by omega, by omega⟩ w ht).mono fun e w' ⟨r, ⟨r1, r2, r3⟩, he, h⟩ => ⟨r, ⟨r1, r2 h1⟩, he, h⟩
end Go.Proofs.Ytncmmbacoknefaa

/- SxV: A symbolic run: Wides and fractions as atoms; tapes; pairs of slices. -/
namespace Go.Proofs.Ytncmmbacoknefaa
open Go Go.RowKit
set_option linter.unusedVariables false
set_option linter.unusedSimpArgs false
/-- The Wide of an integer, and the Ratio of two, as names. -/
def WX (z : Int) : Value := WE z
def RX (p q : Int) : Value := .agg #[.bool (sg p), .int .u64 (lb0 (ab p)), .int .u64 (lb1 (ab p)), .int .u64 (lb2 (ab p)), .int .u64 (lb3 (ab p)), .bool (sg q), .int .u64 (lb0 (ab q)), .int .u64 (lb1 (ab q)), .int .u64 (lb2 (ab q)), .int .u64 (lb3 (ab q))]
/-- The negative 0. -/
def NZ : Value := WV true 0 0 0 0
theorem IsW.x {z : Int} (h : Fits z) : IsW (WX z) z := IsW.we h
theorem sg_ab (z : Int) : sg (ab z) = false := by unfold sg; exact decide_eq_false (by have := ab_nonneg z; omega)
namespace Sx
variable {C : Cx} {S : St} {K : St → Prop} {d : Option Nat}
/-- The cells of a Wide. -/
abbrev wc (z : Int) : List Value := [.bool (sg z), .int .u64 (lb0 (ab z)), .int .u64 (lb1 (ab z)), .int .u64 (lb2 (ab z)), .int .u64 (lb3 (ab z))]
theorem x_foldR (p q : Int) : Value.agg [.bool (sg p), .int .u64 (lb0 (ab p)), .int .u64 (lb1 (ab p)), .int .u64 (lb2 (ab p)), .int .u64 (lb3 (ab p)), .bool (sg q), .int .u64 (lb0 (ab q)), .int .u64 (lb1 (ab q)), .int .u64 (lb2 (ab q)), .int .u64 (lb3 (ab q))].toArray = RX p q := rfl
theorem x_foldW (z : Int) : Value.agg [.bool (sg z), .int .u64 (lb0 (ab z)), .int .u64 (lb1 (ab z)), .int .u64 (lb2 (ab z)), .int .u64 (lb3 (ab z))].toArray = WX z := rfl
theorem x_foldA (z : Int) : Value.agg [.bool false, .int .u64 (lb0 (ab z)), .int .u64 (lb1 (ab z)), .int .u64 (lb2 (ab z)), .int .u64 (lb3 (ab z))].toArray = WX (ab z) := by
  rw [← x_foldW, ab_ab, sg_ab]
theorem x_fold0 : Value.agg [.bool false, .int .u64 0, .int .u64 0, .int .u64 0, .int .u64 0].toArray = WX 0 := rfl
theorem x_foldR0 : Value.agg [.bool false, .int .u64 0, .int .u64 0, .int .u64 0, .int .u64 0, .bool false, .int .u64 0, .int .u64 0, .int .u64 0, .int .u64 0].toArray = RX 0 0 := rfl
theorem x_foldN : Value.agg [.bool true, .int .u64 0, .int .u64 0, .int .u64 0, .int .u64 0].toArray = NZ := rfl
theorem x_cN : cellsO true (some (.v NZ)) = some [.bool true, .int .u64 0, .int .u64 0, .int .u64 0, .int .u64 0] := rfl
theorem x_vN : cellsV (some (.v NZ)) = some [.bool true, .int .u64 0, .int .u64 0, .int .u64 0, .int .u64 0] := rfl
theorem x_fN0 : fdS false 1 0 (some (.v NZ)) = some (True, .bool true) := rfl
theorem x_csg1 {z : Int} {p q : St → Prop} (h : z < 0) : condT (sg z) p q S = p S := by unfold sg; rw [decide_eq_true h]; rfl
theorem x_csg0 {z : Int} {p q : St → Prop} (h : ¬ z < 0) : condT (sg z) p q S = q S := by unfold sg; rw [decide_eq_false h]; rfl
theorem x_gsg1 {z : Int} {m : M} {w : Bool} (h : z < 0) : gdT (sg z) w C m d K S = gdT true w C m d K S := by unfold sg; rw [decide_eq_true h]
theorem x_gsg0 {z : Int} {m : M} {w : Bool} (h : ¬ z < 0) : gdT (sg z) w C m d K S = gdT false w C m d K S := by unfold sg; rw [decide_eq_false h]
theorem x_psg1 {z : Int} {f g : Option SV} (h : z < 0) : pickS f g (some (.v (.bool (sg z)))) = sv1 f := by unfold sg; rw [decide_eq_true h]; rfl
theorem x_psg0 {z : Int} {f g : Option SV} (h : ¬ z < 0) : pickS f g (some (.v (.bool (sg z)))) = sv1 g := by unfold sg; rw [decide_eq_false h]; rfl
theorem x_cW (z : Int) : cellsO true (some (.v (WX z))) = some [.bool (sg z), .int .u64 (lb0 (ab z)), .int .u64 (lb1 (ab z)), .int .u64 (lb2 (ab z)), .int .u64 (lb3 (ab z))] := rfl
theorem x_cR (p q : Int) : cellsO true (some (.v (RX p q))) = some [.bool (sg p), .int .u64 (lb0 (ab p)), .int .u64 (lb1 (ab p)), .int .u64 (lb2 (ab p)), .int .u64 (lb3 (ab p)), .bool (sg q), .int .u64 (lb0 (ab q)), .int .u64 (lb1 (ab q)), .int .u64 (lb2 (ab q)), .int .u64 (lb3 (ab q))] := rfl
theorem x_vW (z : Int) : cellsV (some (.v (WX z))) = some [.bool (sg z), .int .u64 (lb0 (ab z)), .int .u64 (lb1 (ab z)), .int .u64 (lb2 (ab z)), .int .u64 (lb3 (ab z))] := rfl
theorem x_vR (p q : Int) : cellsV (some (.v (RX p q))) = some [.bool (sg p), .int .u64 (lb0 (ab p)), .int .u64 (lb1 (ab p)), .int .u64 (lb2 (ab p)), .int .u64 (lb3 (ab p)), .bool (sg q), .int .u64 (lb0 (ab q)), .int .u64 (lb1 (ab q)), .int .u64 (lb2 (ab q)), .int .u64 (lb3 (ab q))] := rfl
theorem x_fW0 (z : Int) : fdS false 1 0 (some (.v (WX z))) = some (True, .bool (sg z)) := rfl
theorem x_fR0 (p q : Int) : fdS true 5 0 (some (.v (RX p q))) = some (True, WX p) := rfl
theorem x_fR5 (p q : Int) : fdS true 5 5 (some (.v (RX p q))) = some (True, WX q) := rfl
theorem qxE : type_of% @x_foldR ∧ type_of% @x_foldW ∧ type_of% @x_foldA ∧ type_of% @x_fold0 ∧ type_of% @x_foldR0 ∧ type_of% @x_foldN ∧ type_of% @x_cN ∧ type_of% @x_vN ∧ type_of% @x_fN0 ∧ type_of% @x_csg1 ∧ type_of% @x_csg0 ∧ type_of% @x_gsg1 ∧ type_of% @x_gsg0 ∧ type_of% @x_psg1 ∧ type_of% @x_psg0 ∧ type_of% @x_cW ∧ type_of% @x_cR ∧ type_of% @x_vW ∧ type_of% @x_vR ∧ type_of% @x_fW0 ∧ type_of% @x_fR0 ∧ type_of% @x_fR5 :=
  ⟨@x_foldR, @x_foldW, @x_foldA, @x_fold0, @x_foldR0, @x_foldN, @x_cN, @x_vN, @x_fN0, @x_csg1, @x_csg0, @x_gsg1, @x_gsg0, @x_psg1, @x_psg0, @x_cW, @x_cR, @x_vW, @x_vR, @x_fW0, @x_fR0, @x_fR5⟩
theorem asks_r2 {f : FuncId} {l : List Value} {L : List Kn} {ws vs : List Int} (he : ∀ (l : Array Value) W, (callFunc f l).run C.P W = .ok (.enter f l) W) (hT : S.T = kX C.w0.heap.size L)
    (h : ∀ W, Below C.w0.heap.size C.w0 W → (∀ k ∈ L, k.ok C.w0.heap.size W) → Calls C.P f l.toArray W fun e w' => ∃ u v, e = .returned (.tuple #[u, v]) ∧ SlF w' W.heap.size u ws ∧ SlF w' W.heap.size v vs ∧ Below W.heap.size W w')
    (hk : ∀ a cap b cbp, Shp a ws.length cap → Shp b vs.length cbp → K (St.put ⟨S.n, S.E, S.H, kX C.w0.heap.size (.r (.slice a ws.length cap) ws :: .r (.slice b vs.length cbp) vs :: L)⟩ d (.v (.tuple #[.slice a ws.length cap, .slice b vs.length cbp])))) : asks C f l d K S := by
  refine asks_T (ι := {x : (Option Addr × Nat) × (Option Addr × Nat) // Shp x.1.1 ws.length x.1.2 ∧ Shp x.2.1 vs.length x.2.2}) (fun x => .tuple #[.slice x.1.1.1 ws.length x.1.1.2, .slice x.1.2.1 vs.length x.1.2.2]) (fun x => kX C.w0.heap.size (.r (.slice x.1.1.1 ws.length x.1.1.2) ws :: .r (.slice x.1.2.1 vs.length x.1.2.2) vs :: L)) (fun W hW hok hbs => givesT_calls he (fun i => kX_stab C _) ?_) (fun x => hk _ _ _ _ x.2.1 x.2.2)
  rw [hT] at hok
  refine (h W hW hok).mono fun e w' ⟨u, v, h1, h2, h3, h4⟩ => ?_
  obtain ⟨a, cap, rfl, hs⟩ := h2.1.shp
  obtain ⟨b, cbp, rfl, hs'⟩ := h3.1.shp
  have hok2 : (Kn.r (.slice a ws.length cap) ws).ok C.w0.heap.size w' := Kn.ok.base (k := .r _ ws) h2 hW.size (fun _ h => by cases h)
  have hok3 : (Kn.r (.slice b vs.length cbp) vs).ok C.w0.heap.size w' := Kn.ok.base (k := .r _ vs) h3 hW.size (fun _ h => by cases h)
  have hge : ∀ c ∈ rbs (.slice a ws.length cap), W.heap.size ≤ c := fun c hc => (Kn.ok.lt (k := .r (.slice a ws.length cap) ws) h2 c hc).1
  have hge' : ∀ c ∈ rbs (.slice b vs.length cbp), W.heap.size ≤ c := fun c hc => (Kn.ok.lt (k := .r (.slice b vs.length cbp) vs) h3 c hc).1
  refine ⟨⟨((a, cap), (b, cbp)), hs, hs'⟩, h1, ⟨h4.os, h4.tape, h4.output, h4.size, fun i hi _ => h4.block i hi⟩, ?_, ?_⟩
  · intro k hk
    rcases List.mem_cons.1 hk with rfl | hk
    · exact hok2
    · rcases List.mem_cons.1 hk with rfl | hk
      · exact hok3
      · exact (hok k hk).below h4
  · intro c hc
    obtain ⟨k, hk, hc⟩ := kX_bs.1 hc
    rcases List.mem_cons.1 hk with rfl | hk
    · exact ⟨.inr (hge c hc), (hok2.lt c hc).2⟩
    · rcases List.mem_cons.1 hk with rfl | hk
      · exact ⟨.inr (hge' c hc), (hok3.lt c hc).2⟩
      · exact ⟨.inl (by rw [hT]; exact kX_bs.2 ⟨k, hk, hc⟩), Nat.lt_of_lt_of_le ((hok k hk).lt c hc).2 h4.size⟩
/-- Block tb holds a tape whose numbers are the caller's. -/
def tK (tb : Nat) : KnG where
  bs := [tb]
  ok n W := n ≤ tb ∧ TapeOk (tb + 1) n W tb
  lt := fun {n W} h b hb => by
    rw [List.mem_singleton.1 hb]
    exact ⟨h.1, h.2.lt⟩
  keep := fun {n W W'} h hs hb ho => by
    obtain ⟨h0, a, len, cap, k, h1, h2, h3, h4, h5, h6, h7, h8⟩ := h
    have ht := hb tb (List.mem_singleton.2 rfl)
    refine ⟨h0, a, len, cap, k, h1, Nat.le_trans h2 hs, (World.cell?_of_block (a := ⟨tb, 0, none⟩) ht).trans h3, (World.cell?_of_block (a := ⟨tb, 1, none⟩) ht).trans h4, (World.frozen?_of_block (a := ⟨tb, 1, none⟩) ht).trans h5, h6, h7, fun hl => ?_⟩
    obtain ⟨bb, off, e, hne, hlt, hlm, hc⟩ := h8 hl
    refine ⟨bb, off, e, hne, hlt, hlm, fun i hi => ?_⟩
    obtain ⟨x, hx, hix⟩ := hc i hi
    exact ⟨x, (World.cell?_of_block (a := ⟨bb, off + i, none⟩) (ho bb hlm (by omega))).trans hx, hix⟩
/-- A new tape of the caller's numbers. -/
theorem asks_new {L : List Kn} {zs : List Int} {a : Option Addr} {len cap : Nat} (hP : C.P = Try.prog) (hT : S.T = kX C.w0.heap.size L) (h0 : SlZ C.w0 .i64 (.slice a len cap) zs) (he : ∀ (l : Array Value) W, (callFunc 16 l).run Try.prog W = .ok (.enter 16 l) W)
    (hk : ∀ tb, tb ∉ S.T.bs → K (St.put ⟨S.n, S.E, S.H, kX C.w0.heap.size (.g (tK tb) :: L)⟩ d (.v (.pointer (some ⟨tb, 0, none⟩))))) : asks C 16 [.slice a len cap] d K S := by
  refine asks_T (ι := {x : Nat // x ∉ S.T.bs}) (fun x => .pointer (some ⟨x.1, 0, none⟩)) (fun x => kX C.w0.heap.size (.g (tK x.1) :: L)) (fun W hW hok hbs => givesT_calls (by rw [hP]; exact he) (fun i => kX_stab C _) ?_) (fun x => hk _ x.2)
  rw [hT] at hok
  rw [hP]
  refine (new_any a len cap W).mono fun e w' ⟨he, hw⟩ => ?_
  subst hw
  have hb : Below W.heap.size W (W.alloc (.cells #[.slice a len cap, .int .i64 0] 98)) := (Below.refl _ _).alloc (Nat.le_refl _) _
  have ht : TapeOk (W.heap.size + 1) C.w0.heap.size (W.alloc (.cells #[.slice a len cap, .int .i64 0] 98)) W.heap.size := by
    obtain ⟨a', len', cap', e, hl, hlc, hcm, hwf, hc⟩ := h0
    cases e
    have hm : cap ≤ 9223372036854775807 := by simpa [maxLen] using hcm
    refine ⟨a, len, cap, 0, by omega, by simp, World.cell?_alloc_new _ _ _ _, World.cell?_alloc_new _ _ _ _, by simp [go_sem], by omega, by omega, fun hpos => ?_⟩
    obtain ⟨b, off, rfl, hlt, hcell⟩ := hc hpos
    have hsz := hW.size
    refine ⟨b, off, rfl, by omega, by omega, hlt, fun i hi => ⟨zs.getD i 0, (hb.cell (p := ⟨b, off + i, none⟩) (show b < _ by omega)).trans ((hW.cell (p := ⟨b, off + i, none⟩) hlt).trans (hcell i hi)), ?_⟩⟩
    refine I64.of_wf (hwf _ ?_)
    rw [List.getD_eq_getElem?_getD, List.getElem?_eq_getElem (by omega)]
    exact List.getElem_mem _
  refine ⟨⟨W.heap.size, fun hT2 => by have := (hbs _ hT2).2; omega⟩, he, ⟨hb.os, hb.tape, hb.output, hb.size, fun i hi _ => hb.block i hi⟩, ?_, ?_⟩
  · intro k hk
    rcases List.mem_cons.1 hk with rfl | hk
    · exact ⟨hW.size, ht⟩
    · exact (hok k hk).below hb
  · intro b hbb
    obtain ⟨k, hk, hbb⟩ := kX_bs.1 hbb
    rcases List.mem_cons.1 hk with rfl | hk
    · have : b = W.heap.size := List.mem_singleton.1 hbb
      subst this
      exact ⟨.inr (Nat.le_refl _), ht.lt⟩
    · exact ⟨.inl (by rw [hT]; exact kX_bs.2 ⟨k, hk, hbb⟩), Nat.lt_of_lt_of_le ((hok k hk).lt b hbb).2 hb.size⟩
end Sx
end Go.Proofs.Ytncmmbacoknefaa

/- Hf: What calls of the reference's DivMod and Unsigned give; the numbers as atoms. -/
namespace Go.Proofs.Ytncmmbacoknefaa
open Go Go.RowKit Sx
set_option linter.unusedVariables false
set_option linter.unusedSimpArgs false
theorem g_wide {neg : Bool} {a : Option Addr} {len cap : Nat} {ws : List Int} {W : World} (h : SlU W (.slice a len cap) ws) : Gives Try.prog 74 [.bool neg, .slice a len cap] W (· = .tuple #[WE (cl (sv neg (VL ws))), .bool (fb (sv neg (VL ws)))]) :=
  gives_known en_r02_wide (rwide_any neg a len cap ws W h)
theorem ask_wide {C : Cx} {S : St} {K : St → Prop} {d : Option Nat} {L : List Kn} {a : Option Addr} {c : Nat} {t z : Int} {neg : Bool} (hP : C.P = Try.prog) (hT : S.T = kX C.w0.heap.size L) (hm : .r (.slice a (wl t).length c) (wl t) ∈ L) (ht : 0 ≤ t) (e : z = sv neg t) (hf : Fits z)
    (hk : K (S.put d (.v (.tuple #[WE z, .bool true])))) : asks C 74 [.bool neg, .slice a (wl t).length c] d K S :=
  asks_ext (v := .tuple #[WE z, .bool true]) (fun W hW hok => by
    rw [hT] at hok
    have := g_wide (neg := neg) (W := W) (hok (.r (.slice a (wl t).length c) (wl t)) hm).1
    rw [VL_wl ht, ← e, cl_fit hf, fb_fit hf] at this
    rw [hP]
    exact this) hk
theorem fits_ediv {z y : Int} (h : Fits z) (hy : y ≠ 0) : Fits (z / y) := by
  refine fits_le h ?_
  rcases Int.lt_or_lt_of_ne hy with h | h
  · have e : z / y = -(z / -y) := by rw [Int.ediv_neg, Int.neg_neg]
    rw [e, ab_neg]
    exact ab_fdiv_le z (by omega)
  · exact ab_fdiv_le z h
theorem fits_emod {z y : Int} (h : Fits y) (hy : y ≠ 0) : Fits (z % y) := by
  refine fits_le h ?_
  have h1 := Int.emod_nonneg z hy
  rw [ab_pos h1]
  have h2 := Int.emod_lt z hy
  unfold ab
  split <;> omega
set_option maxRecDepth 100000 in
theorem rg_divmod {v v' : Value} {z y : Int} (h : IsW v z) (h' : IsW v' y) (W0 : World) : Gives Try.prog 23 [v, v'] W0 (· = .tuple #[WE (z / y), WE (dr z y), .bool (decide (y ≠ 0))]) := by
  have fz : Fits z := by obtain ⟨n, a, b, c, d, -, rfl, ha, hb, hc, hd⟩ := h; unfold Fits; rw [ab_wv ha hb hc hd]; exact up4_mv ha hb hc hd
  have fy : Fits y := by obtain ⟨n, a, b, c, d, -, rfl, ha, hb, hc, hd⟩ := h'; unfold Fits; rw [ab_wv ha hb hc hd]; exact up4_mv ha hb hc hd
  obtain ⟨n, m, rfl, am, hab, hz, hn⟩ := h.me
  obtain ⟨n', m', rfl, am', hab', hy, hn'⟩ := h'.me
  refine gives_known en_r02_DivMod ?_
  have p1 : cn n (lb0 m) (lb1 m) (lb2 m) (lb3 m) = decide (z < 0) := hn
  have p2 : cn n' (lb0 m') (lb1 m') (lb2 m') (lb3 m') = decide (y < 0) := hn'
  have SI : IsW (WV (decide (y < 0)) (lb0 m') (lb1 m') (lb2 m') (lb3 m')) y := by
    have := IsW.raw (n := cn n' (lb0 m') (lb1 m') (lb2 m') (lb3 m')) (lb0_in m') (lb1_in m') (lb2_in m') (lb3_in m')
    rw [wv_cn, p2] at this
    have e : wv n' (lb0 m') (lb1 m') (lb2 m') (lb3 m') = y := by rw [hy]; unfold wv sv; rw [mv_me am']
    rw [e] at this
    exact this
  clear hz hy hn hn' h h'
  have hcm := cm_zero y
  by_cases hy0 : y = 0
  · have hc0 : cm y 0 = 0 := by subst hy0; rfl
    have e1 : z / y = 0 := by rw [hy0]; exact Int.ediv_zero z
    have e2 : dr z y = 0 := if_pos hy0
    have e3 : decide (y ≠ 0) = false := by simp [hy0]
    rw [e1, e2, e3]
    clear hcm e1 e2 e3 hab hab'
    refine known_of (enter Try.func23 r02_DivMod.ok (args := [WV n (lb0 m) (lb1 m) (lb2 m) (lb3 m), WV n' (lb0 m') (lb1 m') (lb2 m') (lb3 m')]) (by simp) ?_)
    repeat' (first | simp (disch := omega) only [sxE, r02_DivMod.E, Nat.reduceAdd, Nat.reduceEqDiff, Nat.reduceMul, Nat.reduceSub, Int.reduceAdd, Int.reduceSub, Int.reduceMul, Int.reduceNeg, Int.reduceLT, Int.reduceLE, Int.reduceEq, Int.reduceToNat, ↓reduceIte, Int.reducePow, Nat.reduceLeDiff, Nat.reduceLT, ne_eq, eq_self, List.length_cons, List.length_nil, p1, p2] | (with_reducible refine Sx.call_at (f := 72) (fun W hW => rg_clean _ (lb0_in _) (lb1_in _) (lb2_in _) (lb3_in _) W) ?_) | (with_reducible refine Sx.call_at (f := 65) (fun W hW => rg_sign SI W) ?_))
    rfl
  · have hc0 : cm y 0 ≠ 0 := by rw [hcm]; split <;> (try split) <;> omega
    have e3 : decide (y ≠ 0) = true := by simp [hy0]
    have hm' : 0 < m' := by rw [← hab']; unfold ab; split <;> omega
    obtain ⟨D1, D2⟩ := dm_plain (z := z) hy0
    rw [hab, hab'] at D1 D2
    have e2 : dr z y = z % y := if_neg hy0
    rw [e2, e3]
    have ar : A4 (m % m') := ⟨Int.emod_nonneg _ (by omega), by have := Int.emod_lt_of_pos m hm'; have := am'.2; omega⟩
    have aq : A4 (m / m') := ⟨Int.ediv_nonneg am.1 (by omega), by have := Int.ediv_le_self m' am.1; have := am.2; omega⟩
    have q1 := fits_ediv fz hy0
    have q2 := fits_emod (z := z) fy hy0
    generalize hQ : z / y = Q at *
    generalize hR : z % y = R at *
    refine known_of (enter Try.func23 r02_DivMod.ok (args := [WV n (lb0 m) (lb1 m) (lb2 m) (lb3 m), WV n' (lb0 m') (lb1 m') (lb2 m') (lb3 m')]) (by simp) ?_)
    repeat' (first | simp (disch := omega) only [sxE, r02_DivMod.E, Nat.reduceAdd, Nat.reduceEqDiff, Nat.reduceMul, Nat.reduceSub, Int.reduceAdd, Int.reduceSub, Int.reduceMul, Int.reduceNeg, Int.reduceLT, Int.reduceLE, Int.reduceEq, Int.reduceToNat, ↓reduceIte, Int.reducePow, Nat.reduceLeDiff, Nat.reduceLT, ne_eq, eq_self, List.length_cons, List.length_nil, p1, p2] | (with_reducible refine Sx.call_at (f := 72) (fun W hW => rg_clean _ (lb0_in _) (lb1_in _) (lb2_in _) (lb3_in _) W) ?_) | (with_reducible refine Sx.call_at (f := 65) (fun W hW => rg_sign SI W) ?_))
    refine asks_r (L := []) (ws := wl m) en_r02_of (kX_nil _) (fun W hW _ => of_mag am W) fun a1 c1 hs1 hn1 => ?_
    simp (disch := omega) only [sxE, r02_DivMod.E, Nat.reduceAdd, Nat.reduceEqDiff, Nat.reduceMul, Nat.reduceSub, Int.reduceAdd, Int.reduceSub, Int.reduceMul, Int.reduceNeg, Int.reduceLT, Int.reduceLE, Int.reduceEq, Int.reduceToNat, ↓reduceIte, Int.reducePow, Nat.reduceLeDiff, Nat.reduceLT, ne_eq, eq_self, List.length_cons, List.length_nil]
    refine asks_r (L := [.r (.slice a1 (wl m).length c1) (wl m)]) (ws := wl m') en_r02_of rfl (fun W hW _ => of_mag am' W) fun a2 c2 hs2 hn2 => ?_
    simp (disch := omega) only [sxE, r02_DivMod.E, Nat.reduceAdd, Nat.reduceEqDiff, Nat.reduceMul, Nat.reduceSub, Int.reduceAdd, Int.reduceSub, Int.reduceMul, Int.reduceNeg, Int.reduceLT, Int.reduceLE, Int.reduceEq, Int.reduceToNat, ↓reduceIte, Int.reducePow, Nat.reduceLeDiff, Nat.reduceLT, ne_eq, eq_self, List.length_cons, List.length_nil]
    refine asks_r2 (L := [.r (.slice a2 (wl m').length c2) (wl m'), .r (.slice a1 (wl m).length c1) (wl m)]) (ws := wl (m / m')) (vs := wl (m % m')) en_r02_divmod rfl (fun W hW hok => rdivmod_any am am' hm' (hok (.r (.slice a1 (wl m).length c1) (wl m)) (List.mem_cons_of_mem _ List.mem_cons_self)).1 (hok (.r (.slice a2 (wl m').length c2) (wl m')) List.mem_cons_self).1) fun a3 c3 a4 c4 hs3 hs4 => ?_
    clear hn1 hn2 hs1 hs2 hs3 hs4 hcm p1 p2
    have l1 := pw4b ar
    have l2 := pw4b aq
    have l3 := pw4b am'
    have v1 := VL_wl aq.1
    have v2 := VL_wl ar.1
    have hl0 : ((wl (m % m')).length : Int) > 0 ↔ m % m' ≠ 0 := by
      constructor
      · intro h e; rw [e, wl_nil (Int.le_refl _)] at h; simp at h
      · intro h
        have := ar.1
        rw [wl_cons (by omega), List.length_cons]; omega
    by_cases hC : ¬ z < 0 ∨ m % m' = 0
    · obtain ⟨e4, e5⟩ := D1 hC
      clear D1 D2 hab hab' SI e3 hQ hR e2 l1 l2 l3
      have e6 : sv false (m % m') = R := e5.symm
      have hR0 : R = sv false (m % m') := e5
      by_cases hz : z < 0
      · have h0 : m % m' = 0 := by omega
        have hlf : ¬ ((wl (m % m')).length : Int) > 0 := fun h => hl0.1 h h0
        clear hl0 hC
        simp only [decide_eq_true hz]
        repeat' (first | simp (disch := omega) only [sxE, r02_DivMod.E, Nat.reduceAdd, Nat.reduceEqDiff, Nat.reduceMul, Nat.reduceSub, Int.reduceAdd, Int.reduceSub, Int.reduceMul, Int.reduceNeg, Int.reduceLT, Int.reduceLE, Int.reduceEq, Int.reduceToNat, ↓reduceIte, Int.reducePow, Nat.reduceLeDiff, Nat.reduceLT, ne_eq, eq_self, List.length_cons, List.length_nil])
        refine ask_wide rfl rfl List.mem_cons_self aq.1 (by rw [e4, decide_eq_true hz]; rfl) q1 ?_
        repeat' (first | simp (disch := omega) only [sxE, r02_DivMod.E, Nat.reduceAdd, Nat.reduceEqDiff, Nat.reduceMul, Nat.reduceSub, Int.reduceAdd, Int.reduceSub, Int.reduceMul, Int.reduceNeg, Int.reduceLT, Int.reduceLE, Int.reduceEq, Int.reduceToNat, ↓reduceIte, Int.reducePow, Nat.reduceLeDiff, Nat.reduceLT, ne_eq, eq_self, List.length_cons, List.length_nil])
        refine ask_wide rfl rfl (List.mem_cons_of_mem _ List.mem_cons_self) ar.1 hR0 q2 ?_
        repeat' (first | simp (disch := omega) only [sxE, r02_DivMod.E, Nat.reduceAdd, Nat.reduceEqDiff, Nat.reduceMul, Nat.reduceSub, Int.reduceAdd, Int.reduceSub, Int.reduceMul, Int.reduceNeg, Int.reduceLT, Int.reduceLE, Int.reduceEq, Int.reduceToNat, ↓reduceIte, Int.reducePow, Nat.reduceLeDiff, Nat.reduceLT, ne_eq, eq_self, List.length_cons, List.length_nil])
      · clear hl0 hC
        simp only [decide_eq_false hz]
        repeat' (first | simp (disch := omega) only [sxE, r02_DivMod.E, Nat.reduceAdd, Nat.reduceEqDiff, Nat.reduceMul, Nat.reduceSub, Int.reduceAdd, Int.reduceSub, Int.reduceMul, Int.reduceNeg, Int.reduceLT, Int.reduceLE, Int.reduceEq, Int.reduceToNat, ↓reduceIte, Int.reducePow, Nat.reduceLeDiff, Nat.reduceLT, ne_eq, eq_self, List.length_cons, List.length_nil])
        refine ask_wide rfl rfl List.mem_cons_self aq.1 (by rw [e4, decide_eq_false hz]; rfl) q1 ?_
        repeat' (first | simp (disch := omega) only [sxE, r02_DivMod.E, Nat.reduceAdd, Nat.reduceEqDiff, Nat.reduceMul, Nat.reduceSub, Int.reduceAdd, Int.reduceSub, Int.reduceMul, Int.reduceNeg, Int.reduceLT, Int.reduceLE, Int.reduceEq, Int.reduceToNat, ↓reduceIte, Int.reducePow, Nat.reduceLeDiff, Nat.reduceLT, ne_eq, eq_self, List.length_cons, List.length_nil])
        refine ask_wide rfl rfl (List.mem_cons_of_mem _ List.mem_cons_self) ar.1 hR0 q2 ?_
        repeat' (first | simp (disch := omega) only [sxE, r02_DivMod.E, Nat.reduceAdd, Nat.reduceEqDiff, Nat.reduceMul, Nat.reduceSub, Int.reduceAdd, Int.reduceSub, Int.reduceMul, Int.reduceNeg, Int.reduceLT, Int.reduceLE, Int.reduceEq, Int.reduceToNat, ↓reduceIte, Int.reducePow, Nat.reduceLeDiff, Nat.reduceLT, ne_eq, eq_self, List.length_cons, List.length_nil])
    · have hz : z < 0 := by omega
      have h0 : m % m' ≠ 0 := by omega
      obtain ⟨e4, e5⟩ := D2 hz h0
      have hlf : ((wl (m % m')).length : Int) > 0 := hl0.2 h0
      clear D1 D2 hab hab' SI e3 hQ hR e2 hl0 hC
      have hR0 : R = sv false (m' - m % m') := e5
      simp only [decide_eq_true hz]
      repeat' (first | simp (disch := omega) only [sxE, r02_DivMod.E, Nat.reduceAdd, Nat.reduceEqDiff, Nat.reduceMul, Nat.reduceSub, Int.reduceAdd, Int.reduceSub, Int.reduceMul, Int.reduceNeg, Int.reduceLT, Int.reduceLE, Int.reduceEq, Int.reduceToNat, ↓reduceIte, Int.reducePow, Nat.reduceLeDiff, Nat.reduceLT, ne_eq, eq_self, List.length_cons, List.length_nil])
      have w1 : wl (1 : Int) = [1] := (wl_one (by decide) (by rw [wl_cons (by decide), show (1 : Int) / 18446744073709551616 = 0 by decide, wl_nil (by decide)]; rfl)).1
      have hlt := Int.emod_lt_of_pos m hm'
      have asx : A4 (m' - m % m') := ⟨by omega, by have := ar.1; have := am'.2; omega⟩
      have aq1 : A4 (m / m' + 1) := by
        refine ⟨by have := aq.1; omega, ?_⟩
        have h2 : 2 ≤ m' := by
          rcases Int.lt_or_le m' 2 with h | h
          · exact absurd (show m % m' = 0 by have : m' = 1 := by omega
                                             rw [this]; exact Int.emod_one m) h0
          · exact h
        have := Int.mul_ediv_add_emod m m'
        have h3 := Int.mul_le_mul_of_nonneg_right h2 aq.1
        have := am.2
        have := ar.1
        omega
      refine genA_o (L := [.r (.slice a3 (wl (m / m')).length c3) (wl (m / m')), .r (.slice a4 (wl (m % m')).length c4) (wl (m % m')), .r (.slice a2 (wl m').length c2) (wl m'), .r (.slice a1 (wl m).length c1) (wl m)]) (ws := [1]) rfl (fun W hW _ => gen_one ⟨by decide, by decide⟩ W) fun g5 c5 hn5 => ?_
      clear hn5
      repeat' (first | simp (disch := omega) only [sxE, r02_DivMod.E, Nat.reduceAdd, Nat.reduceEqDiff, Nat.reduceMul, Nat.reduceSub, Int.reduceAdd, Int.reduceSub, Int.reduceMul, Int.reduceNeg, Int.reduceLT, Int.reduceLE, Int.reduceEq, Int.reduceToNat, ↓reduceIte, Int.reducePow, Nat.reduceLeDiff, Nat.reduceLT, ne_eq, eq_self, List.length_cons, List.length_nil])
      refine asks_r (L := [.o (.slice (some ⟨g5, 0, none⟩) 1 c5) [1], .r (.slice a3 (wl (m / m')).length c3) (wl (m / m')), .r (.slice a4 (wl (m % m')).length c4) (wl (m % m')), .r (.slice a2 (wl m').length c2) (wl m'), .r (.slice a1 (wl m).length c1) (wl m)]) (ws := wl (m / m' + 1)) en_r02_add rfl (fun W hW hok => by
        have h5 : OwnU W W0.heap.size (.slice (some ⟨g5, 0, none⟩) 1 c5) [1] := hok (.o (.slice (some ⟨g5, 0, none⟩) 1 c5) [1]) List.mem_cons_self
        exact radd_any _ _ _ _ _ _ _ _ aq.1 (by decide) (by omega) (by decide) W (hok (.r (.slice a3 (wl (m / m')).length c3) (wl (m / m'))) (List.mem_cons_of_mem _ List.mem_cons_self)).1 (by rw [w1]; exact h5.sl)) fun a6 c6 hs6 hn6 => ?_
      clear hs6 hn6
      repeat' (first | simp (disch := omega) only [sxE, r02_DivMod.E, Nat.reduceAdd, Nat.reduceEqDiff, Nat.reduceMul, Nat.reduceSub, Int.reduceAdd, Int.reduceSub, Int.reduceMul, Int.reduceNeg, Int.reduceLT, Int.reduceLE, Int.reduceEq, Int.reduceToNat, ↓reduceIte, Int.reducePow, Nat.reduceLeDiff, Nat.reduceLT, ne_eq, eq_self, List.length_cons, List.length_nil])
      refine asks_r (L := [.r (.slice a6 (wl (m / m' + 1)).length c6) (wl (m / m' + 1)), .o (.slice (some ⟨g5, 0, none⟩) 1 c5) [1], .r (.slice a3 (wl (m / m')).length c3) (wl (m / m')), .r (.slice a4 (wl (m % m')).length c4) (wl (m % m')), .r (.slice a2 (wl m').length c2) (wl m'), .r (.slice a1 (wl m).length c1) (wl m)]) (ws := wl m') en_r02_of rfl (fun W hW _ => of_mag am' W) fun a7 c7 hs7 hn7 => ?_
      clear hs7 hn7
      repeat' (first | simp (disch := omega) only [sxE, r02_DivMod.E, Nat.reduceAdd, Nat.reduceEqDiff, Nat.reduceMul, Nat.reduceSub, Int.reduceAdd, Int.reduceSub, Int.reduceMul, Int.reduceNeg, Int.reduceLT, Int.reduceLE, Int.reduceEq, Int.reduceToNat, ↓reduceIte, Int.reducePow, Nat.reduceLeDiff, Nat.reduceLT, ne_eq, eq_self, List.length_cons, List.length_nil])
      refine asks_r (L := [.r (.slice a7 (wl m').length c7) (wl m'), .r (.slice a6 (wl (m / m' + 1)).length c6) (wl (m / m' + 1)), .o (.slice (some ⟨g5, 0, none⟩) 1 c5) [1], .r (.slice a3 (wl (m / m')).length c3) (wl (m / m')), .r (.slice a4 (wl (m % m')).length c4) (wl (m % m')), .r (.slice a2 (wl m').length c2) (wl m'), .r (.slice a1 (wl m).length c1) (wl m)]) (ws := wl (m' - m % m')) en_r02_sub rfl (fun W hW hok => rsub_any _ _ _ _ _ _ _ _ ar.1 (by omega) (by omega) W (hok (.r (.slice a7 (wl m').length c7) (wl m')) (by simp)).1 (hok (.r (.slice a4 (wl (m % m')).length c4) (wl (m % m'))) (by simp)).1) fun a8 c8 hs8 hn8 => ?_
      clear hs8 hn8
      repeat' (first | simp (disch := omega) only [sxE, r02_DivMod.E, Nat.reduceAdd, Nat.reduceEqDiff, Nat.reduceMul, Nat.reduceSub, Int.reduceAdd, Int.reduceSub, Int.reduceMul, Int.reduceNeg, Int.reduceLT, Int.reduceLE, Int.reduceEq, Int.reduceToNat, ↓reduceIte, Int.reducePow, Nat.reduceLeDiff, Nat.reduceLT, ne_eq, eq_self, List.length_cons, List.length_nil])
      refine ask_wide rfl rfl (t := m / m' + 1) (by simp) aq1.1 (by rw [e4, decide_eq_true hz]; rfl) q1 ?_
      repeat' (first | simp (disch := omega) only [sxE, r02_DivMod.E, Nat.reduceAdd, Nat.reduceEqDiff, Nat.reduceMul, Nat.reduceSub, Int.reduceAdd, Int.reduceSub, Int.reduceMul, Int.reduceNeg, Int.reduceLT, Int.reduceLE, Int.reduceEq, Int.reduceToNat, ↓reduceIte, Int.reducePow, Nat.reduceLeDiff, Nat.reduceLT, ne_eq, eq_self, List.length_cons, List.length_nil])
      refine ask_wide rfl rfl (t := m' - m % m') (by simp) asx.1 hR0 q2 ?_
      repeat' (first | simp (disch := omega) only [sxE, r02_DivMod.E, Nat.reduceAdd, Nat.reduceEqDiff, Nat.reduceMul, Nat.reduceSub, Int.reduceAdd, Int.reduceSub, Int.reduceMul, Int.reduceNeg, Int.reduceLT, Int.reduceLE, Int.reduceEq, Int.reduceToNat, ↓reduceIte, Int.reducePow, Nat.reduceLeDiff, Nat.reduceLT, ne_eq, eq_self, List.length_cons, List.length_nil])
def unb (z : Int) : Bool := decide (0 ≤ z ∧ z < 18446744073709551616)
def unv (z : Int) : Int := if unb z then z else 0
theorem ab_of_sv {n : Bool} {m z : Int} (h : ab z = m) : (decide (z < 0) = true → z = -m) ∧ (decide (z < 0) = false → z = m) := by
  unfold ab at h
  constructor
  · intro h2; rw [if_pos (of_decide_eq_true h2)] at h; omega
  · intro h2; rw [if_neg (of_decide_eq_false h2)] at h; exact h
theorem rg_unsigned {v : Value} {z : Int} (h : IsW v z) (W : World) : Gives Try.prog 170 [v] W (· = .tuple #[.int .u64 (unv z), .bool (unb z)]) := by
  obtain ⟨n, m, rfl, am, hab, hz, hn⟩ := h.me
  refine gives_known en_r02_Unsigned ?_
  have p1 : cn n (lb0 m) (lb1 m) (lb2 m) (lb3 m) = decide (z < 0) := hn
  obtain ⟨k1, k2⟩ := ab_of_sv (n := n) hab
  have hl : ¬ 1 < ((wl m).length : Int) ↔ m < 18446744073709551616 := by
    have := wl_len_lt am.1 1
    have e : ((18446744073709551616 : Int) ^ 1) = 18446744073709551616 := by decide
    have e2 : (pw 1 : Int) = 18446744073709551616 := rfl
    rw [e2] at this
    omega
  clear h hn hz hab
  refine known_of (enter Try.func170 r02_Unsigned.ok (args := [WV n (lb0 m) (lb1 m) (lb2 m) (lb3 m)]) (by simp) ?_)
  repeat' (first | simp (disch := omega) only [sxE, r02_Unsigned.E, Nat.reduceAdd, Nat.reduceEqDiff, Nat.reduceMul, Nat.reduceSub, Int.reduceAdd, Int.reduceSub, Int.reduceMul, Int.reduceNeg, Int.reduceLT, Int.reduceLE, Int.reduceEq, Int.reduceToNat, ↓reduceIte, Int.reducePow, Nat.reduceLeDiff, Nat.reduceLT, ne_eq, eq_self, List.length_cons, List.length_nil, p1] | (with_reducible refine Sx.call_at (f := 72) (fun W hW => rg_clean _ (lb0_in _) (lb1_in _) (lb2_in _) (lb3_in _) W) ?_))
  refine asks_r (L := []) (ws := wl m) en_r02_of (kX_nil _) (fun W hW _ => of_mag am W) fun a1 c1 hs1 hn1 => ?_
  clear hs1 hn1
  by_cases hneg : z < 0
  · have u1 : unb z = false := decide_eq_false (by omega)
    have u2 : unv z = 0 := by unfold unv; rw [u1]; rfl
    rw [u1, u2, decide_eq_true hneg]
    repeat' (first | simp (disch := omega) only [sxE, r02_Unsigned.E, Nat.reduceAdd, Nat.reduceEqDiff, Nat.reduceMul, Nat.reduceSub, Int.reduceAdd, Int.reduceSub, Int.reduceMul, Int.reduceNeg, Int.reduceLT, Int.reduceLE, Int.reduceEq, Int.reduceToNat, ↓reduceIte, Int.reducePow, Nat.reduceLeDiff, Nat.reduceLT, ne_eq, eq_self, List.length_cons, List.length_nil])
  · have hzm := k2 (decide_eq_false hneg)
    rw [decide_eq_false hneg]
    by_cases hlt : m < 18446744073709551616
    · have u1 : unb z = true := decide_eq_true (by have := am.1; omega)
      have u2 : unv z = m := by unfold unv; rw [u1]; exact hzm
      have u3 : lb0 m = m := Int.emod_eq_of_lt am.1 hlt
      have u4 := hl.2 hlt
      rw [u1, u2, u3]
      clear hl k1 k2 u1 u2 u3 p1 hneg hzm
      repeat' (first | simp (disch := omega) only [sxE, r02_Unsigned.E, Nat.reduceAdd, Nat.reduceEqDiff, Nat.reduceMul, Nat.reduceSub, Int.reduceAdd, Int.reduceSub, Int.reduceMul, Int.reduceNeg, Int.reduceLT, Int.reduceLE, Int.reduceEq, Int.reduceToNat, ↓reduceIte, Int.reducePow, Nat.reduceLeDiff, Nat.reduceLT, ne_eq, eq_self, List.length_cons, List.length_nil])
    · have u1 : unb z = false := decide_eq_false (by omega)
      have u2 : unv z = 0 := by unfold unv; rw [u1]; rfl
      have u4 : 1 < ((wl m).length : Int) := by omega
      rw [u1, u2]
      clear hl k1 k2 u1 u2 p1 hneg hzm
      repeat' (first | simp (disch := omega) only [sxE, r02_Unsigned.E, Nat.reduceAdd, Nat.reduceEqDiff, Nat.reduceMul, Nat.reduceSub, Int.reduceAdd, Int.reduceSub, Int.reduceMul, Int.reduceNeg, Int.reduceLT, Int.reduceLE, Int.reduceEq, Int.reduceToNat, ↓reduceIte, Int.reducePow, Nat.reduceLeDiff, Nat.reduceLT, ne_eq, eq_self, List.length_cons, List.length_nil])
end Go.Proofs.Ytncmmbacoknefaa

/- Hg: What calls of wide and of its reference give, on integers as atoms. -/
namespace Go.Proofs.Ytncmmbacoknefaa
open Go Go.RowKit Sx
set_option linter.unusedVariables false
set_option linter.unusedSimpArgs false
theorem Fits.is {z : Int} (h : Fits z) : IsW (WX z) z := IsW.x h
theorem nz_is : IsW NZ 0 := ⟨true, 0, 0, 0, 0, rfl, rfl, ⟨by decide, by decide⟩, ⟨by decide, by decide⟩, ⟨by decide, by decide⟩, ⟨by decide, by decide⟩⟩
/-- A raw Wide: the Wide of an integer, or the negative 0. -/
theorem raw_cases (n : Bool) {a b c d : Int} (ha : U64 a) (hb : U64 b) (hc : U64 c) (hd : U64 d) : (∃ z, Fits z ∧ WV n a b c d = WX z) ∨ WV n a b c d = NZ := by
  by_cases h : (n && mz a b c d) = true
  · right
    rw [Bool.and_eq_true] at h
    obtain ⟨rfl, h2⟩ := h
    have hw : a = 0 ∧ b = 0 ∧ c = 0 ∧ d = 0 := by simpa [mz, meq] using h2
    obtain ⟨rfl, rfl, rfl, rfl⟩ := hw
    rfl
  · left
    refine ⟨wv n a b c d, ?_, ?_⟩
    · unfold Fits; rw [ab_wv ha hb hc hd]; exact up4_mv ha hb hc hd
    · have : cn n a b c d = n := by unfold cn; cases n <;> cases h2 : mz a b c d <;> simp_all
      have e := we_wv (n := n) ha hb hc hd
      rw [this] at e
      exact e
theorem valid_wx {z : Int} (h : Fits z) : (!sg z || !mz (lb0 (ab z)) (lb1 (ab z)) (lb2 (ab z)) (lb3 (ab z))) = true := by
  have a4 : A4 (ab z) := ⟨ab_nonneg z, (fits_lt z).1 h⟩
  rw [mz_me a4]
  unfold sg ab
  by_cases hz : z < 0
  · rw [decide_eq_true hz, if_pos hz, decide_eq_false (by omega)]; rfl
  · rw [decide_eq_false hz]; rfl
theorem tup2 {a b c d : Value} (h : a = c) (h' : b = d) : Value.tuple #[a, b] = Value.tuple #[c, d] := by rw [h, h']
theorem tup3 {a b c a' b' c' : Value} (h : a = a') (h1 : b = b') (h2 : c = c') : Value.tuple #[a, b, c] = Value.tuple #[a', b', c'] := by rw [h, h1, h2]
theorem gives_eq {P : Program} {f : FuncId} {l : List Value} {W : World} {u v : Value} (h : Gives P f l W (· = u)) (e : u = v) : Gives P f l W (· = v) := by subst e; exact h
theorem gx_valid {z : Int} (h : Fits z) (W : World) : Gives Try.prog 107 [WX z] W (· = .bool true) := gives_eq (g_valid _ _ _ _ _ W) (congrArg Value.bool (valid_wx h))
theorem gx_valid0 (W : World) : Gives Try.prog 107 [NZ] W (· = .bool false) := g_valid true 0 0 0 0 W
theorem rx_valid {z : Int} (h : Fits z) (W : World) : Gives Try.prog 88 [WX z] W (· = .bool true) := gives_eq (rg_valid _ (lb0_in _) (lb1_in _) (lb2_in _) (lb3_in _) W) (congrArg Value.bool (valid_wx h))
theorem rx_valid0 (W : World) : Gives Try.prog 88 [NZ] W (· = .bool false) := rg_valid true ⟨by decide, by decide⟩ ⟨by decide, by decide⟩ ⟨by decide, by decide⟩ ⟨by decide, by decide⟩ W
theorem gx_add {x y : Int} (h : Fits x) (h' : Fits y) (hf : Fits (x + y)) (W : World) : Gives Try.prog 84 [WX x, WX y] W (· = .tuple #[WX (x + y), .bool true]) := gives_eq (g_add h.is h'.is W) (tup2 (by rw [cl_fit hf]; rfl) (by rw [fb_fit hf]))
theorem gx_mul {x y : Int} (h : Fits x) (h' : Fits y) (hf : Fits (x * y)) (W : World) : Gives Try.prog 119 [WX x, WX y] W (· = .tuple #[WX (x * y), .bool true]) := gives_eq (g_mul h.is h'.is W) (tup2 (by rw [cl_fit hf]; rfl) (by rw [fb_fit hf]))
theorem gx_sign {x : Int} (h : Fits x) (W : World) : Gives Try.prog 87 [WX x] W (· = .int .i64 (cm x 0)) := g_sign h.is W
theorem gx_of {x : Int} (h : I64 x) (W : World) : Gives Try.prog 109 [.int .i64 x] W (· = WX x) := g_of h W
theorem gx_ofU {x : Int} (h : U64 x) (W : World) : Gives Try.prog 111 [.int .u64 x] W (· = WX x) := g_ofU h W
theorem gx_divmod {x y : Int} (h : Fits x) (h' : Fits y) (hy : y ≠ 0) (W : World) : Gives Try.prog 145 [WX x, WX y] W (· = .tuple #[WX (x / y), WX (x % y), .bool true]) := gives_eq (g_divmod h.is h'.is W) (tup3 rfl (by unfold dr; rw [if_neg hy]; rfl) (by rw [decide_eq_true hy]))
theorem rx_add {x y : Int} (h : Fits x) (h' : Fits y) (hf : Fits (x + y)) (W : World) : Gives Try.prog 22 [WX x, WX y] W (· = .tuple #[WX (x + y), .bool true]) := gives_eq (rg_add h.is h'.is W) (tup2 (by rw [cl_fit hf]; rfl) (by rw [fb_fit hf]))
theorem rx_sub {x y : Int} (h : Fits x) (h' : Fits y) (hf : Fits (x - y)) (W : World) : Gives Try.prog 41 [WX x, WX y] W (· = .tuple #[WX (x - y), .bool true]) := gives_eq (rg_sub h.is h'.is W) (tup2 (by rw [cl_fit hf]; rfl) (by rw [fb_fit hf]))
theorem rx_mul {x y : Int} (h : Fits x) (h' : Fits y) (hf : Fits (x * y)) (W : World) : Gives Try.prog 57 [WX x, WX y] W (· = .tuple #[WX (x * y), .bool true]) := gives_eq (rg_mul h.is h'.is W) (tup2 (by rw [cl_fit hf]; rfl) (by rw [fb_fit hf]))
theorem rx_neg {x : Int} (h : Fits x) (W : World) : Gives Try.prog 53 [WX x] W (· = WX (-x)) := rg_neg h.is W
theorem rx_sign {x : Int} (h : Fits x) (W : World) : Gives Try.prog 65 [WX x] W (· = .int .i64 (cm x 0)) := rg_sign h.is W
theorem rx_of {x : Int} (h : I64 x) (W : World) : Gives Try.prog 20 [.int .i64 x] W (· = WX x) := rg_Of h W
theorem rx_ofU {x : Int} (h : U64 x) (W : World) : Gives Try.prog 58 [.int .u64 x] W (· = WX x) := rg_OfU h W
theorem rx_compare {x y : Int} (h : Fits x) (h' : Fits y) (W : World) : Gives Try.prog 42 [WX x, WX y] W (· = .int .i64 (cm x y)) := rg_compare h.is h'.is W
theorem rx_divmod {x y : Int} (h : Fits x) (h' : Fits y) (hy : y ≠ 0) (W : World) : Gives Try.prog 23 [WX x, WX y] W (· = .tuple #[WX (x / y), WX (x % y), .bool true]) := gives_eq (rg_divmod h.is h'.is W) (tup3 rfl (by unfold dr; rw [if_neg hy]; rfl) (by rw [decide_eq_true hy]))
theorem rx_unsigned {z : Int} (h : Fits z) (W : World) : Gives Try.prog 170 [WX z] W (· = .tuple #[.int .u64 (unv z), .bool (unb z)]) := rg_unsigned h.is W
theorem we_inj {x y : Int} (h : Fits x) (h' : Fits y) : weq (sg x) (lb0 (ab x)) (lb1 (ab x)) (lb2 (ab x)) (lb3 (ab x)) (sg y) (lb0 (ab y)) (lb1 (ab y)) (lb2 (ab y)) (lb3 (ab y)) = decide (x = y) := by
  rw [Bool.eq_iff_iff, decide_eq_true_iff]
  constructor
  · intro e
    have e' : sg x = sg y ∧ lb0 (ab x) = lb0 (ab y) ∧ lb1 (ab x) = lb1 (ab y) ∧ lb2 (ab x) = lb2 (ab y) ∧ lb3 (ab x) = lb3 (ab y) := by simpa [weq, meq] using e
    obtain ⟨e0, e1, e2, e3, e4⟩ := e'
    have m1 := mv_me (z := ab x) ⟨ab_nonneg x, (fits_lt x).1 h⟩
    have m2 := mv_me (z := ab y) ⟨ab_nonneg y, (fits_lt y).1 h'⟩
    rw [e1, e2, e3, e4, m2] at m1
    unfold sg at e0
    have e0' : (x < 0) ↔ (y < 0) := by simpa using e0
    unfold ab at m1
    (repeat' (split at m1)) <;> omega
  · rintro rfl
    unfold weq meq; simp
theorem eqx_run {ng : Bool} {xo yo : Operand} {x y : Int} (h : Fits x) (h' : Fits y) (W : World) :
    ((do eqGuard (if ng then .neq else .eql) 38 xo yo (WX x) (WX y); binOp (if ng then .neq else .eql) 38 (WX x) (WX y)) : Sem Value).run Try.prog W = .ok (.bool (if ng then !decide (x = y) else decide (x = y))) W := by
  have := eqw_run (ng := ng) (xo := xo) (yo := yo) (sg x) (lb0 (ab x)) (lb1 (ab x)) (lb2 (ab x)) (lb3 (ab x)) (sg y) (lb0 (ab y)) (lb1 (ab y)) (lb2 (ab y)) (lb3 (ab y)) W
  rw [we_inj h h'] at this
  exact this
/-- A raw Wide that counts as z; b: it is valid. -/
def RW (v : Value) (b : Bool) (z : Int) : Prop := (b = true ∧ v = WX z ∧ Fits z) ∨ (b = false ∧ v = NZ ∧ z = 0)
theorem RW.five {v : Value} {b : Bool} {z : Int} (h : RW v b z) : ∃ c0 c1 c2 c3 c4, v = .agg #[c0, c1, c2, c3, c4] := by
  rcases h with ⟨-, rfl, -⟩ | ⟨-, rfl, -⟩ <;> exact ⟨_, _, _, _, _, rfl⟩
theorem RW.is {v : Value} {b : Bool} {z : Int} (h : RW v b z) : IsW v z := by
  rcases h with ⟨-, rfl, h⟩ | ⟨-, rfl, rfl⟩
  · exact h.is
  · exact nz_is
theorem RW.fits {v : Value} {b : Bool} {z : Int} (h : RW v b z) : Fits z := by
  rcases h with ⟨-, rfl, h⟩ | ⟨-, rfl, rfl⟩
  · exact h
  · exact fits_zero
theorem Fits.rw {z : Int} (h : Fits z) : RW (WX z) true z := .inl ⟨rfl, rfl, h⟩
theorem rw_raw (n : Bool) {a b c d : Int} (ha : U64 a) (hb : U64 b) (hc : U64 c) (hd : U64 d) : ∃ t z, RW (WV n a b c d) t z := by
  rcases raw_cases n ha hb hc hd with ⟨z, hz, e⟩ | e
  · exact ⟨true, z, by rw [e]; exact hz.rw⟩
  · exact ⟨false, 0, .inr ⟨rfl, e, rfl⟩⟩
theorem gy_valid {v : Value} {b : Bool} {z : Int} (h : RW v b z) (W : World) : Gives Try.prog 107 [v] W (· = .bool b) := by
  rcases h with ⟨rfl, rfl, h⟩ | ⟨rfl, rfl, rfl⟩
  · exact gx_valid h W
  · exact gx_valid0 W
theorem ry_valid {v : Value} {b : Bool} {z : Int} (h : RW v b z) (W : World) : Gives Try.prog 88 [v] W (· = .bool b) := by
  rcases h with ⟨rfl, rfl, h⟩ | ⟨rfl, rfl, rfl⟩
  · exact rx_valid h W
  · exact rx_valid0 W
end Go.Proofs.Ytncmmbacoknefaa

/- Tp: A symbolic run: calls that move a tape. -/
namespace Go.Proofs.Ytncmmbacoknefaa
open Go Go.RowKit Sx
set_option linter.unusedVariables false
set_option linter.unusedSimpArgs false
namespace Sx
variable {C : Cx} {S : St} {K : St → Prop} {d : Option Nat}
/-- What is known of a tape in the caller's world w: it is a tape, and nothing else of w has turned. -/
def hK (w : World) (tb B Bm : Nat) : KnG where
  bs := List.range' tb (w.heap.size - tb)
  ok n W := n = tb ∧ (tb < w.heap.size ∧ B ≤ w.heap.size) ∧ TapeOk B Bm W tb ∧ w.heap.size ≤ W.heap.size ∧ ∀ i, i < w.heap.size → i ≠ tb → W.heap[i]? = w.heap[i]?
  lt := fun {n W} h b hb => by
    obtain ⟨h0, ⟨h1, h1b⟩, h2, h3, -⟩ := h
    rw [List.mem_range'] at hb
    obtain ⟨i, hi, rfl⟩ := hb
    omega
  keep := fun {n W W'} h hs hb ho => by
    obtain ⟨h0, ⟨hw, hB⟩, ⟨a, len, cap, k, h1, h2, h3, h4, h5, h6, h7, h8⟩, hsz, hg⟩ := h
    have all : ∀ i, i < w.heap.size → W'.heap[i]? = W.heap[i]? := fun i hi => by
      rcases Nat.lt_or_ge i tb with h | h
      · exact ho i (by omega) (by omega)
      · exact hb i (List.mem_range'.2 ⟨i - tb, by omega, by omega⟩)
    have ht := all tb hw
    refine ⟨h0, ⟨hw, hB⟩, ⟨a, len, cap, k, h1, Nat.le_trans h2 hs, (World.cell?_of_block (a := ⟨tb, 0, none⟩) ht).trans h3, (World.cell?_of_block (a := ⟨tb, 1, none⟩) ht).trans h4, (World.frozen?_of_block (a := ⟨tb, 1, none⟩) ht).trans h5, h6, h7, fun hl => ?_⟩, Nat.le_trans hsz hs, fun i hi hn => (all i hi).trans (hg i hi hn)⟩
    obtain ⟨bb, off, e, hne, hlt, hlm, hc⟩ := h8 hl
    refine ⟨bb, off, e, hne, hlt, hlm, fun i hi => ?_⟩
    obtain ⟨x, hx, hix⟩ := hc i hi
    exact ⟨x, (World.cell?_of_block (a := ⟨bb, off + i, none⟩) (all bb (by omega))).trans hx, hix⟩
/-- It tells of the tape in block tb, and goes on behind calls that move it. -/
structure TpK (k : KnG) (n tb B Bm : Nat) : Prop where
  tape : ∀ {W}, k.ok n W → TapeOk B Bm W tb
  go : ∀ {W W'}, k.ok n W → TapeOk B Bm W' tb → W.grownBy W' (some tb) → k.ok n W'
  ge : ∀ {W}, k.ok n W → n ≤ tb
  mem : ∀ {W}, k.ok n W → tb ∈ k.bs
theorem tpk_t (n tb : Nat) : TpK (tK tb) n tb (tb + 1) n where
  tape h := h.2
  go h ht hg := ⟨h.1, ht⟩
  ge h := h.1
  mem h := List.mem_singleton.2 rfl
theorem tpk_h (w : World) (tb B Bm : Nat) : TpK (hK w tb B Bm) tb tb B Bm where
  tape h := h.2.2.1
  go h ht hg := ⟨h.1, h.2.1, ht, Nat.le_trans h.2.2.2.1 hg.size, fun i hi hn => (hg.block i (Nat.lt_of_lt_of_le hi h.2.2.2.1) (fun e => hn (Option.some.inj e))).trans (h.2.2.2.2 i hi hn)⟩
  ge h := Nat.le_of_eq h.1
  mem h := List.mem_range'.2 ⟨0, by have := h.2.1; omega, by omega⟩
/-- A call that moves the tape and nothing else that is known. -/
theorem asks_tp {f : FuncId} {l : List Value} {L : List Kn} {ι : Type} {P : ι → Prop} {k : KnG} {tb B Bm : Nat} (v : ι → Value) (hk : TpK k C.w0.heap.size tb B Bm) (he : ∀ (l : Array Value) W, (callFunc f l).run C.P W = .ok (.enter f l) W) (hT : S.T = kX C.w0.heap.size L) (hm : .g k ∈ L) (hmv : C.mv S = S.T.bs)
    (hL : ∀ j ∈ L, j = .g k ∨ tb ∉ j.bs)
    (h : ∀ W, TapeOk B Bm W tb → Calls C.P f l.toArray W fun e w' => ∃ i, P i ∧ e = .returned (v i) ∧ TapeOk B Bm w' tb ∧ W.grownBy w' (some tb))
    (hK : ∀ i, P i → K (St.put S d (.v (v i)))) : asks C f l d K S := by
  refine asks_T (ι := {i // P i}) (fun i => v i.1) (fun _ => S.T) (fun W hW hok hbs => givesT_calls he (fun i => by rw [hT]; exact kX_stab C L) ?_) (fun i => hK i.1 i.2)
  rw [hT] at hok
  have ho : k.ok C.w0.heap.size W := hok _ hm
  refine (h W (hk.tape ho)).mono fun e w' ⟨i, hi, he, h1, h2⟩ => ⟨⟨i, hi⟩, he, ⟨h2.os, h2.tape, h2.output, h2.size, fun j hj hn => h2.block j hj fun e => hn (by cases e; rw [hmv, hT]; exact kX_bs.2 ⟨_, hm, hk.mem ho⟩)⟩, ?_, fun b hb => ⟨.inl hb, ?_⟩⟩
  · rw [hT]
    intro j hj
    rcases hL j hj with rfl | hb
    · exact hk.go ho h1 h2
    · refine (hok j hj).keep h2.size (fun b hbb => h2.block b ((hok j hj).lt b hbb).2 fun e => hb (by cases e; exact hbb)) fun b hbn hbl => h2.block b hbl fun e => ?_
      have := hk.ge ho
      have e2 : b = tb := Option.some.inj e
      omega
  · rw [hT] at hb
    exact Nat.lt_of_lt_of_le (kX_lt hok b hb).2 h2.size
/-- The start of a function that is given a tape. -/
theorem hK_start {w : World} {tb B Bm : Nat} (h : TapeOk B Bm w tb) : (kX (cut w tb).heap.size [.g (hK w tb B Bm)]).ok w ∧ ∀ b ∈ (kX (cut w tb).heap.size [.g (hK w tb B Bm)]).bs, (cut w tb).heap.size ≤ b ∧ b < w.heap.size := by
  have hc := cut_size (Nat.le_of_lt h.lt)
  have h1 : (kX (cut w tb).heap.size [.g (hK w tb B Bm)]).ok w := fun k hk => by
    rw [List.mem_singleton.1 hk]
    exact ⟨hc, ⟨h.lt, h.leB⟩, h, Nat.le_refl _, fun _ _ _ => rfl⟩
  exact ⟨h1, kX_lt h1⟩
theorem hK_end {w w' : World} {tb B Bm : Nat} {L : List Kn} (h : (kX (cut w tb).heap.size L).ok w') (hm : .g (hK w tb B Bm) ∈ L) (hb : Below (cut w tb).heap.size (cut w tb) w') : TapeOk B Bm w' tb ∧ w.grownBy w' (some tb) := by
  have hk : (hK w tb B Bm).ok (cut w tb).heap.size w' := h _ hm
  exact ⟨hk.2.2.1, hb.os, hb.tape, hb.output, hk.2.2.2.1, fun i hi hn => hk.2.2.2.2 i hi fun e => hn (by rw [e])⟩
theorem tpk_h' {w : World} {tb B Bm : Nat} (h : TapeOk B Bm w tb) : TpK (hK w tb B Bm) (cut w tb).heap.size tb B Bm := by
  rw [cut_size (Nat.le_of_lt h.lt)]; exact tpk_h w tb B Bm
end Sx
/-- What a call that moves the tape in block tb gives. -/
def TpC (f : FuncId) (l : List Value) (tb : Nat) {ι : Type} (P : ι → Prop) (v : ι → Value) : Prop := ∀ {B Bm : Nat} (W : World), TapeOk B Bm W tb → Calls Try.prog f l.toArray W fun e w' => ∃ i, P i ∧ e = .returned (v i) ∧ TapeOk B Bm w' tb ∧ W.grownBy w' (some tb)
theorem t_next (tb : Nat) {n : Int} (h1 : 1 ≤ n) (h2 : n ≤ 1000000) : TpC 31 [.pointer (some ⟨tb, 0, none⟩), .int .i64 n] tb (fun r : Int => 0 ≤ r ∧ r < n) (fun r => .int .i64 r) :=
  fun W h => (next_in tb n h1 h2 W h).mono fun e w' ⟨r, a, b, c, d⟩ => ⟨r, a, b, c, d⟩
theorem t_bool (tb : Nat) {n : Int} (h1 : 2 ≤ n) (h2 : n ≤ 1000) : TpC 52 [.pointer (some ⟨tb, 0, none⟩), .int .i64 n] tb (fun _ : Bool => True) (fun r => .bool r) :=
  fun W h => (bool_any tb n h1 h2 W h).mono fun e w' ⟨r, b, c, d⟩ => ⟨r, trivial, b, c, d⟩
theorem t_word (tb : Nat) : TpC 30 [.pointer (some ⟨tb, 0, none⟩)] tb U64 (fun r => .int .u64 r) :=
  fun W h => (word_any tb W h).mono fun e w' ⟨r, a, b, c, d⟩ => ⟨r, a, b, c, d⟩
theorem t_int (tb : Nat) : TpC 32 [.pointer (some ⟨tb, 0, none⟩)] tb I64 (fun r => .int .i64 r) :=
  fun W h => (int_any tb W h).mono fun e w' ⟨r, a, b, c, d⟩ => ⟨r, a, b, c, d⟩
theorem t_tol (tb : Nat) : TpC 17 [.pointer (some ⟨tb, 0, none⟩)] tb Tol (fun r => .int .i64 r) :=
  fun W h => (tol_any tb W h).mono fun e w' ⟨r, a, b, c, d⟩ => ⟨r, a, b, c, d⟩
/-- A raw Wide by its cells. -/
structure RC where
  c0 : Value
  c1 : Value
  c2 : Value
  c3 : Value
  c4 : Value
def RC.v (c : RC) : Value := .agg #[c.c0, c.c1, c.c2, c.c3, c.c4]
theorem t_wide (tb : Nat) : TpC 28 [.pointer (some ⟨tb, 0, none⟩)] tb (fun c : RC => ∃ t z, RW (.agg #[c.c0, c.c1, c.c2, c.c3, c.c4]) t z) (fun c => .agg #[c.c0, c.c1, c.c2, c.c3, c.c4]) :=
  fun W h => (twide_any tb W h).mono fun e w' ⟨n, a, b, c, d, ha, hb, hc, hd, he, h1, h2⟩ => ⟨⟨.bool n, .int .u64 a, .int .u64 b, .int .u64 c, .int .u64 d⟩, rw_raw n ha hb hc hd, he, h1, h2⟩
theorem asks_tc {C : Cx} {S : St} {K : St → Prop} {d : Option Nat} {f : FuncId} {l : List Value} {L : List Kn} {ι : Type} {P : ι → Prop} {v : ι → Value} {k : KnG} {tb B Bm : Nat} (hP : C.P = Try.prog) (hk : TpK k C.w0.heap.size tb B Bm) (h : TpC f l tb P v) (he : ∀ (l : Array Value) W, (callFunc f l).run Try.prog W = .ok (.enter f l) W) (hT : S.T = kX C.w0.heap.size L) (hm : .g k ∈ L) (hmv : C.mv S = S.T.bs)
    (hL : ∀ j ∈ L, j = .g k ∨ tb ∉ j.bs) (hK : ∀ i, P i → K (St.put S d (.v (v i)))) : asks C f l d K S :=
  asks_tp v hk (by rw [hP]; exact he) hT hm hmv hL (fun W hW => by rw [hP]; exact h W hW) hK
end Go.Proofs.Ytncmmbacoknefaa

/- Ck: A symbolic run: blocks of the call's own that are known cell by cell. -/
namespace Go.Proofs.Ytncmmbacoknefaa
open Go Go.RowKit Sx
set_option linter.unusedVariables false
set_option linter.unusedSimpArgs false
namespace Sx
variable {C : Cx} {S : St} {K : St → Prop} {d : Option Nat}
/-- Block b holds these cells. -/
def cK (b : Nat) (cs : List Value) : KnG where
  bs := [b]
  ok n W := n ≤ b ∧ HB W b cs.toArray
  lt := fun {n W} h c hc => by
    rw [List.mem_singleton.1 hc]
    exact ⟨h.1, h.2.lt⟩
  keep := fun {n W W'} h hs hb ho => by
    obtain ⟨T, hT⟩ := h.2
    exact ⟨h.1, T, (hb b (List.mem_singleton.2 rfl)).trans hT⟩
theorem cK_cell {b : Nat} {cs : List Value} {n : Nat} {W : World} (h : (cK b cs).ok n W) {i : Nat} {v : Value} (hv : cs[i]? = some v) : W.cell? ⟨b, i, none⟩ = some v := by
  have hc := (Bx.of h.2).2.1 i
  rw [hc]
  simpa using hv
/-- An operation that makes a block. -/
theorem genA_c {q : GK} {l : List Value} {L : List Kn} {cs : List Value} {T : TypeId} (v : Nat → Value) (hT : S.T = kX C.w0.heap.size L)
    (h : ∀ W, (genRun q l).run C.P W = .ok (.value (v W.heap.size)) (W.alloc (.cells cs.toArray T (0, 0))))
    (hk : ∀ b, b ∉ S.T.bs → K (St.put ⟨S.n, S.E, S.H, kX C.w0.heap.size (.g (cK b cs) :: L)⟩ d (.v (v b)))) : genA C q l d K S := by
  refine genA_T (ι := {x : Nat // x ∉ S.T.bs}) (fun x => v x.1) (fun x => kX C.w0.heap.size (.g (cK x.1 cs) :: L)) (fun W hW hok hbs => ⟨?_⟩) (fun x => hk _ x.2)
  rw [hT] at hok
  rw [h W]
  have hb : Below W.heap.size W (W.alloc (.cells cs.toArray T (0, 0))) := (Below.refl _ _).alloc (Nat.le_refl _) _
  have hc : (cK W.heap.size cs).ok C.w0.heap.size (W.alloc (.cells cs.toArray T (0, 0))) := ⟨hW.size, HB.new W _ T rfl⟩
  refine ⟨⟨W.heap.size, fun hT2 => by have := (hbs _ hT2).2; omega⟩, rfl, ⟨hb.os, hb.tape, hb.output, hb.size, fun i hi _ => hb.block i hi⟩, ?_, kX_stab C _, ?_⟩
  · intro k hk
    rcases List.mem_cons.1 hk with rfl | hk
    · exact hc
    · exact (hok k hk).below hb
  · intro b hbb
    obtain ⟨k, hk, hbb⟩ := kX_bs.1 hbb
    rcases List.mem_cons.1 hk with rfl | hk
    · have : b = W.heap.size := List.mem_singleton.1 hbb
      subst this
      exact ⟨.inr (Nat.le_refl _), hc.2.lt⟩
    · exact ⟨.inl (by rw [hT]; exact kX_bs.2 ⟨k, hk, hbb⟩), Nat.lt_of_lt_of_le ((hok k hk).lt b hbb).2 hb.size⟩
end Sx
end Go.Proofs.Ytncmmbacoknefaa

/- Wk: A symbolic run: rows of the call's own that grow by append. -/
namespace Go.Proofs.Ytncmmbacoknefaa
open Go Go.RowKit Sx
set_option linter.unusedVariables false
set_option linter.unusedSimpArgs false
theorem append_own {P : Program} {W : World} (base : Nat) (t ty e : TypeId) (i : TypeInfo) (z : Value) (size bytes : Nat) (ht : P.underlying t = some (.slice e)) (hi : P.info? e = some i) (hz : i.zero = some z)
    (hsize : i.size = size) (hby : i.bytes = bytes) (hzs : z.cells.size = size) (hsz : 0 < size) (v : Value) (n : Nat) (xs : List Value) (hown : W.ownsRow base e size v n xs)
    (b m c : Nat) (news : List Value) (hl : news.length = m * size) (hm : 0 < m) (hnews : ∀ (j : Nat) u, news[j]? = some u → W.cell? ⟨b, j, none⟩ = some u) (h1 : ∀ u ∈ news, u.oneCell' = true)
    (h63 : n + m ≤ maxLen) (hbytes : (n + m) * bytes ≤ 140737488355328) (hbase : base ≤ W.heap.size) :
    ∃ g cap w', (Builtin.append_ #[t, t] ty #[v, .slice (some ⟨b, 0, none⟩) m c]).run P W = .ok (.slice (some ⟨g, 0, none⟩) (n + m) cap) w' ∧ w'.ownsRow base e size (.slice (some ⟨g, 0, none⟩) (n + m) cap) (n + m) (xs ++ news) ∧ W.grownBy w' v.ownBlock ∧ (v.ownBlock = some g ∨ W.heap.size ≤ g) := by
  have hadd : ∀ (j : Nat) u, news[j]? = some u → W.cell? ((⟨b, 0, none⟩ : Addr).add j) = some u := fun j u hj => by
    have : (⟨b, 0, none⟩ : Addr).add j = ⟨b, j, none⟩ := by rw [Addr.add_lit, Nat.zero_add]
    rw [this]
    exact hnews j u hj
  obtain ⟨v', w', hr, ho, hg, -⟩ := run_append_own (P := P) (w := W) base t ty e i z size bytes ht hi hz hsize hby hzs hsz v n xs hown ⟨b, 0, none⟩ m c news hl hadd h1 h63 hbytes hbase
  have key : ∃ g cap, v' = .slice (some ⟨g, 0, none⟩) (n + m) cap ∧ (v.ownBlock = some g ∨ W.heap.size ≤ g) := by
    subst hsize; subst hby
    rcases hown.2 with ⟨rfl, rfl⟩ | ⟨g, cap, cur, rfl, hbg, hg2, hnc, hcm, hcs, htake⟩
    · have := run_append_nil (P := P) W t ty e i z ht hi hz ⟨b, 0, none⟩ m c news hl hadd hm (by simp only [maxLen] at h63; omega) (by rw [Nat.zero_add] at hbytes; omega)
      rw [hr] at this
      cases this
      exact ⟨_, _, by rw [Nat.zero_add], .inr (Nat.le_refl _)⟩
    · by_cases hroom : n + m ≤ cap
      · have hfit : n * i.size + news.length ≤ cur.size := by rw [hl, hcs, ← Nat.add_mul]; exact Nat.mul_le_mul_right _ hroom
        have := run_append_room (P := P) W t ty e i ht hi g n cap cur hg2 ⟨b, 0, none⟩ m c news hl hadd h1 hroom hfit
        rw [hr] at this
        cases this
        exact ⟨_, _, rfl, .inl rfl⟩
      · have holds : ∀ j u, xs[j]? = some u → W.cell? ((⟨g, 0, none⟩ : Addr).add j) = some u := hown.cells (g := g) rfl
        have := run_append_grow (P := P) W t ty e i z ht hi hz ⟨g, 0, none⟩ n cap xs hown.1 holds ⟨b, 0, none⟩ m c news hl hadd (by omega) (by simp only [maxLen] at h63; omega) (growslice_fits (by omega) hbytes)
        rw [hr] at this
        cases this
        exact ⟨_, _, rfl, .inr (Nat.le_refl _)⟩
  obtain ⟨g, cap, rfl, hgg⟩ := key
  exact ⟨g, cap, w', hr, ho, hg, hgg⟩
namespace Sx
variable {C : Cx} {S : St} {K : St → Prop} {d : Option Nat}
/-- v is a row of the call's own: n elements of the type e, with these cells. -/
def wK (e : TypeId) (s : Nat) (v : Value) (n : Nat) (xs : List Value) : KnG where
  bs := v.ownBlock.toList
  ok m W := W.ownsRow m e s v n xs
  lt := fun {m W} h b hb => h.lt b (by simpa using hb)
  keep := fun {m W W'} h hs hb ho => by
    refine ⟨h.1, ?_⟩
    rcases h.2 with hn | ⟨g, cap, cur, rfl, hbg, hg, hnc, hcm, hcs, htake⟩
    · exact .inl hn
    · exact .inr ⟨g, cap, cur, rfl, hbg, (hb g (by simp [Value.ownBlock])).trans hg, hnc, hcm, hcs, htake⟩
/-- append, of a new literal's elements. -/
theorem genA_grow {P : Program} (hP : C.P = P) {L : List Kn} (L' : Nat → Nat → List Kn) {t e : TypeId} {i : TypeInfo} {z : Value} {size bytes : Nat} {v : Value} {n : Nat} {xs : List Value} {b m c : Nat} {news : List Value} {cs : List Bool}
    (ht : P.underlying t = some (.slice e)) (hi : P.info? e = some i) (hz : i.zero = some z) (hsize : i.size = size) (hby : i.bytes = bytes) (hzs : z.cells.size = size) (hsz : 0 < size)
    (hT : S.T = kX C.w0.heap.size L) (hv : ∀ W, (∀ k ∈ L, k.ok C.w0.heap.size W) → W.ownsRow C.w0.heap.size e size v n xs) (hmv : ∀ g, v.ownBlock = some g → g ∈ S.T.bs ∧ g ∈ C.mv S)
    (hm : .g (cK b news) ∈ L) (hl : news.length = m * size) (hm0 : 0 < m) (h1 : ∀ u ∈ news, u.oneCell' = true) (h63 : n + m ≤ maxLen) (hbytes : (n + m) * bytes ≤ 140737488355328)
    (hL : ∀ g cap, ∀ k ∈ L' g cap, k = .g (wK e size (.slice (some ⟨g, 0, none⟩) (n + m) cap) (n + m) (xs ++ news)) ∨ (k ∈ L ∧ ∀ b ∈ k.bs, v.ownBlock ≠ some b))
    (hk : ∀ g cap, K (St.put ⟨S.n, S.E, S.H, kX C.w0.heap.size (L' g cap)⟩ d (.v (.slice (some ⟨g, 0, none⟩) (n + m) cap)))) : genA C (.bi .append [t, t] t cs) [v, .slice (some ⟨b, 0, none⟩) m c] d K S := by
  subst hP
  refine genA_T (ι := Nat × Nat) (fun x => .slice (some ⟨x.1, 0, none⟩) (n + m) x.2) (fun x => kX C.w0.heap.size (L' x.1 x.2)) (fun W hW hok hbs => ⟨?_⟩) (fun x => hk _ _)
  rw [hT] at hok
  have hc : (cK b news).ok C.w0.heap.size W := hok _ hm
  obtain ⟨g, cap, w', hr, ho, hg, hgg⟩ := append_own (P := C.P) C.w0.heap.size t t e i z size bytes ht hi hz hsize hby hzs hsz v n xs (hv W hok) b m c news hl hm0 (fun j u hj => cK_cell hc hj) h1 h63 hbytes hW.size
  have hr' : (genRun (.bi .append [t, t] t cs) [v, .slice (some ⟨b, 0, none⟩) m c]).run C.P W = .ok (.value (.slice (some ⟨g, 0, none⟩) (n + m) cap)) w' := by
    show (do let x ← Builtin.append_ #[t, t] t #[v, .slice (some ⟨b, 0, none⟩) m c]; pure (Next.value x)).run C.P W = _
    rw [run_bind_ok hr]; rfl
  rw [hr']
  refine ⟨⟨g, cap⟩, rfl, ⟨hg.os, hg.tape, hg.output, hg.size, fun j hj hn => hg.block j hj fun e => hn (hmv j e.symm).2⟩, ?_, kX_stab C _, ?_⟩
  · intro k hk
    rcases hL g cap k hk with rfl | ⟨hk, hb⟩
    · exact ho
    · exact (hok k hk).keep hg.size (fun b hbb => hg.block b ((hok k hk).lt b hbb).2 fun e => hb b hbb e.symm) fun b hbn hbl => hg.block b hbl fun e => by have := (hbs b (hmv b e.symm).1).1; omega
  · intro x hx
    obtain ⟨k, hk, hx⟩ := kX_bs.1 hx
    rcases hL g cap k hk with rfl | ⟨hk, hb⟩
    · have hxg : x = g := by
        have : x ∈ [g] := hx
        simpa using this
      subst hxg
      refine ⟨hgg.elim (fun e => .inl (hmv x e).1) .inr, ?_⟩
      exact (ho.lt x rfl).2
    · exact ⟨.inl (by rw [hT]; exact kX_bs.2 ⟨k, hk, hx⟩), Nat.lt_of_lt_of_le ((hok k hk).lt x hx).2 hg.size⟩
end Sx
end Go.Proofs.Ytncmmbacoknefaa

/- CdB: MADE BY PROGRAM (sxgen.py): the small code of some functions, points of it and their equations. -/
namespace Go.Proofs.Ytncmmbacoknefaa
open Go Go.RowKit Sx
set_option linter.unusedVariables false
variable (C : Cx) (R L1 L2 L3 L4 : St → Prop)
namespace rebuild_Value
def r0 : List G := [(some 3, none, (.box true 5 (.tmp 0))), (some 4, none, (.box true 10 (.tmp 1))), (some 6, none, (.mv (.const (.int .i64 0))))]
def r1 : List G := [(some 11, none, (.fa 1 (.tmp 3))), (some 12, none, (.ia 4 1 (.tmp 11) (.const (.int .i64 3)))), (some 13, none, (.ld false 1 (.tmp 12))), (some 14, none, (.bin .neq (.tmp 13) (.const (.int .u64 0)))), (some 15, none, (.mv (.tmp 14))), (some 16, some (15, false), (.fa 1 (.tmp 3))), (some 17, some (15, false), (.ia 4 1 (.tmp 16) (.const (.int .i64 2)))), (some 18, some (15, false), (.ld false 1 (.tmp 17))), (some 19, some (15, false), (.bin .neq (.tmp 18) (.const (.int .u64 0)))), (some 20, none, (.pick (.tmp 15) (.const (.bool true)) (.tmp 19)))]
def r2 : List G := [(some 21, none, (.bd zW [])), (none, none, (.st true 5 (.tmp 3) (.tmp 21)))]
def r3 : List G := [(some 23, none, (.ld true 5 (.tmp 3))), (some 24, none, (.ld true 10 (.tmp 4))), (some 25, none, (.mv (.tmp 2))), (some 26, none, (.call true 85 [(.tmp 24), (.tmp 25)])), (some 27, none, (.call true 84 [(.tmp 23), (.tmp 26)])), (some 22, none, (.mv (.tmp 27))), (some 28, none, (.ex (.tmp 22) 0)), (some 29, none, (.ex (.tmp 22) 1))]
def t3 : List G := [(some 7, none, (.new zW)), (none, none, (.st true 5 (.tmp 7) (.tmp 28))), (some 8, none, (.mv (.tmp 29)))]
def r4 : List G := [(some 31, none, (.ld true 5 (.tmp 7))), (some 32, none, (.call false 86 [(.tmp 31)])), (some 30, none, (.mv (.tmp 32))), (some 33, none, (.ex (.tmp 30) 0)), (some 34, none, (.ex (.tmp 30) 1)), (some 9, none, (.mv (.tmp 33))), (some 10, none, (.mv (.tmp 34)))]
def r5 : List G := [(some 35, none, (.mv (.tmp 10)))]
def r6 : List G := [(some 36, none, (.mv (.tmp 9))), (some 6, none, (.mv (.tmp 36)))]
def r7 : List G := [(some 37, none, (.ld true 5 (.tmp 7))), (some 38, none, (.call false 87 [(.tmp 37)])), (some 39, none, (.bin .lss (.tmp 38) (.const (.int .i64 0))))]
def r8 : List G := [(some 6, none, (.mv (.const (.int .i64 (-9223372036854775808)))))]
def r9 : List G := [(some 6, none, (.mv (.const (.int .i64 9223372036854775807))))]
def c : MC := (.seq (.reg r0 (some [2, 3, 4])) (.seq (.seq (.reg r1 (some [2, 3, 4, 20])) (.cond (.tmp 20) (.reg r2 (some [2, 3, 4])) .skip)) (.seq (.dreg r3 t3 (some [7])) (.seq (.seq (.reg r4 (some [7, 9, 10])) (.seq (.reg r5 (some [7, 9, 35])) (.cond (.tmp 35) (.seq (.reg r6 (some [6])) .ret) .skip))) (.seq (.seq (.reg r7 (some [39])) (.cond (.tmp 39) (.seq (.reg r8 (some [6])) .ret) .skip)) (.seq (.reg r9 (some [6])) .ret))))))
def ann : Ann := [(0, (some [2, 3, 4], 0, [], [], [])), (1, (some [2, 3, 4, 20], 0, [], [], [])), (2, (some [2, 3, 4], 0, [], [], [])), (3, (some [7], 9, [7], [(0, 0), (1, 0), (2, 0), (3, 0), (4, 0), (5, 0), (6, 0), (7, 2)], [8])), (4, (some [7, 9, 10], 0, [], [], [])), (5, (some [7, 9, 35], 0, [], [], [])), (6, (some [6], 0, [], [], [])), (7, (some [39], 0, [], [], [])), (8, (some [6], 0, [], [], [])), (9, (some [6], 0, [], [], []))]
theorem ok : compF Try.prog Try.f34 ann = some (40, c, [(6, none)]) := by kernel_rfl
def p1 (S : St) : Prop := ops C r9 (kq [6] R) S
def p3 (S : St) : Prop := ops C r8 (kq [6] R) S
def p2 (S : St) : Prop := condX (S.ev (.tmp 39)) (p3 C R) (p1 C R) S
def p4 (S : St) : Prop := ops C r7 (kq [39] (p2 C R)) S
def p6 (S : St) : Prop := ops C r6 (kq [6] R) S
def p5 (S : St) : Prop := condX (S.ev (.tmp 35)) (p6 C R) (p4 C R) S
def p7 (S : St) : Prop := ops C r5 (kq [7, 9, 35] (p5 C R)) S
def p8 (S : St) : Prop := ops C r4 (kq [7, 9, 10] (p7 C R)) S
def p9 (S : St) : Prop := ops C r3 (ops C t3 (kq [7] (p8 C R))) S
def p11 (S : St) : Prop := ops C r2 (kq [2, 3, 4] (p9 C R)) S
def p10 (S : St) : Prop := condX (S.ev (.tmp 20)) (p11 C R) (p9 C R) S
def p12 (S : St) : Prop := ops C r1 (kq [2, 3, 4, 20] (p10 C R)) S
def p13 (S : St) : Prop := ops C r0 (kq [2, 3, 4] (p12 C R)) S
theorem s (S : St) : X C c (retK R) S = p13 C R S := by kernel_rfl
theorem E : type_of% @r9.eq_1 ∧ type_of% @p1.eq_1 ∧ type_of% @r8.eq_1 ∧ type_of% @p3.eq_1 ∧ type_of% @p2.eq_1 ∧ type_of% @r7.eq_1 ∧ type_of% @p4.eq_1 ∧ type_of% @r6.eq_1 ∧ type_of% @p6.eq_1 ∧ type_of% @p5.eq_1 ∧ type_of% @r5.eq_1 ∧ type_of% @p7.eq_1 ∧ type_of% @r4.eq_1 ∧ type_of% @p8.eq_1 ∧ type_of% @r3.eq_1 ∧ type_of% @t3.eq_1 ∧ type_of% @p9.eq_1 ∧ type_of% @r2.eq_1 ∧ type_of% @p11.eq_1 ∧ type_of% @p10.eq_1 ∧ type_of% @r1.eq_1 ∧ type_of% @p12.eq_1 ∧ type_of% @r0.eq_1 ∧ type_of% @p13.eq_1 ∧ type_of% @s := ⟨@r9.eq_1, @p1.eq_1, @r8.eq_1, @p3.eq_1, @p2.eq_1, @r7.eq_1, @p4.eq_1, @r6.eq_1, @p6.eq_1, @p5.eq_1, @r5.eq_1, @p7.eq_1, @r4.eq_1, @p8.eq_1, @r3.eq_1, @t3.eq_1, @p9.eq_1, @r2.eq_1, @p11.eq_1, @p10.eq_1, @r1.eq_1, @p12.eq_1, @r0.eq_1, @p13.eq_1, @s⟩
end rebuild_Value
namespace r20_Value
def r0 : List G := [(some 3, none, (.box true 5 (.tmp 0))), (some 4, none, (.box true 10 (.tmp 1))), (some 6, none, (.mv (.const (.int .i64 0))))]
def r1 : List G := [(some 11, none, (.ld true 5 (.tmp 3))), (some 12, none, (.call false 88 [(.tmp 11)])), (some 13, none, (.un .not (.tmp 12))), (some 14, none, (.mv (.tmp 13))), (some 15, some (14, false), (.fa 1 (.tmp 3))), (some 16, some (14, false), (.ia 4 1 (.tmp 15) (.const (.int .i64 2)))), (some 17, some (14, false), (.ld false 1 (.tmp 16))), (some 18, some (14, false), (.bin .neq (.tmp 17) (.const (.int .u64 0)))), (some 19, none, (.pick (.tmp 14) (.const (.bool true)) (.tmp 18))), (some 20, none, (.mv (.tmp 19))), (some 21, some (20, false), (.fa 1 (.tmp 3))), (some 22, some (20, false), (.ia 4 1 (.tmp 21) (.const (.int .i64 3)))), (some 23, some (20, false), (.ld false 1 (.tmp 22))), (some 24, some (20, false), (.bin .neq (.tmp 23) (.const (.int .u64 0)))), (some 25, none, (.pick (.tmp 20) (.const (.bool true)) (.tmp 24)))]
def r2 : List G := [(some 26, none, (.bd zW [])), (none, none, (.st true 5 (.tmp 3) (.tmp 26)))]
def r3 : List G := [(some 28, none, (.ld true 5 (.tmp 3))), (some 29, none, (.ld true 10 (.tmp 4))), (some 30, none, (.mv (.tmp 2))), (some 31, none, (.call true 40 [(.tmp 29), (.tmp 30)])), (some 32, none, (.call true 22 [(.tmp 28), (.tmp 31)])), (some 27, none, (.mv (.tmp 32))), (some 33, none, (.ex (.tmp 27) 0)), (some 34, none, (.ex (.tmp 27) 1))]
def t3 : List G := [(some 7, none, (.new zW)), (none, none, (.st true 5 (.tmp 7) (.tmp 33))), (some 8, none, (.mv (.tmp 34)))]
def r4 : List G := [(some 36, none, (.ld true 5 (.tmp 7))), (some 37, none, (.call false 25 [(.tmp 36)])), (some 35, none, (.mv (.tmp 37))), (some 38, none, (.ex (.tmp 35) 0)), (some 39, none, (.ex (.tmp 35) 1)), (some 9, none, (.mv (.tmp 38))), (some 10, none, (.mv (.tmp 39)))]
def r5 : List G := [(some 40, none, (.mv (.tmp 10)))]
def r6 : List G := [(some 41, none, (.mv (.tmp 9))), (some 6, none, (.mv (.tmp 41)))]
def r7 : List G := [(some 42, none, (.fa 0 (.tmp 7))), (some 43, none, (.ld false 1 (.tmp 42)))]
def r8 : List G := [(some 6, none, (.mv (.const (.int .i64 (-9223372036854775808)))))]
def r9 : List G := [(some 6, none, (.mv (.const (.int .i64 9223372036854775807))))]
def c : MC := (.seq (.reg r0 (some [2, 3, 4])) (.seq (.seq (.reg r1 (some [2, 3, 4, 25])) (.cond (.tmp 25) (.reg r2 (some [2, 3, 4])) .skip)) (.seq (.dreg r3 t3 (some [7])) (.seq (.reg r4 (some [7, 9, 10])) (.seq (.seq (.reg r5 (some [7, 9, 40])) (.cond (.tmp 40) (.seq (.reg r6 (some [6])) .ret) .skip)) (.seq (.seq (.reg r7 (some [43])) (.cond (.tmp 43) (.seq (.reg r8 (some [6])) .ret) .skip)) (.seq (.reg r9 (some [6])) .ret)))))))
def ann : Ann := [(0, (some [2, 3, 4], 0, [], [], [])), (1, (some [2, 3, 4, 25], 0, [], [], [])), (2, (some [2, 3, 4], 0, [], [], [])), (3, (some [7], 9, [7], [(0, 0), (1, 0), (2, 0), (3, 0), (4, 0), (5, 0), (6, 0), (7, 2)], [8])), (4, (some [7, 9, 10], 0, [], [], [])), (5, (some [7, 9, 40], 0, [], [], [])), (6, (some [6], 0, [], [], [])), (7, (some [43], 0, [], [], [])), (8, (some [6], 0, [], [], [])), (9, (some [6], 0, [], [], []))]
theorem ok : compF Try.prog Try.f35 ann = some (44, c, [(6, none)]) := by kernel_rfl
def p1 (S : St) : Prop := ops C r9 (kq [6] R) S
def p3 (S : St) : Prop := ops C r8 (kq [6] R) S
def p2 (S : St) : Prop := condX (S.ev (.tmp 43)) (p3 C R) (p1 C R) S
def p4 (S : St) : Prop := ops C r7 (kq [43] (p2 C R)) S
def p6 (S : St) : Prop := ops C r6 (kq [6] R) S
def p5 (S : St) : Prop := condX (S.ev (.tmp 40)) (p6 C R) (p4 C R) S
def p7 (S : St) : Prop := ops C r5 (kq [7, 9, 40] (p5 C R)) S
def p8 (S : St) : Prop := ops C r4 (kq [7, 9, 10] (p7 C R)) S
def p9 (S : St) : Prop := ops C r3 (ops C t3 (kq [7] (p8 C R))) S
def p11 (S : St) : Prop := ops C r2 (kq [2, 3, 4] (p9 C R)) S
def p10 (S : St) : Prop := condX (S.ev (.tmp 25)) (p11 C R) (p9 C R) S
def p12 (S : St) : Prop := ops C r1 (kq [2, 3, 4, 25] (p10 C R)) S
def p13 (S : St) : Prop := ops C r0 (kq [2, 3, 4] (p12 C R)) S
theorem s (S : St) : X C c (retK R) S = p13 C R S := by kernel_rfl
theorem E : type_of% @r9.eq_1 ∧ type_of% @p1.eq_1 ∧ type_of% @r8.eq_1 ∧ type_of% @p3.eq_1 ∧ type_of% @p2.eq_1 ∧ type_of% @r7.eq_1 ∧ type_of% @p4.eq_1 ∧ type_of% @r6.eq_1 ∧ type_of% @p6.eq_1 ∧ type_of% @p5.eq_1 ∧ type_of% @r5.eq_1 ∧ type_of% @p7.eq_1 ∧ type_of% @r4.eq_1 ∧ type_of% @p8.eq_1 ∧ type_of% @r3.eq_1 ∧ type_of% @t3.eq_1 ∧ type_of% @p9.eq_1 ∧ type_of% @r2.eq_1 ∧ type_of% @p11.eq_1 ∧ type_of% @p10.eq_1 ∧ type_of% @r1.eq_1 ∧ type_of% @p12.eq_1 ∧ type_of% @r0.eq_1 ∧ type_of% @p13.eq_1 ∧ type_of% @s := ⟨@r9.eq_1, @p1.eq_1, @r8.eq_1, @p3.eq_1, @p2.eq_1, @r7.eq_1, @p4.eq_1, @r6.eq_1, @p6.eq_1, @p5.eq_1, @r5.eq_1, @p7.eq_1, @r4.eq_1, @p8.eq_1, @r3.eq_1, @t3.eq_1, @p9.eq_1, @r2.eq_1, @p11.eq_1, @p10.eq_1, @r1.eq_1, @p12.eq_1, @r0.eq_1, @p13.eq_1, @s⟩
end r20_Value
namespace rebuild_Constants
def r0 : List G := [(some 2, none, (.mv (.const (.slice none 0 0))))]
def r1 : List G := [(some 3, none, (.mv (.const (.slice none 0 0))))]
def r2 : List G := [(some 6, none, (.mv (.tmp 0))), (some 7, none, (.len false (.tmp 6))), (some 8, none, (.mv (.const (.int .i64 0))))]
def r3 : List G := [(some 9, none, (.bin .lss (.tmp 8) (.tmp 7)))]
def r4 : List G := [(some 10, none, (.is 2 (.tmp 6) (.tmp 8))), (some 11, none, (.ld true 2 (.tmp 10))), (some 5, none, (.new [(.int .i64 0), (.int .i64 0)])), (none, none, (.st true 2 (.tmp 5) (.tmp 11)))]
def r5 : List G := [(some 12, none, (.fa 0 (.tmp 5))), (some 13, none, (.ld false 1 (.tmp 12))), (some 14, none, (.bin .geq (.tmp 13) (.const (.int .i64 1)))), (some 15, none, (.mv (.tmp 14))), (some 16, some (15, true), (.fa 0 (.tmp 5))), (some 17, some (15, true), (.ld false 1 (.tmp 16))), (some 18, some (15, true), (.bin .leq (.tmp 17) (.const (.int .i64 1073741824)))), (some 19, none, (.pick (.tmp 15) (.tmp 18) (.const (.bool false))))]
def r6 : List G := [(some 20, none, (.mv (.tmp 3))), (some 21, none, (.fa 1 (.tmp 5))), (some 22, none, (.ld false 1 (.tmp 21))), (some 23, none, (.gen false (.bsl 22 1 [0]) [(.tmp 22)])), (some 24, none, (.fa 0 (.tmp 5))), (some 25, none, (.ld false 1 (.tmp 24))), (some 26, none, (.call false 92 [(.tmp 23), (.tmp 25)])), (some 27, none, (.gen false (.bi .append [22, 22] 22 [false, false]) [(.tmp 20), (.tmp 26)])), (some 3, none, (.mv (.tmp 27)))]
def r7 : List G := [(some 28, none, (.bin .add (.tmp 8) (.const (.int .i64 1)))), (some 8, none, (.mv (.tmp 28)))]
def r8 : List G := [(some 29, none, (.mv (.tmp 3))), (some 2, none, (.mv (.tmp 29)))]
def c : MC := (.seq (.reg r0 (some [0])) (.seq (.reg r1 (some [0, 3])) (.seq (.seq (.reg r2 (some [3, 6, 7, 8])) (.block 0 (.loop (.seq (.reg r3 (some [3, 6, 7, 8, 9])) (.seq (.cond (.tmp 9) .skip (.exit 0)) (.seq (.block 1 (.seq (.reg r4 (some [3, 5, 6, 7, 8])) (.seq (.reg r5 (some [3, 5, 6, 7, 8, 19])) (.cond (.tmp 19) (.reg r6 (some [3, 6, 7, 8])) .skip)))) (.reg r7 (some [3, 6, 7, 8])))))))) (.seq (.reg r8 (some [2])) .ret))))
def ann : Ann := [(0, (some [0], 0, [], [], [])), (1, (some [0, 3], 0, [], [], [])), (2, (some [3, 6, 7, 8], 0, [], [], [])), (3, (some [3, 6, 7, 8, 9], 0, [], [], [])), (4, (some [3, 5, 6, 7, 8], 0, [], [], [])), (5, (some [3, 5, 6, 7, 8, 19], 0, [], [], [])), (6, (some [3, 6, 7, 8], 0, [], [], [])), (7, (some [3, 6, 7, 8], 0, [], [], [])), (8, (some [2], 0, [], [], []))]
theorem ok : compF Try.prog Try.f38 ann = some (30, c, [(2, none)]) := by kernel_rfl
def p1 (S : St) : Prop := ops C r8 (kq [2] R) S
def p3 (S : St) : Prop := ops C r7 (kq [3, 6, 7, 8] L1) S
def p5 (S : St) : Prop := ops C r6 (kq [3, 6, 7, 8] (p3 C L1)) S
def p4 (S : St) : Prop := condX (S.ev (.tmp 19)) (p5 C L1) (p3 C L1) S
def p6 (S : St) : Prop := ops C r5 (kq [3, 5, 6, 7, 8, 19] (p4 C L1)) S
def p7 (S : St) : Prop := ops C r4 (kq [3, 5, 6, 7, 8] (p6 C L1)) S
def p8 (S : St) : Prop := condX (S.ev (.tmp 9)) (p7 C L1) (p1 C R) S
def p9 (S : St) : Prop := ops C r3 (kq [3, 6, 7, 8, 9] (p8 C R L1)) S
def p2 (S : St) : Prop := LX C (fun L1 => (p9 C R L1)) S
theorem p2_l (S : St) : p2 C R S = LX C (fun L1 => (p9 C R L1)) S := rfl
def p10 (S : St) : Prop := ops C r2 (kq [3, 6, 7, 8] (p2 C R)) S
def p11 (S : St) : Prop := ops C r1 (kq [0, 3] (p10 C R)) S
def p12 (S : St) : Prop := ops C r0 (kq [0] (p11 C R)) S
theorem s (S : St) : X C c (retK R) S = p12 C R S := by kernel_rfl
theorem E : type_of% @r8.eq_1 ∧ type_of% @p1.eq_1 ∧ type_of% @r7.eq_1 ∧ type_of% @p3.eq_1 ∧ type_of% @r6.eq_1 ∧ type_of% @p5.eq_1 ∧ type_of% @p4.eq_1 ∧ type_of% @r5.eq_1 ∧ type_of% @p6.eq_1 ∧ type_of% @r4.eq_1 ∧ type_of% @p7.eq_1 ∧ type_of% @p8.eq_1 ∧ type_of% @r3.eq_1 ∧ type_of% @p9.eq_1 ∧ type_of% @r2.eq_1 ∧ type_of% @p10.eq_1 ∧ type_of% @r1.eq_1 ∧ type_of% @p11.eq_1 ∧ type_of% @r0.eq_1 ∧ type_of% @p12.eq_1 ∧ type_of% @s := ⟨@r8.eq_1, @p1.eq_1, @r7.eq_1, @p3.eq_1, @r6.eq_1, @p5.eq_1, @p4.eq_1, @r5.eq_1, @p6.eq_1, @r4.eq_1, @p7.eq_1, @p8.eq_1, @r3.eq_1, @p9.eq_1, @r2.eq_1, @p10.eq_1, @r1.eq_1, @p11.eq_1, @r0.eq_1, @p12.eq_1, @s⟩
end rebuild_Constants
namespace slices_Repeat___int64_int64
def r0 : List G := [(some 4, none, (.mv (.const (.slice none 0 0))))]
def r1 : List G := [(some 9, none, (.mv (.tmp 1))), (some 10, none, (.bin .lss (.tmp 9) (.const (.int .i64 0))))]
def r2 : List G := [(some 11, none, .trap), (none, none, .trap)]
def r3 : List G := [(some 13, none, (.mv (.tmp 0))), (some 14, none, (.len false (.tmp 13))), (some 15, none, (.cv .u64 (.tmp 14))), (some 16, none, (.mv (.tmp 1))), (some 17, none, (.cv .u64 (.tmp 16))), (some 18, none, (.call false 149 [(.tmp 15), (.tmp 17)])), (some 12, none, (.mv (.tmp 18))), (some 19, none, (.ex (.tmp 12) 0)), (some 20, none, (.ex (.tmp 12) 1)), (some 5, none, (.mv (.tmp 19))), (some 6, none, (.mv (.tmp 20)))]
def r4 : List G := [(some 21, none, (.mv (.tmp 5))), (some 22, none, (.bin .gtr (.tmp 21) (.const (.int .u64 0)))), (some 23, none, (.mv (.tmp 22))), (some 24, some (23, false), (.mv (.tmp 6))), (some 25, some (23, false), (.bin .gtr (.tmp 24) (.const (.int .u64 9223372036854775807)))), (some 26, none, (.pick (.tmp 23) (.const (.bool true)) (.tmp 25)))]
def r5 : List G := [(some 27, none, .trap), (none, none, .trap)]
def r6 : List G := [(some 28, none, (.mv (.tmp 6))), (some 29, none, (.cv .i64 (.tmp 28))), (some 30, none, (.gen false (.mks 22) [(.tmp 29), (.tmp 29)])), (some 7, none, (.mv (.tmp 30)))]
def r7 : List G := [(some 31, none, (.mv (.tmp 7))), (some 32, none, (.mv (.tmp 0))), (some 33, none, (.gen false (.bi .copy [22, 22] 3 [false, false]) [(.tmp 31), (.tmp 32)])), (some 8, none, (.mv (.tmp 33)))]
def r8 : List G := [(some 34, none, (.mv (.tmp 8))), (some 35, none, (.mv (.tmp 7))), (some 36, none, (.len false (.tmp 35))), (some 37, none, (.bin .lss (.tmp 34) (.tmp 36)))]
def r9 : List G := [(some 38, none, (.mv (.tmp 8))), (some 39, none, (.mv (.tmp 7))), (some 40, none, (.mv (.tmp 8))), (some 41, none, (.gen true (.sl 22 true false false) [(.tmp 39), (.tmp 40)])), (some 42, none, (.mv (.tmp 7))), (some 43, none, (.mv (.tmp 8))), (some 44, none, (.gen true (.sl 22 false true false) [(.tmp 42), (.tmp 43)])), (some 45, none, (.gen false (.bi .copy [22, 22] 3 [false, false]) [(.tmp 41), (.tmp 44)])), (some 46, none, (.bin .add (.tmp 38) (.tmp 45)))]
def t9 : List G := [(some 8, none, (.mv (.tmp 46)))]
def r10 : List G := [(some 47, none, (.mv (.tmp 7))), (some 4, none, (.mv (.tmp 47)))]
def c : MC := (.seq (.reg r0 (some [0, 1])) (.seq (.seq (.reg r1 (some [0, 1, 10])) (.cond (.tmp 10) (.reg r2 (some [0, 1])) .skip)) (.seq (.reg r3 (some [0, 5, 6])) (.seq (.seq (.reg r4 (some [0, 6, 26])) (.cond (.tmp 26) (.reg r5 (some [0, 6])) .skip)) (.seq (.reg r6 (some [0, 7])) (.seq (.reg r7 (some [7, 8])) (.seq (.block 0 (.loop (.seq (.seq (.reg r8 (some [7, 8, 37])) (.cond (.tmp 37) .skip (.exit 0))) (.block 1 (.creg false false r9 t9 (some [7, 8])))))) (.seq (.reg r10 (some [4])) .ret))))))))
def ann : Ann := [(0, (some [0, 1], 0, [], [], [])), (1, (some [0, 1, 10], 0, [], [], [])), (2, (some [0, 1], 0, [], [], [])), (3, (some [0, 5, 6], 0, [], [], [])), (4, (some [0, 6, 26], 0, [], [], [])), (5, (some [0, 6], 0, [], [], [])), (6, (some [0, 7], 0, [], [], [])), (7, (some [7, 8], 0, [], [], [])), (8, (some [7, 8, 37], 0, [], [], [])), (9, (some [7, 8], 300009, [], [(0, 0), (1, 0), (2, 0), (3, 0), (4, 0), (5, 0), (6, 0), (7, 1), (8, 0)], [])), (10, (some [4], 0, [], [], []))]
theorem ok : compF Try.prog Try.f92 ann = some (48, c, [(4, none)]) := by kernel_rfl
def p1 (S : St) : Prop := ops C r10 (kq [4] R) S
def p3 (S : St) : Prop := cregX C false false r9 t9 (kq [7, 8] L1) S
def p4 (S : St) : Prop := condX (S.ev (.tmp 37)) (p3 C L1) (p1 C R) S
def p5 (S : St) : Prop := ops C r8 (kq [7, 8, 37] (p4 C R L1)) S
def p2 (S : St) : Prop := LX C (fun L1 => (p5 C R L1)) S
theorem p2_l (S : St) : p2 C R S = LX C (fun L1 => (p5 C R L1)) S := rfl
def p6 (S : St) : Prop := ops C r7 (kq [7, 8] (p2 C R)) S
def p7 (S : St) : Prop := ops C r6 (kq [0, 7] (p6 C R)) S
def p9 (S : St) : Prop := ops C r5 (kq [0, 6] (p7 C R)) S
def p8 (S : St) : Prop := condX (S.ev (.tmp 26)) (p9 C R) (p7 C R) S
def p10 (S : St) : Prop := ops C r4 (kq [0, 6, 26] (p8 C R)) S
def p11 (S : St) : Prop := ops C r3 (kq [0, 5, 6] (p10 C R)) S
def p13 (S : St) : Prop := ops C r2 (kq [0, 1] (p11 C R)) S
def p12 (S : St) : Prop := condX (S.ev (.tmp 10)) (p13 C R) (p11 C R) S
def p14 (S : St) : Prop := ops C r1 (kq [0, 1, 10] (p12 C R)) S
def p15 (S : St) : Prop := ops C r0 (kq [0, 1] (p14 C R)) S
theorem s (S : St) : X C c (retK R) S = p15 C R S := by kernel_rfl
theorem E : type_of% @r10.eq_1 ∧ type_of% @p1.eq_1 ∧ type_of% @r9.eq_1 ∧ type_of% @t9.eq_1 ∧ type_of% @p3.eq_1 ∧ type_of% @p4.eq_1 ∧ type_of% @r8.eq_1 ∧ type_of% @p5.eq_1 ∧ type_of% @r7.eq_1 ∧ type_of% @p6.eq_1 ∧ type_of% @r6.eq_1 ∧ type_of% @p7.eq_1 ∧ type_of% @r5.eq_1 ∧ type_of% @p9.eq_1 ∧ type_of% @p8.eq_1 ∧ type_of% @r4.eq_1 ∧ type_of% @p10.eq_1 ∧ type_of% @r3.eq_1 ∧ type_of% @p11.eq_1 ∧ type_of% @r2.eq_1 ∧ type_of% @p13.eq_1 ∧ type_of% @p12.eq_1 ∧ type_of% @r1.eq_1 ∧ type_of% @p14.eq_1 ∧ type_of% @r0.eq_1 ∧ type_of% @p15.eq_1 ∧ type_of% @s := ⟨@r10.eq_1, @p1.eq_1, @r9.eq_1, @t9.eq_1, @p3.eq_1, @p4.eq_1, @r8.eq_1, @p5.eq_1, @r7.eq_1, @p6.eq_1, @r6.eq_1, @p7.eq_1, @r5.eq_1, @p9.eq_1, @p8.eq_1, @r4.eq_1, @p10.eq_1, @r3.eq_1, @p11.eq_1, @r2.eq_1, @p13.eq_1, @p12.eq_1, @r1.eq_1, @p14.eq_1, @r0.eq_1, @p15.eq_1, @s⟩
end slices_Repeat___int64_int64
namespace w20_known
def r0 : List G := [(some 0, none, (.mv (.const (.bool false))))]
def r1 : List G := [(some 4, none, (.call false 20 [(.const (.int .i64 1))])), (some 5, none, (.call false 20 [(.const (.int .i64 2))])), (some 6, none, (.call false 81 [(.tmp 4), (.tmp 5)])), (some 3, none, (.mv (.tmp 6))), (some 7, none, (.ex (.tmp 3) 0)), (some 8, none, (.ex (.tmp 3) 1)), (some 1, none, (.new zR)), (none, none, (.st true 10 (.tmp 1) (.tmp 7))), (some 2, none, (.mv (.tmp 8)))]
def r2 : List G := [(some 9, none, (.call true 20 [(.const (.int .i64 0))])), (some 10, none, (.ld true 10 (.tmp 1))), (some 11, none, (.call true 34 [(.tmp 9), (.tmp 10), (.const (.int .u64 3))])), (some 12, none, (.bin .eql (.tmp 11) (.const (.int .i64 2)))), (some 13, none, (.mv (.tmp 12))), (some 14, some (13, true), (.call true 20 [(.const (.int .i64 9223372036854775807))])), (some 15, some (13, true), (.call true 82 [(.const (.int .i64 1))])), (some 16, some (13, true), (.call true 34 [(.tmp 14), (.tmp 15), (.const (.int .u64 5))])), (some 17, some (13, true), (.bin .eql (.tmp 16) (.const (.int .i64 9223372036854775807)))), (some 18, none, (.pick (.tmp 13) (.tmp 17) (.const (.bool false)))), (some 19, none, (.mv (.tmp 18))), (some 20, some (19, true), (.bd [(.int .i64 0), (.int .i64 0)] [(0, 1, (.const (.int .i64 2))), (1, 1, (.const (.int .i64 9)))])), (some 21, some (19, true), (.gen false (.bsl 29 1 [0]) [(.tmp 20)])), (some 22, some (19, true), (.call false 38 [(.tmp 21)])), (some 23, some (19, true), (.len false (.tmp 22))), (some 24, some (19, true), (.bin .eql (.tmp 23) (.const (.int .i64 2)))), (some 25, none, (.pick (.tmp 19) (.tmp 24) (.const (.bool false))))]
def t2 : List G := [(some 0, none, (.mv (.tmp 25)))]
def c : MC := (.seq (.reg r0 (some [])) (.seq (.reg r1 (some [1])) (.seq (.creg true false r2 t2 (some [0])) .ret)))
def ann : Ann := [(0, (some [], 0, [], [], [])), (1, (some [1], 0, [], [], [])), (2, (some [0], 200017, [], [(0, 0), (1, 0), (2, 0), (3, 0), (4, 0), (5, 0), (6, 0), (7, 0), (8, 0), (9, 0), (10, 0), (11, 0), (12, 1), (13, 1), (14, 0), (15, 0), (16, 0)], []))]
theorem ok : compF Try.prog Try.f33 ann = some (26, c, [(0, none)]) := by kernel_rfl
def p1 (S : St) : Prop := cregX C true false r2 t2 (kq [0] R) S
def p2 (S : St) : Prop := ops C r1 (kq [1] (p1 C R)) S
def p3 (S : St) : Prop := ops C r0 (kq [] (p2 C R)) S
theorem s (S : St) : X C c (retK R) S = p3 C R S := by kernel_rfl
theorem E : type_of% @r2.eq_1 ∧ type_of% @t2.eq_1 ∧ type_of% @p1.eq_1 ∧ type_of% @r1.eq_1 ∧ type_of% @p2.eq_1 ∧ type_of% @r0.eq_1 ∧ type_of% @p3.eq_1 ∧ type_of% @s := ⟨@r2.eq_1, @t2.eq_1, @p1.eq_1, @r1.eq_1, @p2.eq_1, @r0.eq_1, @p3.eq_1, @s⟩
end w20_known
namespace r01_Near
def r0 : List G := [(some 6, none, (.mv (.const (.bool false))))]
def r1 : List G := [(some 7, none, (.mv (.tmp 2))), (some 8, none, (.bin .geq (.tmp 7) (.const (.int .i64 0)))), (some 9, none, (.mv (.tmp 8))), (some 10, some (9, true), (.mv (.tmp 0))), (some 11, some (9, true), (.mv (.tmp 1))), (some 12, some (9, true), (.call false 71 [(.tmp 10), (.tmp 11)])), (some 13, some (9, true), (.mv (.tmp 2))), (some 14, some (9, true), (.cv .u64 (.tmp 13))), (some 15, some (9, true), (.bin .leq (.tmp 12) (.tmp 14))), (some 16, none, (.pick (.tmp 9) (.tmp 15) (.const (.bool false)))), (some 6, none, (.mv (.tmp 16)))]
def c : MC := (.seq (.reg r0 (some [0, 1, 2])) (.seq (.reg r1 (some [6])) .ret))
def ann : Ann := [(0, (some [0, 1, 2], 0, [], [], [])), (1, (some [6], 0, [], [], []))]
theorem ok : compF Try.prog Try.f21 ann = some (17, c, [(6, none)]) := by kernel_rfl
def p1 (S : St) : Prop := ops C r1 (kq [6] R) S
def p2 (S : St) : Prop := ops C r0 (kq [0, 1, 2] (p1 C R)) S
theorem s (S : St) : X C c (retK R) S = p2 C R S := by kernel_rfl
theorem E : type_of% @r1.eq_1 ∧ type_of% @p1.eq_1 ∧ type_of% @r0.eq_1 ∧ type_of% @p2.eq_1 ∧ type_of% @s := ⟨@r1.eq_1, @p1.eq_1, @r0.eq_1, @p2.eq_1, @s⟩
end r01_Near
namespace r01_Distance
def r0 : List G := [(some 4, none, (.mv (.const (.int .u64 0))))]
def r1 : List G := [(some 5, none, (.mv (.tmp 0))), (some 6, none, (.mv (.tmp 1))), (some 7, none, (.bin .lss (.tmp 5) (.tmp 6)))]
def r2 : List G := [(some 8, none, (.mv (.tmp 1))), (some 9, none, (.cv .u64 (.tmp 8))), (some 10, none, (.mv (.tmp 0))), (some 11, none, (.cv .u64 (.tmp 10))), (some 12, none, (.bin .sub (.tmp 9) (.tmp 11))), (some 4, none, (.mv (.tmp 12)))]
def r3 : List G := [(some 13, none, (.mv (.tmp 0))), (some 14, none, (.cv .u64 (.tmp 13))), (some 15, none, (.mv (.tmp 1))), (some 16, none, (.cv .u64 (.tmp 15))), (some 17, none, (.bin .sub (.tmp 14) (.tmp 16))), (some 4, none, (.mv (.tmp 17)))]
def c : MC := (.seq (.reg r0 (some [0, 1])) (.seq (.seq (.reg r1 (some [0, 1, 7])) (.cond (.tmp 7) (.seq (.reg r2 (some [4])) .ret) .skip)) (.seq (.reg r3 (some [4])) .ret)))
def ann : Ann := [(0, (some [0, 1], 0, [], [], [])), (1, (some [0, 1, 7], 0, [], [], [])), (2, (some [4], 0, [], [], [])), (3, (some [4], 0, [], [], []))]
theorem ok : compF Try.prog Try.f71 ann = some (18, c, [(4, none)]) := by kernel_rfl
def p1 (S : St) : Prop := ops C r3 (kq [4] R) S
def p3 (S : St) : Prop := ops C r2 (kq [4] R) S
def p2 (S : St) : Prop := condX (S.ev (.tmp 7)) (p3 C R) (p1 C R) S
def p4 (S : St) : Prop := ops C r1 (kq [0, 1, 7] (p2 C R)) S
def p5 (S : St) : Prop := ops C r0 (kq [0, 1] (p4 C R)) S
theorem s (S : St) : X C c (retK R) S = p5 C R S := by kernel_rfl
theorem E : type_of% @r3.eq_1 ∧ type_of% @p1.eq_1 ∧ type_of% @r2.eq_1 ∧ type_of% @p3.eq_1 ∧ type_of% @p2.eq_1 ∧ type_of% @r1.eq_1 ∧ type_of% @p4.eq_1 ∧ type_of% @r0.eq_1 ∧ type_of% @p5.eq_1 ∧ type_of% @s := ⟨@r3.eq_1, @p1.eq_1, @r2.eq_1, @p3.eq_1, @p2.eq_1, @r1.eq_1, @p4.eq_1, @r0.eq_1, @p5.eq_1, @s⟩
end r01_Distance
end Go.Proofs.Ytncmmbacoknefaa

/- Re: slices.Repeat of one number, twice; Constants of the sanity check. -/
namespace Go.Proofs.Ytncmmbacoknefaa
open Go Go.RowKit Sx
set_option linter.unusedVariables false
set_option linter.unusedSimpArgs false
theorem en_bmul (l : Array Value) (W : World) : (callFunc 149 l).run Try.prog W = .ok (.enter 149 l) W := Sx.en_of Try.func149 (by kernel_rfl) (by kernel_rfl) l W
theorem en_rept (l : Array Value) (W : World) : (callFunc 92 l).run Try.prog W = .ok (.enter 92 l) W := Sx.en_of Try.func92 (by kernel_rfl) (by kernel_rfl) l W
theorem g_bmul12 (W : World) : Gives Try.prog 149 [.int .u64 1, .int .u64 2] W (· = .tuple #[.int .u64 0, .int .u64 2]) :=
  gives_known en_bmul ((Try.bits_Mul 1 2 (by decide) (by decide) W).mono fun e w' ⟨h1, h2⟩ => ⟨h1, by rw [h2]; exact Below.refl _ _⟩)
namespace Sx
variable {C : Cx} {S : St} {K : St → Prop} {d : Option Nat}
/-- copy onto a block that is known cell by cell. -/
theorem genA_cp {P : Program} (hP : C.P = P) {L : List Kn} (L' : List Kn) {dT sT ty e : TypeId} {g o dLen dCap sb so sLen sCap : Nat} {cs us : List Value} {bb : List Bool}
    (hu : P.underlying dT = some (.slice e)) (hs : (P.info? e).map (·.size) = some 1) (hT : S.T = kX C.w0.heap.size L) (hm : .g (cK g cs) ∈ L) (hmv : g ∈ S.T.bs ∧ g ∈ C.mv S)
    (hsrc : ∀ W, (∀ k ∈ L, k.ok C.w0.heap.size W) → ∀ (j : Nat) v, us[j]? = some v → W.cell? ⟨sb, so + j, none⟩ = some v) (hn : us.length = Nat.min sLen dLen) (hfit : o + us.length ≤ cs.length) (h1 : ∀ v ∈ us, v.oneCell' = true)
    (hL : ∀ k ∈ L', k = .g (cK g (cs.take o ++ us ++ cs.drop (o + us.length))) ∨ (k ∈ L ∧ g ∉ k.bs))
    (hk : K (St.put ⟨S.n, S.E, S.H, kX C.w0.heap.size L'⟩ d (.v (.int .i64 us.length)))) : genA C (.bi .copy [dT, sT] ty bb) [.slice (some ⟨g, o, none⟩) dLen dCap, .slice (some ⟨sb, so, none⟩) sLen sCap] d K S := by
  subst hP
  refine genA_T (ι := Unit) (fun _ => .int .i64 us.length) (fun _ => kX C.w0.heap.size L') (fun W hW hok hbs => ⟨?_⟩) (fun _ => hk)
  rw [hT] at hok
  obtain ⟨hge, T, hg⟩ : (cK g cs).ok C.w0.heap.size W := hok _ hm
  have hr := run_copy_row (P := C.P) W dT sT ty e g o dLen dCap ⟨sb, so, none⟩ sLen sCap cs.toArray T us hu hs hg hn (fun j v hj => by rw [Addr.add_lit]; exact hsrc W hok j v hj) (by simpa using hfit) h1
  have hr' : (genRun (.bi .copy [dT, sT] ty bb) [.slice (some ⟨g, o, none⟩) dLen dCap, .slice (some ⟨sb, so, none⟩) sLen sCap]).run C.P W = .ok (.value (.int .i64 us.length)) (W.setRow g (cs.take o ++ us ++ cs.drop (o + us.length)).toArray) := by
    show (do let x ← Builtin.copy_ #[dT, sT] ty #[.slice (some ⟨g, o, none⟩) dLen dCap, .slice (some ⟨sb, so, none⟩) sLen sCap]; pure (Next.value x)).run C.P W = _
    rw [run_bind_ok hr]
    rfl
  rw [hr']
  have hsz : (W.setRow g (cs.take o ++ us ++ cs.drop (o + us.length)).toArray).heap.size = W.heap.size := by simp [World.setRow]
  have hne : ∀ j, j ≠ g → (W.setRow g (cs.take o ++ us ++ cs.drop (o + us.length)).toArray).heap[j]? = W.heap[j]? := fun j hj => setRow_other W g j _ hj
  refine ⟨(), rfl, ⟨rfl, rfl, rfl, by rw [hsz]; exact Nat.le_refl _, fun j hj hn => hne j fun e => hn (by rw [e]; exact hmv.2)⟩, ?_, kX_stab C _, ?_⟩
  · intro k hk
    rcases hL k hk with rfl | ⟨hk, hb⟩
    · exact ⟨hge, T, setRow_heap W g _ _ T _ hg⟩
    · exact (hok k hk).keep (by rw [hsz]; exact Nat.le_refl _) (fun b hbb => hne b fun e => hb (by rw [← e]; exact hbb)) fun b hbn hbl => hne b fun e => by omega
  · intro x hx
    rw [hsz]
    obtain ⟨k, hk, hx⟩ := kX_bs.1 hx
    rcases hL k hk with rfl | ⟨hk, hb⟩
    · rw [show x = g from List.mem_singleton.1 hx]
      exact ⟨.inl hmv.1, (Array.getElem?_eq_some_iff.1 hg).1⟩
    · exact ⟨.inl (by rw [hT]; exact kX_bs.2 ⟨k, hk, hx⟩), ((hok k hk).lt x hx).2⟩
/-- The caller's world from block b on is as it was. -/
def hC (w : World) (b : Nat) : KnG where
  bs := List.range' b (w.heap.size - b)
  ok n W := n = b ∧ w.heap.size ≤ W.heap.size ∧ ∀ i, i < w.heap.size → W.heap[i]? = w.heap[i]?
  lt := fun {n W} h c hc => by
    obtain ⟨h0, h1, -⟩ := h
    rw [List.mem_range'] at hc
    obtain ⟨i, hi, rfl⟩ := hc
    omega
  keep := fun {n W W'} h hs hb ho => by
    obtain ⟨h0, hsz, hg⟩ := h
    refine ⟨h0, Nat.le_trans hsz hs, fun i hi => ?_⟩
    rcases Nat.lt_or_ge i b with h | h
    · exact (ho i (by omega) (by omega)).trans (hg i hi)
    · exact (hb i (List.mem_range'.2 ⟨i - b, by omega, by omega⟩)).trans (hg i hi)
end Sx
set_option maxRecDepth 100000 in
theorem repeat_two {w : World} {b : Nat} (hb : HB w b #[.int .i64 9]) : Calls Try.prog 92 #[.slice (some ⟨b, 0, none⟩) 1 1, .int .i64 2] w fun e w' => ∃ g, e = .returned (.slice (some ⟨g, 0, none⟩) 2 2) ∧ Below w.heap.size w w' ∧ w.heap.size ≤ g ∧ HB w' g #[.int .i64 9, .int .i64 9] := by
  have hlt : b < w.heap.size := hb.lt
  have hcs := cut_size (Nat.le_of_lt hlt)
  have hcell : w.cell? ⟨b, 0, none⟩ = some (.int .i64 9) := (Bx.of hb).2.1 0
  have h0 : (kX (cut w b).heap.size [.g (hC w b)]).ok w := fun k hk => by
    rw [List.mem_singleton.1 hk]
    exact ⟨hcs, Nat.le_refl _, fun _ _ => rfl⟩
  refine Calls.mono (enterG Try.func92 slices_Repeat___int64_int64.ok (args := [.slice (some ⟨b, 0, none⟩) 1 1, .int .i64 2]) (w0 := cut w b) (T := kX (cut w b).heap.size [.g (hC w b)]) (R := fun v X => ∃ g, v = .slice (some ⟨g, 0, none⟩) 2 2 ∧ g ∉ (kX (cut w b).heap.size [.g (hC w b)]).bs ∧ X = kX (cut w b).heap.size [.g (cK g [.int .i64 9, .int .i64 9]), .g (hC w b)]) (by simp) (below_cut (Nat.le_of_lt hlt)) h0 (kX_stab (Sx.cx _ (cut w b) _) _) (fun c hc => by
    obtain ⟨k, hk, hc⟩ := kX_bs.1 hc
    rw [List.mem_singleton.1 hk] at hc
    exact (KnG.lt (hC w b) (h0 _ (List.mem_singleton.2 rfl)) c hc)) ?run) ?fin
  case fin =>
    rintro e w' ⟨v, X, rfl, ⟨g, rfl, hg, rfl⟩, hX, hbl, -⟩
    have k1 : (cK g [.int .i64 9, .int .i64 9]).ok (cut w b).heap.size w' := hX _ List.mem_cons_self
    have k2 : (hC w b).ok (cut w b).heap.size w' := hX _ (List.mem_cons_of_mem _ (List.mem_singleton.2 rfl))
    refine ⟨g, rfl, ⟨hbl.os, hbl.tape, hbl.output, k2.2.1, fun i hi => k2.2.2 i hi⟩, ?_, k1.2⟩
    rcases Nat.lt_or_ge g w.heap.size with h | h
    · exact absurd (kX_bs.2 ⟨_, List.mem_singleton.2 rfl, List.mem_range'.2 ⟨g - b, by have := k1.1; omega, by have := k1.1; omega⟩⟩) hg
    · exact h
  case run =>
    try dsimp only
    repeat' (first | simp (disch := omega) only [sxE, slices_Repeat___int64_int64.E, Nat.reduceAdd, Nat.reduceEqDiff, Nat.reduceMul, Nat.reduceSub, Int.reduceAdd, Int.reduceSub, Int.reduceMul, Int.reduceNeg, Int.reduceLT, Int.reduceLE, Int.reduceEq, Int.reduceToNat, ↓reduceIte, Int.reducePow, Nat.reduceLeDiff, Nat.reduceLT, ne_eq, eq_self, List.length_cons, List.length_nil] | (with_reducible refine Sx.call_at (f := 149) (fun W hW => g_bmul12 W) ?_) | (rw [slices_Repeat___int64_int64.p2_l]) | (with_reducible apply LX_round))
    refine genA_c (L := [.g (hC w b)]) (cs := [.int .i64 0, .int .i64 0]) (T := 2) (fun g => .slice (some ⟨g, 0, none⟩) 2 2) rfl (fun W => by kernel_rfl) fun g hg => ?_
    have hgb : g ≠ b := fun e => hg (kX_bs.2 ⟨_, List.mem_singleton.2 rfl, List.mem_range'.2 ⟨0, by omega, by omega⟩⟩)
    repeat' (first | simp (disch := omega) only [sxE, slices_Repeat___int64_int64.E, Nat.reduceAdd, Nat.reduceEqDiff, Nat.reduceMul, Nat.reduceSub, Int.reduceAdd, Int.reduceSub, Int.reduceMul, Int.reduceNeg, Int.reduceLT, Int.reduceLE, Int.reduceEq, Int.reduceToNat, ↓reduceIte, Int.reducePow, Nat.reduceLeDiff, Nat.reduceLT, ne_eq, eq_self, List.length_cons, List.length_nil] | (with_reducible refine Sx.call_at (f := 149) (fun W hW => g_bmul12 W) ?_) | (rw [slices_Repeat___int64_int64.p2_l]) | (with_reducible apply LX_round))
    have hm1 : g ∈ (kX (cut w b).heap.size [.g (cK g [.int .i64 0, .int .i64 0]), .g (hC w b)]).bs := kX_bs.2 ⟨_, List.mem_cons_self, List.mem_singleton.2 rfl⟩
    have hgC : g ∉ (Kn.g (hC w b)).bs := fun h => hg (kX_bs.2 ⟨_, List.mem_singleton.2 rfl, h⟩)
    have hu := Try.underlying22
    have hs : (Try.prog.info? 2).map (·.size) = some 1 := by kernel_rfl
    refine genA_cp (P := Try.prog) rfl (L := [.g (cK g [.int .i64 0, .int .i64 0]), .g (hC w b)]) [.g (cK g [.int .i64 9, .int .i64 0]), .g (hC w b)] (us := [.int .i64 9]) hu hs rfl List.mem_cons_self ⟨hm1, hm1⟩ (fun W hok j v hj => by
      rcases j with _ | j
      · have k2 : (hC w b).ok (cut w b).heap.size W := hok (.g (hC w b)) (List.mem_cons_of_mem _ (List.mem_singleton.2 rfl))
        cases hj
        exact (World.cell?_of_block (a := ⟨b, 0, none⟩) (k2.2.2 b hlt)).trans hcell
      · cases hj) rfl (by decide) (fun v hv => by rw [List.mem_singleton.1 hv]; rfl) (fun k hk => by
      rcases List.mem_cons.1 hk with rfl | hk
      · exact .inl rfl
      · rw [List.mem_singleton.1 hk]
        exact .inr ⟨List.mem_cons_of_mem _ (List.mem_singleton.2 rfl), hgC⟩) ?_
    repeat' (first | simp (disch := omega) only [sxE, slices_Repeat___int64_int64.E, Nat.reduceAdd, Nat.reduceEqDiff, Nat.reduceMul, Nat.reduceSub, Int.reduceAdd, Int.reduceSub, Int.reduceMul, Int.reduceNeg, Int.reduceLT, Int.reduceLE, Int.reduceEq, Int.reduceToNat, ↓reduceIte, Int.reducePow, Nat.reduceLeDiff, Nat.reduceLT, ne_eq, eq_self, List.length_cons, List.length_nil] | (with_reducible refine Sx.call_at (f := 149) (fun W hW => g_bmul12 W) ?_) | (rw [slices_Repeat___int64_int64.p2_l]) | (with_reducible apply LX_round))
    refine ⟨.slice (some ⟨g, 1, none⟩) 1 1, fun W => by kernel_rfl, ?_⟩
    repeat' (first | simp (disch := omega) only [sxE, slices_Repeat___int64_int64.E, Nat.reduceAdd, Nat.reduceEqDiff, Nat.reduceMul, Nat.reduceSub, Int.reduceAdd, Int.reduceSub, Int.reduceMul, Int.reduceNeg, Int.reduceLT, Int.reduceLE, Int.reduceEq, Int.reduceToNat, ↓reduceIte, Int.reducePow, Nat.reduceLeDiff, Nat.reduceLT, ne_eq, eq_self, List.length_cons, List.length_nil] | (with_reducible refine Sx.call_at (f := 149) (fun W hW => g_bmul12 W) ?_) | (rw [slices_Repeat___int64_int64.p2_l]) | (with_reducible apply LX_round))
    refine ⟨.slice (some ⟨g, 0, none⟩) 1 2, fun W => by kernel_rfl, ?_⟩
    repeat' (first | simp (disch := omega) only [sxE, slices_Repeat___int64_int64.E, Nat.reduceAdd, Nat.reduceEqDiff, Nat.reduceMul, Nat.reduceSub, Int.reduceAdd, Int.reduceSub, Int.reduceMul, Int.reduceNeg, Int.reduceLT, Int.reduceLE, Int.reduceEq, Int.reduceToNat, ↓reduceIte, Int.reducePow, Nat.reduceLeDiff, Nat.reduceLT, ne_eq, eq_self, List.length_cons, List.length_nil] | (with_reducible refine Sx.call_at (f := 149) (fun W hW => g_bmul12 W) ?_) | (rw [slices_Repeat___int64_int64.p2_l]) | (with_reducible apply LX_round))
    have hm2 : g ∈ (kX (cut w b).heap.size [.g (cK g [.int .i64 9, .int .i64 0]), .g (hC w b)]).bs := kX_bs.2 ⟨_, List.mem_cons_self, List.mem_singleton.2 rfl⟩
    refine genA_cp (P := Try.prog) rfl (L := [.g (cK g [.int .i64 9, .int .i64 0]), .g (hC w b)]) [.g (cK g [.int .i64 9, .int .i64 9]), .g (hC w b)] (us := [.int .i64 9]) hu hs rfl List.mem_cons_self ⟨hm2, ?mv⟩ (fun W hok j v hj => by
      rcases j with _ | j
      · have k2 : (cK g [.int .i64 9, .int .i64 0]).ok (cut w b).heap.size W := hok (.g (cK g [.int .i64 9, .int .i64 0])) List.mem_cons_self
        cases hj
        exact cK_cell k2 rfl
      · cases hj) rfl (by decide) (fun v hv => by rw [List.mem_singleton.1 hv]; rfl) (fun k hk => by
      rcases List.mem_cons.1 hk with rfl | hk
      · exact .inl rfl
      · rw [List.mem_singleton.1 hk]
        exact .inr ⟨List.mem_cons_of_mem _ (List.mem_singleton.2 rfl), hgC⟩) ?_
    case mv => exact hm2
    repeat' (first | simp (disch := omega) only [sxE, slices_Repeat___int64_int64.E, Nat.reduceAdd, Nat.reduceEqDiff, Nat.reduceMul, Nat.reduceSub, Int.reduceAdd, Int.reduceSub, Int.reduceMul, Int.reduceNeg, Int.reduceLT, Int.reduceLE, Int.reduceEq, Int.reduceToNat, ↓reduceIte, Int.reducePow, Nat.reduceLeDiff, Nat.reduceLT, ne_eq, eq_self, List.length_cons, List.length_nil] | (with_reducible refine Sx.call_at (f := 149) (fun W hW => g_bmul12 W) ?_) | (rw [slices_Repeat___int64_int64.p2_l]) | (with_reducible apply LX_round))
    exact ⟨g, rfl, hg, rfl⟩
namespace Sx
variable {C : Cx} {S : St} {K : St → Prop} {d : Option Nat}
theorem ldP_hC {L : List Kn} {w : World} {b o m : Nat} {g : Bool} {cs l : List Value} (hT : (C.kn S).T = kX C.w0.heap.size L) (hm : .g (hC w b) ∈ L) (hB : HB w b cs.toArray) (hl : l.length = m) (hs : ∀ j v, l[j]? = some v → cs[o + j]? = some v) (hk : K (S.put d (.v (mk g l)))) : ldP C g m ⟨b, o, none⟩ d K S :=
  ldP_ext l hl (fun W hW hok j v hj => by
    rw [hT] at hok
    have ho : (hC w b).ok C.w0.heap.size W := hok _ hm
    rw [Addr.add_lit]
    have h1 : w.cell? ⟨b, o + j, none⟩ = some v := by
      rw [(Bx.of hB).2.1 (o + j)]
      simpa using hs j v hj
    exact (World.cell?_of_block (a := ⟨b, o + j, none⟩) (ho.2.2 b hB.lt)).trans h1) hk
end Sx
theorem info_i64 : (Try.prog.info? 2).map (fun i => (i.zero, i.size, i.bytes)) = some (some (.int .i64 0), 1, 8) := by kernel_rfl
set_option maxRecDepth 100000 in
theorem const_two {w : World} {b : Nat} (hb : HB w b #[.int .i64 2, .int .i64 9]) : Calls Try.prog 38 #[.slice (some ⟨b, 0, none⟩) 1 1] w fun e w' => ∃ x : Nat × Nat, e = .returned (.slice (some ⟨x.1, 0, none⟩) 2 x.2) ∧ Below w.heap.size w w' := by
  have hlt : b < w.heap.size := hb.lt
  have hcs := cut_size (Nat.le_of_lt hlt)
  have h0 : (kX (cut w b).heap.size [.g (hC w b)]).ok w := fun k hk => by
    rw [List.mem_singleton.1 hk]
    exact ⟨hcs, Nat.le_refl _, fun _ _ => rfl⟩
  refine Calls.mono (enterG Try.func38 rebuild_Constants.ok (args := [.slice (some ⟨b, 0, none⟩) 1 1]) (w0 := cut w b) (T := kX (cut w b).heap.size [.g (hC w b)]) (R := fun v X => ∃ g cap, v = .slice (some ⟨g, 0, none⟩) 2 cap ∧ X = kX (cut w b).heap.size [.g (wK 2 1 (.slice (some ⟨g, 0, none⟩) 2 cap) 2 [.int .i64 9, .int .i64 9]), .g (hC w b)]) (by simp) (below_cut (Nat.le_of_lt hlt)) h0 (kX_stab (Sx.cx _ (cut w b) _) _) (fun c hc => by
    obtain ⟨k, hk, hc⟩ := kX_bs.1 hc
    rw [List.mem_singleton.1 hk] at hc
    exact (KnG.lt (hC w b) (h0 _ (List.mem_singleton.2 rfl)) c hc)) ?run) ?fin
  case fin =>
    rintro e w' ⟨v, X, rfl, ⟨g, cap, rfl, rfl⟩, hX, hbl, -⟩
    have k2 : (hC w b).ok (cut w b).heap.size w' := hX _ (List.mem_cons_of_mem _ (List.mem_singleton.2 rfl))
    exact ⟨(g, cap), rfl, hbl.os, hbl.tape, hbl.output, k2.2.1, fun i hi => k2.2.2 i hi⟩
  case run =>
    try dsimp only
    repeat' (first | simp (disch := omega) only [sxE, rebuild_Constants.E, Nat.reduceAdd, Nat.reduceEqDiff, Nat.reduceMul, Nat.reduceSub, Int.reduceAdd, Int.reduceSub, Int.reduceMul, Int.reduceNeg, Int.reduceLT, Int.reduceLE, Int.reduceEq, Int.reduceToNat, ↓reduceIte, Int.reducePow, Nat.reduceLeDiff, Nat.reduceLT, ne_eq, eq_self, List.length_cons, List.length_nil] | (refine ldP_hC (cs := [.int .i64 2, .int .i64 9]) (l := [.int .i64 2, .int .i64 9]) rfl (List.mem_singleton.2 rfl) hb rfl (fun j v h => by rw [Nat.zero_add]; exact h) ?_) | (rw [rebuild_Constants.p2_l]) | (with_reducible apply LX_round))
    refine genA_c (L := [.g (hC w b)]) (cs := [.int .i64 9]) (T := 2) (fun g => .slice (some ⟨g, 0, none⟩) 1 1) rfl (fun W => by kernel_rfl) fun b2 hb2 => ?_
    clear hb2
    repeat' (first | simp (disch := omega) only [sxE, rebuild_Constants.E, Nat.reduceAdd, Nat.reduceEqDiff, Nat.reduceMul, Nat.reduceSub, Int.reduceAdd, Int.reduceSub, Int.reduceMul, Int.reduceNeg, Int.reduceLT, Int.reduceLE, Int.reduceEq, Int.reduceToNat, ↓reduceIte, Int.reducePow, Nat.reduceLeDiff, Nat.reduceLT, ne_eq, eq_self, List.length_cons, List.length_nil] | (rw [rebuild_Constants.p2_l]) | (with_reducible apply LX_round))
    refine asks_kn (ι := Nat) (L := [.g (cK b2 [.int .i64 9]), .g (hC w b)]) (gs := []) (fun g => .slice (some ⟨g, 0, none⟩) 2 2) (fun g => [.g (cK g [.int .i64 9, .int .i64 9]), .g (hC w b)]) en_rept rfl (fun x hx => by cases hx) (fun W hok x hx => by cases hx) (fun W hW hok => ?rep) fun g => ?_
    case rep =>
      have k1 : (cK b2 [.int .i64 9]).ok (cut w b).heap.size W := hok _ List.mem_cons_self
      refine (repeat_two (w := W) (b := b2) k1.2).mono fun e w' ⟨g, h1, h2, h3, h4⟩ => ⟨g, h1, moves_below h2, fun k hk => ?_⟩
      rcases List.mem_cons.1 hk with rfl | hk
      · refine .inr ⟨⟨Nat.le_trans hW.size h3, h4⟩, fun c hc => .inr ?_⟩
        rw [List.mem_singleton.1 hc]
        exact h3
      · rw [List.mem_singleton.1 hk]
        exact .inl ⟨List.mem_cons_of_mem _ (List.mem_singleton.2 rfl), fun _ _ h => by cases h⟩
    repeat' (first | simp (disch := omega) only [sxE, rebuild_Constants.E, Nat.reduceAdd, Nat.reduceEqDiff, Nat.reduceMul, Nat.reduceSub, Int.reduceAdd, Int.reduceSub, Int.reduceMul, Int.reduceNeg, Int.reduceLT, Int.reduceLE, Int.reduceEq, Int.reduceToNat, ↓reduceIte, Int.reducePow, Nat.reduceLeDiff, Nat.reduceLT, ne_eq, eq_self, List.length_cons, List.length_nil] | (rw [rebuild_Constants.p2_l]) | (with_reducible apply LX_round))
    obtain ⟨i0, hi, hz0, hz1, hz2⟩ := info_parts info_i64
    refine genA_grow (P := Try.prog) rfl (L := [.g (cK g [.int .i64 9, .int .i64 9]), .g (hC w b)]) (fun g cap => [.g (wK 2 1 (.slice (some ⟨g, 0, none⟩) (0 + 2) cap) (0 + 2) ([] ++ [.int .i64 9, .int .i64 9])), .g (hC w b)]) Try.underlying22 hi hz0 hz1 hz2 rfl (by decide) rfl (fun W _ => World.ownsRow_nil _ _ _ _) (fun g h => by cases h) List.mem_cons_self rfl (by decide) (fun u hu => by
      rcases List.mem_cons.1 hu with rfl | hu
      · rfl
      · rw [List.mem_singleton.1 hu]; rfl) (by decide) (by decide) (fun g cap k hk => by
      rcases List.mem_cons.1 hk with rfl | hk
      · exact .inl rfl
      · rw [List.mem_singleton.1 hk]
        exact .inr ⟨List.mem_cons_of_mem _ (List.mem_singleton.2 rfl), fun _ _ h => by cases h⟩) fun g3 cap => ?_
    simp only [Nat.zero_add, List.nil_append]
    repeat' (first | simp (disch := omega) only [sxE, rebuild_Constants.E, Nat.reduceAdd, Nat.reduceEqDiff, Nat.reduceMul, Nat.reduceSub, Int.reduceAdd, Int.reduceSub, Int.reduceMul, Int.reduceNeg, Int.reduceLT, Int.reduceLE, Int.reduceEq, Int.reduceToNat, ↓reduceIte, Int.reducePow, Nat.reduceLeDiff, Nat.reduceLT, ne_eq, eq_self, List.length_cons, List.length_nil] | (rw [rebuild_Constants.p2_l]) | (with_reducible apply LX_round))
    exact ⟨g3, cap, rfl, rfl⟩
end Go.Proofs.Ytncmmbacoknefaa

/- CdR: MADE BY PROGRAM (sxgen.py): the small code of some functions, points of it and their equations. -/
namespace Go.Proofs.Ytncmmbacoknefaa
open Go Go.RowKit Sx
set_option linter.unusedVariables false
variable (C : Cx) (R L1 L2 L3 L4 : St → Prop)
namespace ratio_At
def r0 : List G := [(some 2, none, (.box true 10 (.tmp 0))), (some 4, none, (.new zW))]
def r1 : List G := [(some 11, none, (.ld true 10 (.tmp 2))), (some 12, none, (.call false 143 [(.tmp 11)])), (none, none, (.st true 10 (.tmp 2) (.tmp 12)))]
def r2 : List G := [(some 13, none, (.call false 109 [(.const (.int .i64 2))])), (some 5, none, (.new zW)), (none, none, (.st true 5 (.tmp 5) (.tmp 13)))]
def r3 : List G := [(some 15, none, (.ld true 5 (.tmp 5))), (some 16, none, (.fa 0 (.tmp 2))), (some 17, none, (.ld true 5 (.tmp 16))), (some 18, none, (.mv (.tmp 1))), (some 19, none, (.call true 111 [(.tmp 18)])), (some 20, none, (.call true 144 [(.tmp 17), (.tmp 19)])), (some 21, none, (.call true 144 [(.tmp 15), (.tmp 20)])), (some 22, none, (.fa 5 (.tmp 2))), (some 23, none, (.ld true 5 (.tmp 22))), (some 24, none, (.call true 84 [(.tmp 21), (.tmp 23)])), (some 14, none, (.mv (.tmp 24))), (some 25, none, (.ex (.tmp 14) 0)), (some 26, none, (.ex (.tmp 14) 1))]
def t3 : List G := [(some 6, none, (.new zW)), (none, none, (.st true 5 (.tmp 6) (.tmp 25))), (some 7, none, (.mv (.tmp 26)))]
def r4 : List G := [(some 28, none, (.ld true 5 (.tmp 6))), (some 29, none, (.ld true 5 (.tmp 5))), (some 30, none, (.fa 5 (.tmp 2))), (some 31, none, (.ld true 5 (.tmp 30))), (some 32, none, (.call true 144 [(.tmp 29), (.tmp 31)])), (some 33, none, (.call true 145 [(.tmp 28), (.tmp 32)])), (some 27, none, (.mv (.tmp 33))), (some 34, none, (.ex (.tmp 27) 0)), (some 35, none, (.ex (.tmp 27) 1)), (some 36, none, (.ex (.tmp 27) 2))]
def t4 : List G := [(some 8, none, (.new zW)), (some 9, none, (.new zW)), (none, none, (.st true 5 (.tmp 8) (.tmp 34))), (none, none, (.st true 5 (.tmp 9) (.tmp 35))), (some 10, none, (.mv (.tmp 36)))]
def r5 : List G := [(some 37, none, (.ld true 5 (.tmp 8))), (none, none, (.st true 5 (.tmp 4) (.tmp 37)))]
def c : MC := (.seq (.reg r0 (some [1, 2, 4])) (.seq (.reg r1 (some [1, 2, 4])) (.seq (.reg r2 (some [1, 2, 4, 5])) (.seq (.dreg r3 t3 (some [2, 4, 5, 6])) (.seq (.dreg r4 t4 (some [4, 8])) (.seq (.reg r5 (some [4])) .ret))))))
def ann : Ann := [(0, (some [1, 2, 4], 0, [], [], [])), (1, (some [1, 2, 4], 0, [], [], [])), (2, (some [1, 2, 4, 5], 0, [], [], [])), (3, (some [2, 4, 5, 6], 14, [12], [(0, 0), (1, 0), (2, 0), (3, 0), (4, 0), (5, 0), (6, 0), (7, 0), (8, 0), (9, 0), (10, 0), (11, 0), (12, 2)], [13])), (4, (some [4, 8], 12, [8, 9], [(0, 0), (1, 0), (2, 0), (3, 0), (4, 0), (5, 0), (6, 0), (7, 0), (8, 2), (9, 2)], [10, 11])), (5, (some [4], 0, [], [], []))]
theorem ok : compF Try.prog Try.f85 ann = some (38, c, [(4, some (true, 5))]) := by kernel_rfl
def p1 (S : St) : Prop := ops C r5 (kq [4] R) S
def p2 (S : St) : Prop := ops C r4 (ops C t4 (kq [4, 8] (p1 C R))) S
def p3 (S : St) : Prop := ops C r3 (ops C t3 (kq [2, 4, 5, 6] (p2 C R))) S
def p4 (S : St) : Prop := ops C r2 (kq [1, 2, 4, 5] (p3 C R)) S
def p5 (S : St) : Prop := ops C r1 (kq [1, 2, 4] (p4 C R)) S
def p6 (S : St) : Prop := ops C r0 (kq [1, 2, 4] (p5 C R)) S
theorem s (S : St) : X C c (retK R) S = p6 C R S := by kernel_rfl
theorem E : type_of% @r5.eq_1 ∧ type_of% @p1.eq_1 ∧ type_of% @r4.eq_1 ∧ type_of% @t4.eq_1 ∧ type_of% @p2.eq_1 ∧ type_of% @r3.eq_1 ∧ type_of% @t3.eq_1 ∧ type_of% @p3.eq_1 ∧ type_of% @r2.eq_1 ∧ type_of% @p4.eq_1 ∧ type_of% @r1.eq_1 ∧ type_of% @p5.eq_1 ∧ type_of% @r0.eq_1 ∧ type_of% @p6.eq_1 ∧ type_of% @s := ⟨@r5.eq_1, @p1.eq_1, @r4.eq_1, @t4.eq_1, @p2.eq_1, @r3.eq_1, @t3.eq_1, @p3.eq_1, @r2.eq_1, @p4.eq_1, @r1.eq_1, @p5.eq_1, @r0.eq_1, @p6.eq_1, @s⟩
end ratio_At
namespace ratio_Of
def r0 : List G := [(some 2, none, (.new zR))]
def r1 : List G := [(some 3, none, (.mv (.tmp 0))), (some 4, none, (.call false 109 [(.tmp 3)])), (some 5, none, (.call false 109 [(.const (.int .i64 1))])), (some 6, none, (.bd zR [(0, 5, (.tmp 4)), (5, 5, (.tmp 5))])), (none, none, (.st true 10 (.tmp 2) (.tmp 6)))]
def c : MC := (.seq (.reg r0 (some [0, 2])) (.seq (.reg r1 (some [2])) .ret))
def ann : Ann := [(0, (some [0, 2], 0, [], [], [])), (1, (some [2], 0, [], [], []))]
theorem ok : compF Try.prog Try.f112 ann = some (7, c, [(2, some (true, 10))]) := by kernel_rfl
def p1 (S : St) : Prop := ops C r1 (kq [2] R) S
def p2 (S : St) : Prop := ops C r0 (kq [0, 2] (p1 C R)) S
theorem s (S : St) : X C c (retK R) S = p2 C R S := by kernel_rfl
theorem E : type_of% @r1.eq_1 ∧ type_of% @p1.eq_1 ∧ type_of% @r0.eq_1 ∧ type_of% @p2.eq_1 ∧ type_of% @s := ⟨@r1.eq_1, @p1.eq_1, @r0.eq_1, @p2.eq_1, @s⟩
end ratio_Of
namespace ratio_Valid
def r0 : List G := [(some 1, none, (.box true 10 (.tmp 0))), (some 2, none, (.mv (.const (.bool false))))]
def r1 : List G := [(some 3, none, (.fa 0 (.tmp 1))), (some 4, none, (.ld true 5 (.tmp 3))), (some 5, none, (.call false 107 [(.tmp 4)])), (some 6, none, (.mv (.tmp 5))), (some 7, some (6, true), (.fa 5 (.tmp 1))), (some 8, some (6, true), (.ld true 5 (.tmp 7))), (some 9, some (6, true), (.call false 107 [(.tmp 8)])), (some 10, none, (.pick (.tmp 6) (.tmp 9) (.const (.bool false)))), (some 11, none, (.mv (.tmp 10))), (some 12, some (11, true), (.fa 5 (.tmp 1))), (some 13, some (11, true), (.ld true 5 (.tmp 12))), (some 14, some (11, true), (.call false 87 [(.tmp 13)])), (some 15, some (11, true), (.bin .gtr (.tmp 14) (.const (.int .i64 0)))), (some 16, none, (.pick (.tmp 11) (.tmp 15) (.const (.bool false)))), (some 17, none, (.mv (.tmp 16))), (some 18, some (17, true), (.fa 0 (.tmp 1))), (some 19, some (17, true), (.ld true 5 (.tmp 18))), (some 20, some (17, true), (.call false 155 [(.tmp 19)])), (some 21, none, (.pick (.tmp 17) (.tmp 20) (.const (.bool false)))), (some 22, none, (.mv (.tmp 21))), (some 23, some (22, true), (.fa 5 (.tmp 1))), (some 24, some (22, true), (.ld true 5 (.tmp 23))), (some 25, some (22, true), (.call false 155 [(.tmp 24)])), (some 26, none, (.pick (.tmp 22) (.tmp 25) (.const (.bool false)))), (some 27, none, (.mv (.tmp 26))), (some 28, some (27, true), (.fa 0 (.tmp 1))), (some 29, some (27, true), (.ld true 5 (.tmp 28))), (some 30, some (27, true), (.fa 5 (.tmp 1))), (some 31, some (27, true), (.ld true 5 (.tmp 30))), (some 32, some (27, true), (.call false 154 [(.tmp 29), (.tmp 31)])), (some 33, some (27, true), (.call false 109 [(.const (.int .i64 1))])), (some 34, some (27, true), (.eqg false 38 (.tmp 32) (.tmp 33))), (some 35, none, (.pick (.tmp 27) (.tmp 34) (.const (.bool false)))), (some 2, none, (.mv (.tmp 35)))]
def c : MC := (.seq (.reg r0 (some [1])) (.seq (.reg r1 (some [2])) .ret))
def ann : Ann := [(0, (some [1], 0, [], [], [])), (1, (some [2], 0, [], [], []))]
theorem ok : compF Try.prog Try.f115 ann = some (36, c, [(2, none)]) := by kernel_rfl
def p1 (S : St) : Prop := ops C r1 (kq [2] R) S
def p2 (S : St) : Prop := ops C r0 (kq [1] (p1 C R)) S
theorem s (S : St) : X C c (retK R) S = p2 C R S := by kernel_rfl
theorem E : type_of% @r1.eq_1 ∧ type_of% @p1.eq_1 ∧ type_of% @r0.eq_1 ∧ type_of% @p2.eq_1 ∧ type_of% @s := ⟨@r1.eq_1, @p1.eq_1, @r0.eq_1, @p2.eq_1, @s⟩
end ratio_Valid
namespace ratio_clean
def r0 : List G := [(some 1, none, (.box true 10 (.tmp 0))), (some 2, none, (.new zR))]
def r1 : List G := [(some 3, none, (.ld true 10 (.tmp 1))), (some 4, none, (.call false 115 [(.tmp 3)])), (some 5, none, (.un .not (.tmp 4)))]
def r2 : List G := [(some 6, none, (.call false 112 [(.const (.int .i64 0))])), (none, none, (.st true 10 (.tmp 2) (.tmp 6)))]
def r3 : List G := [(some 7, none, (.ld true 10 (.tmp 1))), (none, none, (.st true 10 (.tmp 2) (.tmp 7)))]
def c : MC := (.seq (.reg r0 (some [1, 2])) (.seq (.seq (.reg r1 (some [1, 2, 5])) (.cond (.tmp 5) (.seq (.reg r2 (some [2])) .ret) .skip)) (.seq (.reg r3 (some [2])) .ret)))
def ann : Ann := [(0, (some [1, 2], 0, [], [], [])), (1, (some [1, 2, 5], 0, [], [], [])), (2, (some [2], 0, [], [], [])), (3, (some [2], 0, [], [], []))]
theorem ok : compF Try.prog Try.f143 ann = some (8, c, [(2, some (true, 10))]) := by kernel_rfl
def p1 (S : St) : Prop := ops C r3 (kq [2] R) S
def p3 (S : St) : Prop := ops C r2 (kq [2] R) S
def p2 (S : St) : Prop := condX (S.ev (.tmp 5)) (p3 C R) (p1 C R) S
def p4 (S : St) : Prop := ops C r1 (kq [1, 2, 5] (p2 C R)) S
def p5 (S : St) : Prop := ops C r0 (kq [1, 2] (p4 C R)) S
theorem s (S : St) : X C c (retK R) S = p5 C R S := by kernel_rfl
theorem E : type_of% @r3.eq_1 ∧ type_of% @p1.eq_1 ∧ type_of% @r2.eq_1 ∧ type_of% @p3.eq_1 ∧ type_of% @p2.eq_1 ∧ type_of% @r1.eq_1 ∧ type_of% @p4.eq_1 ∧ type_of% @r0.eq_1 ∧ type_of% @p5.eq_1 ∧ type_of% @s := ⟨@r3.eq_1, @p1.eq_1, @r2.eq_1, @p3.eq_1, @p2.eq_1, @r1.eq_1, @p4.eq_1, @r0.eq_1, @p5.eq_1, @s⟩
end ratio_clean
namespace ratio_divisor
def r0 : List G := [(some 2, none, (.box true 5 (.tmp 0))), (some 3, none, (.box true 5 (.tmp 1))), (some 4, none, (.new zW))]
def r1 : List G := [(some 8, none, (.fa 0 (.tmp 2))), (none, none, (.st false 1 (.tmp 8) (.const (.bool false)))), (some 9, none, (.fa 0 (.tmp 3))), (none, none, (.st false 1 (.tmp 9) (.const (.bool false))))]
def r2 : List G := [(some 10, none, (.ld true 5 (.tmp 3))), (some 11, none, (.call false 87 [(.tmp 10)])), (some 12, none, (.bin .neq (.tmp 11) (.const (.int .i64 0))))]
def r3 : List G := [(some 14, none, (.ld true 5 (.tmp 2))), (some 15, none, (.ld true 5 (.tmp 3))), (some 16, none, (.call false 145 [(.tmp 14), (.tmp 15)])), (some 13, none, (.mv (.tmp 16))), (some 17, none, (.ex (.tmp 13) 0)), (some 18, none, (.ex (.tmp 13) 1)), (some 19, none, (.ex (.tmp 13) 2)), (some 5, none, (.new zW)), (some 6, none, (.new zW)), (none, none, (.st true 5 (.tmp 5) (.tmp 17))), (none, none, (.st true 5 (.tmp 6) (.tmp 18))), (some 7, none, (.mv (.tmp 19)))]
def o4 : List (List G) := [[(some 20, none, (.ld true 5 (.tmp 3))), (some 21, none, (.ld true 5 (.tmp 6))), (none, none, (.st true 5 (.tmp 2) (.tmp 20))), (none, none, (.st true 5 (.tmp 3) (.tmp 21)))],
  [(some 20, none, (.ld true 5 (.tmp 3))), (none, none, (.st true 5 (.tmp 2) (.tmp 20))), (some 21, none, (.ld true 5 (.tmp 6))), (none, none, (.st true 5 (.tmp 3) (.tmp 21)))],
  [(some 21, none, (.ld true 5 (.tmp 6))), (some 20, none, (.ld true 5 (.tmp 3))), (none, none, (.st true 5 (.tmp 2) (.tmp 20))), (none, none, (.st true 5 (.tmp 3) (.tmp 21)))]]
def r5 : List G := [(some 22, none, (.ld true 5 (.tmp 2))), (none, none, (.st true 5 (.tmp 4) (.tmp 22)))]
def c : MC := (.seq (.reg r0 (some [2, 3, 4])) (.seq (.reg r1 (some [2, 3, 4])) (.seq (.block 0 (.loop (.seq (.seq (.reg r2 (some [2, 3, 4, 12])) (.cond (.tmp 12) .skip (.exit 0))) (.block 1 (.seq (.reg r3 (some [2, 3, 4, 6])) (.areg [] o4 (some [2, 3, 4]))))))) (.seq (.reg r5 (some [4])) .ret))))
def ann : Ann := [(0, (some [2, 3, 4], 0, [], [], [])), (1, (some [2, 3, 4], 0, [], [], [])), (2, (some [2, 3, 4, 12], 0, [], [], [])), (3, (some [2, 3, 4, 6], 0, [], [], [])), (4, (some [2, 3, 4], 99999, [], [], [])), (5, (some [4], 0, [], [], []))]
theorem ok : compF Try.prog Try.f154 ann = some (23, c, [(4, some (true, 5))]) := by kernel_rfl
def p1 (S : St) : Prop := ops C r5 (kq [4] R) S
def p3 (S : St) : Prop := areX C [] o4 (kq [2, 3, 4] L1) S
def p4 (S : St) : Prop := ops C r3 (kq [2, 3, 4, 6] (p3 C L1)) S
def p5 (S : St) : Prop := condX (S.ev (.tmp 12)) (p4 C L1) (p1 C R) S
def p6 (S : St) : Prop := ops C r2 (kq [2, 3, 4, 12] (p5 C R L1)) S
def p2 (S : St) : Prop := LX C (fun L1 => (p6 C R L1)) S
theorem p2_l (S : St) : p2 C R S = LX C (fun L1 => (p6 C R L1)) S := rfl
def p7 (S : St) : Prop := ops C r1 (kq [2, 3, 4] (p2 C R)) S
def p8 (S : St) : Prop := ops C r0 (kq [2, 3, 4] (p7 C R)) S
theorem s (S : St) : X C c (retK R) S = p8 C R S := by kernel_rfl
theorem E : type_of% @r5.eq_1 ∧ type_of% @p1.eq_1 ∧ type_of% @o4.eq_1 ∧ type_of% @p3.eq_1 ∧ type_of% @r3.eq_1 ∧ type_of% @p4.eq_1 ∧ type_of% @p5.eq_1 ∧ type_of% @r2.eq_1 ∧ type_of% @p6.eq_1 ∧ type_of% @r1.eq_1 ∧ type_of% @p7.eq_1 ∧ type_of% @r0.eq_1 ∧ type_of% @p8.eq_1 ∧ type_of% @s := ⟨@r5.eq_1, @p1.eq_1, @o4.eq_1, @p3.eq_1, @r3.eq_1, @p4.eq_1, @p5.eq_1, @r2.eq_1, @p6.eq_1, @r1.eq_1, @p7.eq_1, @r0.eq_1, @p8.eq_1, @s⟩
end ratio_divisor
namespace ratio_product
def r0 : List G := [(some 2, none, (.box true 5 (.tmp 0))), (some 3, none, (.box true 5 (.tmp 1))), (some 4, none, (.new zW))]
def r1 : List G := [(some 8, none, (.ld true 5 (.tmp 2))), (some 9, none, (.ld true 5 (.tmp 3))), (some 10, none, (.call false 119 [(.tmp 8), (.tmp 9)])), (some 7, none, (.mv (.tmp 10))), (some 11, none, (.ex (.tmp 7) 0)), (some 12, none, (.ex (.tmp 7) 1)), (some 5, none, (.new zW)), (none, none, (.st true 5 (.tmp 5) (.tmp 11))), (some 6, none, (.mv (.tmp 12)))]
def r2 : List G := [(some 13, none, (.ld true 5 (.tmp 5))), (none, none, (.st true 5 (.tmp 4) (.tmp 13)))]
def c : MC := (.seq (.reg r0 (some [2, 3, 4])) (.seq (.reg r1 (some [4, 5])) (.seq (.reg r2 (some [4])) .ret)))
def ann : Ann := [(0, (some [2, 3, 4], 0, [], [], [])), (1, (some [4, 5], 0, [], [], [])), (2, (some [4], 0, [], [], []))]
theorem ok : compF Try.prog Try.f144 ann = some (14, c, [(4, some (true, 5))]) := by kernel_rfl
def p1 (S : St) : Prop := ops C r2 (kq [4] R) S
def p2 (S : St) : Prop := ops C r1 (kq [4, 5] (p1 C R)) S
def p3 (S : St) : Prop := ops C r0 (kq [2, 3, 4] (p2 C R)) S
theorem s (S : St) : X C c (retK R) S = p3 C R S := by kernel_rfl
theorem E : type_of% @r2.eq_1 ∧ type_of% @p1.eq_1 ∧ type_of% @r1.eq_1 ∧ type_of% @p2.eq_1 ∧ type_of% @r0.eq_1 ∧ type_of% @p3.eq_1 ∧ type_of% @s := ⟨@r2.eq_1, @p1.eq_1, @r1.eq_1, @p2.eq_1, @r0.eq_1, @p3.eq_1, @s⟩
end ratio_product
namespace ratio_small
def r0 : List G := [(some 1, none, (.box true 5 (.tmp 0))), (some 2, none, (.mv (.const (.bool false))))]
def r1 : List G := [(some 3, none, (.fa 1 (.tmp 1))), (some 4, none, (.ia 4 1 (.tmp 3) (.const (.int .i64 3)))), (some 5, none, (.ld false 1 (.tmp 4))), (some 6, none, (.bin .eql (.tmp 5) (.const (.int .u64 0)))), (some 7, none, (.mv (.tmp 6))), (some 8, some (7, true), (.fa 1 (.tmp 1))), (some 9, some (7, true), (.ia 4 1 (.tmp 8) (.const (.int .i64 2)))), (some 10, some (7, true), (.ld false 1 (.tmp 9))), (some 11, some (7, true), (.bin .eql (.tmp 10) (.const (.int .u64 0)))), (some 12, none, (.pick (.tmp 7) (.tmp 11) (.const (.bool false)))), (some 13, none, (.mv (.tmp 12))), (some 14, some (13, true), (.fa 1 (.tmp 1))), (some 15, some (13, true), (.ia 4 1 (.tmp 14) (.const (.int .i64 1)))), (some 16, some (13, true), (.ld false 1 (.tmp 15))), (some 17, some (13, true), (.bin .shr (.tmp 16) (.const (.int .u64 63)))), (some 18, some (13, true), (.bin .eql (.tmp 17) (.const (.int .u64 0)))), (some 19, none, (.pick (.tmp 13) (.tmp 18) (.const (.bool false)))), (some 2, none, (.mv (.tmp 19)))]
def c : MC := (.seq (.reg r0 (some [1])) (.seq (.reg r1 (some [2])) .ret))
def ann : Ann := [(0, (some [1], 0, [], [], [])), (1, (some [2], 0, [], [], []))]
theorem ok : compF Try.prog Try.f155 ann = some (20, c, [(2, none)]) := by kernel_rfl
def p1 (S : St) : Prop := ops C r1 (kq [2] R) S
def p2 (S : St) : Prop := ops C r0 (kq [1] (p1 C R)) S
theorem s (S : St) : X C c (retK R) S = p2 C R S := by kernel_rfl
theorem E : type_of% @r1.eq_1 ∧ type_of% @p1.eq_1 ∧ type_of% @r0.eq_1 ∧ type_of% @p2.eq_1 ∧ type_of% @s := ⟨@r1.eq_1, @p1.eq_1, @r0.eq_1, @p2.eq_1, @s⟩
end ratio_small
end Go.Proofs.Ytncmmbacoknefaa

/- Qa: What calls of the program's ratio give. -/
namespace Go.Proofs.Ytncmmbacoknefaa
open Go Go.RowKit Sx
set_option linter.unusedVariables false
set_option linter.unusedSimpArgs false
theorem small_plain {m : Int} (h : A4 m) : m < ((2 ^ 127 : Nat) : Int) ↔ lb3 m = 0 ∧ lb2 m = 0 ∧ (lb1 m).fdiv 9223372036854775808 = 0 := by
  have e := mv_me h
  have h0 := lb0_in m
  have h1 := lb1_in m
  have h2 := lb2_in m
  have h3 := lb3_in m
  rw [Int.fdiv_eq_ediv_of_nonneg _ (by decide)]
  rw [show ((2 ^ 127 : Nat) : Int) = 170141183460469231731687303715884105728 by decide]
  unfold MV at e
  unfold U64 at *
  generalize lb0 m = a at *
  generalize lb1 m = b at *
  generalize lb2 m = c at *
  generalize lb3 m = d at *
  clear h
  omega
theorem gx_small {z : Int} (h : Fits z) (W : World) : Gives Try.prog 155 [WX z] W (· = .bool (decide (ab z < ((2 ^ 127 : Nat) : Int)))) := by
  have e := small_plain (m := ab z) ⟨ab_nonneg z, (fits_lt z).1 h⟩
  have hb := lb1_in (ab z)
  have sh : ∀ a : Int, Int.fdiv a (2 ^ 63) = a.fdiv 9223372036854775808 := fun a => rfl
  refine gives_known en_ratio_small ?_
  rw [show decide (ab z < ((2 ^ 127 : Nat) : Int)) = (decide (lb3 (ab z) = 0) && (decide (lb2 (ab z) = 0) && decide ((lb1 (ab z)).fdiv 9223372036854775808 = 0))) by rw [Bool.eq_iff_iff, decide_eq_true_iff, e]; simp]
  clear e h
  refine known_of (enter Try.func155 ratio_small.ok (args := [WX z]) (by simp) ?_)
  repeat' (first | simp (disch := omega) only [sxE, ratio_small.E, Nat.reduceAdd, Nat.reduceEqDiff, Nat.reduceMul, Nat.reduceSub, Int.reduceAdd, Int.reduceSub, Int.reduceMul, Int.reduceNeg, Int.reduceLT, Int.reduceLE, Int.reduceEq, Int.reduceToNat, ↓reduceIte, Int.reducePow, Nat.reduceLeDiff, Nat.reduceLT, ne_eq, eq_self, List.length_cons, List.length_nil, qxE] | ((with_reducible first | apply cond_beq | apply gd_beq) <;> (intro hc; first | simp only [beq_iff_eq.2 hc] | simp only [beq_eq_false_iff_ne.2 hc] | skip)) | ((with_reducible first | apply cond_dec | apply gd_dec) <;> (intro hc; first | simp only [decide_eq_true hc] | simp only [decide_eq_false hc] | skip)) | ((with_reducible first | apply cond_of | apply gd_of) <;> (intro hc; try simp only [hc])))
  all_goals (refine vb ?_; rw [Bool.eq_iff_iff]; simp_all)
def gcF (x : Int × Int) : St := ⟨3, [(2, .p 0 0), (3, .p 1 0), (4, .p 2 0)], [(0, wc x.1), (1, wc x.2), (2, [.bool false, .int .u64 0, .int .u64 0, .int .u64 0, .int .u64 0])], ext0⟩
set_option maxRecDepth 100000 in
theorem gx_divisor {z y : Int} (h : Fits z) (h' : Fits y) (W : World) : Gives Try.prog 154 [WX z, WX y] W (· = WX (gc z y)) := by
  refine gives_known en_ratio_divisor ?_
  rw [← gc_abs]
  have f1 : Fits (ab z) := fits_le h (by rw [ab_ab]; exact Int.le_refl _)
  have f2 : Fits (ab y) := fits_le h' (by rw [ab_ab]; exact Int.le_refl _)
  have n1 := ab_nonneg z
  have n2 := ab_nonneg y
  have g1 := sg_ab z
  have g2 := sg_ab y
  have a1 := ab_ab z
  have a2 := ab_ab y
  clear h h'
  refine known_of (enter Try.func154 ratio_divisor.ok (args := [WX z, WX y]) (by simp) ?_)
  repeat' (first | simp (disch := omega) only [sxE, ratio_divisor.E, Nat.reduceAdd, Nat.reduceEqDiff, Nat.reduceMul, Nat.reduceSub, Int.reduceAdd, Int.reduceSub, Int.reduceMul, Int.reduceNeg, Int.reduceLT, Int.reduceLE, Int.reduceEq, Int.reduceToNat, ↓reduceIte, Int.reducePow, Nat.reduceLeDiff, Nat.reduceLT, ne_eq, eq_self, List.length_cons, List.length_nil, qxE])
  rw [ratio_divisor.p2_l]
  refine LX_inv gcF (fun x => 0 ≤ x.1 ∧ 0 ≤ x.2 ∧ Fits x.1 ∧ Fits x.2 ∧ gc x.1 x.2 = gc (ab z) (ab y)) (fun x => x.2.toNat) ?round (ab z, ab y) ⟨n1, n2, f1, f2, rfl⟩ ?start
  case start =>
    unfold gcF wc
    dsimp only
    rw [g1, g2, a1, a2]
    simp (disch := omega) only [sxE, ratio_divisor.E, Nat.reduceAdd, Nat.reduceEqDiff, Nat.reduceMul, Nat.reduceSub, Int.reduceAdd, Int.reduceSub, Int.reduceMul, Int.reduceNeg, Int.reduceLT, Int.reduceLE, Int.reduceEq, Int.reduceToNat, ↓reduceIte, Int.reducePow, Nat.reduceLeDiff, Nat.reduceLT, ne_eq, eq_self, List.length_cons, List.length_nil]
  case round =>
    rintro ⟨x, w⟩ ⟨h1, h2, h3, h4, h5⟩
    dsimp only at h1 h2 h3 h4 h5 ⊢
    rw [← h5]
    clear h5 f1 f2 n1 n2 g1 g2 a1 a2
    have hcm := cm_zero w
    unfold gcF wc
    dsimp only
    by_cases hw : w = 0
    · subst hw
      rw [gc_zero x h1]
      have hc0 : cm 0 0 = 0 := rfl
      repeat' (first | simp (disch := omega) only [sxE, ratio_divisor.E, Nat.reduceAdd, Nat.reduceEqDiff, Nat.reduceMul, Nat.reduceSub, Int.reduceAdd, Int.reduceSub, Int.reduceMul, Int.reduceNeg, Int.reduceLT, Int.reduceLE, Int.reduceEq, Int.reduceToNat, ↓reduceIte, Int.reducePow, Nat.reduceLeDiff, Nat.reduceLT, ne_eq, eq_self, List.length_cons, List.length_nil, qxE, hc0] | (with_reducible refine Sx.call_at (f := 87) (fun W hW => gx_sign h4 W) ?_))
    · have hc0 : cm w 0 ≠ 0 := by rw [hcm]; (repeat' split) <;> omega
      have hq := fits_emod (z := x) h4 hw
      have hm0 := Int.emod_nonneg x hw
      have hm1 := Int.emod_lt_of_pos x (show 0 < w by omega)
      have hgs := gc_step h1 (show 0 < w by omega)
      clear hcm
      repeat' (first | simp (disch := omega) only [sxE, ratio_divisor.E, Nat.reduceAdd, Nat.reduceEqDiff, Nat.reduceMul, Nat.reduceSub, Int.reduceAdd, Int.reduceSub, Int.reduceMul, Int.reduceNeg, Int.reduceLT, Int.reduceLE, Int.reduceEq, Int.reduceToNat, ↓reduceIte, Int.reducePow, Nat.reduceLeDiff, Nat.reduceLT, ne_eq, eq_self, List.length_cons, List.length_nil, qxE] | (with_reducible refine Sx.call_at (f := 87) (fun W hW => gx_sign h4 W) ?_) | (with_reducible refine Sx.call_at (f := 145) (fun W hW => gx_divmod h3 h4 hw W) ?_))
      exact ⟨(w, x % w), ⟨h2, hm0, h4, hq, hgs⟩, by dsimp only; omega, by repeat' (first | (with_reducible rfl) | (exact Or.inl rfl) | apply And.intro)⟩
theorem gc_le_ab (x y : Int) : gc x y ≤ ab x ∨ gc x y ≤ ab y := by
  by_cases h : y = 0
  · left; subst h; rw [← gc_abs]; rw [show ab 0 = 0 from rfl, gc_zero _ (ab_nonneg x)]; exact Int.le_refl _
  · right
    rw [← gc_abs]
    exact gc_le (by have := ab_nonneg y; have := ab_zero_iff (z := y); omega)
theorem fits_gc {x y : Int} (h : Fits x) (h' : Fits y) : Fits (gc x y) := by
  rcases gc_le_ab x y with e | e
  · exact fits_le h (by rw [ab_pos (gc_nonneg x y)]; exact e)
  · exact fits_le h' (by rw [ab_pos (gc_nonneg x y)]; exact e)
theorem fits_one : Fits 1 := rfl
theorem cm_pos (z : Int) : 0 < cm z 0 ↔ 0 < z := by rw [cm_zero]; (repeat' split) <;> omega
theorem i64_one : I64 1 := ⟨by decide, by decide⟩
set_option maxRecDepth 100000 in
theorem gx_rvalid {p q : Int} (h : Fits p) (h' : Fits q) (W : World) : Gives Try.prog 115 [RX p q] W (· = .bool (rok true p q)) := by
  have hg := fits_gc h h'
  refine gives_known en_ratio_Valid ?_
  have hcm := cm_pos q
  refine known_of (enter Try.func115 ratio_Valid.ok (args := [RX p q]) (by simp) ?_)
  repeat' (first | simp (disch := omega) only [sxE, ratio_Valid.E, Nat.reduceAdd, Nat.reduceEqDiff, Nat.reduceMul, Nat.reduceSub, Int.reduceAdd, Int.reduceSub, Int.reduceMul, Int.reduceNeg, Int.reduceLT, Int.reduceLE, Int.reduceEq, Int.reduceToNat, ↓reduceIte, Int.reducePow, Nat.reduceLeDiff, Nat.reduceLT, ne_eq, eq_self, List.length_cons, List.length_nil, qxE] | (with_reducible refine Sx.call_at (f := 107) (fun W hW => gx_valid h W) ?_) | (with_reducible refine Sx.call_at (f := 107) (fun W hW => gx_valid h' W) ?_) | (with_reducible refine Sx.call_at (f := 87) (fun W hW => gx_sign h' W) ?_) | (with_reducible refine Sx.call_at (f := 155) (fun W hW => gx_small h W) ?_) | (with_reducible refine Sx.call_at (f := 155) (fun W hW => gx_small h' W) ?_) | (with_reducible refine Sx.call_at (f := 154) (fun W hW => gx_divisor h h' W) ?_) | (with_reducible refine Sx.call_at (f := 109) (fun W hW => gx_of i64_one W) ?_) | ((with_reducible apply Sx.eq_is); (case h => exact fun W => eqx_run hg fits_one W); (case' hk => skip)) | ((with_reducible first | apply cond_beq | apply gd_beq) <;> (intro hc; first | simp only [beq_iff_eq.2 hc] | simp only [beq_eq_false_iff_ne.2 hc] | skip)) | ((with_reducible first | apply cond_dec | apply gd_dec) <;> (intro hc; first | simp only [decide_eq_true hc] | simp only [decide_eq_false hc] | skip)) | ((with_reducible first | apply cond_of | apply gd_of) <;> (intro hc; try simp only [hc])))
  all_goals (refine vb ?_; unfold rok; rw [Bool.eq_iff_iff]; simp_all <;> (intros; omega))
/-- A raw Ratio with a negative 0. -/
def BadR (v : Value) : Prop := (∃ q, Fits q ∧ v = .agg #[.bool true, .int .u64 0, .int .u64 0, .int .u64 0, .int .u64 0, .bool (sg q), .int .u64 (lb0 (ab q)), .int .u64 (lb1 (ab q)), .int .u64 (lb2 (ab q)), .int .u64 (lb3 (ab q))]) ∨
  (∃ p, Fits p ∧ v = .agg #[.bool (sg p), .int .u64 (lb0 (ab p)), .int .u64 (lb1 (ab p)), .int .u64 (lb2 (ab p)), .int .u64 (lb3 (ab p)), .bool true, .int .u64 0, .int .u64 0, .int .u64 0, .int .u64 0]) ∨
  v = .agg #[.bool true, .int .u64 0, .int .u64 0, .int .u64 0, .int .u64 0, .bool true, .int .u64 0, .int .u64 0, .int .u64 0, .int .u64 0]
theorem gx_rvalid0 {v : Value} (h : BadR v) (W : World) : Gives Try.prog 115 [v] W (· = .bool false) := by
  refine gives_known en_ratio_Valid ?_
  rcases h with ⟨q, h, rfl⟩ | ⟨p, h, rfl⟩ | rfl
  · refine known_of (enter Try.func115 ratio_Valid.ok (args := [_]) (by simp) ?_)
    repeat' (first | simp (disch := omega) only [sxE, ratio_Valid.E, Nat.reduceAdd, Nat.reduceEqDiff, Nat.reduceMul, Nat.reduceSub, Int.reduceAdd, Int.reduceSub, Int.reduceMul, Int.reduceNeg, Int.reduceLT, Int.reduceLE, Int.reduceEq, Int.reduceToNat, ↓reduceIte, Int.reducePow, Nat.reduceLeDiff, Nat.reduceLT, ne_eq, eq_self, List.length_cons, List.length_nil, qxE] | (with_reducible refine Sx.call_at (f := 107) (fun W hW => gx_valid0 W) ?_))
  · refine known_of (enter Try.func115 ratio_Valid.ok (args := [_]) (by simp) ?_)
    repeat' (first | simp (disch := omega) only [sxE, ratio_Valid.E, Nat.reduceAdd, Nat.reduceEqDiff, Nat.reduceMul, Nat.reduceSub, Int.reduceAdd, Int.reduceSub, Int.reduceMul, Int.reduceNeg, Int.reduceLT, Int.reduceLE, Int.reduceEq, Int.reduceToNat, ↓reduceIte, Int.reducePow, Nat.reduceLeDiff, Nat.reduceLT, ne_eq, eq_self, List.length_cons, List.length_nil, qxE] | (with_reducible refine Sx.call_at (f := 107) (fun W hW => gx_valid h W) ?_) | (with_reducible refine Sx.call_at (f := 107) (fun W hW => gx_valid0 W) ?_))
  · refine known_of (enter Try.func115 ratio_Valid.ok (args := [_]) (by simp) ?_)
    repeat' (first | simp (disch := omega) only [sxE, ratio_Valid.E, Nat.reduceAdd, Nat.reduceEqDiff, Nat.reduceMul, Nat.reduceSub, Int.reduceAdd, Int.reduceSub, Int.reduceMul, Int.reduceNeg, Int.reduceLT, Int.reduceLE, Int.reduceEq, Int.reduceToNat, ↓reduceIte, Int.reducePow, Nat.reduceLeDiff, Nat.reduceLT, ne_eq, eq_self, List.length_cons, List.length_nil, qxE] | (with_reducible refine Sx.call_at (f := 107) (fun W hW => gx_valid0 W) ?_))
theorem gx_rof {z : Int} (h : I64 z) (W : World) : Gives Try.prog 112 [.int .i64 z] W (· = RX z 1) := by
  refine gives_known en_ratio_Of ?_
  refine known_of (enter Try.func112 ratio_Of.ok (args := [_]) (by simp) ?_)
  repeat' (first | simp (disch := omega) only [sxE, ratio_Of.E, Nat.reduceAdd, Nat.reduceEqDiff, Nat.reduceMul, Nat.reduceSub, Int.reduceAdd, Int.reduceSub, Int.reduceMul, Int.reduceNeg, Int.reduceLT, Int.reduceLE, Int.reduceEq, Int.reduceToNat, ↓reduceIte, Int.reducePow, Nat.reduceLeDiff, Nat.reduceLT, ne_eq, eq_self, List.length_cons, List.length_nil, qxE] | (with_reducible refine Sx.call_at (f := 109) (fun W hW => gx_of h W) ?_) | (with_reducible refine Sx.call_at (f := 109) (fun W hW => gx_of i64_one W) ?_))
/-- v is a raw Ratio that counts as p / q. -/
def CQ (v : Value) (p q : Int) : Prop := (∃ x y, Fits x ∧ Fits y ∧ v = RX x y ∧ p = qn true x y ∧ q = qd true x y) ∨ (BadR v ∧ p = 0 ∧ q = 1)
theorem CQ.fq {v : Value} {p q : Int} (h : CQ v p q) : Fq p q := by
  rcases h with ⟨x, y, -, -, -, rfl, rfl⟩ | ⟨-, rfl, rfl⟩
  · exact fq_clean _ _ _
  · exact fq_zero
theorem Fq.cq {p q : Int} (h : Fq p q) : CQ (RX p q) p q := by
  have : rok true p q = true := rok_iff.2 ⟨rfl, h⟩
  exact .inl ⟨p, q, h.fp, h.fq, rfl, by unfold qn; rw [this]; rfl, by unfold qd; rw [this]; rfl⟩
set_option maxRecDepth 100000 in
theorem gx_rclean {v : Value} {p q : Int} (h : CQ v p q) (W : World) : Gives Try.prog 143 [v] W (· = RX p q) := by
  refine gives_known en_ratio_clean ?_
  rcases h with ⟨x, y, h1, h2, rfl, rfl, rfl⟩ | ⟨h, rfl, rfl⟩
  · unfold qn qd
    cases hk : rok true x y
    · refine known_of (enter Try.func143 ratio_clean.ok (args := [_]) (by simp) ?_)
      repeat' (first | simp (disch := omega) only [sxE, ratio_clean.E, Nat.reduceAdd, Nat.reduceEqDiff, Nat.reduceMul, Nat.reduceSub, Int.reduceAdd, Int.reduceSub, Int.reduceMul, Int.reduceNeg, Int.reduceLT, Int.reduceLE, Int.reduceEq, Int.reduceToNat, ↓reduceIte, Int.reducePow, Nat.reduceLeDiff, Nat.reduceLT, ne_eq, eq_self, List.length_cons, List.length_nil, qxE, hk] | (with_reducible refine Sx.call_at (f := 115) (fun W hW => gx_rvalid h1 h2 W) ?_) | (with_reducible refine Sx.call_at (f := 112) (fun W hW => gx_rof i64_zero W) ?_))
    · refine known_of (enter Try.func143 ratio_clean.ok (args := [_]) (by simp) ?_)
      repeat' (first | simp (disch := omega) only [sxE, ratio_clean.E, Nat.reduceAdd, Nat.reduceEqDiff, Nat.reduceMul, Nat.reduceSub, Int.reduceAdd, Int.reduceSub, Int.reduceMul, Int.reduceNeg, Int.reduceLT, Int.reduceLE, Int.reduceEq, Int.reduceToNat, ↓reduceIte, Int.reducePow, Nat.reduceLeDiff, Nat.reduceLT, ne_eq, eq_self, List.length_cons, List.length_nil, qxE, hk] | (with_reducible refine Sx.call_at (f := 115) (fun W hW => gx_rvalid h1 h2 W) ?_) | (with_reducible refine Sx.call_at (f := 112) (fun W hW => gx_rof i64_zero W) ?_))
  · have hv := fun W => gx_rvalid0 h W
    rcases h with ⟨q, h, rfl⟩ | ⟨p, h, rfl⟩ | rfl
    · refine known_of (enter Try.func143 ratio_clean.ok (args := [_]) (by simp) ?_)
      repeat' (first | simp (disch := omega) only [sxE, ratio_clean.E, Nat.reduceAdd, Nat.reduceEqDiff, Nat.reduceMul, Nat.reduceSub, Int.reduceAdd, Int.reduceSub, Int.reduceMul, Int.reduceNeg, Int.reduceLT, Int.reduceLE, Int.reduceEq, Int.reduceToNat, ↓reduceIte, Int.reducePow, Nat.reduceLeDiff, Nat.reduceLT, ne_eq, eq_self, List.length_cons, List.length_nil, qxE] | (with_reducible refine Sx.call_at (f := 115) (fun W hW => hv W) ?_) | (with_reducible refine Sx.call_at (f := 112) (fun W hW => gx_rof i64_zero W) ?_))
    · refine known_of (enter Try.func143 ratio_clean.ok (args := [_]) (by simp) ?_)
      repeat' (first | simp (disch := omega) only [sxE, ratio_clean.E, Nat.reduceAdd, Nat.reduceEqDiff, Nat.reduceMul, Nat.reduceSub, Int.reduceAdd, Int.reduceSub, Int.reduceMul, Int.reduceNeg, Int.reduceLT, Int.reduceLE, Int.reduceEq, Int.reduceToNat, ↓reduceIte, Int.reducePow, Nat.reduceLeDiff, Nat.reduceLT, ne_eq, eq_self, List.length_cons, List.length_nil, qxE] | (with_reducible refine Sx.call_at (f := 115) (fun W hW => hv W) ?_) | (with_reducible refine Sx.call_at (f := 112) (fun W hW => gx_rof i64_zero W) ?_))
    · refine known_of (enter Try.func143 ratio_clean.ok (args := [_]) (by simp) ?_)
      repeat' (first | simp (disch := omega) only [sxE, ratio_clean.E, Nat.reduceAdd, Nat.reduceEqDiff, Nat.reduceMul, Nat.reduceSub, Int.reduceAdd, Int.reduceSub, Int.reduceMul, Int.reduceNeg, Int.reduceLT, Int.reduceLE, Int.reduceEq, Int.reduceToNat, ↓reduceIte, Int.reducePow, Nat.reduceLeDiff, Nat.reduceLT, ne_eq, eq_self, List.length_cons, List.length_nil, qxE] | (with_reducible refine Sx.call_at (f := 115) (fun W hW => hv W) ?_) | (with_reducible refine Sx.call_at (f := 112) (fun W hW => gx_rof i64_zero W) ?_))
end Go.Proofs.Ytncmmbacoknefaa

/- Ql: Plain laws of fractions. -/
namespace Go.Proofs.Ytncmmbacoknefaa
set_option linter.unusedVariables false
set_option linter.unusedSimpArgs false
theorem km_le (x y : Int) : cm x y ≤ 0 ↔ x ≤ y := by unfold cm; (repeat' split) <;> omega
theorem km_lt (x y : Int) : cm x y < 0 ↔ x < y := by unfold cm; (repeat' split) <;> omega
/-- Which of two fractions is greater. -/
def cq (p q p' q' : Int) : Int := cm (p * q') (p' * q)
def atq (p q n : Int) : Int := (2 * (p * n) + q) / (2 * q)
end Go.Proofs.Ytncmmbacoknefaa

/- Qb: What calls of the program's ratio give: Compare, Floor, Ceil, At, Make. -/
namespace Go.Proofs.Ytncmmbacoknefaa
open Go Go.RowKit Sx
set_option linter.unusedVariables false
set_option linter.unusedSimpArgs false
theorem CQ.ten {v : Value} {p q : Int} (h : CQ v p q) : ∃ c0 c1 c2 c3 c4 c5 c6 c7 c8 c9, v = .agg #[c0, c1, c2, c3, c4, c5, c6, c7, c8, c9] := by
  rcases h with ⟨x, y, -, -, rfl, -, -⟩ | ⟨⟨q, -, rfl⟩ | ⟨p, -, rfl⟩ | rfl, -, -⟩ <;> exact ⟨_, _, _, _, _, _, _, _, _, _, rfl⟩
theorem gx_product {x y : Int} (h : Fits x) (h' : Fits y) (hf : Fits (x * y)) (W : World) : Gives Try.prog 144 [WX x, WX y] W (· = WX (x * y)) := by
  refine gives_known en_ratio_product ?_
  refine known_of (enter Try.func144 ratio_product.ok (args := [_, _]) (by simp) ?_)
  repeat' (first | simp (disch := omega) only [sxE, ratio_product.E, Nat.reduceAdd, Nat.reduceEqDiff, Nat.reduceMul, Nat.reduceSub, Int.reduceAdd, Int.reduceSub, Int.reduceMul, Int.reduceNeg, Int.reduceLT, Int.reduceLE, Int.reduceEq, Int.reduceToNat, ↓reduceIte, Int.reducePow, Nat.reduceLeDiff, Nat.reduceLT, ne_eq, eq_self, List.length_cons, List.length_nil, qxE] | (with_reducible refine Sx.call_at (f := 119) (fun W hW => gx_mul h h' hf W) ?_))
theorem Fq.fm {p q p' q' : Int} (h : Fq p q) (h' : Fq p' q') : Fits (p * q') := (bd_mul h.bp h'.bq).fits
theorem Fq.neg {p q : Int} (h : Fq p q) : Fq (-p) q := ⟨h.pos, bd_neg h.bp, h.bq, by rw [gc_neg]; exact h.gc⟩
theorem bd_two : Bd 2 2 := by unfold Bd; decide
theorem gx_rat {v : Value} {p q n : Int} (h : CQ v p q) (hn : U64 n) (W : World) : Gives Try.prog 85 [v, .int .u64 n] W (· = WX (atq p q n)) := by
  obtain ⟨c0, c1, c2, c3, c4, c5, c6, c7, c8, c9, rfl⟩ := h.ten
  have f := h.fq
  have b1 := bd_mul f.bp (bd_u64 hn)
  have b2 := bd_mul bd_two b1
  have b3 := bd_add (c := 194) b2 f.bq (by decide) (by decide)
  have b4 := bd_mul bd_two f.bq
  have f1 := b1.fits
  have f2 := b2.fits
  have f3 := b3.fits
  have f4 := b4.fits
  have fn := (bd_u64 hn).fits
  have ft := bd_two.fits
  have i2 : I64 2 := ⟨by decide, by decide⟩
  have ne : 2 * q ≠ 0 := by have := f.pos; omega
  clear b1 b2 b3 b4
  refine gives_known en_ratio_At ?_
  refine known_of (enter Try.func85 ratio_At.ok (args := [_, _]) (by simp) ?_)
  repeat' (first | simp (disch := omega) only [sxE, ratio_At.E, Nat.reduceAdd, Nat.reduceEqDiff, Nat.reduceMul, Nat.reduceSub, Int.reduceAdd, Int.reduceSub, Int.reduceMul, Int.reduceNeg, Int.reduceLT, Int.reduceLE, Int.reduceEq, Int.reduceToNat, ↓reduceIte, Int.reducePow, Nat.reduceLeDiff, Nat.reduceLT, ne_eq, eq_self, List.length_cons, List.length_nil, qxE] | (with_reducible refine Sx.call_at (f := 143) (fun W hW => gx_rclean h W) ?_) | (with_reducible refine Sx.call_at (f := 109) (fun W hW => gx_of i2 W) ?_) | (with_reducible refine Sx.call_at (f := 111) (fun W hW => gx_ofU hn W) ?_) | (with_reducible refine Sx.call_at (f := 144) (fun W hW => gx_product f.fp fn f1 W) ?_) | (with_reducible refine Sx.call_at (f := 144) (fun W hW => gx_product ft f1 f2 W) ?_) | (with_reducible refine Sx.call_at (f := 144) (fun W hW => gx_product ft f.fq f4 W) ?_) | (with_reducible refine Sx.call_at (f := 84) (fun W hW => gx_add f2 f.fq f3 W) ?_) | (with_reducible refine Sx.call_at (f := 145) (fun W hW => gx_divmod f3 f4 ne W) ?_))
  rfl
/-- What Make returns. -/
def mkV (b : Bool) (z y : Int) : Value := if mok b z y then .tuple #[RX (mn z y) (mD z y), .bool true] else .tuple #[RX 0 0, .bool false]
theorem cm_zero_iff (z : Int) : cm z 0 = 0 ↔ z = 0 := by rw [cm_zero]; (repeat' split) <;> omega
theorem fits_neg {z : Int} (h : Fits z) : Fits (-z) := fits_le h (by rw [ab_neg]; exact Int.le_refl _)
theorem fits_mn {z y : Int} (h : Fits z) (hy : y ≠ 0) : Fits (mn z y) := by
  unfold mn
  split
  · exact fits_ediv (fits_neg h) (by have := gc_pos (x := z) hy; omega)
  · exact fits_ediv h (by have := gc_pos (x := z) hy; omega)
theorem fits_ab {z : Int} (h : Fits z) : Fits (ab z) := fits_le h (by rw [ab_ab]; exact Int.le_refl _)
theorem fits_mD {z y : Int} (h : Fits y) (hy : y ≠ 0) : Fits (mD z y) := fits_ediv (fits_ab h) (by have := gc_pos (x := z) hy; omega)
end Go.Proofs.Ytncmmbacoknefaa

/- CdX: MADE BY PROGRAM (sxgen.py): the small code of some functions, points of it and their equations. -/
namespace Go.Proofs.Ytncmmbacoknefaa
open Go Go.RowKit Sx
set_option linter.unusedVariables false
variable (C : Cx) (R L1 L2 L3 L4 : St → Prop)
namespace r03_At
def r0 : List G := [(some 2, none, (.box true 10 (.tmp 0))), (some 4, none, (.new zW))]
def r1 : List G := [(some 12, none, (.ld true 10 (.tmp 2))), (some 13, none, (.call false 93 [(.tmp 12)])), (none, none, (.st true 10 (.tmp 2) (.tmp 13)))]
def r2 : List G := [(some 15, none, (.fa 0 (.tmp 2))), (some 16, none, (.ld true 5 (.tmp 15))), (some 17, none, (.mv (.tmp 1))), (some 18, none, (.call true 58 [(.tmp 17)])), (some 19, none, (.call true 57 [(.tmp 16), (.tmp 18)])), (some 14, none, (.mv (.tmp 19))), (some 20, none, (.ex (.tmp 14) 0)), (some 21, none, (.ex (.tmp 14) 1))]
def t2 : List G := [(some 5, none, (.new zW)), (none, none, (.st true 5 (.tmp 5) (.tmp 20))), (some 6, none, (.mv (.tmp 21)))]
def r3 : List G := [(some 23, none, (.ld true 5 (.tmp 5))), (some 24, none, (.ld true 5 (.tmp 5))), (some 25, none, (.call false 22 [(.tmp 23), (.tmp 24)])), (some 22, none, (.mv (.tmp 25))), (some 26, none, (.ex (.tmp 22) 0)), (some 27, none, (.ex (.tmp 22) 1)), (none, none, (.st true 5 (.tmp 5) (.tmp 26)))]
def r4 : List G := [(some 29, none, (.ld true 5 (.tmp 5))), (some 30, none, (.fa 5 (.tmp 2))), (some 31, none, (.ld true 5 (.tmp 30))), (some 32, none, (.call false 22 [(.tmp 29), (.tmp 31)])), (some 28, none, (.mv (.tmp 32))), (some 33, none, (.ex (.tmp 28) 0)), (some 34, none, (.ex (.tmp 28) 1)), (none, none, (.st true 5 (.tmp 5) (.tmp 33)))]
def r5 : List G := [(some 36, none, (.fa 5 (.tmp 2))), (some 37, none, (.ld true 5 (.tmp 36))), (some 38, none, (.fa 5 (.tmp 2))), (some 39, none, (.ld true 5 (.tmp 38))), (some 40, none, (.call false 22 [(.tmp 37), (.tmp 39)])), (some 35, none, (.mv (.tmp 40))), (some 41, none, (.ex (.tmp 35) 0)), (some 42, none, (.ex (.tmp 35) 1)), (some 7, none, (.new zW)), (none, none, (.st true 5 (.tmp 7) (.tmp 41))), (some 8, none, (.mv (.tmp 42)))]
def r6 : List G := [(some 44, none, (.ld true 5 (.tmp 5))), (some 45, none, (.ld true 5 (.tmp 7))), (some 46, none, (.call false 23 [(.tmp 44), (.tmp 45)])), (some 43, none, (.mv (.tmp 46))), (some 47, none, (.ex (.tmp 43) 0)), (some 48, none, (.ex (.tmp 43) 1)), (some 49, none, (.ex (.tmp 43) 2)), (some 9, none, (.new zW)), (some 10, none, (.new zW)), (none, none, (.st true 5 (.tmp 9) (.tmp 47))), (none, none, (.st true 5 (.tmp 10) (.tmp 48))), (some 11, none, (.mv (.tmp 49)))]
def r7 : List G := [(some 50, none, (.ld true 5 (.tmp 9))), (none, none, (.st true 5 (.tmp 4) (.tmp 50)))]
def c : MC := (.seq (.reg r0 (some [1, 2, 4])) (.seq (.reg r1 (some [1, 2, 4])) (.seq (.dreg r2 t2 (some [2, 4, 5])) (.seq (.reg r3 (some [2, 4, 5])) (.seq (.reg r4 (some [2, 4, 5])) (.seq (.reg r5 (some [4, 5, 7])) (.seq (.reg r6 (some [4, 9])) (.seq (.reg r7 (some [4])) .ret))))))))
def ann : Ann := [(0, (some [1, 2, 4], 0, [], [], [])), (1, (some [1, 2, 4], 0, [], [], [])), (2, (some [2, 4, 5], 9, [7], [(0, 0), (1, 0), (2, 0), (3, 0), (4, 0), (5, 0), (6, 0), (7, 2)], [8])), (3, (some [2, 4, 5], 0, [], [], [])), (4, (some [2, 4, 5], 0, [], [], [])), (5, (some [4, 5, 7], 0, [], [], [])), (6, (some [4, 9], 0, [], [], [])), (7, (some [4], 0, [], [], []))]
theorem ok : compF Try.prog Try.f40 ann = some (51, c, [(4, some (true, 5))]) := by kernel_rfl
def p1 (S : St) : Prop := ops C r7 (kq [4] R) S
def p2 (S : St) : Prop := ops C r6 (kq [4, 9] (p1 C R)) S
def p3 (S : St) : Prop := ops C r5 (kq [4, 5, 7] (p2 C R)) S
def p4 (S : St) : Prop := ops C r4 (kq [2, 4, 5] (p3 C R)) S
def p5 (S : St) : Prop := ops C r3 (kq [2, 4, 5] (p4 C R)) S
def p6 (S : St) : Prop := ops C r2 (ops C t2 (kq [2, 4, 5] (p5 C R))) S
def p7 (S : St) : Prop := ops C r1 (kq [1, 2, 4] (p6 C R)) S
def p8 (S : St) : Prop := ops C r0 (kq [1, 2, 4] (p7 C R)) S
theorem s (S : St) : X C c (retK R) S = p8 C R S := by kernel_rfl
theorem E : type_of% @r7.eq_1 ∧ type_of% @p1.eq_1 ∧ type_of% @r6.eq_1 ∧ type_of% @p2.eq_1 ∧ type_of% @r5.eq_1 ∧ type_of% @p3.eq_1 ∧ type_of% @r4.eq_1 ∧ type_of% @p4.eq_1 ∧ type_of% @r3.eq_1 ∧ type_of% @p5.eq_1 ∧ type_of% @r2.eq_1 ∧ type_of% @t2.eq_1 ∧ type_of% @p6.eq_1 ∧ type_of% @r1.eq_1 ∧ type_of% @p7.eq_1 ∧ type_of% @r0.eq_1 ∧ type_of% @p8.eq_1 ∧ type_of% @s := ⟨@r7.eq_1, @p1.eq_1, @r6.eq_1, @p2.eq_1, @r5.eq_1, @p3.eq_1, @r4.eq_1, @p4.eq_1, @r3.eq_1, @p5.eq_1, @r2.eq_1, @t2.eq_1, @p6.eq_1, @r1.eq_1, @p7.eq_1, @r0.eq_1, @p8.eq_1, @s⟩
end r03_At
namespace r03_Make
def r0 : List G := [(some 2, none, (.box true 5 (.tmp 0))), (some 3, none, (.box true 5 (.tmp 1))), (some 4, none, (.new zR)), (some 5, none, (.mv (.const (.bool false))))]
def r1 : List G := [(some 14, none, (.ld true 5 (.tmp 2))), (some 15, none, (.call false 88 [(.tmp 14)])), (some 16, none, (.un .not (.tmp 15))), (some 17, none, (.mv (.tmp 16))), (some 18, some (17, false), (.ld true 5 (.tmp 3))), (some 19, some (17, false), (.call false 88 [(.tmp 18)])), (some 20, some (17, false), (.un .not (.tmp 19))), (some 21, none, (.pick (.tmp 17) (.const (.bool true)) (.tmp 20))), (some 22, none, (.mv (.tmp 21))), (some 23, some (22, false), (.ld true 5 (.tmp 3))), (some 24, some (22, false), (.call false 65 [(.tmp 23)])), (some 25, some (22, false), (.bin .eql (.tmp 24) (.const (.int .i64 0)))), (some 26, none, (.pick (.tmp 22) (.const (.bool true)) (.tmp 25)))]
def r2 : List G := [(some 27, none, (.bd zR [])), (none, none, (.st true 10 (.tmp 4) (.tmp 27))), (some 5, none, (.mv (.const (.bool false))))]
def r3 : List G := [(some 28, none, (.ld true 5 (.tmp 2))), (some 29, none, (.call true 136 [(.tmp 28)])), (some 30, none, (.ld true 5 (.tmp 3))), (some 31, none, (.call true 136 [(.tmp 30)])), (some 32, none, (.call true 135 [(.tmp 29), (.tmp 31)]))]
def t3 : List G := [(some 6, none, (.new zW)), (none, none, (.st true 5 (.tmp 6) (.tmp 32)))]
def r4 : List G := [(some 34, none, (.ld true 5 (.tmp 2))), (some 35, none, (.call true 136 [(.tmp 34)])), (some 36, none, (.ld true 5 (.tmp 6))), (some 37, none, (.call true 23 [(.tmp 35), (.tmp 36)])), (some 33, none, (.mv (.tmp 37))), (some 38, none, (.ex (.tmp 33) 0)), (some 39, none, (.ex (.tmp 33) 1)), (some 40, none, (.ex (.tmp 33) 2))]
def t4 : List G := [(some 7, none, (.new zW)), (some 8, none, (.new zW)), (none, none, (.st true 5 (.tmp 7) (.tmp 38))), (none, none, (.st true 5 (.tmp 8) (.tmp 39))), (some 9, none, (.mv (.tmp 40)))]
def r5 : List G := [(some 42, none, (.ld true 5 (.tmp 3))), (some 43, none, (.call true 136 [(.tmp 42)])), (some 44, none, (.ld true 5 (.tmp 6))), (some 45, none, (.call true 23 [(.tmp 43), (.tmp 44)])), (some 41, none, (.mv (.tmp 45))), (some 46, none, (.ex (.tmp 41) 0)), (some 47, none, (.ex (.tmp 41) 1)), (some 48, none, (.ex (.tmp 41) 2))]
def t5 : List G := [(some 10, none, (.new zW)), (some 11, none, (.new zW)), (none, none, (.st true 5 (.tmp 10) (.tmp 46))), (none, none, (.st true 5 (.tmp 11) (.tmp 47))), (some 12, none, (.mv (.tmp 48)))]
def r6 : List G := [(some 49, none, (.fa 0 (.tmp 2))), (some 50, none, (.ld false 1 (.tmp 49))), (some 51, none, (.fa 0 (.tmp 3))), (some 52, none, (.ld false 1 (.tmp 51))), (some 53, none, (.bq true (.tmp 50) (.tmp 52)))]
def r7 : List G := [(some 54, none, (.ld true 5 (.tmp 7))), (some 55, none, (.call false 53 [(.tmp 54)])), (none, none, (.st true 5 (.tmp 7) (.tmp 55)))]
def r8 : List G := [(some 56, none, (.ld true 5 (.tmp 7))), (some 57, none, (.ld true 5 (.tmp 10))), (some 58, none, (.bd zR [(0, 5, (.tmp 56)), (5, 5, (.tmp 57))])), (some 13, none, (.new zR)), (none, none, (.st true 10 (.tmp 13) (.tmp 58)))]
def r9 : List G := [(some 59, none, (.ld true 10 (.tmp 13))), (some 60, none, (.call false 117 [(.tmp 59)])), (some 61, none, (.un .not (.tmp 60)))]
def r10 : List G := [(some 62, none, (.bd zR [])), (none, none, (.st true 10 (.tmp 4) (.tmp 62))), (some 5, none, (.mv (.const (.bool false))))]
def r11 : List G := [(some 63, none, (.ld true 10 (.tmp 13))), (none, none, (.st true 10 (.tmp 4) (.tmp 63))), (some 5, none, (.mv (.const (.bool true))))]
def c : MC := (.seq (.reg r0 (some [2, 3, 4])) (.seq (.seq (.reg r1 (some [2, 3, 4, 26])) (.cond (.tmp 26) (.seq (.reg r2 (some [4, 5])) .ret) .skip)) (.seq (.dreg r3 t3 (some [2, 3, 4, 6])) (.seq (.dreg r4 t4 (some [2, 3, 4, 6, 7])) (.seq (.dreg r5 t5 (some [2, 3, 4, 7, 10])) (.seq (.seq (.reg r6 (some [4, 7, 10, 53])) (.cond (.tmp 53) (.reg r7 (some [4, 7, 10])) .skip)) (.seq (.reg r8 (some [4, 13])) (.seq (.seq (.reg r9 (some [4, 13, 61])) (.cond (.tmp 61) (.seq (.reg r10 (some [4, 5])) .ret) .skip)) (.seq (.reg r11 (some [4, 5])) .ret)))))))))
def ann : Ann := [(0, (some [2, 3, 4], 0, [], [], [])), (1, (some [2, 3, 4, 26], 0, [], [], [])), (2, (some [4, 5], 0, [], [], [])), (3, (some [2, 3, 4, 6], 6, [], [(0, 0), (1, 0), (2, 0), (3, 0), (4, 0)], [5])), (4, (some [2, 3, 4, 6, 7], 10, [6, 7], [(0, 0), (1, 0), (2, 0), (3, 0), (4, 0), (5, 0), (6, 2), (7, 2)], [8, 9])), (5, (some [2, 3, 4, 7, 10], 10, [6, 7], [(0, 0), (1, 0), (2, 0), (3, 0), (4, 0), (5, 0), (6, 2), (7, 2)], [8, 9])), (6, (some [4, 7, 10, 53], 0, [], [], [])), (7, (some [4, 7, 10], 0, [], [], [])), (8, (some [4, 13], 0, [], [], [])), (9, (some [4, 13, 61], 0, [], [], [])), (10, (some [4, 5], 0, [], [], [])), (11, (some [4, 5], 0, [], [], []))]
theorem ok : compF Try.prog Try.f81 ann = some (64, c, [(4, some (true, 10)), (5, none)]) := by kernel_rfl
def p1 (S : St) : Prop := ops C r11 (kq [4, 5] R) S
def p3 (S : St) : Prop := ops C r10 (kq [4, 5] R) S
def p2 (S : St) : Prop := condX (S.ev (.tmp 61)) (p3 C R) (p1 C R) S
def p4 (S : St) : Prop := ops C r9 (kq [4, 13, 61] (p2 C R)) S
def p5 (S : St) : Prop := ops C r8 (kq [4, 13] (p4 C R)) S
def p7 (S : St) : Prop := ops C r7 (kq [4, 7, 10] (p5 C R)) S
def p6 (S : St) : Prop := condX (S.ev (.tmp 53)) (p7 C R) (p5 C R) S
def p8 (S : St) : Prop := ops C r6 (kq [4, 7, 10, 53] (p6 C R)) S
def p9 (S : St) : Prop := ops C r5 (ops C t5 (kq [2, 3, 4, 7, 10] (p8 C R))) S
def p10 (S : St) : Prop := ops C r4 (ops C t4 (kq [2, 3, 4, 6, 7] (p9 C R))) S
def p11 (S : St) : Prop := ops C r3 (ops C t3 (kq [2, 3, 4, 6] (p10 C R))) S
def p13 (S : St) : Prop := ops C r2 (kq [4, 5] R) S
def p12 (S : St) : Prop := condX (S.ev (.tmp 26)) (p13 C R) (p11 C R) S
def p14 (S : St) : Prop := ops C r1 (kq [2, 3, 4, 26] (p12 C R)) S
def p15 (S : St) : Prop := ops C r0 (kq [2, 3, 4] (p14 C R)) S
theorem s (S : St) : X C c (retK R) S = p15 C R S := by kernel_rfl
theorem E : type_of% @r11.eq_1 ∧ type_of% @p1.eq_1 ∧ type_of% @r10.eq_1 ∧ type_of% @p3.eq_1 ∧ type_of% @p2.eq_1 ∧ type_of% @r9.eq_1 ∧ type_of% @p4.eq_1 ∧ type_of% @r8.eq_1 ∧ type_of% @p5.eq_1 ∧ type_of% @r7.eq_1 ∧ type_of% @p7.eq_1 ∧ type_of% @p6.eq_1 ∧ type_of% @r6.eq_1 ∧ type_of% @p8.eq_1 ∧ type_of% @r5.eq_1 ∧ type_of% @t5.eq_1 ∧ type_of% @p9.eq_1 ∧ type_of% @r4.eq_1 ∧ type_of% @t4.eq_1 ∧ type_of% @p10.eq_1 ∧ type_of% @r3.eq_1 ∧ type_of% @t3.eq_1 ∧ type_of% @p11.eq_1 ∧ type_of% @r2.eq_1 ∧ type_of% @p13.eq_1 ∧ type_of% @p12.eq_1 ∧ type_of% @r1.eq_1 ∧ type_of% @p14.eq_1 ∧ type_of% @r0.eq_1 ∧ type_of% @p15.eq_1 ∧ type_of% @s := ⟨@r11.eq_1, @p1.eq_1, @r10.eq_1, @p3.eq_1, @p2.eq_1, @r9.eq_1, @p4.eq_1, @r8.eq_1, @p5.eq_1, @r7.eq_1, @p7.eq_1, @p6.eq_1, @r6.eq_1, @p8.eq_1, @r5.eq_1, @t5.eq_1, @p9.eq_1, @r4.eq_1, @t4.eq_1, @p10.eq_1, @r3.eq_1, @t3.eq_1, @p11.eq_1, @r2.eq_1, @p13.eq_1, @p12.eq_1, @r1.eq_1, @p14.eq_1, @r0.eq_1, @p15.eq_1, @s⟩
end r03_Make
namespace r03_Of
def r0 : List G := [(some 2, none, (.new zR))]
def r1 : List G := [(some 3, none, (.mv (.tmp 0))), (some 4, none, (.call false 20 [(.tmp 3)])), (some 5, none, (.call false 137 [])), (some 6, none, (.bd zR [(0, 5, (.tmp 4)), (5, 5, (.tmp 5))])), (none, none, (.st true 10 (.tmp 2) (.tmp 6)))]
def c : MC := (.seq (.reg r0 (some [0, 2])) (.seq (.reg r1 (some [2])) .ret))
def ann : Ann := [(0, (some [0, 2], 0, [], [], [])), (1, (some [2], 0, [], [], []))]
theorem ok : compF Try.prog Try.f82 ann = some (7, c, [(2, some (true, 10))]) := by kernel_rfl
def p1 (S : St) : Prop := ops C r1 (kq [2] R) S
def p2 (S : St) : Prop := ops C r0 (kq [0, 2] (p1 C R)) S
theorem s (S : St) : X C c (retK R) S = p2 C R S := by kernel_rfl
theorem E : type_of% @r1.eq_1 ∧ type_of% @p1.eq_1 ∧ type_of% @r0.eq_1 ∧ type_of% @p2.eq_1 ∧ type_of% @s := ⟨@r1.eq_1, @p1.eq_1, @r0.eq_1, @p2.eq_1, @s⟩
end r03_Of
namespace r03_Valid
def r0 : List G := [(some 1, none, (.box true 10 (.tmp 0))), (some 2, none, (.mv (.const (.bool false))))]
def r1 : List G := [(some 3, none, (.fa 0 (.tmp 1))), (some 4, none, (.ld true 5 (.tmp 3))), (some 5, none, (.call false 88 [(.tmp 4)])), (some 6, none, (.un .not (.tmp 5))), (some 7, none, (.mv (.tmp 6))), (some 8, some (7, false), (.fa 5 (.tmp 1))), (some 9, some (7, false), (.ld true 5 (.tmp 8))), (some 10, some (7, false), (.call false 88 [(.tmp 9)])), (some 11, some (7, false), (.un .not (.tmp 10))), (some 12, none, (.pick (.tmp 7) (.const (.bool true)) (.tmp 11))), (some 13, none, (.mv (.tmp 12))), (some 14, some (13, false), (.fa 5 (.tmp 1))), (some 15, some (13, false), (.ld true 5 (.tmp 14))), (some 16, some (13, false), (.call false 65 [(.tmp 15)])), (some 17, some (13, false), (.bin .leq (.tmp 16) (.const (.int .i64 0)))), (some 18, none, (.pick (.tmp 13) (.const (.bool true)) (.tmp 17))), (some 19, none, (.mv (.tmp 18))), (some 20, some (19, false), (.fa 0 (.tmp 1))), (some 21, some (19, false), (.ld true 5 (.tmp 20))), (some 22, some (19, false), (.call false 160 [(.tmp 21)])), (some 23, some (19, false), (.un .not (.tmp 22))), (some 24, none, (.pick (.tmp 19) (.const (.bool true)) (.tmp 23))), (some 25, none, (.mv (.tmp 24))), (some 26, some (25, false), (.fa 5 (.tmp 1))), (some 27, some (25, false), (.ld true 5 (.tmp 26))), (some 28, some (25, false), (.call false 160 [(.tmp 27)])), (some 29, some (25, false), (.un .not (.tmp 28))), (some 30, none, (.pick (.tmp 25) (.const (.bool true)) (.tmp 29)))]
def r2 : List G := [(some 2, none, (.mv (.const (.bool false))))]
def r3 : List G := [(some 31, none, (.fa 0 (.tmp 1))), (some 32, none, (.ld true 5 (.tmp 31))), (some 33, none, (.call true 136 [(.tmp 32)])), (some 34, none, (.fa 5 (.tmp 1))), (some 35, none, (.ld true 5 (.tmp 34))), (some 36, none, (.call true 135 [(.tmp 33), (.tmp 35)])), (some 37, none, (.call true 137 [])), (some 38, none, (.eqg false 38 (.tmp 36) (.tmp 37)))]
def t3 : List G := [(some 2, none, (.mv (.tmp 38)))]
def c : MC := (.seq (.reg r0 (some [1])) (.seq (.seq (.reg r1 (some [1, 30])) (.cond (.tmp 30) (.seq (.reg r2 (some [2])) .ret) .skip)) (.seq (.dreg r3 t3 (some [2])) .ret)))
def ann : Ann := [(0, (some [1], 0, [], [], [])), (1, (some [1, 30], 0, [], [], [])), (2, (some [2], 0, [], [], [])), (3, (some [2], 8, [], [(0, 0), (1, 0), (2, 0), (3, 0), (4, 0), (5, 0), (6, 0), (7, 0)], []))]
theorem ok : compF Try.prog Try.f117 ann = some (39, c, [(2, none)]) := by kernel_rfl
def p1 (S : St) : Prop := ops C r3 (ops C t3 (kq [2] R)) S
def p3 (S : St) : Prop := ops C r2 (kq [2] R) S
def p2 (S : St) : Prop := condX (S.ev (.tmp 30)) (p3 C R) (p1 C R) S
def p4 (S : St) : Prop := ops C r1 (kq [1, 30] (p2 C R)) S
def p5 (S : St) : Prop := ops C r0 (kq [1] (p4 C R)) S
theorem s (S : St) : X C c (retK R) S = p5 C R S := by kernel_rfl
theorem E : type_of% @r3.eq_1 ∧ type_of% @t3.eq_1 ∧ type_of% @p1.eq_1 ∧ type_of% @r2.eq_1 ∧ type_of% @p3.eq_1 ∧ type_of% @p2.eq_1 ∧ type_of% @r1.eq_1 ∧ type_of% @p4.eq_1 ∧ type_of% @r0.eq_1 ∧ type_of% @p5.eq_1 ∧ type_of% @s := ⟨@r3.eq_1, @t3.eq_1, @p1.eq_1, @r2.eq_1, @p3.eq_1, @p2.eq_1, @r1.eq_1, @p4.eq_1, @r0.eq_1, @p5.eq_1, @s⟩
end r03_Valid
namespace r03_abs
def r0 : List G := [(some 1, none, (.box true 5 (.tmp 0))), (some 2, none, (.new zW))]
def r1 : List G := [(some 3, none, (.fa 0 (.tmp 1))), (none, none, (.st false 1 (.tmp 3) (.const (.bool false))))]
def r2 : List G := [(some 4, none, (.ld true 5 (.tmp 1))), (none, none, (.st true 5 (.tmp 2) (.tmp 4)))]
def c : MC := (.seq (.reg r0 (some [1, 2])) (.seq (.reg r1 (some [1, 2])) (.seq (.reg r2 (some [2])) .ret)))
def ann : Ann := [(0, (some [1, 2], 0, [], [], [])), (1, (some [1, 2], 0, [], [], [])), (2, (some [2], 0, [], [], []))]
theorem ok : compF Try.prog Try.f136 ann = some (5, c, [(2, some (true, 5))]) := by kernel_rfl
def p1 (S : St) : Prop := ops C r2 (kq [2] R) S
def p2 (S : St) : Prop := ops C r1 (kq [1, 2] (p1 C R)) S
def p3 (S : St) : Prop := ops C r0 (kq [1, 2] (p2 C R)) S
theorem s (S : St) : X C c (retK R) S = p3 C R S := by kernel_rfl
theorem E : type_of% @r2.eq_1 ∧ type_of% @p1.eq_1 ∧ type_of% @r1.eq_1 ∧ type_of% @p2.eq_1 ∧ type_of% @r0.eq_1 ∧ type_of% @p3.eq_1 ∧ type_of% @s := ⟨@r2.eq_1, @p1.eq_1, @r1.eq_1, @p2.eq_1, @r0.eq_1, @p3.eq_1, @s⟩
end r03_abs
namespace r03_clean
def r0 : List G := [(some 1, none, (.box true 10 (.tmp 0))), (some 2, none, (.new zR))]
def r1 : List G := [(some 3, none, (.ld true 10 (.tmp 1))), (some 4, none, (.call false 117 [(.tmp 3)])), (some 5, none, (.un .not (.tmp 4)))]
def r2 : List G := [(some 6, none, (.call false 137 [])), (some 7, none, (.bd zR [(5, 5, (.tmp 6))])), (none, none, (.st true 10 (.tmp 2) (.tmp 7)))]
def r3 : List G := [(some 8, none, (.ld true 10 (.tmp 1))), (none, none, (.st true 10 (.tmp 2) (.tmp 8)))]
def c : MC := (.seq (.reg r0 (some [1, 2])) (.seq (.seq (.reg r1 (some [1, 2, 5])) (.cond (.tmp 5) (.seq (.reg r2 (some [2])) .ret) .skip)) (.seq (.reg r3 (some [2])) .ret)))
def ann : Ann := [(0, (some [1, 2], 0, [], [], [])), (1, (some [1, 2, 5], 0, [], [], [])), (2, (some [2], 0, [], [], [])), (3, (some [2], 0, [], [], []))]
theorem ok : compF Try.prog Try.f93 ann = some (9, c, [(2, some (true, 10))]) := by kernel_rfl
def p1 (S : St) : Prop := ops C r3 (kq [2] R) S
def p3 (S : St) : Prop := ops C r2 (kq [2] R) S
def p2 (S : St) : Prop := condX (S.ev (.tmp 5)) (p3 C R) (p1 C R) S
def p4 (S : St) : Prop := ops C r1 (kq [1, 2, 5] (p2 C R)) S
def p5 (S : St) : Prop := ops C r0 (kq [1, 2] (p4 C R)) S
theorem s (S : St) : X C c (retK R) S = p5 C R S := by kernel_rfl
theorem E : type_of% @r3.eq_1 ∧ type_of% @p1.eq_1 ∧ type_of% @r2.eq_1 ∧ type_of% @p3.eq_1 ∧ type_of% @p2.eq_1 ∧ type_of% @r1.eq_1 ∧ type_of% @p4.eq_1 ∧ type_of% @r0.eq_1 ∧ type_of% @p5.eq_1 ∧ type_of% @s := ⟨@r3.eq_1, @p1.eq_1, @r2.eq_1, @p3.eq_1, @p2.eq_1, @r1.eq_1, @p4.eq_1, @r0.eq_1, @p5.eq_1, @s⟩
end r03_clean
namespace r03_gcd
def r0 : List G := [(some 2, none, (.box true 5 (.tmp 0))), (some 3, none, (.box true 5 (.tmp 1))), (some 4, none, (.new zW))]
def r1 : List G := [(some 12, none, (.ld true 5 (.tmp 3))), (some 13, none, (.call false 65 [(.tmp 12)])), (some 14, none, (.bin .neq (.tmp 13) (.const (.int .i64 0))))]
def r2 : List G := [(some 16, none, (.ld true 5 (.tmp 2))), (some 17, none, (.call false 170 [(.tmp 16)])), (some 15, none, (.mv (.tmp 17))), (some 18, none, (.ex (.tmp 15) 0)), (some 19, none, (.ex (.tmp 15) 1)), (some 5, none, (.mv (.tmp 18))), (some 6, none, (.mv (.tmp 19)))]
def r3 : List G := [(some 21, none, (.ld true 5 (.tmp 3))), (some 22, none, (.call false 170 [(.tmp 21)])), (some 20, none, (.mv (.tmp 22))), (some 23, none, (.ex (.tmp 20) 0)), (some 24, none, (.ex (.tmp 20) 1)), (some 7, none, (.mv (.tmp 23))), (some 8, none, (.mv (.tmp 24)))]
def r4 : List G := [(some 25, none, (.mv (.tmp 6))), (some 26, none, (.mv (.tmp 25))), (some 27, some (26, true), (.mv (.tmp 8))), (some 28, none, (.pick (.tmp 26) (.tmp 27) (.const (.bool false))))]
def r5 : List G := [(some 29, none, (.mv (.tmp 7))), (some 30, none, (.bin .neq (.tmp 29) (.const (.int .u64 0))))]
def r6 : List G := [(some 31, none, (.mv (.tmp 7))), (some 32, none, (.mv (.tmp 5))), (some 33, none, (.mv (.tmp 7))), (some 34, none, (.bin .rem (.tmp 32) (.tmp 33)))]
def t6 : List G := [(some 5, none, (.mv (.tmp 31))), (some 7, none, (.mv (.tmp 34)))]
def r7 : List G := [(some 35, none, (.mv (.tmp 5))), (some 36, none, (.call false 58 [(.tmp 35)])), (none, none, (.st true 5 (.tmp 4) (.tmp 36)))]
def r8 : List G := [(some 38, none, (.ld true 5 (.tmp 2))), (some 39, none, (.ld true 5 (.tmp 3))), (some 40, none, (.call false 23 [(.tmp 38), (.tmp 39)])), (some 37, none, (.mv (.tmp 40))), (some 41, none, (.ex (.tmp 37) 0)), (some 42, none, (.ex (.tmp 37) 1)), (some 43, none, (.ex (.tmp 37) 2)), (some 9, none, (.new zW)), (some 10, none, (.new zW)), (none, none, (.st true 5 (.tmp 9) (.tmp 41))), (none, none, (.st true 5 (.tmp 10) (.tmp 42))), (some 11, none, (.mv (.tmp 43)))]
def o9 : List (List G) := [[(some 44, none, (.ld true 5 (.tmp 3))), (some 45, none, (.ld true 5 (.tmp 10))), (none, none, (.st true 5 (.tmp 2) (.tmp 44))), (none, none, (.st true 5 (.tmp 3) (.tmp 45)))],
  [(some 44, none, (.ld true 5 (.tmp 3))), (none, none, (.st true 5 (.tmp 2) (.tmp 44))), (some 45, none, (.ld true 5 (.tmp 10))), (none, none, (.st true 5 (.tmp 3) (.tmp 45)))],
  [(some 45, none, (.ld true 5 (.tmp 10))), (some 44, none, (.ld true 5 (.tmp 3))), (none, none, (.st true 5 (.tmp 2) (.tmp 44))), (none, none, (.st true 5 (.tmp 3) (.tmp 45)))]]
def r10 : List G := [(some 46, none, (.ld true 5 (.tmp 2))), (none, none, (.st true 5 (.tmp 4) (.tmp 46)))]
def c : MC := (.seq (.reg r0 (some [2, 3, 4])) (.seq (.block 0 (.loop (.seq (.seq (.reg r1 (some [2, 3, 4, 14])) (.cond (.tmp 14) .skip (.exit 0))) (.block 1 (.seq (.reg r2 (some [2, 3, 4, 5, 6])) (.seq (.reg r3 (some [2, 3, 4, 5, 6, 7, 8])) (.seq (.seq (.reg r4 (some [2, 3, 4, 5, 7, 28])) (.cond (.tmp 28) (.seq (.block 2 (.loop (.seq (.seq (.reg r5 (some [4, 5, 7, 30])) (.cond (.tmp 30) .skip (.exit 2))) (.block 3 (.dreg r6 t6 (some [4, 5, 7])))))) (.seq (.reg r7 (some [4])) .ret)) .skip)) (.seq (.reg r8 (some [2, 3, 4, 10])) (.areg [] o9 (some [2, 3, 4])))))))))) (.seq (.reg r10 (some [4])) .ret)))
def ann : Ann := [(0, (some [2, 3, 4], 0, [], [], [])), (1, (some [2, 3, 4, 14], 0, [], [], [])), (2, (some [2, 3, 4, 5, 6], 0, [], [], [])), (3, (some [2, 3, 4, 5, 6, 7, 8], 0, [], [], [])), (4, (some [2, 3, 4, 5, 7, 28], 0, [], [], [])), (5, (some [4, 5, 7, 30], 0, [], [], [])), (6, (some [4, 5, 7], 4, [2, 3], [(0, 0), (1, 0), (2, 2), (3, 2)], [])), (7, (some [4], 0, [], [], [])), (8, (some [2, 3, 4, 10], 0, [], [], [])), (9, (some [2, 3, 4], 99999, [], [], [])), (10, (some [4], 0, [], [], []))]
theorem ok : compF Try.prog Try.f135 ann = some (47, c, [(4, some (true, 5))]) := by kernel_rfl
def p1 (S : St) : Prop := ops C r10 (kq [4] R) S
def p3 (S : St) : Prop := areX C [] o9 (kq [2, 3, 4] L1) S
def p4 (S : St) : Prop := ops C r8 (kq [2, 3, 4, 10] (p3 C L1)) S
def p6 (S : St) : Prop := ops C r7 (kq [4] R) S
def p8 (S : St) : Prop := ops C r6 (ops C t6 (kq [4, 5, 7] L2)) S
def p9 (S : St) : Prop := condX (S.ev (.tmp 30)) (p8 C L2) (p6 C R) S
def p10 (S : St) : Prop := ops C r5 (kq [4, 5, 7, 30] (p9 C R L2)) S
def p7 (S : St) : Prop := LX C (fun L2 => (p10 C R L2)) S
theorem p7_l (S : St) : p7 C R S = LX C (fun L2 => (p10 C R L2)) S := rfl
def p5 (S : St) : Prop := condX (S.ev (.tmp 28)) (p7 C R) (p4 C L1) S
def p11 (S : St) : Prop := ops C r4 (kq [2, 3, 4, 5, 7, 28] (p5 C R L1)) S
def p12 (S : St) : Prop := ops C r3 (kq [2, 3, 4, 5, 6, 7, 8] (p11 C R L1)) S
def p13 (S : St) : Prop := ops C r2 (kq [2, 3, 4, 5, 6] (p12 C R L1)) S
def p14 (S : St) : Prop := condX (S.ev (.tmp 14)) (p13 C R L1) (p1 C R) S
def p15 (S : St) : Prop := ops C r1 (kq [2, 3, 4, 14] (p14 C R L1)) S
def p2 (S : St) : Prop := LX C (fun L1 => (p15 C R L1)) S
theorem p2_l (S : St) : p2 C R S = LX C (fun L1 => (p15 C R L1)) S := rfl
def p16 (S : St) : Prop := ops C r0 (kq [2, 3, 4] (p2 C R)) S
theorem s (S : St) : X C c (retK R) S = p16 C R S := by kernel_rfl
theorem E : type_of% @r10.eq_1 ∧ type_of% @p1.eq_1 ∧ type_of% @o9.eq_1 ∧ type_of% @p3.eq_1 ∧ type_of% @r8.eq_1 ∧ type_of% @p4.eq_1 ∧ type_of% @r7.eq_1 ∧ type_of% @p6.eq_1 ∧ type_of% @r6.eq_1 ∧ type_of% @t6.eq_1 ∧ type_of% @p8.eq_1 ∧ type_of% @p9.eq_1 ∧ type_of% @r5.eq_1 ∧ type_of% @p10.eq_1 ∧ type_of% @p5.eq_1 ∧ type_of% @r4.eq_1 ∧ type_of% @p11.eq_1 ∧ type_of% @r3.eq_1 ∧ type_of% @p12.eq_1 ∧ type_of% @r2.eq_1 ∧ type_of% @p13.eq_1 ∧ type_of% @p14.eq_1 ∧ type_of% @r1.eq_1 ∧ type_of% @p15.eq_1 ∧ type_of% @r0.eq_1 ∧ type_of% @p16.eq_1 ∧ type_of% @s := ⟨@r10.eq_1, @p1.eq_1, @o9.eq_1, @p3.eq_1, @r8.eq_1, @p4.eq_1, @r7.eq_1, @p6.eq_1, @r6.eq_1, @t6.eq_1, @p8.eq_1, @p9.eq_1, @r5.eq_1, @p10.eq_1, @p5.eq_1, @r4.eq_1, @p11.eq_1, @r3.eq_1, @p12.eq_1, @r2.eq_1, @p13.eq_1, @p14.eq_1, @r1.eq_1, @p15.eq_1, @r0.eq_1, @p16.eq_1, @s⟩
end r03_gcd
namespace r03_one
def r0 : List G := [(some 0, none, (.new zW))]
def r1 : List G := [(some 1, none, (.call false 20 [(.const (.int .i64 1))])), (none, none, (.st true 5 (.tmp 0) (.tmp 1)))]
def c : MC := (.seq (.reg r0 (some [0])) (.seq (.reg r1 (some [0])) .ret))
def ann : Ann := [(0, (some [0], 0, [], [], [])), (1, (some [0], 0, [], [], []))]
theorem ok : compF Try.prog Try.f137 ann = some (2, c, [(0, some (true, 5))]) := by kernel_rfl
def p1 (S : St) : Prop := ops C r1 (kq [0] R) S
def p2 (S : St) : Prop := ops C r0 (kq [0] (p1 C R)) S
theorem s (S : St) : X C c (retK R) S = p2 C R S := by kernel_rfl
theorem E : type_of% @r1.eq_1 ∧ type_of% @p1.eq_1 ∧ type_of% @r0.eq_1 ∧ type_of% @p2.eq_1 ∧ type_of% @s := ⟨@r1.eq_1, @p1.eq_1, @r0.eq_1, @p2.eq_1, @s⟩
end r03_one
namespace r03_small
def r0 : List G := [(some 1, none, (.box true 5 (.tmp 0))), (some 2, none, (.mv (.const (.bool false))))]
def r1 : List G := [(some 3, none, (.fa 1 (.tmp 1))), (some 4, none, (.ia 4 1 (.tmp 3) (.const (.int .i64 3)))), (some 5, none, (.ld false 1 (.tmp 4))), (some 6, none, (.bin .eql (.tmp 5) (.const (.int .u64 0)))), (some 7, none, (.mv (.tmp 6))), (some 8, some (7, true), (.fa 1 (.tmp 1))), (some 9, some (7, true), (.ia 4 1 (.tmp 8) (.const (.int .i64 2)))), (some 10, some (7, true), (.ld false 1 (.tmp 9))), (some 11, some (7, true), (.bin .eql (.tmp 10) (.const (.int .u64 0)))), (some 12, none, (.pick (.tmp 7) (.tmp 11) (.const (.bool false)))), (some 13, none, (.mv (.tmp 12))), (some 14, some (13, true), (.fa 1 (.tmp 1))), (some 15, some (13, true), (.ia 4 1 (.tmp 14) (.const (.int .i64 1)))), (some 16, some (13, true), (.ld false 1 (.tmp 15))), (some 17, some (13, true), (.bin .lss (.tmp 16) (.const (.int .u64 9223372036854775808)))), (some 18, none, (.pick (.tmp 13) (.tmp 17) (.const (.bool false)))), (some 2, none, (.mv (.tmp 18)))]
def c : MC := (.seq (.reg r0 (some [1])) (.seq (.reg r1 (some [2])) .ret))
def ann : Ann := [(0, (some [1], 0, [], [], [])), (1, (some [2], 0, [], [], []))]
theorem ok : compF Try.prog Try.f160 ann = some (19, c, [(2, none)]) := by kernel_rfl
def p1 (S : St) : Prop := ops C r1 (kq [2] R) S
def p2 (S : St) : Prop := ops C r0 (kq [1] (p1 C R)) S
theorem s (S : St) : X C c (retK R) S = p2 C R S := by kernel_rfl
theorem E : type_of% @r1.eq_1 ∧ type_of% @p1.eq_1 ∧ type_of% @r0.eq_1 ∧ type_of% @p2.eq_1 ∧ type_of% @s := ⟨@r1.eq_1, @p1.eq_1, @r0.eq_1, @p2.eq_1, @s⟩
end r03_small
end Go.Proofs.Ytncmmbacoknefaa

/- Qc: What calls of the reference of ratio give. -/
namespace Go.Proofs.Ytncmmbacoknefaa
open Go Go.RowKit Sx
set_option linter.unusedVariables false
set_option linter.unusedSimpArgs false
theorem small_plain2 {m : Int} (h : A4 m) : m < ((2 ^ 127 : Nat) : Int) ↔ lb3 m = 0 ∧ lb2 m = 0 ∧ lb1 m < 9223372036854775808 := by
  rw [small_plain h]
  have := lb1_in m
  rw [Int.fdiv_eq_ediv_of_nonneg _ (by decide)]
  unfold U64 at this
  constructor
  · rintro ⟨a, b, c⟩; exact ⟨a, b, by omega⟩
  · rintro ⟨a, b, c⟩; exact ⟨a, b, by omega⟩
theorem rx_small {z : Int} (h : Fits z) (W : World) : Gives Try.prog 160 [WX z] W (· = .bool (decide (ab z < ((2 ^ 127 : Nat) : Int)))) := by
  have e := small_plain2 (m := ab z) ⟨ab_nonneg z, (fits_lt z).1 h⟩
  refine gives_known en_r03_small ?_
  rw [show decide (ab z < ((2 ^ 127 : Nat) : Int)) = (decide (lb3 (ab z) = 0) && (decide (lb2 (ab z) = 0) && decide (lb1 (ab z) < 9223372036854775808))) by rw [Bool.eq_iff_iff, decide_eq_true_iff, e]; simp]
  clear e h
  refine known_of (enter Try.func160 r03_small.ok (args := [WX z]) (by simp) ?_)
  repeat' (first | simp (disch := omega) only [sxE, r03_small.E, Nat.reduceAdd, Nat.reduceEqDiff, Nat.reduceMul, Nat.reduceSub, Int.reduceAdd, Int.reduceSub, Int.reduceMul, Int.reduceNeg, Int.reduceLT, Int.reduceLE, Int.reduceEq, Int.reduceToNat, ↓reduceIte, Int.reducePow, Nat.reduceLeDiff, Nat.reduceLT, ne_eq, eq_self, List.length_cons, List.length_nil, qxE] | ((with_reducible first | apply cond_beq | apply gd_beq) <;> (intro hc; first | simp only [beq_iff_eq.2 hc] | simp only [beq_eq_false_iff_ne.2 hc] | skip)) | ((with_reducible first | apply cond_dec | apply gd_dec) <;> (intro hc; first | simp only [decide_eq_true hc] | simp only [decide_eq_false hc] | skip)) | ((with_reducible first | apply cond_of | apply gd_of) <;> (intro hc; try simp only [hc])))
  all_goals (refine vb ?_; rw [Bool.eq_iff_iff]; simp_all)
theorem rx_abs {z : Int} (W : World) : Gives Try.prog 136 [WX z] W (· = WX (ab z)) := by
  refine gives_known en_r03_abs ?_
  refine known_of (enter Try.func136 r03_abs.ok (args := [_]) (by simp) ?_)
  repeat' (first | simp (disch := omega) only [sxE, r03_abs.E, Nat.reduceAdd, Nat.reduceEqDiff, Nat.reduceMul, Nat.reduceSub, Int.reduceAdd, Int.reduceSub, Int.reduceMul, Int.reduceNeg, Int.reduceLT, Int.reduceLE, Int.reduceEq, Int.reduceToNat, ↓reduceIte, Int.reducePow, Nat.reduceLeDiff, Nat.reduceLT, ne_eq, eq_self, List.length_cons, List.length_nil, qxE])
theorem rx_one (W : World) : Gives Try.prog 137 [] W (· = WX 1) := by
  refine gives_known en_r03_one ?_
  refine known_of (enter Try.func137 r03_one.ok (args := []) (by simp) ?_)
  repeat' (first | simp (disch := omega) only [sxE, r03_one.E, Nat.reduceAdd, Nat.reduceEqDiff, Nat.reduceMul, Nat.reduceSub, Int.reduceAdd, Int.reduceSub, Int.reduceMul, Int.reduceNeg, Int.reduceLT, Int.reduceLE, Int.reduceEq, Int.reduceToNat, ↓reduceIte, Int.reducePow, Nat.reduceLeDiff, Nat.reduceLT, ne_eq, eq_self, List.length_cons, List.length_nil, qxE] | (with_reducible refine Sx.call_at (f := 20) (fun W hW => rx_of i64_one W) ?_))
def gcF2 (x : Int × Int) : St := ⟨3, [(4, .p 2 0), (5, .v (.int .u64 x.1)), (7, .v (.int .u64 x.2))], [(2, [.bool false, .int .u64 0, .int .u64 0, .int .u64 0, .int .u64 0])], ext0⟩
set_option maxRecDepth 100000 in
theorem rx_gcd {z y : Int} (h : Fits z) (h' : Fits y) (n1 : 0 ≤ z) (n2 : 0 ≤ y) (W : World) : Gives Try.prog 135 [WX z, WX y] W (· = WX (gc z y)) := by
  refine gives_known en_r03_gcd ?_
  refine known_of (enter Try.func135 r03_gcd.ok (args := [WX z, WX y]) (by simp) ?_)
  repeat' (first | simp (disch := omega) only [sxE, r03_gcd.E, Nat.reduceAdd, Nat.reduceEqDiff, Nat.reduceMul, Nat.reduceSub, Int.reduceAdd, Int.reduceSub, Int.reduceMul, Int.reduceNeg, Int.reduceLT, Int.reduceLE, Int.reduceEq, Int.reduceToNat, ↓reduceIte, Int.reducePow, Nat.reduceLeDiff, Nat.reduceLT, ne_eq, eq_self, List.length_cons, List.length_nil, qxE])
  rw [r03_gcd.p2_l]
  refine LX_inv gcF (fun x => 0 ≤ x.1 ∧ 0 ≤ x.2 ∧ Fits x.1 ∧ Fits x.2 ∧ gc x.1 x.2 = gc z y) (fun x => x.2.toNat) ?round (z, y) ⟨n1, n2, h, h', rfl⟩ ?start
  case start =>
    unfold gcF wc
    dsimp only
    simp (disch := omega) only [sxE, r03_gcd.E, Nat.reduceAdd, Nat.reduceEqDiff, Nat.reduceMul, Nat.reduceSub, Int.reduceAdd, Int.reduceSub, Int.reduceMul, Int.reduceNeg, Int.reduceLT, Int.reduceLE, Int.reduceEq, Int.reduceToNat, ↓reduceIte, Int.reducePow, Nat.reduceLeDiff, Nat.reduceLT, ne_eq, eq_self, List.length_cons, List.length_nil]
  case round =>
    rintro ⟨x, w⟩ ⟨h1, h2, h3, h4, h5⟩
    dsimp only at h1 h2 h3 h4 h5 ⊢
    rw [← h5]
    clear h5 h h' n1 n2
    have hcm := cm_zero w
    unfold gcF wc
    dsimp only
    by_cases hw : w = 0
    · subst hw
      rw [gc_zero x h1]
      have hc0 : cm 0 0 = 0 := rfl
      repeat' (first | simp (disch := omega) only [sxE, r03_gcd.E, Nat.reduceAdd, Nat.reduceEqDiff, Nat.reduceMul, Nat.reduceSub, Int.reduceAdd, Int.reduceSub, Int.reduceMul, Int.reduceNeg, Int.reduceLT, Int.reduceLE, Int.reduceEq, Int.reduceToNat, ↓reduceIte, Int.reducePow, Nat.reduceLeDiff, Nat.reduceLT, ne_eq, eq_self, List.length_cons, List.length_nil, qxE, hc0] | (with_reducible refine Sx.call_at (f := 65) (fun W hW => rx_sign h4 W) ?_))
    · have hc0 : cm w 0 ≠ 0 := by rw [hcm]; (repeat' split) <;> omega
      have hq := fits_emod (z := x) h4 hw
      have hm0 := Int.emod_nonneg x hw
      have hm1 := Int.emod_lt_of_pos x (show 0 < w by omega)
      have hgs := gc_step h1 (show 0 < w by omega)
      clear hcm
      by_cases hu : x < 18446744073709551616 ∧ w < 18446744073709551616
      · have u1 : unb x = true := decide_eq_true ⟨h1, hu.1⟩
        have u2 : unb w = true := decide_eq_true ⟨h2, hu.2⟩
        have u3 : unv x = x := by unfold unv; rw [u1]; rfl
        have u4 : unv w = w := by unfold unv; rw [u2]; rfl
        have k1 := fun W => rx_unsigned h3 W
        have k2 := fun W => rx_unsigned h4 W
        rw [u1, u3] at k1
        rw [u2, u4] at k2
        repeat' (first | simp (disch := omega) only [sxE, r03_gcd.E, Nat.reduceAdd, Nat.reduceEqDiff, Nat.reduceMul, Nat.reduceSub, Int.reduceAdd, Int.reduceSub, Int.reduceMul, Int.reduceNeg, Int.reduceLT, Int.reduceLE, Int.reduceEq, Int.reduceToNat, ↓reduceIte, Int.reducePow, Nat.reduceLeDiff, Nat.reduceLT, ne_eq, eq_self, List.length_cons, List.length_nil, qxE] | (with_reducible refine Sx.call_at (f := 65) (fun W hW => rx_sign h4 W) ?_) | (with_reducible refine Sx.call_at (f := 170) (fun W hW => k1 W) ?_) | (with_reducible refine Sx.call_at (f := 170) (fun W hW => k2 W) ?_))
        rw [r03_gcd.p7_l]
        obtain ⟨hu1, hu2⟩ := hu
        clear hgs hm0 hm1 hq hc0 hw u1 u2 u3 u4 k1 k2
        refine LX_inv gcF2 (fun t => U64 t.1 ∧ U64 t.2 ∧ gc t.1 t.2 = gc x w) (fun t => t.2.toNat) ?round2 (x, w) ⟨⟨h1, by omega⟩, ⟨h2, by omega⟩, rfl⟩ ?start2
        case start2 =>
          unfold gcF2
          dsimp only
          simp (disch := omega) only [sxE, r03_gcd.E, Nat.reduceAdd, Nat.reduceEqDiff, Nat.reduceMul, Nat.reduceSub, Int.reduceAdd, Int.reduceSub, Int.reduceMul, Int.reduceNeg, Int.reduceLT, Int.reduceLE, Int.reduceEq, Int.reduceToNat, ↓reduceIte, Int.reducePow, Nat.reduceLeDiff, Nat.reduceLT, ne_eq, eq_self, List.length_cons, List.length_nil]
        case round2 =>
          rintro ⟨s, t⟩ ⟨i1, i2, i3⟩
          dsimp only at i1 i2 i3 ⊢
          rw [← i3]
          unfold gcF2
          dsimp only
          by_cases ht : t = 0
          · subst ht
            rw [gc_zero s i1.1]
            repeat' (first | simp (disch := omega) only [sxE, r03_gcd.E, Nat.reduceAdd, Nat.reduceEqDiff, Nat.reduceMul, Nat.reduceSub, Int.reduceAdd, Int.reduceSub, Int.reduceMul, Int.reduceNeg, Int.reduceLT, Int.reduceLE, Int.reduceEq, Int.reduceToNat, ↓reduceIte, Int.reducePow, Nat.reduceLeDiff, Nat.reduceLT, ne_eq, eq_self, List.length_cons, List.length_nil, qxE] | (with_reducible refine Sx.call_at (f := 58) (fun W hW => rx_ofU i1 W) ?_))
          · have e1 : s.tmod t = s % t := Int.tmod_eq_emod_of_nonneg i1.1
            have j0 := Int.emod_nonneg s ht
            have j1 := Int.emod_lt_of_pos s (show 0 < t by have := i2.1; omega)
            have j2 := gc_step i1.1 (show 0 < t by have := i2.1; omega)
            have j3 := i2.2
            repeat' (first | simp (disch := omega) only [sxE, r03_gcd.E, Nat.reduceAdd, Nat.reduceEqDiff, Nat.reduceMul, Nat.reduceSub, Int.reduceAdd, Int.reduceSub, Int.reduceMul, Int.reduceNeg, Int.reduceLT, Int.reduceLE, Int.reduceEq, Int.reduceToNat, ↓reduceIte, Int.reducePow, Nat.reduceLeDiff, Nat.reduceLT, ne_eq, eq_self, List.length_cons, List.length_nil, qxE, e1])
            exact ⟨(t, s % t), ⟨i2, ⟨j0, by dsimp only; omega⟩, j2⟩, by dsimp only; omega, by repeat' (first | (with_reducible rfl) | (exact Or.inl rfl) | apply And.intro)⟩
      · have u2 : unb x = false ∨ unb w = false := by
          rcases Int.lt_or_le x 18446744073709551616 with hl | hl
          · right; exact decide_eq_false (by omega)
          · left; exact decide_eq_false (by omega)
        have k1 := fun W => rx_unsigned h3 W
        have k2 := fun W => rx_unsigned h4 W
        generalize unb x = p1 at *
        generalize unb w = p2 at *
        generalize unv x = w1 at *
        generalize unv w = w2 at *
        clear hu
        cases p1
        · repeat' (first | simp (disch := omega) only [sxE, r03_gcd.E, Nat.reduceAdd, Nat.reduceEqDiff, Nat.reduceMul, Nat.reduceSub, Int.reduceAdd, Int.reduceSub, Int.reduceMul, Int.reduceNeg, Int.reduceLT, Int.reduceLE, Int.reduceEq, Int.reduceToNat, ↓reduceIte, Int.reducePow, Nat.reduceLeDiff, Nat.reduceLT, ne_eq, eq_self, List.length_cons, List.length_nil, qxE] | (with_reducible refine Sx.call_at (f := 65) (fun W hW => rx_sign h4 W) ?_) | (with_reducible refine Sx.call_at (f := 170) (fun W hW => k1 W) ?_) | (with_reducible refine Sx.call_at (f := 170) (fun W hW => k2 W) ?_) | (with_reducible refine Sx.call_at (f := 23) (fun W hW => rx_divmod h3 h4 hw W) ?_))
          exact ⟨(w, x % w), ⟨h2, hm0, h4, hq, hgs⟩, by dsimp only; omega, by repeat' (first | (with_reducible rfl) | (exact Or.inl rfl) | apply And.intro)⟩
        · obtain rfl : p2 = false := by rcases u2 with h | h; cases h; exact h
          repeat' (first | simp (disch := omega) only [sxE, r03_gcd.E, Nat.reduceAdd, Nat.reduceEqDiff, Nat.reduceMul, Nat.reduceSub, Int.reduceAdd, Int.reduceSub, Int.reduceMul, Int.reduceNeg, Int.reduceLT, Int.reduceLE, Int.reduceEq, Int.reduceToNat, ↓reduceIte, Int.reducePow, Nat.reduceLeDiff, Nat.reduceLT, ne_eq, eq_self, List.length_cons, List.length_nil, qxE] | (with_reducible refine Sx.call_at (f := 65) (fun W hW => rx_sign h4 W) ?_) | (with_reducible refine Sx.call_at (f := 170) (fun W hW => k1 W) ?_) | (with_reducible refine Sx.call_at (f := 170) (fun W hW => k2 W) ?_) | (with_reducible refine Sx.call_at (f := 23) (fun W hW => rx_divmod h3 h4 hw W) ?_))
          exact ⟨(w, x % w), ⟨h2, hm0, h4, hq, hgs⟩, by dsimp only; omega, by repeat' (first | (with_reducible rfl) | (exact Or.inl rfl) | apply And.intro)⟩
set_option maxRecDepth 100000 in
theorem rx_rvalid {p q : Int} (h : Fits p) (h' : Fits q) (W : World) : Gives Try.prog 117 [RX p q] W (· = .bool (rok true p q)) := by
  have hg := fits_gc h h'
  have hcm := cm_pos q
  have gq := fun (hq : 0 ≤ q) W => rx_gcd (fits_ab h) h' (ab_nonneg p) hq W
  rw [gc_abl] at gq
  refine gives_known en_r03_Valid ?_
  by_cases hq : 0 < q
  · have gq := gq (by omega)
    have hc0 : ¬ cm q 0 ≤ 0 := by omega
    refine known_of (enter Try.func117 r03_Valid.ok (args := [RX p q]) (by simp) ?_)
    repeat' (first | simp (disch := omega) only [sxE, r03_Valid.E, Nat.reduceAdd, Nat.reduceEqDiff, Nat.reduceMul, Nat.reduceSub, Int.reduceAdd, Int.reduceSub, Int.reduceMul, Int.reduceNeg, Int.reduceLT, Int.reduceLE, Int.reduceEq, Int.reduceToNat, ↓reduceIte, Int.reducePow, Nat.reduceLeDiff, Nat.reduceLT, ne_eq, eq_self, List.length_cons, List.length_nil, qxE] | (with_reducible refine Sx.call_at (f := 88) (fun W hW => rx_valid h W) ?_) | (with_reducible refine Sx.call_at (f := 88) (fun W hW => rx_valid h' W) ?_) | (with_reducible refine Sx.call_at (f := 65) (fun W hW => rx_sign h' W) ?_) | (with_reducible refine Sx.call_at (f := 160) (fun W hW => rx_small h W) ?_) | (with_reducible refine Sx.call_at (f := 160) (fun W hW => rx_small h' W) ?_) | (with_reducible refine Sx.call_at (f := 136) (fun W hW => rx_abs W) ?_) | (with_reducible refine Sx.call_at (f := 135) (fun W hW => gq W) ?_) | (with_reducible refine Sx.call_at (f := 137) (fun W hW => rx_one W) ?_) | ((with_reducible apply Sx.eq_is); (case h => exact fun W => eqx_run hg fits_one W); (case' hk => skip)) | ((with_reducible first | apply cond_beq | apply gd_beq) <;> (intro hc; first | simp only [beq_iff_eq.2 hc] | simp only [beq_eq_false_iff_ne.2 hc] | skip)) | ((with_reducible first | apply cond_dec | apply gd_dec) <;> (intro hc; first | simp only [decide_eq_true hc] | simp only [decide_eq_false hc] | skip)) | ((with_reducible first | apply cond_of | apply gd_of) <;> (intro hc; try simp only [hc])))
    all_goals (refine vb ?_; unfold rok; rw [Bool.eq_iff_iff]; simp_all <;> (intros; omega))
  · have hc0 : cm q 0 ≤ 0 := by omega
    have e : rok true p q = false := by unfold rok; rw [decide_eq_false hq]; rfl
    rw [e]
    refine known_of (enter Try.func117 r03_Valid.ok (args := [RX p q]) (by simp) ?_)
    repeat' (first | simp (disch := omega) only [sxE, r03_Valid.E, Nat.reduceAdd, Nat.reduceEqDiff, Nat.reduceMul, Nat.reduceSub, Int.reduceAdd, Int.reduceSub, Int.reduceMul, Int.reduceNeg, Int.reduceLT, Int.reduceLE, Int.reduceEq, Int.reduceToNat, ↓reduceIte, Int.reducePow, Nat.reduceLeDiff, Nat.reduceLT, ne_eq, eq_self, List.length_cons, List.length_nil, qxE] | (with_reducible refine Sx.call_at (f := 88) (fun W hW => rx_valid h W) ?_) | (with_reducible refine Sx.call_at (f := 88) (fun W hW => rx_valid h' W) ?_) | (with_reducible refine Sx.call_at (f := 65) (fun W hW => rx_sign h' W) ?_))
theorem rx_rvalid0 {v : Value} (h : BadR v) (W : World) : Gives Try.prog 117 [v] W (· = .bool false) := by
  refine gives_known en_r03_Valid ?_
  rcases h with ⟨q, h, rfl⟩ | ⟨p, h, rfl⟩ | rfl
  · refine known_of (enter Try.func117 r03_Valid.ok (args := [_]) (by simp) ?_)
    repeat' (first | simp (disch := omega) only [sxE, r03_Valid.E, Nat.reduceAdd, Nat.reduceEqDiff, Nat.reduceMul, Nat.reduceSub, Int.reduceAdd, Int.reduceSub, Int.reduceMul, Int.reduceNeg, Int.reduceLT, Int.reduceLE, Int.reduceEq, Int.reduceToNat, ↓reduceIte, Int.reducePow, Nat.reduceLeDiff, Nat.reduceLT, ne_eq, eq_self, List.length_cons, List.length_nil, qxE] | (with_reducible refine Sx.call_at (f := 88) (fun W hW => rx_valid0 W) ?_))
  · refine known_of (enter Try.func117 r03_Valid.ok (args := [_]) (by simp) ?_)
    repeat' (first | simp (disch := omega) only [sxE, r03_Valid.E, Nat.reduceAdd, Nat.reduceEqDiff, Nat.reduceMul, Nat.reduceSub, Int.reduceAdd, Int.reduceSub, Int.reduceMul, Int.reduceNeg, Int.reduceLT, Int.reduceLE, Int.reduceEq, Int.reduceToNat, ↓reduceIte, Int.reducePow, Nat.reduceLeDiff, Nat.reduceLT, ne_eq, eq_self, List.length_cons, List.length_nil, qxE] | (with_reducible refine Sx.call_at (f := 88) (fun W hW => rx_valid h W) ?_) | (with_reducible refine Sx.call_at (f := 88) (fun W hW => rx_valid0 W) ?_))
  · refine known_of (enter Try.func117 r03_Valid.ok (args := [_]) (by simp) ?_)
    repeat' (first | simp (disch := omega) only [sxE, r03_Valid.E, Nat.reduceAdd, Nat.reduceEqDiff, Nat.reduceMul, Nat.reduceSub, Int.reduceAdd, Int.reduceSub, Int.reduceMul, Int.reduceNeg, Int.reduceLT, Int.reduceLE, Int.reduceEq, Int.reduceToNat, ↓reduceIte, Int.reducePow, Nat.reduceLeDiff, Nat.reduceLT, ne_eq, eq_self, List.length_cons, List.length_nil, qxE] | (with_reducible refine Sx.call_at (f := 88) (fun W hW => rx_valid0 W) ?_))
theorem rx_rof {z : Int} (h : I64 z) (W : World) : Gives Try.prog 82 [.int .i64 z] W (· = RX z 1) := by
  refine gives_known en_r03_Of ?_
  refine known_of (enter Try.func82 r03_Of.ok (args := [_]) (by simp) ?_)
  repeat' (first | simp (disch := omega) only [sxE, r03_Of.E, Nat.reduceAdd, Nat.reduceEqDiff, Nat.reduceMul, Nat.reduceSub, Int.reduceAdd, Int.reduceSub, Int.reduceMul, Int.reduceNeg, Int.reduceLT, Int.reduceLE, Int.reduceEq, Int.reduceToNat, ↓reduceIte, Int.reducePow, Nat.reduceLeDiff, Nat.reduceLT, ne_eq, eq_self, List.length_cons, List.length_nil, qxE] | (with_reducible refine Sx.call_at (f := 20) (fun W hW => rx_of h W) ?_) | (with_reducible refine Sx.call_at (f := 137) (fun W hW => rx_one W) ?_))
theorem x_foldR01 (q : Int) : Value.agg [.bool false, .int .u64 0, .int .u64 0, .int .u64 0, .int .u64 0, .bool (sg q), .int .u64 (lb0 (ab q)), .int .u64 (lb1 (ab q)), .int .u64 (lb2 (ab q)), .int .u64 (lb3 (ab q))].toArray = RX 0 q := rfl
set_option maxRecDepth 100000 in
theorem rx_rclean {v : Value} {p q : Int} (h : CQ v p q) (W : World) : Gives Try.prog 93 [v] W (· = RX p q) := by
  refine gives_known en_r03_clean ?_
  rcases h with ⟨x, y, h1, h2, rfl, rfl, rfl⟩ | ⟨h, rfl, rfl⟩
  · unfold qn qd
    cases hk : rok true x y
    · refine known_of (enter Try.func93 r03_clean.ok (args := [_]) (by simp) ?_)
      repeat' (first | simp (disch := omega) only [sxE, r03_clean.E, Nat.reduceAdd, Nat.reduceEqDiff, Nat.reduceMul, Nat.reduceSub, Int.reduceAdd, Int.reduceSub, Int.reduceMul, Int.reduceNeg, Int.reduceLT, Int.reduceLE, Int.reduceEq, Int.reduceToNat, ↓reduceIte, Int.reducePow, Nat.reduceLeDiff, Nat.reduceLT, ne_eq, eq_self, List.length_cons, List.length_nil, qxE, hk, x_foldR01] | (with_reducible refine Sx.call_at (f := 117) (fun W hW => rx_rvalid h1 h2 W) ?_) | (with_reducible refine Sx.call_at (f := 137) (fun W hW => rx_one W) ?_))
    · refine known_of (enter Try.func93 r03_clean.ok (args := [_]) (by simp) ?_)
      repeat' (first | simp (disch := omega) only [sxE, r03_clean.E, Nat.reduceAdd, Nat.reduceEqDiff, Nat.reduceMul, Nat.reduceSub, Int.reduceAdd, Int.reduceSub, Int.reduceMul, Int.reduceNeg, Int.reduceLT, Int.reduceLE, Int.reduceEq, Int.reduceToNat, ↓reduceIte, Int.reducePow, Nat.reduceLeDiff, Nat.reduceLT, ne_eq, eq_self, List.length_cons, List.length_nil, qxE, hk] | (with_reducible refine Sx.call_at (f := 117) (fun W hW => rx_rvalid h1 h2 W) ?_))
  · have hv := fun W => rx_rvalid0 h W
    rcases h with ⟨q, h, rfl⟩ | ⟨p, h, rfl⟩ | rfl
    · refine known_of (enter Try.func93 r03_clean.ok (args := [_]) (by simp) ?_)
      repeat' (first | simp (disch := omega) only [sxE, r03_clean.E, Nat.reduceAdd, Nat.reduceEqDiff, Nat.reduceMul, Nat.reduceSub, Int.reduceAdd, Int.reduceSub, Int.reduceMul, Int.reduceNeg, Int.reduceLT, Int.reduceLE, Int.reduceEq, Int.reduceToNat, ↓reduceIte, Int.reducePow, Nat.reduceLeDiff, Nat.reduceLT, ne_eq, eq_self, List.length_cons, List.length_nil, qxE, x_foldR01] | (with_reducible refine Sx.call_at (f := 117) (fun W hW => hv W) ?_) | (with_reducible refine Sx.call_at (f := 137) (fun W hW => rx_one W) ?_))
    · refine known_of (enter Try.func93 r03_clean.ok (args := [_]) (by simp) ?_)
      repeat' (first | simp (disch := omega) only [sxE, r03_clean.E, Nat.reduceAdd, Nat.reduceEqDiff, Nat.reduceMul, Nat.reduceSub, Int.reduceAdd, Int.reduceSub, Int.reduceMul, Int.reduceNeg, Int.reduceLT, Int.reduceLE, Int.reduceEq, Int.reduceToNat, ↓reduceIte, Int.reducePow, Nat.reduceLeDiff, Nat.reduceLT, ne_eq, eq_self, List.length_cons, List.length_nil, qxE, x_foldR01] | (with_reducible refine Sx.call_at (f := 117) (fun W hW => hv W) ?_) | (with_reducible refine Sx.call_at (f := 137) (fun W hW => rx_one W) ?_))
    · refine known_of (enter Try.func93 r03_clean.ok (args := [_]) (by simp) ?_)
      repeat' (first | simp (disch := omega) only [sxE, r03_clean.E, Nat.reduceAdd, Nat.reduceEqDiff, Nat.reduceMul, Nat.reduceSub, Int.reduceAdd, Int.reduceSub, Int.reduceMul, Int.reduceNeg, Int.reduceLT, Int.reduceLE, Int.reduceEq, Int.reduceToNat, ↓reduceIte, Int.reducePow, Nat.reduceLeDiff, Nat.reduceLT, ne_eq, eq_self, List.length_cons, List.length_nil, qxE, x_foldR01] | (with_reducible refine Sx.call_at (f := 117) (fun W hW => hv W) ?_) | (with_reducible refine Sx.call_at (f := 137) (fun W hW => rx_one W) ?_))
theorem rx_rat {v : Value} {p q n : Int} (h : CQ v p q) (hn : U64 n) (W : World) : Gives Try.prog 40 [v, .int .u64 n] W (· = WX (atq p q n)) := by
  obtain ⟨c0, c1, c2, c3, c4, c5, c6, c7, c8, c9, rfl⟩ := h.ten
  have f := h.fq
  have b1 := bd_mul f.bp (bd_u64 hn)
  have b2 : Bd 192 (p * n + p * n) := bd_add b1 b1 (by decide) (by decide)
  have b3 : Bd 193 (p * n + p * n + q) := bd_add b2 f.bq (by decide) (by decide)
  have b4 : Bd 128 (q + q) := bd_add f.bq f.bq (by decide) (by decide)
  have f1 := b1.fits
  have f2 := b2.fits
  have f3 := b3.fits
  have f4 := b4.fits
  have fn := (bd_u64 hn).fits
  have ne : q + q ≠ 0 := by have := f.pos; omega
  have e : atq p q n = (p * n + p * n + q) / (q + q) := by unfold atq; rw [Int.two_mul, Int.two_mul]
  rw [e]
  clear b1 b2 b3 b4 e
  refine gives_known en_r03_At ?_
  refine known_of (enter Try.func40 r03_At.ok (args := [_, _]) (by simp) ?_)
  repeat' (first | simp (disch := omega) only [sxE, r03_At.E, Nat.reduceAdd, Nat.reduceEqDiff, Nat.reduceMul, Nat.reduceSub, Int.reduceAdd, Int.reduceSub, Int.reduceMul, Int.reduceNeg, Int.reduceLT, Int.reduceLE, Int.reduceEq, Int.reduceToNat, ↓reduceIte, Int.reducePow, Nat.reduceLeDiff, Nat.reduceLT, ne_eq, eq_self, List.length_cons, List.length_nil, qxE] | (with_reducible refine Sx.call_at (f := 93) (fun W hW => rx_rclean h W) ?_) | (with_reducible refine Sx.call_at (f := 58) (fun W hW => rx_ofU hn W) ?_) | (with_reducible refine Sx.call_at (f := 57) (fun W hW => rx_mul f.fp fn f1 W) ?_) | (with_reducible refine Sx.call_at (f := 22) (fun W hW => rx_add f1 f1 f2 W) ?_) | (with_reducible refine Sx.call_at (f := 22) (fun W hW => rx_add f2 f.fq f3 W) ?_) | (with_reducible refine Sx.call_at (f := 22) (fun W hW => rx_add f.fq f.fq f4 W) ?_) | (with_reducible refine Sx.call_at (f := 23) (fun W hW => rx_divmod f3 f4 ne W) ?_))
theorem sg_beq (z y : Int) : (sg z == sg y) = decide ((z < 0) ↔ (y < 0)) := by
  unfold sg
  by_cases h : z < 0 <;> by_cases h' : y < 0 <;> simp [h, h']
theorem mn_sg {z y : Int} (hy : y ≠ 0) : ((z < 0 ↔ y < 0) → mn z y = ab z / gc z y) ∧ (¬ (z < 0 ↔ y < 0) → mn z y = -(ab z / gc z y)) := by
  have hd : gc z y ∣ z := gc_dvd_l z y
  unfold mn ab
  by_cases h : z < 0 <;> by_cases h' : y < 0 <;> simp only [h, h', if_true, if_false, iff_true, iff_false, not_true_eq_false, not_false_eq_true, false_implies, true_implies, and_true, true_and, forall_const]
  · rw [Int.neg_ediv_of_dvd hd, Int.neg_neg]
  · exact Int.neg_ediv_of_dvd hd
set_option maxRecDepth 100000 in
theorem rx_rmake {v v' : Value} {b b' : Bool} {z y : Int} (h : RW v b z) (h' : RW v' b' y) (W : World) : Gives Try.prog 81 [v, v'] W (· = mkV (b && b') z y) := by
  refine gives_known en_r03_Make ?_
  have v1 := fun W => ry_valid h W
  have v2 := fun W => ry_valid h' W
  have s2 := fun W => rg_sign h'.is W
  by_cases hbad : b = false ∨ b' = false ∨ y = 0
  · have e : mkV (b && b') z y = .tuple #[RX 0 0, .bool false] := by
      unfold mkV mok
      rcases hbad with rfl | rfl | rfl
      · rfl
      · rw [Bool.and_false]; rfl
      · rw [if_neg (by simp)]
    rw [e]
    obtain ⟨c0, c1, c2, c3, c4, rfl⟩ := h.five
    obtain ⟨d0, d1, d2, d3, d4, rfl⟩ := h'.five
    have hcm := cm_zero_iff y
    clear e h h'
    cases b
    · refine known_of (enter Try.func81 r03_Make.ok (args := [_, _]) (by simp) ?_)
      repeat' (first | simp (disch := omega) only [sxE, r03_Make.E, Nat.reduceAdd, Nat.reduceEqDiff, Nat.reduceMul, Nat.reduceSub, Int.reduceAdd, Int.reduceSub, Int.reduceMul, Int.reduceNeg, Int.reduceLT, Int.reduceLE, Int.reduceEq, Int.reduceToNat, ↓reduceIte, Int.reducePow, Nat.reduceLeDiff, Nat.reduceLT, ne_eq, eq_self, List.length_cons, List.length_nil, qxE] | (with_reducible refine Sx.call_at (f := 88) (fun W hW => v1 W) ?_))
    · cases b'
      · refine known_of (enter Try.func81 r03_Make.ok (args := [_, _]) (by simp) ?_)
        repeat' (first | simp (disch := omega) only [sxE, r03_Make.E, Nat.reduceAdd, Nat.reduceEqDiff, Nat.reduceMul, Nat.reduceSub, Int.reduceAdd, Int.reduceSub, Int.reduceMul, Int.reduceNeg, Int.reduceLT, Int.reduceLE, Int.reduceEq, Int.reduceToNat, ↓reduceIte, Int.reducePow, Nat.reduceLeDiff, Nat.reduceLT, ne_eq, eq_self, List.length_cons, List.length_nil, qxE] | (with_reducible refine Sx.call_at (f := 88) (fun W hW => v1 W) ?_) | (with_reducible refine Sx.call_at (f := 88) (fun W hW => v2 W) ?_))
      · have hc0 : cm y 0 = 0 := hcm.2 (by rcases hbad with h | h | h; cases h; cases h; exact h)
        clear hcm hbad
        refine known_of (enter Try.func81 r03_Make.ok (args := [_, _]) (by simp) ?_)
        repeat' (first | simp (disch := omega) only [sxE, r03_Make.E, Nat.reduceAdd, Nat.reduceEqDiff, Nat.reduceMul, Nat.reduceSub, Int.reduceAdd, Int.reduceSub, Int.reduceMul, Int.reduceNeg, Int.reduceLT, Int.reduceLE, Int.reduceEq, Int.reduceToNat, ↓reduceIte, Int.reducePow, Nat.reduceLeDiff, Nat.reduceLT, ne_eq, eq_self, List.length_cons, List.length_nil, qxE, hc0] | (with_reducible refine Sx.call_at (f := 88) (fun W hW => v1 W) ?_) | (with_reducible refine Sx.call_at (f := 88) (fun W hW => v2 W) ?_) | (with_reducible refine Sx.call_at (f := 65) (fun W hW => s2 W) ?_))
  · obtain ⟨rfl, rfl⟩ : b = true ∧ b' = true := by
      cases b
      · exact absurd (.inl rfl) hbad
      · cases b'
        · exact absurd (.inr (.inl rfl)) hbad
        · exact ⟨rfl, rfl⟩
    have hy : y ≠ 0 := fun e => hbad (.inr (.inr e))
    rcases h with ⟨-, rfl, h⟩ | ⟨h, -, -⟩
    rotate_left
    · cases h
    rcases h' with ⟨-, rfl, h'⟩ | ⟨h', -, -⟩
    rotate_left
    · cases h'
    have hc0 : cm y 0 ≠ 0 := fun e => hy ((cm_zero_iff y).1 e)
    have f1 := fits_mn h hy
    have f2 := fits_mD (z := z) h' hy
    have a1 := fits_ab h
    have a2 := fits_ab h'
    have hg := fits_gc h h'
    have hgp := gc_pos (x := z) hy
    have hgn : gc z y ≠ 0 := by omega
    have e : mkV (true && true) z y = if rok true (mn z y) (mD z y) = true then .tuple #[RX (mn z y) (mD z y), .bool true] else .tuple #[RX 0 0, .bool false] := by
      unfold mkV mok rok
      rw [decide_eq_false hy, decide_eq_true (mk_pos hy), decide_eq_true (mk_gc hy)]
      simp only [Bool.and_true, Bool.true_and, Bool.not_false]
    rw [e]
    have k1 := fun W => rx_rvalid f1 f2 W
    generalize rok true (mn z y) (mD z y) = t at *
    clear e hbad
    have sb := sg_beq z y
    have gg := fun W => rx_gcd a1 a2 (ab_nonneg z) (ab_nonneg y) W
    rw [gc_abs] at gg
    have d1 := fun W => rx_divmod a1 hg hgn W
    have d2 := fun W => rx_divmod a2 hg hgn W
    have e2 : ab y / gc z y = mD z y := rfl
    rw [e2] at d2
    have f3 := fits_ediv a1 hgn
    obtain ⟨m1, m2⟩ := mn_sg (z := z) hy
    by_cases hs : (z < 0 ↔ y < 0)
    · have e1 := m1 hs
      rw [e1] at k1 f1 ⊢
      rw [decide_eq_true hs] at sb
      clear m1 m2 e1 e2 hs
      generalize ab z / gc z y = N at *
      generalize mD z y = D at *
      generalize gc z y = G at *
      cases t
      all_goals
        refine known_of (enter Try.func81 r03_Make.ok (args := [_, _]) (by simp) ?_)
        repeat' (first | simp (disch := omega) only [sxE, r03_Make.E, Nat.reduceAdd, Nat.reduceEqDiff, Nat.reduceMul, Nat.reduceSub, Int.reduceAdd, Int.reduceSub, Int.reduceMul, Int.reduceNeg, Int.reduceLT, Int.reduceLE, Int.reduceEq, Int.reduceToNat, ↓reduceIte, Int.reducePow, Nat.reduceLeDiff, Nat.reduceLT, ne_eq, eq_self, List.length_cons, List.length_nil, qxE, sb] | (with_reducible refine Sx.call_at (f := 88) (fun W hW => v1 W) ?_) | (with_reducible refine Sx.call_at (f := 88) (fun W hW => v2 W) ?_) | (with_reducible refine Sx.call_at (f := 65) (fun W hW => s2 W) ?_) | (with_reducible refine Sx.call_at (f := 136) (fun W hW => rx_abs W) ?_) | (with_reducible refine Sx.call_at (f := 135) (fun W hW => gg W) ?_) | (with_reducible refine Sx.call_at (f := 23) (fun W hW => d1 W) ?_) | (with_reducible refine Sx.call_at (f := 23) (fun W hW => d2 W) ?_) | (with_reducible refine Sx.call_at (f := 117) (fun W hW => k1 W) ?_))
        try rfl
    · have e1 := m2 hs
      rw [e1] at k1 f1 ⊢
      rw [decide_eq_false hs] at sb
      clear m1 m2 e1 e2 hs
      generalize ab z / gc z y = N at *
      generalize mD z y = D at *
      generalize gc z y = G at *
      cases t
      all_goals
        refine known_of (enter Try.func81 r03_Make.ok (args := [_, _]) (by simp) ?_)
        repeat' (first | simp (disch := omega) only [sxE, r03_Make.E, Nat.reduceAdd, Nat.reduceEqDiff, Nat.reduceMul, Nat.reduceSub, Int.reduceAdd, Int.reduceSub, Int.reduceMul, Int.reduceNeg, Int.reduceLT, Int.reduceLE, Int.reduceEq, Int.reduceToNat, ↓reduceIte, Int.reducePow, Nat.reduceLeDiff, Nat.reduceLT, ne_eq, eq_self, List.length_cons, List.length_nil, qxE, sb] | (with_reducible refine Sx.call_at (f := 88) (fun W hW => v1 W) ?_) | (with_reducible refine Sx.call_at (f := 88) (fun W hW => v2 W) ?_) | (with_reducible refine Sx.call_at (f := 65) (fun W hW => s2 W) ?_) | (with_reducible refine Sx.call_at (f := 136) (fun W hW => rx_abs W) ?_) | (with_reducible refine Sx.call_at (f := 135) (fun W hW => gg W) ?_) | (with_reducible refine Sx.call_at (f := 23) (fun W hW => d1 W) ?_) | (with_reducible refine Sx.call_at (f := 23) (fun W hW => d2 W) ?_) | (with_reducible refine Sx.call_at (f := 53) (fun W hW => rx_neg f3 W) ?_) | (with_reducible refine Sx.call_at (f := 117) (fun W hW => k1 W) ?_))
        try rfl
end Go.Proofs.Ytncmmbacoknefaa

/- CdT: MADE BY PROGRAM (sxgen.py): the small code of some functions, points of it and their equations. -/
namespace Go.Proofs.Ytncmmbacoknefaa
open Go Go.RowKit Sx
set_option linter.unusedVariables false
variable (C : Cx) (R L1 L2 L3 L4 : St → Prop)
namespace m_Tape__Ratio
def r0 : List G := [(some 2, none, (.new zR))]
def r1 : List G := [(some 7, none, (.mv (.tmp 0))), (some 8, none, (.call false 31 [(.tmp 7), (.const (.int .i64 200))])), (some 9, none, (.bin .sub (.tmp 8) (.const (.int .i64 100)))), (some 10, none, (.call false 20 [(.tmp 9)])), (some 11, none, (.mv (.tmp 0))), (some 12, none, (.call false 31 [(.tmp 11), (.const (.int .i64 60))])), (some 13, none, (.bin .add (.const (.int .i64 1)) (.tmp 12))), (some 14, none, (.call false 20 [(.tmp 13)])), (some 3, none, (.new zW)), (some 4, none, (.new zW)), (none, none, (.st true 5 (.tmp 3) (.tmp 10))), (none, none, (.st true 5 (.tmp 4) (.tmp 14)))]
def r2 : List G := [(some 15, none, (.mv (.tmp 0))), (some 16, none, (.call false 52 [(.tmp 15), (.const (.int .i64 4))]))]
def r3 : List G := [(some 17, none, (.mv (.tmp 0))), (some 18, none, (.call false 32 [(.tmp 17)])), (some 19, none, (.call false 20 [(.tmp 18)])), (some 20, none, (.mv (.tmp 0))), (some 21, none, (.call false 30 [(.tmp 20)])), (some 22, none, (.bin .or (.tmp 21) (.const (.int .u64 1)))), (some 23, none, (.call false 58 [(.tmp 22)])), (none, none, (.st true 5 (.tmp 3) (.tmp 19))), (none, none, (.st true 5 (.tmp 4) (.tmp 23)))]
def r4 : List G := [(some 24, none, (.mv (.tmp 0))), (some 25, none, (.call false 52 [(.tmp 24), (.const (.int .i64 8))]))]
def r5 : List G := [(some 27, none, (.ld true 5 (.tmp 3))), (some 28, none, (.call true 20 [(.const (.int .i64 4611686018427387904))])), (some 29, none, (.call true 57 [(.tmp 27), (.tmp 28)])), (some 26, none, (.mv (.tmp 29))), (some 30, none, (.ex (.tmp 26) 0)), (some 31, none, (.ex (.tmp 26) 1))]
def t5 : List G := [(none, none, (.st true 5 (.tmp 3) (.tmp 30)))]
def r6 : List G := [(some 33, none, (.ld true 5 (.tmp 3))), (some 34, none, (.ld true 5 (.tmp 4))), (some 35, none, (.call false 81 [(.tmp 33), (.tmp 34)])), (some 32, none, (.mv (.tmp 35))), (some 36, none, (.ex (.tmp 32) 0)), (some 37, none, (.ex (.tmp 32) 1)), (some 5, none, (.new zR)), (none, none, (.st true 10 (.tmp 5) (.tmp 36))), (some 6, none, (.mv (.tmp 37)))]
def r7 : List G := [(some 38, none, (.mv (.tmp 6))), (some 39, none, (.un .not (.tmp 38)))]
def r8 : List G := [(some 40, none, (.call false 82 [(.const (.int .i64 1))])), (none, none, (.st true 10 (.tmp 2) (.tmp 40)))]
def r9 : List G := [(some 41, none, (.ld true 10 (.tmp 5))), (none, none, (.st true 10 (.tmp 2) (.tmp 41)))]
def c : MC := (.seq (.reg r0 (some [0, 2])) (.seq (.reg r1 (some [0, 2, 3, 4])) (.seq (.seq (.reg r2 (some [0, 2, 3, 4, 16])) (.cond (.tmp 16) (.reg r3 (some [0, 2, 3, 4])) .skip)) (.seq (.seq (.reg r4 (some [2, 3, 4, 25])) (.cond (.tmp 25) (.dreg r5 t5 (some [2, 3, 4])) .skip)) (.seq (.reg r6 (some [2, 5, 6])) (.seq (.seq (.reg r7 (some [2, 5, 39])) (.cond (.tmp 39) (.seq (.reg r8 (some [2])) .ret) .skip)) (.seq (.reg r9 (some [2])) .ret)))))))
def ann : Ann := [(0, (some [0, 2], 0, [], [], [])), (1, (some [0, 2, 3, 4], 0, [], [], [])), (2, (some [0, 2, 3, 4, 16], 0, [], [], [])), (3, (some [0, 2, 3, 4], 0, [], [], [])), (4, (some [2, 3, 4, 25], 0, [], [], [])), (5, (some [2, 3, 4], 6, [5], [(0, 0), (1, 0), (2, 0), (3, 0), (4, 0), (5, 2)], [])), (6, (some [2, 5, 6], 0, [], [], [])), (7, (some [2, 5, 39], 0, [], [], [])), (8, (some [2], 0, [], [], [])), (9, (some [2], 0, [], [], []))]
theorem ok : compF Try.prog Try.f29 ann = some (42, c, [(2, some (true, 10))]) := by kernel_rfl
def p1 (S : St) : Prop := ops C r9 (kq [2] R) S
def p3 (S : St) : Prop := ops C r8 (kq [2] R) S
def p2 (S : St) : Prop := condX (S.ev (.tmp 39)) (p3 C R) (p1 C R) S
def p4 (S : St) : Prop := ops C r7 (kq [2, 5, 39] (p2 C R)) S
def p5 (S : St) : Prop := ops C r6 (kq [2, 5, 6] (p4 C R)) S
def p7 (S : St) : Prop := ops C r5 (ops C t5 (kq [2, 3, 4] (p5 C R))) S
def p6 (S : St) : Prop := condX (S.ev (.tmp 25)) (p7 C R) (p5 C R) S
def p8 (S : St) : Prop := ops C r4 (kq [2, 3, 4, 25] (p6 C R)) S
def p10 (S : St) : Prop := ops C r3 (kq [0, 2, 3, 4] (p8 C R)) S
def p9 (S : St) : Prop := condX (S.ev (.tmp 16)) (p10 C R) (p8 C R) S
def p11 (S : St) : Prop := ops C r2 (kq [0, 2, 3, 4, 16] (p9 C R)) S
def p12 (S : St) : Prop := ops C r1 (kq [0, 2, 3, 4] (p11 C R)) S
def p13 (S : St) : Prop := ops C r0 (kq [0, 2] (p12 C R)) S
theorem s (S : St) : X C c (retK R) S = p13 C R S := by kernel_rfl
theorem E : type_of% @r9.eq_1 ∧ type_of% @p1.eq_1 ∧ type_of% @r8.eq_1 ∧ type_of% @p3.eq_1 ∧ type_of% @p2.eq_1 ∧ type_of% @r7.eq_1 ∧ type_of% @p4.eq_1 ∧ type_of% @r6.eq_1 ∧ type_of% @p5.eq_1 ∧ type_of% @r5.eq_1 ∧ type_of% @t5.eq_1 ∧ type_of% @p7.eq_1 ∧ type_of% @p6.eq_1 ∧ type_of% @r4.eq_1 ∧ type_of% @p8.eq_1 ∧ type_of% @r3.eq_1 ∧ type_of% @p10.eq_1 ∧ type_of% @p9.eq_1 ∧ type_of% @r2.eq_1 ∧ type_of% @p11.eq_1 ∧ type_of% @r1.eq_1 ∧ type_of% @p12.eq_1 ∧ type_of% @r0.eq_1 ∧ type_of% @p13.eq_1 ∧ type_of% @s := ⟨@r9.eq_1, @p1.eq_1, @r8.eq_1, @p3.eq_1, @p2.eq_1, @r7.eq_1, @p4.eq_1, @r6.eq_1, @p5.eq_1, @r5.eq_1, @t5.eq_1, @p7.eq_1, @p6.eq_1, @r4.eq_1, @p8.eq_1, @r3.eq_1, @p10.eq_1, @p9.eq_1, @r2.eq_1, @p11.eq_1, @r1.eq_1, @p12.eq_1, @r0.eq_1, @p13.eq_1, @s⟩
end m_Tape__Ratio
end Go.Proofs.Ytncmmbacoknefaa

/- Tr: What a call of the tape's Ratio gives. -/
namespace Go.Proofs.Ytncmmbacoknefaa
open Go Go.RowKit Sx
set_option linter.unusedVariables false
set_option linter.unusedSimpArgs false
theorem mkV_cases {b : Bool} {z y : Int} : (mok b z y = true ∧ mkV b z y = .tuple #[RX (mn z y) (mD z y), .bool true]) ∨ (mok b z y = false ∧ mkV b z y = .tuple #[RX 0 0, .bool false]) := by
  unfold mkV
  cases h : mok b z y
  · exact .inr ⟨rfl, rfl⟩
  · exact .inl ⟨rfl, rfl⟩
theorem or_one {x : Int} (h : U64 x) : U64 (IntKind.u64.wrap (BitVec.ofInt IntKind.u64.bits x ||| BitVec.ofInt IntKind.u64.bits 1).toNat) ∧ IntKind.u64.wrap (BitVec.ofInt IntKind.u64.bits x ||| BitVec.ofInt IntKind.u64.bits 1).toNat ≠ 0 := by
  have hlt := (BitVec.ofInt IntKind.u64.bits x ||| BitVec.ofInt IntKind.u64.bits 1).isLt
  have hne : (BitVec.ofInt IntKind.u64.bits x ||| BitVec.ofInt IntKind.u64.bits 1).toNat ≠ 0 := by
    intro e
    rw [BitVec.toNat_or] at e
    have h2 := Nat.or_eq_zero_iff.1 e
    have : (BitVec.ofInt IntKind.u64.bits 1).toNat = 1 := by decide
    omega
  generalize (BitVec.ofInt IntKind.u64.bits x ||| BitVec.ofInt IntKind.u64.bits 1).toNat = n at *
  have hb : (n : Int) < 18446744073709551616 := by
    have : (2 : Nat) ^ IntKind.u64.bits = 18446744073709551616 := by decide
    rw [this] at hlt; omega
  have e : IntKind.u64.wrap (n : Int) = n := IntWalk.u64_in _ (by omega)
  rw [e]
  exact ⟨⟨by omega, by omega⟩, by omega⟩
/-- The Ratio of a valid fraction. -/
def IsR (v : Value) : Prop := ∃ x : Int × Int, Fq x.1 x.2 ∧ v = RX x.1 x.2
set_option maxRecDepth 100000 in
theorem t_ratio (tb : Nat) : TpC 29 [.pointer (some ⟨tb, 0, none⟩)] tb (fun x : Int × Int => Fq x.1 x.2) (fun x => RX x.1 x.2) := by
  intro B Bm w ht
  refine Calls.mono (enterG Try.func29 m_Tape__Ratio.ok (args := [.pointer (some ⟨tb, 0, none⟩)]) (w0 := cut w tb) (T := kX (cut w tb).heap.size [.g (hK w tb B Bm)]) (R := fun v X => (IsR) v ∧ X = kX (cut w tb).heap.size [.g (hK w tb B Bm)]) (by simp) (below_cut (Nat.le_of_lt ht.lt)) (hK_start ht).1 (kX_stab (Sx.cx _ (cut w tb) _) _) (hK_start ht).2 ?run) ?fin; have hk := tpk_h' ht
  case fin =>
    rintro e w' ⟨v, X, rfl, ⟨⟨x, hx, rfl⟩, rfl⟩, hX, hb, -⟩
    obtain ⟨h1, h2⟩ := hK_end hX (List.mem_singleton.2 rfl) hb
    exact ⟨x, hx, rfl, h1, h2⟩
  case run =>
    try dsimp only
    repeat' (first | simp (disch := omega) only [sxE, m_Tape__Ratio.E, Nat.reduceAdd, Nat.reduceEqDiff, Nat.reduceMul, Nat.reduceSub, Int.reduceAdd, Int.reduceSub, Int.reduceMul, Int.reduceNeg, Int.reduceLT, Int.reduceLE, Int.reduceEq, Int.reduceToNat, ↓reduceIte, Int.reducePow, Nat.reduceLeDiff, Nat.reduceLT, ne_eq, eq_self, List.length_cons, List.length_nil, qxE])
    refine asks_tc rfl (hk) (t_next tb (by decide) (by decide)) en_m_Tape__Next rfl (by first | exact List.mem_singleton.2 rfl | simp) rfl (by first | exact fun j hj => .inl (List.mem_singleton.1 hj) | simp) ?_
    intro r1 ⟨a1, a2⟩
    have i1 : I64 (r1 - 100) := ⟨by omega, by omega⟩
    repeat' (first | simp (disch := omega) only [sxE, m_Tape__Ratio.E, Nat.reduceAdd, Nat.reduceEqDiff, Nat.reduceMul, Nat.reduceSub, Int.reduceAdd, Int.reduceSub, Int.reduceMul, Int.reduceNeg, Int.reduceLT, Int.reduceLE, Int.reduceEq, Int.reduceToNat, ↓reduceIte, Int.reducePow, Nat.reduceLeDiff, Nat.reduceLT, ne_eq, eq_self, List.length_cons, List.length_nil, qxE] | (with_reducible refine Sx.call_at (f := 20) (fun W hW => rx_of i1 W) ?_))
    refine asks_tc rfl (hk) (t_next tb (by decide) (by decide)) en_m_Tape__Next rfl (by first | exact List.mem_singleton.2 rfl | simp) rfl (by first | exact fun j hj => .inl (List.mem_singleton.1 hj) | simp) ?_
    intro r2 ⟨b1, b2⟩
    have i2 : I64 (1 + r2) := ⟨by omega, by omega⟩
    have f1 := (bd_i64 i1).fits
    have f2 := (bd_i64 i2).fits
    repeat' (first | simp (disch := omega) only [sxE, m_Tape__Ratio.E, Nat.reduceAdd, Nat.reduceEqDiff, Nat.reduceMul, Nat.reduceSub, Int.reduceAdd, Int.reduceSub, Int.reduceMul, Int.reduceNeg, Int.reduceLT, Int.reduceLE, Int.reduceEq, Int.reduceToNat, ↓reduceIte, Int.reducePow, Nat.reduceLeDiff, Nat.reduceLT, ne_eq, eq_self, List.length_cons, List.length_nil, qxE] | (with_reducible refine Sx.call_at (f := 20) (fun W hW => rx_of i2 W) ?_))
    have bN := bd_i64 i1
    have bD := bd_i64 i2
    have dne : 1 + r2 ≠ 0 := by omega
    refine asks_tc rfl (hk) (t_bool tb (by decide) (by decide)) en_m_Tape__Bool rfl (by first | exact List.mem_singleton.2 rfl | simp) rfl (by first | exact fun j hj => .inl (List.mem_singleton.1 hj) | simp) ?_
    rintro (_ | _) -
    case' true =>
      repeat' (first | simp (disch := omega) only [sxE, m_Tape__Ratio.E, Nat.reduceAdd, Nat.reduceEqDiff, Nat.reduceMul, Nat.reduceSub, Int.reduceAdd, Int.reduceSub, Int.reduceMul, Int.reduceNeg, Int.reduceLT, Int.reduceLE, Int.reduceEq, Int.reduceToNat, ↓reduceIte, Int.reducePow, Nat.reduceLeDiff, Nat.reduceLT, ne_eq, eq_self, List.length_cons, List.length_nil, qxE])
      refine asks_tc rfl (hk) (t_int tb) en_m_Tape__Int rfl (by first | exact List.mem_singleton.2 rfl | simp) rfl (by first | exact fun j hj => .inl (List.mem_singleton.1 hj) | simp) ?_
      intro z hz
      clear bN bD dne i1 i2 f1 f2 a1 a2 b1 b2
      repeat' (first | simp (disch := omega) only [sxE, m_Tape__Ratio.E, Nat.reduceAdd, Nat.reduceEqDiff, Nat.reduceMul, Nat.reduceSub, Int.reduceAdd, Int.reduceSub, Int.reduceMul, Int.reduceNeg, Int.reduceLT, Int.reduceLE, Int.reduceEq, Int.reduceToNat, ↓reduceIte, Int.reducePow, Nat.reduceLeDiff, Nat.reduceLT, ne_eq, eq_self, List.length_cons, List.length_nil, qxE] | (with_reducible refine Sx.call_at (f := 20) (fun W hW => rx_of hz W) ?_))
      refine asks_tc rfl (hk) (t_word tb) en_m_Tape__Word rfl (by first | exact List.mem_singleton.2 rfl | simp) rfl (by first | exact fun j hj => .inl (List.mem_singleton.1 hj) | simp) ?_
      intro y hy
      obtain ⟨o1, o2⟩ := or_one hy
      have bN := bd_i64 hz
      have bD := bd_u64 o1
      have dne := o2
      have i1 : True := trivial
      have i2 : True := trivial
      have a1 : True := trivial
      have a2 : True := trivial
      have b1 : True := trivial
      have b2 : True := trivial
      have f1 := bN.fits
      have f2 := bD.fits
      repeat' (first | simp (disch := omega) only [sxE, m_Tape__Ratio.E, Nat.reduceAdd, Nat.reduceEqDiff, Nat.reduceMul, Nat.reduceSub, Int.reduceAdd, Int.reduceSub, Int.reduceMul, Int.reduceNeg, Int.reduceLT, Int.reduceLE, Int.reduceEq, Int.reduceToNat, ↓reduceIte, Int.reducePow, Nat.reduceLeDiff, Nat.reduceLT, ne_eq, eq_self, List.length_cons, List.length_nil, qxE])
      generalize IntKind.u64.wrap (BitVec.ofInt IntKind.u64.bits y ||| BitVec.ofInt IntKind.u64.bits 1).toNat = D at *
      repeat' (first | simp (disch := omega) only [sxE, m_Tape__Ratio.E, Nat.reduceAdd, Nat.reduceEqDiff, Nat.reduceMul, Nat.reduceSub, Int.reduceAdd, Int.reduceSub, Int.reduceMul, Int.reduceNeg, Int.reduceLT, Int.reduceLE, Int.reduceEq, Int.reduceToNat, ↓reduceIte, Int.reducePow, Nat.reduceLeDiff, Nat.reduceLT, ne_eq, eq_self, List.length_cons, List.length_nil, qxE] | (with_reducible refine Sx.call_at (f := 58) (fun W hW => rx_ofU o1 W) ?_))
    case' false =>
      repeat' (first | simp (disch := omega) only [sxE, m_Tape__Ratio.E, Nat.reduceAdd, Nat.reduceEqDiff, Nat.reduceMul, Nat.reduceSub, Int.reduceAdd, Int.reduceSub, Int.reduceMul, Int.reduceNeg, Int.reduceLT, Int.reduceLE, Int.reduceEq, Int.reduceToNat, ↓reduceIte, Int.reducePow, Nat.reduceLeDiff, Nat.reduceLT, ne_eq, eq_self, List.length_cons, List.length_nil, qxE])
    all_goals
      clear i1 i2 a1 a2 b1 b2
      refine asks_tc rfl (hk) (t_bool tb (by decide) (by decide)) en_m_Tape__Bool rfl (by first | exact List.mem_singleton.2 rfl | simp) rfl (by first | exact fun j hj => .inl (List.mem_singleton.1 hj) | simp) ?_
      rintro (_ | _) -
      case' true =>
        have i62 : I64 4611686018427387904 := ⟨by decide, by decide⟩
        have f3 := (bd_mul bN (bd_i64 i62)).fits
        have f62 := (bd_i64 i62).fits
        repeat' (first | simp (disch := omega) only [sxE, m_Tape__Ratio.E, Nat.reduceAdd, Nat.reduceEqDiff, Nat.reduceMul, Nat.reduceSub, Int.reduceAdd, Int.reduceSub, Int.reduceMul, Int.reduceNeg, Int.reduceLT, Int.reduceLE, Int.reduceEq, Int.reduceToNat, ↓reduceIte, Int.reducePow, Nat.reduceLeDiff, Nat.reduceLT, ne_eq, eq_self, List.length_cons, List.length_nil, qxE] | (with_reducible refine Sx.call_at (f := 20) (fun W hW => rx_of i62 W) ?_) | (with_reducible refine Sx.call_at (f := 57) (fun W hW => rx_mul f1 f62 f3 W) ?_))
        clear f1 bN i62 f62
        have f1 := f3
        clear f3
        have bN := True.intro
      case' false =>
        repeat' (first | simp (disch := omega) only [sxE, m_Tape__Ratio.E, Nat.reduceAdd, Nat.reduceEqDiff, Nat.reduceMul, Nat.reduceSub, Int.reduceAdd, Int.reduceSub, Int.reduceMul, Int.reduceNeg, Int.reduceLT, Int.reduceLE, Int.reduceEq, Int.reduceToNat, ↓reduceIte, Int.reducePow, Nat.reduceLeDiff, Nat.reduceLT, ne_eq, eq_self, List.length_cons, List.length_nil, qxE])
      all_goals
        clear bN
        have mk1 := fun W => rx_rmake f1.rw f2.rw W
        rcases mkV_cases (b := true && true) with ⟨hm, e⟩ | ⟨hm, e⟩
        · rw [e] at mk1
          have hq := mok_fq hm
          clear e hm
          repeat' (first | simp (disch := omega) only [sxE, m_Tape__Ratio.E, Nat.reduceAdd, Nat.reduceEqDiff, Nat.reduceMul, Nat.reduceSub, Int.reduceAdd, Int.reduceSub, Int.reduceMul, Int.reduceNeg, Int.reduceLT, Int.reduceLE, Int.reduceEq, Int.reduceToNat, ↓reduceIte, Int.reducePow, Nat.reduceLeDiff, Nat.reduceLT, ne_eq, eq_self, List.length_cons, List.length_nil, qxE] | (with_reducible refine Sx.call_at (f := 81) (fun W hW => mk1 W) ?_))
          exact ⟨(_, _), hq, rfl⟩
        · rw [e] at mk1
          clear e hm
          repeat' (first | simp (disch := omega) only [sxE, m_Tape__Ratio.E, Nat.reduceAdd, Nat.reduceEqDiff, Nat.reduceMul, Nat.reduceSub, Int.reduceAdd, Int.reduceSub, Int.reduceMul, Int.reduceNeg, Int.reduceLT, Int.reduceLE, Int.reduceEq, Int.reduceToNat, ↓reduceIte, Int.reducePow, Nat.reduceLeDiff, Nat.reduceLT, ne_eq, eq_self, List.length_cons, List.length_nil, qxE] | (with_reducible refine Sx.call_at (f := 81) (fun W hW => mk1 W) ?_) | (with_reducible refine Sx.call_at (f := 82) (fun W hW => rx_rof i64_one W) ?_))
          exact ⟨(1, 1), fq_int (bd_le bd_one (by decide)), rfl⟩
end Go.Proofs.Ytncmmbacoknefaa

/- Rw: Make on atoms; raw Wides and Ratios as arguments. -/
namespace Go.Proofs.Ytncmmbacoknefaa
open Go Go.RowKit Sx
set_option linter.unusedVariables false
set_option linter.unusedSimpArgs false
theorem rx_make {z y : Int} (h : Fits z) (h' : Fits y) (W : World) : Gives Try.prog 81 [WX z, WX y] W (· = mkV true z y) := rx_rmake h.rw h'.rw W
theorem mkV_yes {z y : Int} (h : mok true z y = true) : mkV true z y = .tuple #[RX (mn z y) (mD z y), .bool true] := by unfold mkV; rw [if_pos h]
theorem rw_cq {c0 c1 c2 c3 c4 d0 d1 d2 d3 d4 : Value} {t t' : Bool} {z y : Int} (h : RW (.agg #[c0, c1, c2, c3, c4]) t z) (h' : RW (.agg #[d0, d1, d2, d3, d4]) t' y) : ∃ p q, CQ (.agg #[c0, c1, c2, c3, c4, d0, d1, d2, d3, d4]) p q := by
  rcases h with ⟨-, e, h⟩ | ⟨-, e, -⟩ <;> rcases h' with ⟨-, e', h'⟩ | ⟨-, e', -⟩
  · cases e; cases e'
    exact ⟨_, _, .inl ⟨z, y, h, h', rfl, rfl, rfl⟩⟩
  · cases e; cases e'
    exact ⟨0, 1, .inr ⟨.inr (.inl ⟨z, h, rfl⟩), rfl, rfl⟩⟩
  · cases e; cases e'
    exact ⟨0, 1, .inr ⟨.inl ⟨y, h', rfl⟩, rfl, rfl⟩⟩
  · cases e; cases e'
    exact ⟨0, 1, .inr ⟨.inr (.inr rfl), rfl, rfl⟩⟩
theorem cq_raw (n n' : Bool) {a b c d a' b' c' d' : Int} (ha : U64 a) (hb : U64 b) (hc : U64 c) (hd : U64 d) (ha' : U64 a') (hb' : U64 b') (hc' : U64 c') (hd' : U64 d') :
    ∃ p q, CQ (.agg #[.bool n, .int .u64 a, .int .u64 b, .int .u64 c, .int .u64 d, .bool n', .int .u64 a', .int .u64 b', .int .u64 c', .int .u64 d']) p q := by
  obtain ⟨t, z, h⟩ := rw_raw n ha hb hc hd
  obtain ⟨t', y, h'⟩ := rw_raw n' ha' hb' hc' hd'
  exact rw_cq h h'
end Go.Proofs.Ytncmmbacoknefaa

/- CdI: MADE BY PROGRAM (sxgen.py): the small code of some functions, points of it and their equations. -/
namespace Go.Proofs.Ytncmmbacoknefaa
open Go Go.RowKit Sx
set_option linter.unusedVariables false
variable (C : Cx) (R L1 L2 L3 L4 : St → Prop)
namespace wide_Int64
def r0 : List G := [(some 1, none, (.box true 5 (.tmp 0))), (some 2, none, (.mv (.const (.int .i64 0)))), (some 3, none, (.mv (.const (.bool false))))]
def r1 : List G := [(some 5, none, (.ld true 5 (.tmp 1))), (some 6, none, (.call false 138 [(.tmp 5)])), (none, none, (.st true 5 (.tmp 1) (.tmp 6)))]
def r2 : List G := [(some 7, none, (.fa 1 (.tmp 1))), (some 8, none, (.ia 4 1 (.tmp 7) (.const (.int .i64 0)))), (some 9, none, (.ld false 1 (.tmp 8))), (some 4, none, (.mv (.tmp 9)))]
def r3 : List G := [(some 11, none, (.fa 1 (.tmp 1))), (some 12, none, (.ld true 4 (.tmp 11))), (some 13, none, (.mv (.tmp 4))), (some 14, none, (.bd [(.int .u64 0), (.int .u64 0), (.int .u64 0), (.int .u64 0)] [(0, 1, (.tmp 13))])), (some 15, none, (.eqg true 36 (.tmp 12) (.tmp 14))), (some 16, none, (.mv (.tmp 15))), (some 17, some (16, false), (.mv (.tmp 4))), (some 18, some (16, false), (.bin .gtr (.tmp 17) (.const (.int .u64 9223372036854775808)))), (some 19, none, (.pick (.tmp 16) (.const (.bool true)) (.tmp 18))), (some 20, none, (.mv (.tmp 19))), (some 21, some (20, false), (.mv (.tmp 4))), (some 22, some (20, false), (.bin .eql (.tmp 21) (.const (.int .u64 9223372036854775808)))), (some 23, some (20, false), (.mv (.tmp 22))), (some 24, some (23, true), (.fa 0 (.tmp 1))), (some 25, some (23, true), (.ld false 1 (.tmp 24))), (some 26, some (23, true), (.un .not (.tmp 25))), (some 27, some (20, false), (.pick (.tmp 23) (.tmp 26) (.const (.bool false)))), (some 28, none, (.pick (.tmp 20) (.const (.bool true)) (.tmp 27))), (some 10, none, (.mv (.tmp 28)))]
def r4 : List G := [(some 2, none, (.mv (.const (.int .i64 0)))), (some 3, none, (.mv (.const (.bool false))))]
def r5 : List G := [(some 30, none, (.fa 0 (.tmp 1))), (some 31, none, (.ld false 1 (.tmp 30))), (some 29, none, (.mv (.tmp 31)))]
def r6 : List G := [(some 32, none, (.mv (.tmp 4))), (some 33, none, (.un .neg (.tmp 32))), (some 34, none, (.cv .i64 (.tmp 33))), (some 2, none, (.mv (.tmp 34))), (some 3, none, (.mv (.const (.bool true))))]
def r7 : List G := [(some 35, none, (.mv (.tmp 4))), (some 36, none, (.cv .i64 (.tmp 35))), (some 2, none, (.mv (.tmp 36))), (some 3, none, (.mv (.const (.bool true))))]
def c : MC := (.seq (.reg r0 (some [1])) (.seq (.reg r1 (some [1])) (.seq (.reg r2 (some [1, 4])) (.seq (.block 0 (.seq (.reg r3 (some [1, 4, 10])) (.cond (.tmp 10) (.seq (.reg r4 (some [2, 3])) .ret) (.seq (.reg r5 (some [4, 29])) (.cond (.tmp 29) (.seq (.reg r6 (some [2, 3])) .ret) .skip))))) (.seq (.reg r7 (some [2, 3])) .ret)))))
def ann : Ann := [(0, (some [1], 0, [], [], [])), (1, (some [1], 0, [], [], [])), (2, (some [1, 4], 0, [], [], [])), (3, (some [1, 4, 10], 0, [], [], [])), (4, (some [2, 3], 0, [], [], [])), (5, (some [4, 29], 0, [], [], [])), (6, (some [2, 3], 0, [], [], [])), (7, (some [2, 3], 0, [], [], []))]
theorem ok : compF Try.prog Try.f86 ann = some (37, c, [(2, none), (3, none)]) := by kernel_rfl
def p1 (S : St) : Prop := ops C r7 (kq [2, 3] R) S
def p3 (S : St) : Prop := ops C r4 (kq [2, 3] R) S
def p5 (S : St) : Prop := ops C r6 (kq [2, 3] R) S
def p4 (S : St) : Prop := condX (S.ev (.tmp 29)) (p5 C R) (p1 C R) S
def p6 (S : St) : Prop := ops C r5 (kq [4, 29] (p4 C R)) S
def p2 (S : St) : Prop := condX (S.ev (.tmp 10)) (p3 C R) (p6 C R) S
def p7 (S : St) : Prop := ops C r3 (kq [1, 4, 10] (p2 C R)) S
def p8 (S : St) : Prop := ops C r2 (kq [1, 4] (p7 C R)) S
def p9 (S : St) : Prop := ops C r1 (kq [1] (p8 C R)) S
def p10 (S : St) : Prop := ops C r0 (kq [1] (p9 C R)) S
theorem s (S : St) : X C c (retK R) S = p10 C R S := by kernel_rfl
theorem E : type_of% @r7.eq_1 ∧ type_of% @p1.eq_1 ∧ type_of% @r4.eq_1 ∧ type_of% @p3.eq_1 ∧ type_of% @r6.eq_1 ∧ type_of% @p5.eq_1 ∧ type_of% @p4.eq_1 ∧ type_of% @r5.eq_1 ∧ type_of% @p6.eq_1 ∧ type_of% @p2.eq_1 ∧ type_of% @r3.eq_1 ∧ type_of% @p7.eq_1 ∧ type_of% @r2.eq_1 ∧ type_of% @p8.eq_1 ∧ type_of% @r1.eq_1 ∧ type_of% @p9.eq_1 ∧ type_of% @r0.eq_1 ∧ type_of% @p10.eq_1 ∧ type_of% @s := ⟨@r7.eq_1, @p1.eq_1, @r4.eq_1, @p3.eq_1, @r6.eq_1, @p5.eq_1, @p4.eq_1, @r5.eq_1, @p6.eq_1, @p2.eq_1, @r3.eq_1, @p7.eq_1, @r2.eq_1, @p8.eq_1, @r1.eq_1, @p9.eq_1, @r0.eq_1, @p10.eq_1, @s⟩
end wide_Int64
end Go.Proofs.Ytncmmbacoknefaa

/- Wi: Int64 of both, for all Wides. -/
namespace Go.Proofs.Ytncmmbacoknefaa
open Go Go.RowKit Sx
set_option linter.unusedVariables false
set_option linter.unusedSimpArgs false
def i6b (z : Int) : Bool := decide (-9223372036854775808 ≤ z ∧ z ≤ 9223372036854775807)
def i6v (z : Int) : Int := if i6b z then z else 0
theorem meq_low {m : Int} (h : A4 m) : meq (lb0 m) (lb1 m) (lb2 m) (lb3 m) (lb0 m) 0 0 0 = decide (m < 18446744073709551616) := by
  have h4 := mv_me h
  have b0 := lb0_in m
  have b1 := lb1_in m
  have b2 := lb2_in m
  have b3 := lb3_in m
  rw [Bool.eq_iff_iff, decide_eq_true_eq]
  unfold meq
  generalize lb0 m = a at *
  generalize lb1 m = b at *
  generalize lb2 m = c at *
  generalize lb3 m = d at *
  unfold MV at h4
  obtain ⟨a1, a2⟩ := b0
  obtain ⟨c1, c2⟩ := b1
  obtain ⟨d1, d2⟩ := b2
  obtain ⟨e1, e2⟩ := b3
  simp only [beq_self_eq_true, Bool.true_and, Bool.and_eq_true, beq_iff_eq]
  omega
theorem wr_lo {m : Int} (h0 : 0 ≤ m) (h : m < 9223372036854775808) : IntKind.i64.wrap m = m := wrap_i64_lo m h0 h
theorem wr_neg {m : Int} (h0 : 0 < m) (h : m ≤ 9223372036854775808) : IntKind.u64.wrap (0 - m) = 18446744073709551616 - m ∧ IntKind.i64.wrap (18446744073709551616 - m) = -m := by
  refine ⟨by unfold IntKind.wrap; simp [IntKind.signed, IntKind.bits]; omega, ?_⟩
  rw [wrap_i64_hi _ (by omega) (by omega)]
  omega
set_option maxRecDepth 100000 in
set_option maxHeartbeats 1000000 in
theorem g_int64 {v : Value} {z : Int} (h : IsW v z) (W : World) : Gives Try.prog 86 [v] W (· = .tuple #[.int .i64 (i6v z), .bool (i6b z)]) := by
  obtain ⟨n, m, rfl, am, hab, hz, hn⟩ := h.me
  refine gives_known en_wide_Int64 ?_
  have p1 : cn n (lb0 m) (lb1 m) (lb2 m) (lb3 m) = decide (z < 0) := hn
  obtain ⟨k1, k2⟩ := ab_of_sv (n := n) hab
  have ml := meq_low am
  have am0 := am.1
  clear h hn hz hab
  have no : i6b z = false → i6v z = 0 := fun e => by unfold i6v; rw [e]; rfl
  have yes : i6b z = true → i6v z = z := fun e => by unfold i6v; rw [e]; rfl
  by_cases hlt : m < 18446744073709551616
  · have u3 : lb0 m = m := Int.emod_eq_of_lt am0 hlt
    rw [decide_eq_true hlt] at ml
    by_cases hneg : z < 0
    · have hzm := k1 (decide_eq_true hneg)
      rw [decide_eq_true hneg] at p1
      by_cases hb : m ≤ 9223372036854775808
      · have u1 : i6b z = true := decide_eq_true (by omega)
        rw [yes u1, u1]
        obtain ⟨w1, w2⟩ := wr_neg (m := m) (by omega) hb
        rw [← u3] at w1 w2
        have hb' : ¬ 9223372036854775808 < lb0 m := by omega
        clear k1 k2 u1 hneg am no yes
        have hzm' : z = -lb0 m := by omega
        rw [hzm']
        clear hzm hzm' u3
        by_cases he : lb0 m = 9223372036854775808
        · have d1 : (lb0 m == 9223372036854775808) = true := beq_iff_eq.2 he
          refine known_of (enter Try.func86 wide_Int64.ok (args := [WV n (lb0 m) (lb1 m) (lb2 m) (lb3 m)]) (by simp) ?_)
          repeat' (first | simp (disch := omega) only [sxE, wide_Int64.E, Nat.reduceAdd, Nat.reduceEqDiff, Nat.reduceMul, Nat.reduceSub, Int.reduceAdd, Int.reduceSub, Int.reduceMul, Int.reduceNeg, Int.reduceLT, Int.reduceLE, Int.reduceEq, Int.reduceToNat, ↓reduceIte, Int.reducePow, Nat.reduceLeDiff, Nat.reduceLT, ne_eq, eq_self, List.length_cons, List.length_nil, p1, ml, d1, w1, w2] | (with_reducible refine Sx.call_at (f := 138) (fun W hW => g_clean _ _ _ _ _ W) ?_) | (with_reducible refine eq_is (fun W => by exact eqm_run _ _ _ _ _ _ _ _ W) ?_))
        · have d1 : (lb0 m == 9223372036854775808) = false := beq_eq_false_iff_ne.2 he
          refine known_of (enter Try.func86 wide_Int64.ok (args := [WV n (lb0 m) (lb1 m) (lb2 m) (lb3 m)]) (by simp) ?_)
          repeat' (first | simp (disch := omega) only [sxE, wide_Int64.E, Nat.reduceAdd, Nat.reduceEqDiff, Nat.reduceMul, Nat.reduceSub, Int.reduceAdd, Int.reduceSub, Int.reduceMul, Int.reduceNeg, Int.reduceLT, Int.reduceLE, Int.reduceEq, Int.reduceToNat, ↓reduceIte, Int.reducePow, Nat.reduceLeDiff, Nat.reduceLT, ne_eq, eq_self, List.length_cons, List.length_nil, p1, ml, d1, w1, w2] | (with_reducible refine Sx.call_at (f := 138) (fun W hW => g_clean _ _ _ _ _ W) ?_) | (with_reducible refine eq_is (fun W => by exact eqm_run _ _ _ _ _ _ _ _ W) ?_))
      · have u1 : i6b z = false := decide_eq_false (by omega)
        rw [no u1, u1]
        have hb' : 9223372036854775808 < lb0 m := by omega
        clear k1 k2 u1 hneg am no yes u3
        refine known_of (enter Try.func86 wide_Int64.ok (args := [WV n (lb0 m) (lb1 m) (lb2 m) (lb3 m)]) (by simp) ?_)
        repeat' (first | simp (disch := omega) only [sxE, wide_Int64.E, Nat.reduceAdd, Nat.reduceEqDiff, Nat.reduceMul, Nat.reduceSub, Int.reduceAdd, Int.reduceSub, Int.reduceMul, Int.reduceNeg, Int.reduceLT, Int.reduceLE, Int.reduceEq, Int.reduceToNat, ↓reduceIte, Int.reducePow, Nat.reduceLeDiff, Nat.reduceLT, ne_eq, eq_self, List.length_cons, List.length_nil, p1, ml] | (with_reducible refine Sx.call_at (f := 138) (fun W hW => g_clean _ _ _ _ _ W) ?_) | (with_reducible refine eq_is (fun W => by exact eqm_run _ _ _ _ _ _ _ _ W) ?_))
    · have hzm := k2 (decide_eq_false hneg)
      rw [decide_eq_false hneg] at p1
      by_cases hb : m < 9223372036854775808
      · have u1 : i6b z = true := decide_eq_true (by omega)
        rw [yes u1, u1]
        have w1 := wr_lo (m := lb0 m) (by omega) (by omega)
        have hb' : ¬ 9223372036854775808 < lb0 m := by omega
        have d1 : (lb0 m == 9223372036854775808) = false := beq_eq_false_iff_ne.2 (by omega)
        have hzm' : z = lb0 m := by omega
        clear k1 k2 u1 hneg am no yes
        rw [hzm']
        clear hzm hzm' u3
        refine known_of (enter Try.func86 wide_Int64.ok (args := [WV n (lb0 m) (lb1 m) (lb2 m) (lb3 m)]) (by simp) ?_)
        repeat' (first | simp (disch := omega) only [sxE, wide_Int64.E, Nat.reduceAdd, Nat.reduceEqDiff, Nat.reduceMul, Nat.reduceSub, Int.reduceAdd, Int.reduceSub, Int.reduceMul, Int.reduceNeg, Int.reduceLT, Int.reduceLE, Int.reduceEq, Int.reduceToNat, ↓reduceIte, Int.reducePow, Nat.reduceLeDiff, Nat.reduceLT, ne_eq, eq_self, List.length_cons, List.length_nil, p1, ml, d1, w1] | (with_reducible refine Sx.call_at (f := 138) (fun W hW => g_clean _ _ _ _ _ W) ?_) | (with_reducible refine eq_is (fun W => by exact eqm_run _ _ _ _ _ _ _ _ W) ?_))
      · have u1 : i6b z = false := decide_eq_false (by omega)
        rw [no u1, u1]
        clear k1 k2 u1 hneg am no yes
        by_cases he : lb0 m = 9223372036854775808
        · have hb' : ¬ 9223372036854775808 < lb0 m := by omega
          have d1 : (lb0 m == 9223372036854775808) = true := beq_iff_eq.2 he
          refine known_of (enter Try.func86 wide_Int64.ok (args := [WV n (lb0 m) (lb1 m) (lb2 m) (lb3 m)]) (by simp) ?_)
          repeat' (first | simp (disch := omega) only [sxE, wide_Int64.E, Nat.reduceAdd, Nat.reduceEqDiff, Nat.reduceMul, Nat.reduceSub, Int.reduceAdd, Int.reduceSub, Int.reduceMul, Int.reduceNeg, Int.reduceLT, Int.reduceLE, Int.reduceEq, Int.reduceToNat, ↓reduceIte, Int.reducePow, Nat.reduceLeDiff, Nat.reduceLT, ne_eq, eq_self, List.length_cons, List.length_nil, p1, ml, d1] | (with_reducible refine Sx.call_at (f := 138) (fun W hW => g_clean _ _ _ _ _ W) ?_) | (with_reducible refine eq_is (fun W => by exact eqm_run _ _ _ _ _ _ _ _ W) ?_))
        · have hb' : 9223372036854775808 < lb0 m := by omega
          refine known_of (enter Try.func86 wide_Int64.ok (args := [WV n (lb0 m) (lb1 m) (lb2 m) (lb3 m)]) (by simp) ?_)
          repeat' (first | simp (disch := omega) only [sxE, wide_Int64.E, Nat.reduceAdd, Nat.reduceEqDiff, Nat.reduceMul, Nat.reduceSub, Int.reduceAdd, Int.reduceSub, Int.reduceMul, Int.reduceNeg, Int.reduceLT, Int.reduceLE, Int.reduceEq, Int.reduceToNat, ↓reduceIte, Int.reducePow, Nat.reduceLeDiff, Nat.reduceLT, ne_eq, eq_self, List.length_cons, List.length_nil, p1, ml] | (with_reducible refine Sx.call_at (f := 138) (fun W hW => g_clean _ _ _ _ _ W) ?_) | (with_reducible refine eq_is (fun W => by exact eqm_run _ _ _ _ _ _ _ _ W) ?_))
  · have u1 : i6b z = false := decide_eq_false (by
      cases hd : decide (z < 0) <;> simp only [hd, true_implies, reduceCtorEq, false_implies] at k1 k2 <;> omega)
    rw [decide_eq_false hlt] at ml
    rw [no u1, u1]
    clear k1 k2 u1 am no yes
    refine known_of (enter Try.func86 wide_Int64.ok (args := [WV n (lb0 m) (lb1 m) (lb2 m) (lb3 m)]) (by simp) ?_)
    repeat' (first | simp (disch := omega) only [sxE, wide_Int64.E, Nat.reduceAdd, Nat.reduceEqDiff, Nat.reduceMul, Nat.reduceSub, Int.reduceAdd, Int.reduceSub, Int.reduceMul, Int.reduceNeg, Int.reduceLT, Int.reduceLE, Int.reduceEq, Int.reduceToNat, ↓reduceIte, Int.reducePow, Nat.reduceLeDiff, Nat.reduceLT, ne_eq, eq_self, List.length_cons, List.length_nil, p1, ml] | (with_reducible refine Sx.call_at (f := 138) (fun W hW => g_clean _ _ _ _ _ W) ?_) | (with_reducible refine eq_is (fun W => by exact eqm_run _ _ _ _ _ _ _ _ W) ?_))
set_option maxRecDepth 100000 in
set_option maxHeartbeats 1000000 in
theorem rgf_int64 {v : Value} {z : Int} (h : IsW v z) (W : World) : Gives Try.prog 25 [v] W (· = .tuple #[.int .i64 (i6v z), .bool (i6b z)]) := by
  obtain ⟨n, m, rfl, am, hab, -, hn⟩ := h.me
  refine gives_known en_r02_Int64 ?_
  have p1 : cn n (lb0 m) (lb1 m) (lb2 m) (lb3 m) = decide (z < 0) := hn
  obtain ⟨k1, k2⟩ := ab_of_sv (n := n) hab
  have hm0 := am.1
  have hl : ¬ 1 < ((wl m).length : Int) ↔ m < 18446744073709551616 := by
    have := wl_len_lt am.1 1
    have e : ((18446744073709551616 : Int) ^ 1) = 18446744073709551616 := by decide
    have e2 : (pw 1 : Int) = 18446744073709551616 := rfl
    rw [e2] at this
    omega
  have no : i6b z = false → i6v z = 0 := fun e => by unfold i6v; rw [e]; rfl
  have yes : i6b z = true → i6v z = z := fun e => by unfold i6v; rw [e]; rfl
  clear h hn hab
  refine known_of (enter Try.func25 r02_Int64.ok (args := [WV n (lb0 m) (lb1 m) (lb2 m) (lb3 m)]) (by simp) ?_)
  repeat' (first | simp (disch := omega) only [sxE, r02_Int64.E, Nat.reduceAdd, Nat.reduceEqDiff, Nat.reduceMul, Nat.reduceSub, Int.reduceAdd, Int.reduceSub, Int.reduceMul, Int.reduceNeg, Int.reduceLT, Int.reduceLE, Int.reduceEq, Int.reduceToNat, ↓reduceIte, Int.reducePow, Nat.reduceLeDiff, Nat.reduceLT, ne_eq, eq_self, List.length_cons, List.length_nil, p1] | (with_reducible refine Sx.call_at (f := 72) (fun W hW => rg_clean _ (lb0_in _) (lb1_in _) (lb2_in _) (lb3_in _) W) ?_))
  by_cases h0 : m = 0
  · have hz0 : z = 0 := by cases hd : decide (z < 0) <;> simp only [hd, true_implies, reduceCtorEq, false_implies] at k1 k2 <;> omega
    refine asks_r (L := []) (ws := []) en_r02_of (kX_nil _) (fun W hW _ => by have := of_mag (n := decide (z < 0)) am W; unfold MagP at this; rwa [show wl m = [] by rw [h0]; exact wl_nil (Int.le_refl _)] at this) fun a1 c1 hs1 hn1 => ?_
    have u1 : i6b z = true := decide_eq_true (by omega)
    rw [yes u1, u1]
    clear hs1 hn1 k1 k2 hl no yes u1
    subst hz0
    repeat' (first | simp (disch := omega) only [sxE, r02_Int64.E, Nat.reduceAdd, Nat.reduceEqDiff, Nat.reduceMul, Nat.reduceSub, Int.reduceAdd, Int.reduceSub, Int.reduceMul, Int.reduceNeg, Int.reduceLT, Int.reduceLE, Int.reduceEq, Int.reduceToNat, ↓reduceIte, Int.reducePow, Nat.reduceLeDiff, Nat.reduceLT, ne_eq, eq_self, List.length_cons, List.length_nil])
  · by_cases hlt : m < 18446744073709551616
    · have e1 : wl m = [m] := by rw [wl_cons (by omega), wl_nil (by omega), Int.emod_eq_of_lt hm0 (by omega)]
      refine asks_r (L := []) (ws := [m]) en_r02_of (kX_nil _) (fun W hW _ => by have := of_mag (n := decide (z < 0)) am W; unfold MagP at this; rwa [e1] at this) fun a1 c1 hs1 hn1 => ?_
      obtain ⟨b, off, rfl⟩ : ∃ b off, a1 = some ⟨b, off, none⟩ := hs1.some Nat.zero_lt_one
      have g0 : [m].getD 0 0 = m := rfl
      clear hs1 hn1 hl e1
      by_cases hneg : z < 0
      · have hzm := k1 (decide_eq_true hneg)
        rw [decide_eq_true hneg]
        by_cases hb : m ≤ 9223372036854775808
        · have u1 : i6b z = true := decide_eq_true (by omega)
          rw [yes u1, u1]
          obtain ⟨w1, w2⟩ := wr_neg (m := m) (by omega) hb
          have hb' : ¬ 9223372036854775808 < m := by omega
          rw [hzm]
          clear k1 k2 p1 hneg u1 no yes hzm
          repeat' (first | simp (disch := omega) only [sxE, r02_Int64.E, Nat.reduceAdd, Nat.reduceEqDiff, Nat.reduceMul, Nat.reduceSub, Int.reduceAdd, Int.reduceSub, Int.reduceMul, Int.reduceNeg, Int.reduceLT, Int.reduceLE, Int.reduceEq, Int.reduceToNat, ↓reduceIte, Int.reducePow, Nat.reduceLeDiff, Nat.reduceLT, ne_eq, eq_self, List.length_cons, List.length_nil, w1, w2, g0, Nat.add_zero] | (refine ldP_r 0 rfl List.mem_cons_self Nat.zero_lt_one ?_))
        · have u1 : i6b z = false := decide_eq_false (by omega)
          rw [no u1, u1]
          have hb' : 9223372036854775808 < m := by omega
          clear k1 k2 p1 hneg u1 no yes hzm
          repeat' (first | simp (disch := omega) only [sxE, r02_Int64.E, Nat.reduceAdd, Nat.reduceEqDiff, Nat.reduceMul, Nat.reduceSub, Int.reduceAdd, Int.reduceSub, Int.reduceMul, Int.reduceNeg, Int.reduceLT, Int.reduceLE, Int.reduceEq, Int.reduceToNat, ↓reduceIte, Int.reducePow, Nat.reduceLeDiff, Nat.reduceLT, ne_eq, eq_self, List.length_cons, List.length_nil, g0, Nat.add_zero] | (refine ldP_r 0 rfl List.mem_cons_self Nat.zero_lt_one ?_))
      · have hzm := k2 (decide_eq_false hneg)
        rw [decide_eq_false hneg]
        by_cases hb : m < 9223372036854775808
        · have u1 : i6b z = true := decide_eq_true (by omega)
          rw [yes u1, u1]
          have w1 := wr_lo (m := m) hm0 hb
          have hb' : ¬ 9223372036854775808 ≤ m := by omega
          rw [hzm]
          clear k1 k2 p1 hneg u1 no yes hzm
          repeat' (first | simp (disch := omega) only [sxE, r02_Int64.E, Nat.reduceAdd, Nat.reduceEqDiff, Nat.reduceMul, Nat.reduceSub, Int.reduceAdd, Int.reduceSub, Int.reduceMul, Int.reduceNeg, Int.reduceLT, Int.reduceLE, Int.reduceEq, Int.reduceToNat, ↓reduceIte, Int.reducePow, Nat.reduceLeDiff, Nat.reduceLT, ne_eq, eq_self, List.length_cons, List.length_nil, w1, g0, Nat.add_zero] | (refine ldP_r 0 rfl List.mem_cons_self Nat.zero_lt_one ?_))
        · have u1 : i6b z = false := decide_eq_false (by omega)
          rw [no u1, u1]
          have hb' : 9223372036854775808 ≤ m := by omega
          clear k1 k2 p1 hneg u1 no yes hzm
          repeat' (first | simp (disch := omega) only [sxE, r02_Int64.E, Nat.reduceAdd, Nat.reduceEqDiff, Nat.reduceMul, Nat.reduceSub, Int.reduceAdd, Int.reduceSub, Int.reduceMul, Int.reduceNeg, Int.reduceLT, Int.reduceLE, Int.reduceEq, Int.reduceToNat, ↓reduceIte, Int.reducePow, Nat.reduceLeDiff, Nat.reduceLT, ne_eq, eq_self, List.length_cons, List.length_nil, g0, Nat.add_zero] | (refine ldP_r 0 rfl List.mem_cons_self Nat.zero_lt_one ?_))
    · refine asks_r (L := []) (ws := wl m) en_r02_of (kX_nil _) (fun W hW _ => of_mag am W) fun a1 c1 hs1 hn1 => ?_
      have hl1 : 1 < ((wl m).length : Int) := Decidable.byContradiction fun e => hlt (hl.1 e)
      have u1 : i6b z = false := decide_eq_false (by
        cases hd : decide (z < 0) <;> simp only [hd, true_implies, reduceCtorEq, false_implies] at k1 k2 <;> omega)
      rw [no u1, u1]
      have hl0 : ¬ ((wl m).length : Int) = 0 := by omega
      clear k1 k2 p1 u1 no yes hl hs1 hn1
      repeat' (first | simp (disch := omega) only [sxE, r02_Int64.E, Nat.reduceAdd, Nat.reduceEqDiff, Nat.reduceMul, Nat.reduceSub, Int.reduceAdd, Int.reduceSub, Int.reduceMul, Int.reduceNeg, Int.reduceLT, Int.reduceLE, Int.reduceEq, Int.reduceToNat, ↓reduceIte, Int.reducePow, Nat.reduceLeDiff, Nat.reduceLT, ne_eq, eq_self, List.length_cons, List.length_nil])
end Go.Proofs.Ytncmmbacoknefaa
