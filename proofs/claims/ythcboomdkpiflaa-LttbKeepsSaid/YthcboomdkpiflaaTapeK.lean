/- A tape behind other blocks. -/
import Derived.Test.YthcboomdkpiflaaRows
import Derived.Test.YthcboomdkpiflaaTool
import Derived.Test.YthcboomdkpiflaaLaw
namespace Go.Proofs.Ythcboomdkpiflaa
open Go.ChangeShapes Go.WideShapes Go.ChangeAt Go.RowKit
set_option linter.unusedVariables false
set_option linter.unusedSimpArgs false

theorem HB.gne {W W' : World} {b g : Nat} {cs : Array Value} (h : HB W b cs) (hg : W.grownBy W' (some g)) (hne : b ≠ g) : HB W' b cs := by
  have hl := h.lt
  obtain ⟨T, h⟩ := h
  exact ⟨T, (hg.block b hl (fun e => hne (Option.some.inj e))).trans h⟩
theorem grown_bel {a w w' : World} {row : Option Nat} (h : a.grownBy w row) (hb : Below w.heap.size w w') : a.grownBy w' row := grown_trans h (grown_below hb row)
theorem grown_drew {a w : World} {row : Option Nat} (h : a.grownBy w row) : a.grownBy w.drew row := ⟨h.os, h.tape, h.output, h.size, h.block⟩
theorem TapeOk.bel {B : Nat} {w w' : World} {b : Nat} (h : TapeOk B w b) (hb : Below w.heap.size w w') : TapeOk B w' b := h.below (Below.mono hb h.leB)
theorem TapeOk.setc {B : Nat} {w : World} {b : Nat} {p : Addr} {v : Value} (hp : B ≤ p.block) (h : TapeOk B w b) : TapeOk B (w.setCell p v) b := h.below ((Below.refl B w).setCell hp v)
theorem TapeOk.genB {B B' : Nat} {w : World} {b : Nat} (h : TapeOk B w b) (h1 : B ≤ B') (h2 : B' ≤ w.heap.size) : TapeOk B' w b := by
  obtain ⟨a, len, cap, k, h1', h0, h2', h3, h4, h5, h6, h7⟩ := h
  exact ⟨a, len, cap, k, Nat.lt_of_lt_of_le h1' h1, h2, h2', h3, h4, h5, h6, fun hl => by
    obtain ⟨bb, off, e, hne, hlt, hc⟩ := h7 hl
    exact ⟨bb, off, e, hne, Nat.lt_of_lt_of_le hlt h1, hc⟩⟩
theorem below_tape {w W : World} {b : Nat} (h : w.grownBy W (some b)) (hb : w.heap.size ≤ b) : Below w.heap.size w W := (Below.refl _ w).grown h (Nat.le_refl _) (fun k e => by have := Option.some.inj e; omega)
theorem SlZ.below {W W' : World} {k : IntKind} {v : Value} {zs : List Int} (h : SlZ W k v zs) (hb : Below W.heap.size W W') : SlZ W' k v zs := by
  obtain ⟨a, len, cap, rfl, h1, h2, h3, h4, h5⟩ := h
  refine ⟨a, len, cap, rfl, h1, h2, h3, h4, fun hl => ?_⟩
  obtain ⟨b, off, rfl, hlt, hc⟩ := h5 hl
  exact ⟨b, off, rfl, Nat.lt_of_lt_of_le hlt hb.size, fun i hi => (hb.cell hlt).trans (hc i hi)⟩
theorem new_tape {W : World} {zs : List Int} {a : Option Addr} {len cap : Nat} (h : SlZ W .i64 (.slice a len cap) zs) :
    Calls Try.prog 11 #[.slice a len cap] W fun e w' => e = .returned (.pointer (some ⟨W.heap.size, 0, none⟩)) ∧ TapeOk (W.heap.size + 1) w' W.heap.size ∧ Below W.heap.size W w' := by
  obtain ⟨h1, h2⟩ := tape_new (t := 62) h
  exact (new_any a len cap W).mono fun e w' ⟨he, hw⟩ => ⟨he, hw ▸ h1, hw ▸ h2⟩
theorem next_in {B : Nat} (b : Nat) (n : Int) (h1 : 1 ≤ n) (h2 : n ≤ 1000000) (w : World) (ht : TapeOk B w b) :
    Calls Try.prog 14 #[.pointer (some ⟨b, 0, none⟩), .int .i64 n] w (TPost B .i64 b w fun r => 0 ≤ r ∧ r < n) :=
  (next_any b n ⟨by omega, by omega⟩ w ht).mono fun e w' ⟨r, ⟨r1, r2, r3⟩, he, h⟩ => ⟨r, ⟨r1, r2 h1⟩, he, h⟩
end Go.Proofs.Ythcboomdkpiflaa
