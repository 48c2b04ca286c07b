/- A law's frame where a tape comes behind boxed arguments. -/
import Derived.Test.YthcboomdkpiflaaRows
import Derived.Test.YthcboomdkpiflaaLaw
import Derived.Test.YthcboomdkpiflaaMadeW
namespace Go.Proofs.Ythcboomdkpiflaa
open Go.ChangeShapes Go.WideShapes Go.ChangeAt Go.RowKit
set_option linter.unusedVariables false
set_option linter.unusedSimpArgs false

theorem SlZ.below {W W' : World} {k : IntKind} {v : Value} {zs : List Int} (h : SlZ W k v zs) (hb : Below W.heap.size W W') : SlZ W' k v zs := by
  obtain ⟨a, len, cap, rfl, h1, h2, h3, h4, h5⟩ := h
  refine ⟨a, len, cap, rfl, h1, h2, h3, h4, fun hl => ?_⟩
  obtain ⟨b, off, rfl, hlt, hc⟩ := h5 hl
  exact ⟨b, off, rfl, Nat.lt_of_lt_of_le hlt hb.size, fun i hi => (hb.cell hlt).trans (hc i hi)⟩
theorem new_tape {W : World} {zs : List Int} {a : Option Addr} {len cap : Nat} (h : SlZ W .i64 (.slice a len cap) zs) :
    Calls Try.prog 11 #[.slice a len cap] W fun e w' => e = .returned (.pointer (some ⟨W.heap.size, 0, none⟩)) ∧ TapeOk (W.heap.size + 1) w' W.heap.size ∧ Below W.heap.size W w' := by
  obtain ⟨h1, h2⟩ := tape_new (t := 62) h
  exact (new_any a len cap W).mono fun e w' ⟨he, hw⟩ => ⟨he, hw ▸ h1, hw ▸ h2⟩
theorem next_in {B : Nat} (b : Nat) (n : Int) (h1 : 1 ≤ n) (h2 : n ≤ 1000000) (w : World) (ht : TapeOk B w b) :
    Calls Try.prog 14 #[.pointer (some ⟨b, 0, none⟩), .int .i64 n] w (TPost B .i64 b w fun r => 0 ≤ r ∧ r < n) :=
  (next_any b n ⟨by omega, by omega⟩ w ht).mono fun e w' ⟨r, ⟨r1, r2, r3⟩, he, h⟩ => ⟨r, ⟨r1, r2 h1⟩, he, h⟩
end Go.Proofs.Ythcboomdkpiflaa
