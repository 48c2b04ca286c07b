/- Opening an argument that is a slice of samples. -/
import Derived.Test.YthcboomdkpiflaaRows
import Derived.Test.YthcboomdkpiflaaLtS
import Derived.Test.YthcboomdkpiflaaLaw
import Derived.OpenShut
import Derived.SizedLaws
import Derived.Laws.IdiomArrays
import Derived.Deep.SlicePairs
namespace Go.Proofs.Ythcboomdkpiflaa
open Go.ChangeShapes Go.WideShapes Go.ChangeAt Go.RowKit
set_option linter.unusedVariables false
set_option linter.unusedSimpArgs false

theorem pairs_at {w : World} {a : Addr} {n : Nat} {V0 V1 : Nat → Value} (h : ∀ i, i < n → w.cell? (a.add (i * 2)) = some (V0 i) ∧ w.cell? (a.add (i * 2 + 1)) = some (V1 i)) (hp : 0 < n) :
    ∃ b off, a = ⟨b, off, none⟩ ∧ ∀ i, i < n → w.cell? ⟨b, off + i * 2, none⟩ = some (V0 i) ∧ w.cell? ⟨b, off + i * 2 + 1, none⟩ = some (V1 i) := by
  obtain ⟨b, off, spot⟩ := a
  have hspot : spot = none := by simpa [Addr.add] using World.cell?_spot (h 0 hp).1
  subst hspot
  refine ⟨b, off, rfl, fun i hi => ⟨?_, ?_⟩⟩
  · rw [← Go.WideShapes.add_plain]; exact (h i hi).1
  · have := (h i hi).2
    rw [Go.WideShapes.add_plain] at this
    rw [Nat.add_assoc]; exact this
theorem open_pairs {H : Type} {enc : TypeId × Value → H} {P : Program} {t e : TypeId} {f0 f1 : Field} {v : Value} {d : DataW H} {ps : List MemPlace} {W : World} {base : Nat} (ht : P.underlying t = some (.slice e)) (he : P.underlying e = some (.struct #[f0, f1]))
    (k0 : P.underlying f0.type = some (.int .i64)) (k1 : P.underlying f1.type = some (.int .i64)) (ce : P.cellsOf e = 2) (o0 : f0.offset = 0) (o1 : f1.offset = 1) (c0 : P.cellsOf f0.type = 1) (c1 : P.cellsOf f1.type = 1)
    (hv : Value.okWide P W .any base t v) (h : DataW.Trod enc P W 0 (fun _ => true) true t v d ps) (hlt : ∀ x ∈ ps, x.block < W.heap.size) : ∃ ss, SlS W v ss := by
  obtain ⟨a0, len, cap, rfl⟩ := okWide_slice ht hv
  obtain ⟨fuel, hf⟩ := h
  rcases Go.Deep.open_slice_pairs ht he ce o0 o1 c0 c1 hf with ⟨hcs, hx⟩ | ⟨a, len', cap', m, n, V0, V1, D0, D1, P0, P1, hcs, _, hl, hm, hmm, hx, hall⟩
  · simp [Value.cells] at hcs
    obtain ⟨rfl, rfl, rfl⟩ := hcs
    exact ⟨[], none, 0, rfl, Nat.le_refl _, by simp [maxLen], by simp, fun h => absurd h (by simp)⟩
  · simp [Value.cells] at hcs
    obtain ⟨rfl, rfl, rfl⟩ := hcs
    simp only [Prod.mk.injEq] at hx
    obtain ⟨rfl, rfl⟩ := hx
    simp only [if_true] at hmm
    subst hmm
    have each : ∀ i, ∃ x y : Int, i < m → V0 i = .int .i64 x ∧ V1 i = .int .i64 y ∧ I64 x ∧ I64 y := fun i => by
      by_cases hi : i < m
      · obtain ⟨_, _, h0, h1⟩ := hall i hi
        obtain ⟨x, ex, -, wx⟩ := DataW.trod_int k0 h0
        obtain ⟨y, ey, -, wy⟩ := DataW.trod_int k1 h1
        simp at ex ey
        exact ⟨x, y, fun _ => ⟨ex, ey, I64.of_wf wx, I64.of_wf wy⟩⟩
      · exact ⟨0, 0, fun h => absurd h hi⟩
    obtain ⟨X, hX⟩ := Classical.axiomOfChoice each
    obtain ⟨Y, hXY⟩ := Classical.axiomOfChoice hX
    refine ⟨(List.range len).map fun i => (X i, Y i), some a, m, by rw [List.length_map, List.length_range], by rw [List.length_map, List.length_range]; exact hl, hm, fun s hs => ?_, fun hpos => ?_⟩
    · obtain ⟨i, hi, rfl⟩ := List.mem_map.1 hs
      have := hXY i (by have := List.mem_range.1 hi; omega)
      exact ⟨this.2.2.1, this.2.2.2⟩
    · rw [List.length_map, List.length_range] at hpos ⊢
      obtain ⟨b, off, rfl, hc⟩ := pairs_at (fun i hi => ⟨(hall i hi).1, (hall i hi).2.1⟩) (by omega : 0 < m)
      refine ⟨b, off, rfl, hlt (.cell b off) (by refine List.mem_append_left _ (MemPlace.mem_row.2 ⟨0, by omega, by simp⟩)), fun i hi => ?_⟩
      have e : ((List.range len).map fun i => (X i, Y i)).getD i (0, 0) = (X i, Y i) := by simp [List.getD_eq_getElem?_getD, hi]
      rw [e]
      obtain ⟨h1, h2⟩ := hc i (by omega)
      obtain ⟨e1, e2, _⟩ := hXY i (by omega)
      exact ⟨by rw [h1, e1], by rw [h2, e2]⟩
set_option maxRecDepth 100000 in
theorem open_sls {H : Type} {enc : TypeId × Value → H} {v : Value} {d : DataW H} {ps : List MemPlace} {W : World} {base : Nat} (hv : Value.okWide Try.prog W .any base 47 v) (h : DataW.Trod enc Try.prog W 0 (fun _ => true) true 47 v d ps) (hlt : ∀ x ∈ ps, x.block < W.heap.size) : ∃ ss, SlS W v ss :=
  open_pairs Try.underlying47 Try.underlying23 Try.underlying2 Try.underlying2 (by kernel_rfl) rfl rfl (by kernel_rfl) (by kernel_rfl) hv h hlt
end Go.Proofs.Ythcboomdkpiflaa
