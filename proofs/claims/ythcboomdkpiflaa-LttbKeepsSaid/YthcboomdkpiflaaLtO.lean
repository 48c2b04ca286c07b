/- Slices of ints and int64s of one's own. -/
import Derived.Test.YthcboomdkpiflaaRows
import Derived.Test.YthcboomdkpiflaaMadeB
import Derived.Test.YthcboomdkpiflaaLaw
namespace Go.Proofs.Ythcboomdkpiflaa
open Go.ChangeShapes Go.WideShapes Go.ChangeAt Go.RowKit
set_option linter.unusedVariables false
set_option linter.unusedSimpArgs false

theorem info_int : (Try.prog.info? 3).map (fun i => (i.zero, i.size, i.bytes)) = some (some (.int .i64 0), 1, 8) := by kernel_rfl
/-- A slice of ints of one's own. -/
def OwnI (W : World) (base g n : Nat) (bs : List Int) : Prop := W.ownsRow base 3 1 (.slice (some ⟨g, 0, none⟩) n n) n (bs.map (Value.int .i64)) ∧ bs.length = n
theorem OwnI.cell {W : World} {base g n : Nat} {bs : List Int} (h : OwnI W base g n bs) (j : Nat) (hj : j < n) : W.cell? ⟨g, j, none⟩ = some (.int .i64 (bs.getD j 0)) := by
  obtain ⟨h1, h2⟩ := h
  rw [h1.cellAt j (by omega), List.getElem?_map, List.getElem?_eq_getElem (by omega), List.getD_eq_getElem?_getD, List.getElem?_eq_getElem (by omega)]; rfl
theorem OwnI.frozen {W : World} {base g n : Nat} {bs : List Int} (h : OwnI W base g n bs) (j : Nat) : W.frozen? ⟨g, j, none⟩ = false := h.1.frozenAt j
theorem OwnI.stored {W : World} {base g n : Nat} {bs : List Int} (h : OwnI W base g n bs) (j : Nat) (x : Int) : OwnI (W.setCell ⟨g, j, none⟩ (.int .i64 x)) base g n (bs.set j x) := by
  obtain ⟨h1, h2⟩ := h
  refine ⟨?_, by rw [List.length_set]; exact h2⟩
  have := h1.stored j (.int .i64 x)
  have e : (bs.set j x).map (Value.int .i64) = (bs.map (Value.int .i64)).set j (.int .i64 x) := by simp [List.map_set]
  rw [e]
  exact this.1
theorem OwnI.drewN {W : World} {base g n : Nat} {bs : List Int} (h : OwnI W base g n bs) (k : Nat) : OwnI (W.drewN k) base g n bs := by
  have : ∀ k, OwnI (W.drewN k) base g n bs := fun k => by
    induction k with
    | zero => exact h
    | succ k ih => exact ih
  exact this k
theorem OwnI.drew {W : World} {base g n : Nat} {bs : List Int} (h : OwnI W base g n bs) : OwnI W.drew base g n bs := h
theorem OwnI.base {W : World} {base g n : Nat} {bs : List Int} (h : OwnI W base g n bs) : base ≤ g := (h.1.lt g rfl).1
theorem OwnI.lt {W : World} {base g n : Nat} {bs : List Int} (h : OwnI W base g n bs) : g < W.heap.size := (h.1.lt g rfl).2
theorem OwnI.zeros {w : World} {base g n : Nat} (h : w.ownsRow base 3 1 (.slice (some ⟨g, 0, none⟩) n n) n (madeCells (Value.int .i64 0).cells (n * 1)).toList) : OwnI w base g n (List.replicate n 0) := by
  have e : (madeCells (Value.int .i64 0).cells (n * 1)).toList = (List.replicate n (0 : Int)).map (Value.int .i64) := by
    rw [show (Value.int .i64 0).cells = #[Value.int .i64 0] from rfl, toList_madeCells_one, Nat.mul_one]
    simp
  rw [e] at h
  exact ⟨h, by simp⟩
/-- A slice of int64s of one's own. -/
def OwnL (W : World) (base g n : Nat) (bs : List Int) : Prop := W.ownsRow base 2 1 (.slice (some ⟨g, 0, none⟩) n n) n (bs.map (Value.int .i64)) ∧ bs.length = n
theorem OwnL.cell {W : World} {base g n : Nat} {bs : List Int} (h : OwnL W base g n bs) (j : Nat) (hj : j < n) : W.cell? ⟨g, j, none⟩ = some (.int .i64 (bs.getD j 0)) := by
  obtain ⟨h1, h2⟩ := h
  rw [h1.cellAt j (by omega), List.getElem?_map, List.getElem?_eq_getElem (by omega), List.getD_eq_getElem?_getD, List.getElem?_eq_getElem (by omega)]; rfl
theorem OwnL.frozen {W : World} {base g n : Nat} {bs : List Int} (h : OwnL W base g n bs) (j : Nat) : W.frozen? ⟨g, j, none⟩ = false := h.1.frozenAt j
theorem OwnL.stored {W : World} {base g n : Nat} {bs : List Int} (h : OwnL W base g n bs) (j : Nat) (x : Int) : OwnL (W.setCell ⟨g, j, none⟩ (.int .i64 x)) base g n (bs.set j x) := by
  obtain ⟨h1, h2⟩ := h
  refine ⟨?_, by rw [List.length_set]; exact h2⟩
  have := h1.stored j (.int .i64 x)
  have e : (bs.set j x).map (Value.int .i64) = (bs.map (Value.int .i64)).set j (.int .i64 x) := by simp [List.map_set]
  rw [e]
  exact this.1
theorem OwnL.drewN {W : World} {base g n : Nat} {bs : List Int} (h : OwnL W base g n bs) (k : Nat) : OwnL (W.drewN k) base g n bs := by
  have : ∀ k, OwnL (W.drewN k) base g n bs := fun k => by
    induction k with
    | zero => exact h
    | succ k ih => exact ih
  exact this k
theorem OwnL.drew {W : World} {base g n : Nat} {bs : List Int} (h : OwnL W base g n bs) : OwnL W.drew base g n bs := h
theorem OwnL.base {W : World} {base g n : Nat} {bs : List Int} (h : OwnL W base g n bs) : base ≤ g := (h.1.lt g rfl).1
theorem OwnL.lt {W : World} {base g n : Nat} {bs : List Int} (h : OwnL W base g n bs) : g < W.heap.size := (h.1.lt g rfl).2
theorem OwnL.zeros {w : World} {base g n : Nat} (h : w.ownsRow base 2 1 (.slice (some ⟨g, 0, none⟩) n n) n (madeCells (Value.int .i64 0).cells (n * 1)).toList) : OwnL w base g n (List.replicate n 0) := by
  have e : (madeCells (Value.int .i64 0).cells (n * 1)).toList = (List.replicate n (0 : Int)).map (Value.int .i64) := by
    rw [show (Value.int .i64 0).cells = #[Value.int .i64 0] from rfl, toList_madeCells_one, Nat.mul_one]
    simp
  rw [e] at h
  exact ⟨h, by simp⟩
theorem slz_i64 {W : World} {v : Value} {zs : List Int} (h : SlZ W .i64 v zs) : ∀ z ∈ zs, I64 z := by
  obtain ⟨_, _, _, _, _, _, _, hw, _⟩ := h
  exact fun z hz => I64.of_wf (hw z hz)
theorem slz_form {W : World} {v : Value} {zs : List Int} (h : SlZ W .i64 v zs) : ∃ a cap, v = .slice a zs.length cap := by
  obtain ⟨a, len, cap, rfl, rfl, _⟩ := h
  exact ⟨a, cap, rfl⟩
theorem i64_wf {z : Int} (h : I64 z) : (Lit.int .i64 z).wf = true := by
  obtain ⟨h1, h2⟩ := h
  have e : IntKind.i64.min = -9223372036854775808 := by decide
  have e' : IntKind.i64.max = 9223372036854775807 := by decide
  simp [Lit.wf, e, e']
  omega
theorem slz_own {W : World} {base : Nat} {e : TypeId} {v : Value} {zs : List Int} (h : W.ownsRow base e 1 v zs.length (zs.map (Value.int .i64))) (hz : ∀ z ∈ zs, I64 z) : SlZ W .i64 v zs := by
  obtain ⟨a, cap, rfl, h1, h2, hc⟩ := own_slice h (by simp)
  refine ⟨a, _, cap, rfl, rfl, h1, h2, fun z hm => i64_wf (hz z hm), fun hl => ?_⟩
  obtain ⟨g, rfl, _, hg, hcs⟩ := hc hl
  refine ⟨g, 0, rfl, hg, fun i hi => ?_⟩
  rw [Nat.zero_add]
  exact hcs i _ (by rw [List.getElem?_map, List.getElem?_eq_getElem hi, List.getD_eq_getElem?_getD, List.getElem?_eq_getElem hi]; rfl)
/-- A list's cells. -/
def RdZ (W : World) (a : Option Addr) (zs : List Int) : Prop := 0 < zs.length → ∃ g off, a = some ⟨g, off, none⟩ ∧ g < W.heap.size ∧ ∀ j, j < zs.length → W.cell? ⟨g, off + j, none⟩ = some (.int .i64 (zs.getD j 0))
theorem rdz_slz {W : World} {a : Option Addr} {n cap : Nat} {zs : List Int} (h : SlZ W .i64 (.slice a n cap) zs) : RdZ W a zs := by
  obtain ⟨a9, l9, c9, e9, h1, h2, h3, h4, h5⟩ := h
  cases e9
  subst h1
  intro h0
  obtain ⟨g, off, h6, h7, h8⟩ := h5 h0
  exact ⟨g, off, h6, h7, h8⟩
theorem getD_set_eq {bs : List Int} {j : Nat} (h : j < bs.length) (x : Int) : (bs.set j x).getD j 0 = x := by simp [List.getD_eq_getElem?_getD, h]
theorem getD_set_ne {bs : List Int} {i j : Nat} (h : i ≠ j) (x : Int) : (bs.set i x).getD j 0 = bs.getD j 0 := by simp [List.getD_eq_getElem?_getD, List.getElem?_set_ne h]
theorem mem_set {P : Int → Prop} {bs : List Int} {j : Nat} {x : Int} (h : ∀ z ∈ bs, P z) (hx : P x) : ∀ z ∈ bs.set j x, P z := fun z hz => by
  rcases List.mem_or_eq_of_mem_set hz with h' | rfl
  · exact h z h'
  · exact hx
theorem getD_i64 {zs : List Int} (h : ∀ z ∈ zs, (Lit.int .i64 z).wf = true) (j : Nat) : I64 (zs.getD j 0) := by
  rw [List.getD_eq_getElem?_getD]
  by_cases hj : j < zs.length
  · rw [List.getElem?_eq_getElem hj]
    exact I64.of_wf (h _ (List.getElem_mem hj))
  · rw [List.getElem?_eq_none (by omega)]
    exact ⟨by decide, by decide⟩
theorem list_ext {cs bs : List Int} (hl : cs.length = bs.length) (h : ∀ j, j < cs.length → cs.getD j 0 = bs.getD j 0) : cs = bs := by
  apply List.ext_getElem hl
  intro j h1 h2
  have := h j h1
  rwa [List.getD_eq_getElem?_getD, List.getD_eq_getElem?_getD, List.getElem?_eq_getElem h1, List.getElem?_eq_getElem h2] at this
/-- An own slice of ints that is no shorter than it seems. -/
theorem slz_owni {W : World} {base g n : Nat} {bs : List Int} (h : OwnI W base g n bs) (hz : ∀ z ∈ bs, I64 z) : SlZ W .i64 (.slice (some ⟨g, 0, none⟩) n n) bs := by
  obtain ⟨h1, rfl⟩ := h
  exact slz_own h1 hz
theorem slz_ownl {W : World} {base g n : Nat} {bs : List Int} (h : OwnL W base g n bs) (hz : ∀ z ∈ bs, I64 z) : SlZ W .i64 (.slice (some ⟨g, 0, none⟩) n n) bs := by
  obtain ⟨h1, rfl⟩ := h
  exact slz_own h1 hz
theorem app_below {X w2 : World} {n₀ base size k : Nat} {e : TypeId} {v : Value} {xs : List Value} (hrow : X.ownsRow base e size v k xs) (hgrow : X.grownBy w2 v.ownBlock) (hn : n₀ ≤ base) (hs : n₀ ≤ X.heap.size) : Below n₀ X w2 :=
  (Below.refl n₀ X).grown hgrow hs fun j ej => Nat.le_trans hn (own_row hrow j ej)
end Go.Proofs.Ythcboomdkpiflaa
