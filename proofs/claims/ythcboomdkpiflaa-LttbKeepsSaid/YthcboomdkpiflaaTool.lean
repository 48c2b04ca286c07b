/- Blocks of the heap that hold a variable, and the walk behind a world that is laid open no more. -/
import Derived.Test.YthcboomdkpiflaaRows
import Derived.Test.YthcboomdkpiflaaPlain
import Derived.WalkKit
import Derived.ProofKit
import Derived.WalkLawsBesides
import Derived.WalkSpells
import Derived.ChangeKeysEq
import Derived.RegionTactic
import Derived.ChangeAlike
import Derived.Deep.RegionHeld3
namespace Go.Proofs.Ythcboomdkpiflaa
open Go.ChangeShapes Go.WideShapes Go.ChangeAt Go.RowKit
set_option linter.unusedVariables false
set_option linter.unusedSimpArgs false

/-- The block b of the heap holds these cells. -/
def HB (W : World) (b : Nat) (cs : Array Value) : Prop := ∃ T, W.heap[b]? = some (.cells cs T (0, 0))
/-- The same, with what reads and writes look at. -/
abbrev Bx (W : World) (b : Nat) (cs : Array Value) : Prop := HB W b cs ∧ (∀ i, W.cell? ⟨b, i, none⟩ = cs[i]?) ∧ (∀ i, W.frozen? ⟨b, i, none⟩ = false) ∧ b < W.heap.size
theorem HB.lt {W : World} {b : Nat} {cs : Array Value} (h : HB W b cs) : b < W.heap.size := by
  obtain ⟨T, h⟩ := h; exact (Array.getElem?_eq_some_iff.1 h).1
theorem Bx.of {W : World} {b : Nat} {cs : Array Value} (h : HB W b cs) : Bx W b cs := by
  refine ⟨h, ?_, ?_, h.lt⟩ <;> obtain ⟨T, h⟩ := h <;> intro i
  · simp [World.cell?, h]
  · simp [World.frozen?, h]
theorem HB.below {W W' : World} {b : Nat} {cs : Array Value} (h : HB W b cs) (hb : Below W.heap.size W W') : HB W' b cs := by
  have hl := h.lt
  obtain ⟨T, h⟩ := h; exact ⟨T, (hb.block b hl).trans h⟩
theorem Bx.below {W W' : World} {b : Nat} {cs : Array Value} (h : Bx W b cs) (hb : Below W.heap.size W W') : Bx W' b cs := Bx.of (h.1.below hb)
theorem HB.drew {W : World} {b : Nat} {cs : Array Value} (h : HB W b cs) : HB W.drew b cs := h
theorem HB.new (W : World) (cs : Array Value) (T : TypeId) {b : Nat} (hb : b = W.heap.size) : HB (W.alloc (.cells cs T (0, 0))) b cs := by
  subst hb
  refine ⟨T, ?_⟩
  show (W.heap.push _)[W.heap.size]? = _
  simp
theorem HB.old {W : World} {o : Obj} {b : Nat} {cs : Array Value} (hl : b < W.heap.size) (h : HB W b cs) : HB (W.alloc o) b cs := by
  obtain ⟨T, h⟩ := h; exact ⟨T, (Below.heap_alloc W o b hl).trans h⟩
theorem HB.setne {W : World} {a : Addr} {v : Value} {b : Nat} {cs : Array Value} (hne : b ≠ a.block) (h : HB W b cs) : HB (W.setCell a v) b cs := by
  obtain ⟨T, h⟩ := h; exact ⟨T, (Below.heap_setCell W a v b hne).trans h⟩
theorem HB.set {W : World} {i : Nat} {v : Value} {b : Nat} {cs cs' : Array Value} (h : HB W b cs) (e : cs.setIfInBounds i v = cs') : HB (W.setCell ⟨b, i, none⟩ v) b cs' := by
  obtain ⟨T, h⟩ := h
  refine ⟨T, ?_⟩
  obtain ⟨hlt, hk⟩ := Array.getElem?_eq_some_iff.1 h
  show (W.heap.modify b _)[b]? = _
  rw [Array.getElem?_eq_getElem (by rw [Array.size_modify]; exact hlt), Array.getElem_modify_self, hk, ← e]
  rfl
/-- From here on of the world only S is known. -/
theorem wp_gen {P : Program} {c : Code} {Q : Exit → Act → World → Prop} {a : Act} {w : World} (S : World → Prop) (hS : S w) (h : ∀ W, S W → c.wp P Q a W) : c.wp P Q a w := h w hS
theorem below_drewN {B n : Nat} {a w : World} (h : Below B a w) : Below B a (w.drewN n) := ⟨h.os, h.tape, h.output, h.size, h.block⟩
theorem below_more {w W W' : World} (h : Below w.heap.size w W) (hb : Below W.heap.size W W') : Below w.heap.size w W' := Below.trans h (Below.mono hb h.size)

/-- The block b holds k cells. -/
def HN (W : World) (b : Nat) (k : Nat) : Prop := ∃ cs, cs.size = k ∧ HB W b cs
theorem HN.drew {W : World} {b k : Nat} (h : HN W b k) : HN W.drew b k := h
theorem HN.lt {W : World} {b k : Nat} (h : HN W b k) : b < W.heap.size := by obtain ⟨_, _, h⟩ := h; exact h.lt
theorem HN.old {W : World} {o : Obj} {b k : Nat} (hl : b < W.heap.size) (h : HN W b k) : HN (W.alloc o) b k := by obtain ⟨cs, e, h⟩ := h; exact ⟨cs, e, h.old hl⟩
theorem HN.set {W : World} {i : Nat} {v : Value} {b k : Nat} (h : HN W b k) : HN (W.setCell ⟨b, i, none⟩ v) b k := by obtain ⟨cs, e, h⟩ := h; exact ⟨_, by simpa using e, h.set rfl⟩
theorem HN.setne {W : World} {a : Addr} {v : Value} {b k : Nat} (hne : b ≠ a.block) (h : HN W b k) : HN (W.setCell a v) b k := by obtain ⟨cs, e, h⟩ := h; exact ⟨cs, e, h.setne hne⟩
theorem HN.of1 {W : World} {b : Nat} {v0 : Value} (h : HB W b #[v0]) : HN W b 1 := ⟨_, rfl, h⟩
theorem HN.new1 (W : World) (T : TypeId) {b : Nat} {v0 : Value} (hb : b = W.heap.size) : HN (W.alloc (.cells #[v0] T (0, 0))) b 1 := ⟨_, rfl, HB.new W _ T hb⟩
theorem HB.over1 {W : World} {b : Nat} {v0 : Value} (h : HN W b 1) : HB (W.setCell ⟨b, 0, none⟩ v0) b #[v0] := by
  obtain ⟨cs, e, h⟩ := h
  obtain ⟨l, rfl⟩ : ∃ l : List Value, cs = l.toArray := ⟨cs.toList, by simp⟩
  rw [List.size_toArray] at e
  rcases l with _ | ⟨x0, l⟩
  · simp at e
  rcases l with _ | ⟨y, l⟩
  rotate_left
  · simp at e
  have h2 := (HB.set (i := 0) (v := v0) h rfl)
  simpa only [List.setIfInBounds_toArray, List.set_cons_zero, List.set_cons_succ] using h2
theorem HN.of2 {W : World} {b : Nat} {v0 v1 : Value} (h : HB W b #[v0, v1]) : HN W b 2 := ⟨_, rfl, h⟩
theorem HN.new2 (W : World) (T : TypeId) {b : Nat} {v0 v1 : Value} (hb : b = W.heap.size) : HN (W.alloc (.cells #[v0, v1] T (0, 0))) b 2 := ⟨_, rfl, HB.new W _ T hb⟩
theorem HB.over2 {W : World} {b : Nat} {v0 v1 : Value} (h : HN W b 2) : HB ((W.setCell ⟨b, 0, none⟩ v0).setCell ⟨b, 1, none⟩ v1) b #[v0, v1] := by
  obtain ⟨cs, e, h⟩ := h
  obtain ⟨l, rfl⟩ : ∃ l : List Value, cs = l.toArray := ⟨cs.toList, by simp⟩
  rw [List.size_toArray] at e
  rcases l with _ | ⟨x0, l⟩
  · simp at e
  rw [List.length_cons] at e
  rcases l with _ | ⟨x1, l⟩
  · simp at e
  rcases l with _ | ⟨y, l⟩
  rotate_left
  · simp at e
  have h2 := (HB.set (i := 1) (v := v1) (HB.set (i := 0) (v := v0) h rfl) rfl)
  simpa only [List.setIfInBounds_toArray, List.set_cons_zero, List.set_cons_succ] using h2
theorem HN.of3 {W : World} {b : Nat} {v0 v1 v2 : Value} (h : HB W b #[v0, v1, v2]) : HN W b 3 := ⟨_, rfl, h⟩
theorem HN.new3 (W : World) (T : TypeId) {b : Nat} {v0 v1 v2 : Value} (hb : b = W.heap.size) : HN (W.alloc (.cells #[v0, v1, v2] T (0, 0))) b 3 := ⟨_, rfl, HB.new W _ T hb⟩
theorem HB.over3 {W : World} {b : Nat} {v0 v1 v2 : Value} (h : HN W b 3) : HB (((W.setCell ⟨b, 0, none⟩ v0).setCell ⟨b, 1, none⟩ v1).setCell ⟨b, 2, none⟩ v2) b #[v0, v1, v2] := by
  obtain ⟨cs, e, h⟩ := h
  obtain ⟨l, rfl⟩ : ∃ l : List Value, cs = l.toArray := ⟨cs.toList, by simp⟩
  rw [List.size_toArray] at e
  rcases l with _ | ⟨x0, l⟩
  · simp at e
  rw [List.length_cons] at e
  rcases l with _ | ⟨x1, l⟩
  · simp at e
  rw [List.length_cons] at e
  rcases l with _ | ⟨x2, l⟩
  · simp at e
  rcases l with _ | ⟨y, l⟩
  rotate_left
  · simp at e
  have h2 := (HB.set (i := 2) (v := v2) (HB.set (i := 1) (v := v1) (HB.set (i := 0) (v := v0) h rfl) rfl) rfl)
  simpa only [List.setIfInBounds_toArray, List.set_cons_zero, List.set_cons_succ] using h2
theorem HN.of4 {W : World} {b : Nat} {v0 v1 v2 v3 : Value} (h : HB W b #[v0, v1, v2, v3]) : HN W b 4 := ⟨_, rfl, h⟩
theorem HN.new4 (W : World) (T : TypeId) {b : Nat} {v0 v1 v2 v3 : Value} (hb : b = W.heap.size) : HN (W.alloc (.cells #[v0, v1, v2, v3] T (0, 0))) b 4 := ⟨_, rfl, HB.new W _ T hb⟩
theorem HB.over4 {W : World} {b : Nat} {v0 v1 v2 v3 : Value} (h : HN W b 4) : HB ((((W.setCell ⟨b, 0, none⟩ v0).setCell ⟨b, 1, none⟩ v1).setCell ⟨b, 2, none⟩ v2).setCell ⟨b, 3, none⟩ v3) b #[v0, v1, v2, v3] := by
  obtain ⟨cs, e, h⟩ := h
  obtain ⟨l, rfl⟩ : ∃ l : List Value, cs = l.toArray := ⟨cs.toList, by simp⟩
  rw [List.size_toArray] at e
  rcases l with _ | ⟨x0, l⟩
  · simp at e
  rw [List.length_cons] at e
  rcases l with _ | ⟨x1, l⟩
  · simp at e
  rw [List.length_cons] at e
  rcases l with _ | ⟨x2, l⟩
  · simp at e
  rw [List.length_cons] at e
  rcases l with _ | ⟨x3, l⟩
  · simp at e
  rcases l with _ | ⟨y, l⟩
  rotate_left
  · simp at e
  have h2 := (HB.set (i := 3) (v := v3) (HB.set (i := 2) (v := v2) (HB.set (i := 1) (v := v1) (HB.set (i := 0) (v := v0) h rfl) rfl) rfl) rfl)
  simpa only [List.setIfInBounds_toArray, List.set_cons_zero, List.set_cons_succ] using h2
theorem HN.of5 {W : World} {b : Nat} {v0 v1 v2 v3 v4 : Value} (h : HB W b #[v0, v1, v2, v3, v4]) : HN W b 5 := ⟨_, rfl, h⟩
theorem HN.new5 (W : World) (T : TypeId) {b : Nat} {v0 v1 v2 v3 v4 : Value} (hb : b = W.heap.size) : HN (W.alloc (.cells #[v0, v1, v2, v3, v4] T (0, 0))) b 5 := ⟨_, rfl, HB.new W _ T hb⟩
theorem HB.over5 {W : World} {b : Nat} {v0 v1 v2 v3 v4 : Value} (h : HN W b 5) : HB (((((W.setCell ⟨b, 0, none⟩ v0).setCell ⟨b, 1, none⟩ v1).setCell ⟨b, 2, none⟩ v2).setCell ⟨b, 3, none⟩ v3).setCell ⟨b, 4, none⟩ v4) b #[v0, v1, v2, v3, v4] := by
  obtain ⟨cs, e, h⟩ := h
  obtain ⟨l, rfl⟩ : ∃ l : List Value, cs = l.toArray := ⟨cs.toList, by simp⟩
  rw [List.size_toArray] at e
  rcases l with _ | ⟨x0, l⟩
  · simp at e
  rw [List.length_cons] at e
  rcases l with _ | ⟨x1, l⟩
  · simp at e
  rw [List.length_cons] at e
  rcases l with _ | ⟨x2, l⟩
  · simp at e
  rw [List.length_cons] at e
  rcases l with _ | ⟨x3, l⟩
  · simp at e
  rw [List.length_cons] at e
  rcases l with _ | ⟨x4, l⟩
  · simp at e
  rcases l with _ | ⟨y, l⟩
  rotate_left
  · simp at e
  have h2 := (HB.set (i := 4) (v := v4) (HB.set (i := 3) (v := v3) (HB.set (i := 2) (v := v2) (HB.set (i := 1) (v := v1) (HB.set (i := 0) (v := v0) h rfl) rfl) rfl) rfl) rfl)
  simpa only [List.setIfInBounds_toArray, List.set_cons_zero, List.set_cons_succ] using h2
theorem HN.of6 {W : World} {b : Nat} {v0 v1 v2 v3 v4 v5 : Value} (h : HB W b #[v0, v1, v2, v3, v4, v5]) : HN W b 6 := ⟨_, rfl, h⟩
theorem HN.new6 (W : World) (T : TypeId) {b : Nat} {v0 v1 v2 v3 v4 v5 : Value} (hb : b = W.heap.size) : HN (W.alloc (.cells #[v0, v1, v2, v3, v4, v5] T (0, 0))) b 6 := ⟨_, rfl, HB.new W _ T hb⟩
theorem HB.over6 {W : World} {b : Nat} {v0 v1 v2 v3 v4 v5 : Value} (h : HN W b 6) : HB ((((((W.setCell ⟨b, 0, none⟩ v0).setCell ⟨b, 1, none⟩ v1).setCell ⟨b, 2, none⟩ v2).setCell ⟨b, 3, none⟩ v3).setCell ⟨b, 4, none⟩ v4).setCell ⟨b, 5, none⟩ v5) b #[v0, v1, v2, v3, v4, v5] := by
  obtain ⟨cs, e, h⟩ := h
  obtain ⟨l, rfl⟩ : ∃ l : List Value, cs = l.toArray := ⟨cs.toList, by simp⟩
  rw [List.size_toArray] at e
  rcases l with _ | ⟨x0, l⟩
  · simp at e
  rw [List.length_cons] at e
  rcases l with _ | ⟨x1, l⟩
  · simp at e
  rw [List.length_cons] at e
  rcases l with _ | ⟨x2, l⟩
  · simp at e
  rw [List.length_cons] at e
  rcases l with _ | ⟨x3, l⟩
  · simp at e
  rw [List.length_cons] at e
  rcases l with _ | ⟨x4, l⟩
  · simp at e
  rw [List.length_cons] at e
  rcases l with _ | ⟨x5, l⟩
  · simp at e
  rcases l with _ | ⟨y, l⟩
  rotate_left
  · simp at e
  have h2 := (HB.set (i := 5) (v := v5) (HB.set (i := 4) (v := v4) (HB.set (i := 3) (v := v3) (HB.set (i := 2) (v := v2) (HB.set (i := 1) (v := v1) (HB.set (i := 0) (v := v0) h rfl) rfl) rfl) rfl) rfl) rfl)
  simpa only [List.setIfInBounds_toArray, List.set_cons_zero, List.set_cons_succ] using h2
theorem HN.of8 {W : World} {b : Nat} {v0 v1 v2 v3 v4 v5 v6 v7 : Value} (h : HB W b #[v0, v1, v2, v3, v4, v5, v6, v7]) : HN W b 8 := ⟨_, rfl, h⟩
theorem HN.new8 (W : World) (T : TypeId) {b : Nat} {v0 v1 v2 v3 v4 v5 v6 v7 : Value} (hb : b = W.heap.size) : HN (W.alloc (.cells #[v0, v1, v2, v3, v4, v5, v6, v7] T (0, 0))) b 8 := ⟨_, rfl, HB.new W _ T hb⟩
theorem HB.over8 {W : World} {b : Nat} {v0 v1 v2 v3 v4 v5 v6 v7 : Value} (h : HN W b 8) : HB ((((((((W.setCell ⟨b, 0, none⟩ v0).setCell ⟨b, 1, none⟩ v1).setCell ⟨b, 2, none⟩ v2).setCell ⟨b, 3, none⟩ v3).setCell ⟨b, 4, none⟩ v4).setCell ⟨b, 5, none⟩ v5).setCell ⟨b, 6, none⟩ v6).setCell ⟨b, 7, none⟩ v7) b #[v0, v1, v2, v3, v4, v5, v6, v7] := by
  obtain ⟨cs, e, h⟩ := h
  obtain ⟨l, rfl⟩ : ∃ l : List Value, cs = l.toArray := ⟨cs.toList, by simp⟩
  rw [List.size_toArray] at e
  rcases l with _ | ⟨x0, l⟩
  · simp at e
  rw [List.length_cons] at e
  rcases l with _ | ⟨x1, l⟩
  · simp at e
  rw [List.length_cons] at e
  rcases l with _ | ⟨x2, l⟩
  · simp at e
  rw [List.length_cons] at e
  rcases l with _ | ⟨x3, l⟩
  · simp at e
  rw [List.length_cons] at e
  rcases l with _ | ⟨x4, l⟩
  · simp at e
  rw [List.length_cons] at e
  rcases l with _ | ⟨x5, l⟩
  · simp at e
  rw [List.length_cons] at e
  rcases l with _ | ⟨x6, l⟩
  · simp at e
  rw [List.length_cons] at e
  rcases l with _ | ⟨x7, l⟩
  · simp at e
  rcases l with _ | ⟨y, l⟩
  rotate_left
  · simp at e
  have h2 := (HB.set (i := 7) (v := v7) (HB.set (i := 6) (v := v6) (HB.set (i := 5) (v := v5) (HB.set (i := 4) (v := v4) (HB.set (i := 3) (v := v3) (HB.set (i := 2) (v := v2) (HB.set (i := 1) (v := v1) (HB.set (i := 0) (v := v0) h rfl) rfl) rfl) rfl) rfl) rfl) rfl) rfl)
  simpa only [List.setIfInBounds_toArray, List.set_cons_zero, List.set_cons_succ] using h2
theorem HN.of10 {W : World} {b : Nat} {v0 v1 v2 v3 v4 v5 v6 v7 v8 v9 : Value} (h : HB W b #[v0, v1, v2, v3, v4, v5, v6, v7, v8, v9]) : HN W b 10 := ⟨_, rfl, h⟩
theorem HN.new10 (W : World) (T : TypeId) {b : Nat} {v0 v1 v2 v3 v4 v5 v6 v7 v8 v9 : Value} (hb : b = W.heap.size) : HN (W.alloc (.cells #[v0, v1, v2, v3, v4, v5, v6, v7, v8, v9] T (0, 0))) b 10 := ⟨_, rfl, HB.new W _ T hb⟩
theorem HB.over10 {W : World} {b : Nat} {v0 v1 v2 v3 v4 v5 v6 v7 v8 v9 : Value} (h : HN W b 10) : HB ((((((((((W.setCell ⟨b, 0, none⟩ v0).setCell ⟨b, 1, none⟩ v1).setCell ⟨b, 2, none⟩ v2).setCell ⟨b, 3, none⟩ v3).setCell ⟨b, 4, none⟩ v4).setCell ⟨b, 5, none⟩ v5).setCell ⟨b, 6, none⟩ v6).setCell ⟨b, 7, none⟩ v7).setCell ⟨b, 8, none⟩ v8).setCell ⟨b, 9, none⟩ v9) b #[v0, v1, v2, v3, v4, v5, v6, v7, v8, v9] := by
  obtain ⟨cs, e, h⟩ := h
  obtain ⟨l, rfl⟩ : ∃ l : List Value, cs = l.toArray := ⟨cs.toList, by simp⟩
  rw [List.size_toArray] at e
  rcases l with _ | ⟨x0, l⟩
  · simp at e
  rw [List.length_cons] at e
  rcases l with _ | ⟨x1, l⟩
  · simp at e
  rw [List.length_cons] at e
  rcases l with _ | ⟨x2, l⟩
  · simp at e
  rw [List.length_cons] at e
  rcases l with _ | ⟨x3, l⟩
  · simp at e
  rw [List.length_cons] at e
  rcases l with _ | ⟨x4, l⟩
  · simp at e
  rw [List.length_cons] at e
  rcases l with _ | ⟨x5, l⟩
  · simp at e
  rw [List.length_cons] at e
  rcases l with _ | ⟨x6, l⟩
  · simp at e
  rw [List.length_cons] at e
  rcases l with _ | ⟨x7, l⟩
  · simp at e
  rw [List.length_cons] at e
  rcases l with _ | ⟨x8, l⟩
  · simp at e
  rw [List.length_cons] at e
  rcases l with _ | ⟨x9, l⟩
  · simp at e
  rcases l with _ | ⟨y, l⟩
  rotate_left
  · simp at e
  have h2 := (HB.set (i := 9) (v := v9) (HB.set (i := 8) (v := v8) (HB.set (i := 7) (v := v7) (HB.set (i := 6) (v := v6) (HB.set (i := 5) (v := v5) (HB.set (i := 4) (v := v4) (HB.set (i := 3) (v := v3) (HB.set (i := 2) (v := v2) (HB.set (i := 1) (v := v1) (HB.set (i := 0) (v := v0) h rfl) rfl) rfl) rfl) rfl) rfl) rfl) rfl) rfl) rfl)
  simpa only [List.setIfInBounds_toArray, List.set_cons_zero, List.set_cons_succ] using h2
theorem HN.of12 {W : World} {b : Nat} {v0 v1 v2 v3 v4 v5 v6 v7 v8 v9 v10 v11 : Value} (h : HB W b #[v0, v1, v2, v3, v4, v5, v6, v7, v8, v9, v10, v11]) : HN W b 12 := ⟨_, rfl, h⟩
theorem HN.new12 (W : World) (T : TypeId) {b : Nat} {v0 v1 v2 v3 v4 v5 v6 v7 v8 v9 v10 v11 : Value} (hb : b = W.heap.size) : HN (W.alloc (.cells #[v0, v1, v2, v3, v4, v5, v6, v7, v8, v9, v10, v11] T (0, 0))) b 12 := ⟨_, rfl, HB.new W _ T hb⟩
theorem HB.over12 {W : World} {b : Nat} {v0 v1 v2 v3 v4 v5 v6 v7 v8 v9 v10 v11 : Value} (h : HN W b 12) : HB ((((((((((((W.setCell ⟨b, 0, none⟩ v0).setCell ⟨b, 1, none⟩ v1).setCell ⟨b, 2, none⟩ v2).setCell ⟨b, 3, none⟩ v3).setCell ⟨b, 4, none⟩ v4).setCell ⟨b, 5, none⟩ v5).setCell ⟨b, 6, none⟩ v6).setCell ⟨b, 7, none⟩ v7).setCell ⟨b, 8, none⟩ v8).setCell ⟨b, 9, none⟩ v9).setCell ⟨b, 10, none⟩ v10).setCell ⟨b, 11, none⟩ v11) b #[v0, v1, v2, v3, v4, v5, v6, v7, v8, v9, v10, v11] := by
  obtain ⟨cs, e, h⟩ := h
  obtain ⟨l, rfl⟩ : ∃ l : List Value, cs = l.toArray := ⟨cs.toList, by simp⟩
  rw [List.size_toArray] at e
  rcases l with _ | ⟨x0, l⟩
  · simp at e
  rw [List.length_cons] at e
  rcases l with _ | ⟨x1, l⟩
  · simp at e
  rw [List.length_cons] at e
  rcases l with _ | ⟨x2, l⟩
  · simp at e
  rw [List.length_cons] at e
  rcases l with _ | ⟨x3, l⟩
  · simp at e
  rw [List.length_cons] at e
  rcases l with _ | ⟨x4, l⟩
  · simp at e
  rw [List.length_cons] at e
  rcases l with _ | ⟨x5, l⟩
  · simp at e
  rw [List.length_cons] at e
  rcases l with _ | ⟨x6, l⟩
  · simp at e
  rw [List.length_cons] at e
  rcases l with _ | ⟨x7, l⟩
  · simp at e
  rw [List.length_cons] at e
  rcases l with _ | ⟨x8, l⟩
  · simp at e
  rw [List.length_cons] at e
  rcases l with _ | ⟨x9, l⟩
  · simp at e
  rw [List.length_cons] at e
  rcases l with _ | ⟨x10, l⟩
  · simp at e
  rw [List.length_cons] at e
  rcases l with _ | ⟨x11, l⟩
  · simp at e
  rcases l with _ | ⟨y, l⟩
  rotate_left
  · simp at e
  have h2 := (HB.set (i := 11) (v := v11) (HB.set (i := 10) (v := v10) (HB.set (i := 9) (v := v9) (HB.set (i := 8) (v := v8) (HB.set (i := 7) (v := v7) (HB.set (i := 6) (v := v6) (HB.set (i := 5) (v := v5) (HB.set (i := 4) (v := v4) (HB.set (i := 3) (v := v3) (HB.set (i := 2) (v := v2) (HB.set (i := 1) (v := v1) (HB.set (i := 0) (v := v0) h rfl) rfl) rfl) rfl) rfl) rfl) rfl) rfl) rfl) rfl) rfl) rfl)
  simpa only [List.setIfInBounds_toArray, List.set_cons_zero, List.set_cons_succ] using h2
theorem HN.below {W W' : World} {b k : Nat} (h : HN W b k) (hb : Below W.heap.size W W') : HN W' b k := by obtain ⟨cs, e, h⟩ := h; exact ⟨cs, e, h.below hb⟩
/-- What a cell holds, by a name of its own. -/
def cv (W : World) (b i : Nat) : Value := (W.cell? ⟨b, i, none⟩).getD undef
theorem HN.cell {W : World} {b k : Nat} (h : HN W b k) {i : Nat} (hi : i < k) : W.cell? ⟨b, i, none⟩ = some (cv W b i) := by
  obtain ⟨cs, e, h⟩ := h
  have h1 := (Bx.of h).2.1 i
  have h2 : cs[i]? = some cs[i] := by simp [e, hi]
  unfold cv
  rw [h1, h2]; rfl
theorem HN.froz {W : World} {b k : Nat} (h : HN W b k) (i : Nat) : W.frozen? ⟨b, i, none⟩ = false := by
  obtain ⟨cs, e, h⟩ := h; exact (Bx.of h).2.2.1 i
abbrev By1 (W : World) (b : Nat) : Prop := HN W b 1 ∧ W.cell? ⟨b, 0, none⟩ = some (cv W b 0) ∧ (∀ i, W.frozen? ⟨b, i, none⟩ = false) ∧ b < W.heap.size
theorem By1.of {W : World} {b : Nat} (h : HN W b 1) : By1 W b := ⟨h, h.cell (by decide), h.froz, h.lt⟩
abbrev By2 (W : World) (b : Nat) : Prop := HN W b 2 ∧ W.cell? ⟨b, 0, none⟩ = some (cv W b 0) ∧ W.cell? ⟨b, 1, none⟩ = some (cv W b 1) ∧ (∀ i, W.frozen? ⟨b, i, none⟩ = false) ∧ b < W.heap.size
theorem By2.of {W : World} {b : Nat} (h : HN W b 2) : By2 W b := ⟨h, h.cell (by decide), h.cell (by decide), h.froz, h.lt⟩
abbrev By4 (W : World) (b : Nat) : Prop := HN W b 4 ∧ W.cell? ⟨b, 0, none⟩ = some (cv W b 0) ∧ W.cell? ⟨b, 1, none⟩ = some (cv W b 1) ∧ W.cell? ⟨b, 2, none⟩ = some (cv W b 2) ∧ W.cell? ⟨b, 3, none⟩ = some (cv W b 3) ∧ (∀ i, W.frozen? ⟨b, i, none⟩ = false) ∧ b < W.heap.size
theorem By4.of {W : World} {b : Nat} (h : HN W b 4) : By4 W b := ⟨h, h.cell (by decide), h.cell (by decide), h.cell (by decide), h.cell (by decide), h.froz, h.lt⟩
abbrev By5 (W : World) (b : Nat) : Prop := HN W b 5 ∧ W.cell? ⟨b, 0, none⟩ = some (cv W b 0) ∧ W.cell? ⟨b, 1, none⟩ = some (cv W b 1) ∧ W.cell? ⟨b, 2, none⟩ = some (cv W b 2) ∧ W.cell? ⟨b, 3, none⟩ = some (cv W b 3) ∧ W.cell? ⟨b, 4, none⟩ = some (cv W b 4) ∧ (∀ i, W.frozen? ⟨b, i, none⟩ = false) ∧ b < W.heap.size
theorem By5.of {W : World} {b : Nat} (h : HN W b 5) : By5 W b := ⟨h, h.cell (by decide), h.cell (by decide), h.cell (by decide), h.cell (by decide), h.cell (by decide), h.froz, h.lt⟩
abbrev By6 (W : World) (b : Nat) : Prop := HN W b 6 ∧ W.cell? ⟨b, 0, none⟩ = some (cv W b 0) ∧ W.cell? ⟨b, 1, none⟩ = some (cv W b 1) ∧ W.cell? ⟨b, 2, none⟩ = some (cv W b 2) ∧ W.cell? ⟨b, 3, none⟩ = some (cv W b 3) ∧ W.cell? ⟨b, 4, none⟩ = some (cv W b 4) ∧ W.cell? ⟨b, 5, none⟩ = some (cv W b 5) ∧ (∀ i, W.frozen? ⟨b, i, none⟩ = false) ∧ b < W.heap.size
theorem By6.of {W : World} {b : Nat} (h : HN W b 6) : By6 W b := ⟨h, h.cell (by decide), h.cell (by decide), h.cell (by decide), h.cell (by decide), h.cell (by decide), h.cell (by decide), h.froz, h.lt⟩
abbrev By8 (W : World) (b : Nat) : Prop := HN W b 8 ∧ W.cell? ⟨b, 0, none⟩ = some (cv W b 0) ∧ W.cell? ⟨b, 1, none⟩ = some (cv W b 1) ∧ W.cell? ⟨b, 2, none⟩ = some (cv W b 2) ∧ W.cell? ⟨b, 3, none⟩ = some (cv W b 3) ∧ W.cell? ⟨b, 4, none⟩ = some (cv W b 4) ∧ W.cell? ⟨b, 5, none⟩ = some (cv W b 5) ∧ W.cell? ⟨b, 6, none⟩ = some (cv W b 6) ∧ W.cell? ⟨b, 7, none⟩ = some (cv W b 7) ∧ (∀ i, W.frozen? ⟨b, i, none⟩ = false) ∧ b < W.heap.size
theorem By8.of {W : World} {b : Nat} (h : HN W b 8) : By8 W b := ⟨h, h.cell (by decide), h.cell (by decide), h.cell (by decide), h.cell (by decide), h.cell (by decide), h.cell (by decide), h.cell (by decide), h.cell (by decide), h.froz, h.lt⟩
abbrev By10 (W : World) (b : Nat) : Prop := HN W b 10 ∧ W.cell? ⟨b, 0, none⟩ = some (cv W b 0) ∧ W.cell? ⟨b, 1, none⟩ = some (cv W b 1) ∧ W.cell? ⟨b, 2, none⟩ = some (cv W b 2) ∧ W.cell? ⟨b, 3, none⟩ = some (cv W b 3) ∧ W.cell? ⟨b, 4, none⟩ = some (cv W b 4) ∧ W.cell? ⟨b, 5, none⟩ = some (cv W b 5) ∧ W.cell? ⟨b, 6, none⟩ = some (cv W b 6) ∧ W.cell? ⟨b, 7, none⟩ = some (cv W b 7) ∧ W.cell? ⟨b, 8, none⟩ = some (cv W b 8) ∧ W.cell? ⟨b, 9, none⟩ = some (cv W b 9) ∧ (∀ i, W.frozen? ⟨b, i, none⟩ = false) ∧ b < W.heap.size
theorem By10.of {W : World} {b : Nat} (h : HN W b 10) : By10 W b := ⟨h, h.cell (by decide), h.cell (by decide), h.cell (by decide), h.cell (by decide), h.cell (by decide), h.cell (by decide), h.cell (by decide), h.cell (by decide), h.cell (by decide), h.cell (by decide), h.froz, h.lt⟩
abbrev By12 (W : World) (b : Nat) : Prop := HN W b 12 ∧ W.cell? ⟨b, 0, none⟩ = some (cv W b 0) ∧ W.cell? ⟨b, 1, none⟩ = some (cv W b 1) ∧ W.cell? ⟨b, 2, none⟩ = some (cv W b 2) ∧ W.cell? ⟨b, 3, none⟩ = some (cv W b 3) ∧ W.cell? ⟨b, 4, none⟩ = some (cv W b 4) ∧ W.cell? ⟨b, 5, none⟩ = some (cv W b 5) ∧ W.cell? ⟨b, 6, none⟩ = some (cv W b 6) ∧ W.cell? ⟨b, 7, none⟩ = some (cv W b 7) ∧ W.cell? ⟨b, 8, none⟩ = some (cv W b 8) ∧ W.cell? ⟨b, 9, none⟩ = some (cv W b 9) ∧ W.cell? ⟨b, 10, none⟩ = some (cv W b 10) ∧ W.cell? ⟨b, 11, none⟩ = some (cv W b 11) ∧ (∀ i, W.frozen? ⟨b, i, none⟩ = false) ∧ b < W.heap.size
theorem By12.of {W : World} {b : Nat} (h : HN W b 12) : By12 W b := ⟨h, h.cell (by decide), h.cell (by decide), h.cell (by decide), h.cell (by decide), h.cell (by decide), h.cell (by decide), h.cell (by decide), h.cell (by decide), h.cell (by decide), h.cell (by decide), h.cell (by decide), h.cell (by decide), h.froz, h.lt⟩
theorem keep0y1 {w W W' : World} {m : Nat} {n  y : Nat} (h : Below w.heap.size w W ∧ n ≤ W.heap.size ∧ By1 W y) (hb : Below m W W') (hm : m = W.heap.size) : Below w.heap.size w W' ∧ n ≤ W'.heap.size ∧ By1 W' y := by
  subst hm
  obtain ⟨h0, hn, hy⟩ := h
  exact ⟨below_more h0 hb, Nat.le_trans hn hb.size, By1.of (hy.1.below hb)⟩
theorem keep0y2 {w W W' : World} {m : Nat} {n  y : Nat} (h : Below w.heap.size w W ∧ n ≤ W.heap.size ∧ By2 W y) (hb : Below m W W') (hm : m = W.heap.size) : Below w.heap.size w W' ∧ n ≤ W'.heap.size ∧ By2 W' y := by
  subst hm
  obtain ⟨h0, hn, hy⟩ := h
  exact ⟨below_more h0 hb, Nat.le_trans hn hb.size, By2.of (hy.1.below hb)⟩
theorem keep0y4 {w W W' : World} {m : Nat} {n  y : Nat} (h : Below w.heap.size w W ∧ n ≤ W.heap.size ∧ By4 W y) (hb : Below m W W') (hm : m = W.heap.size) : Below w.heap.size w W' ∧ n ≤ W'.heap.size ∧ By4 W' y := by
  subst hm
  obtain ⟨h0, hn, hy⟩ := h
  exact ⟨below_more h0 hb, Nat.le_trans hn hb.size, By4.of (hy.1.below hb)⟩
theorem keep0y5 {w W W' : World} {m : Nat} {n  y : Nat} (h : Below w.heap.size w W ∧ n ≤ W.heap.size ∧ By5 W y) (hb : Below m W W') (hm : m = W.heap.size) : Below w.heap.size w W' ∧ n ≤ W'.heap.size ∧ By5 W' y := by
  subst hm
  obtain ⟨h0, hn, hy⟩ := h
  exact ⟨below_more h0 hb, Nat.le_trans hn hb.size, By5.of (hy.1.below hb)⟩
theorem keep0y6 {w W W' : World} {m : Nat} {n  y : Nat} (h : Below w.heap.size w W ∧ n ≤ W.heap.size ∧ By6 W y) (hb : Below m W W') (hm : m = W.heap.size) : Below w.heap.size w W' ∧ n ≤ W'.heap.size ∧ By6 W' y := by
  subst hm
  obtain ⟨h0, hn, hy⟩ := h
  exact ⟨below_more h0 hb, Nat.le_trans hn hb.size, By6.of (hy.1.below hb)⟩
theorem keep0y8 {w W W' : World} {m : Nat} {n  y : Nat} (h : Below w.heap.size w W ∧ n ≤ W.heap.size ∧ By8 W y) (hb : Below m W W') (hm : m = W.heap.size) : Below w.heap.size w W' ∧ n ≤ W'.heap.size ∧ By8 W' y := by
  subst hm
  obtain ⟨h0, hn, hy⟩ := h
  exact ⟨below_more h0 hb, Nat.le_trans hn hb.size, By8.of (hy.1.below hb)⟩
theorem keep0y10 {w W W' : World} {m : Nat} {n  y : Nat} (h : Below w.heap.size w W ∧ n ≤ W.heap.size ∧ By10 W y) (hb : Below m W W') (hm : m = W.heap.size) : Below w.heap.size w W' ∧ n ≤ W'.heap.size ∧ By10 W' y := by
  subst hm
  obtain ⟨h0, hn, hy⟩ := h
  exact ⟨below_more h0 hb, Nat.le_trans hn hb.size, By10.of (hy.1.below hb)⟩
theorem keep0y12 {w W W' : World} {m : Nat} {n  y : Nat} (h : Below w.heap.size w W ∧ n ≤ W.heap.size ∧ By12 W y) (hb : Below m W W') (hm : m = W.heap.size) : Below w.heap.size w W' ∧ n ≤ W'.heap.size ∧ By12 W' y := by
  subst hm
  obtain ⟨h0, hn, hy⟩ := h
  exact ⟨below_more h0 hb, Nat.le_trans hn hb.size, By12.of (hy.1.below hb)⟩
theorem keep1 {w W W' : World} {m : Nat} {n b1 : Nat} {c1 : Array Value} (h : Below w.heap.size w W ∧ n ≤ W.heap.size ∧ Bx W b1 c1) (hb : Below m W W') (hm : m = W.heap.size) : Below w.heap.size w W' ∧ n ≤ W'.heap.size ∧ Bx W' b1 c1 := by
  subst hm
  obtain ⟨h0, hn, h1⟩ := h
  exact ⟨below_more h0 hb, Nat.le_trans hn hb.size, h1.below hb⟩
theorem keep1y1 {w W W' : World} {m : Nat} {n b1 y : Nat} {c1 : Array Value} (h : Below w.heap.size w W ∧ n ≤ W.heap.size ∧ Bx W b1 c1 ∧ By1 W y) (hb : Below m W W') (hm : m = W.heap.size) : Below w.heap.size w W' ∧ n ≤ W'.heap.size ∧ Bx W' b1 c1 ∧ By1 W' y := by
  subst hm
  obtain ⟨h0, hn, h1, hy⟩ := h
  exact ⟨below_more h0 hb, Nat.le_trans hn hb.size, h1.below hb, By1.of (hy.1.below hb)⟩
theorem keep1y2 {w W W' : World} {m : Nat} {n b1 y : Nat} {c1 : Array Value} (h : Below w.heap.size w W ∧ n ≤ W.heap.size ∧ Bx W b1 c1 ∧ By2 W y) (hb : Below m W W') (hm : m = W.heap.size) : Below w.heap.size w W' ∧ n ≤ W'.heap.size ∧ Bx W' b1 c1 ∧ By2 W' y := by
  subst hm
  obtain ⟨h0, hn, h1, hy⟩ := h
  exact ⟨below_more h0 hb, Nat.le_trans hn hb.size, h1.below hb, By2.of (hy.1.below hb)⟩
theorem keep1y4 {w W W' : World} {m : Nat} {n b1 y : Nat} {c1 : Array Value} (h : Below w.heap.size w W ∧ n ≤ W.heap.size ∧ Bx W b1 c1 ∧ By4 W y) (hb : Below m W W') (hm : m = W.heap.size) : Below w.heap.size w W' ∧ n ≤ W'.heap.size ∧ Bx W' b1 c1 ∧ By4 W' y := by
  subst hm
  obtain ⟨h0, hn, h1, hy⟩ := h
  exact ⟨below_more h0 hb, Nat.le_trans hn hb.size, h1.below hb, By4.of (hy.1.below hb)⟩
theorem keep1y5 {w W W' : World} {m : Nat} {n b1 y : Nat} {c1 : Array Value} (h : Below w.heap.size w W ∧ n ≤ W.heap.size ∧ Bx W b1 c1 ∧ By5 W y) (hb : Below m W W') (hm : m = W.heap.size) : Below w.heap.size w W' ∧ n ≤ W'.heap.size ∧ Bx W' b1 c1 ∧ By5 W' y := by
  subst hm
  obtain ⟨h0, hn, h1, hy⟩ := h
  exact ⟨below_more h0 hb, Nat.le_trans hn hb.size, h1.below hb, By5.of (hy.1.below hb)⟩
theorem keep1y6 {w W W' : World} {m : Nat} {n b1 y : Nat} {c1 : Array Value} (h : Below w.heap.size w W ∧ n ≤ W.heap.size ∧ Bx W b1 c1 ∧ By6 W y) (hb : Below m W W') (hm : m = W.heap.size) : Below w.heap.size w W' ∧ n ≤ W'.heap.size ∧ Bx W' b1 c1 ∧ By6 W' y := by
  subst hm
  obtain ⟨h0, hn, h1, hy⟩ := h
  exact ⟨below_more h0 hb, Nat.le_trans hn hb.size, h1.below hb, By6.of (hy.1.below hb)⟩
theorem keep1y8 {w W W' : World} {m : Nat} {n b1 y : Nat} {c1 : Array Value} (h : Below w.heap.size w W ∧ n ≤ W.heap.size ∧ Bx W b1 c1 ∧ By8 W y) (hb : Below m W W') (hm : m = W.heap.size) : Below w.heap.size w W' ∧ n ≤ W'.heap.size ∧ Bx W' b1 c1 ∧ By8 W' y := by
  subst hm
  obtain ⟨h0, hn, h1, hy⟩ := h
  exact ⟨below_more h0 hb, Nat.le_trans hn hb.size, h1.below hb, By8.of (hy.1.below hb)⟩
theorem keep1y10 {w W W' : World} {m : Nat} {n b1 y : Nat} {c1 : Array Value} (h : Below w.heap.size w W ∧ n ≤ W.heap.size ∧ Bx W b1 c1 ∧ By10 W y) (hb : Below m W W') (hm : m = W.heap.size) : Below w.heap.size w W' ∧ n ≤ W'.heap.size ∧ Bx W' b1 c1 ∧ By10 W' y := by
  subst hm
  obtain ⟨h0, hn, h1, hy⟩ := h
  exact ⟨below_more h0 hb, Nat.le_trans hn hb.size, h1.below hb, By10.of (hy.1.below hb)⟩
theorem keep1y12 {w W W' : World} {m : Nat} {n b1 y : Nat} {c1 : Array Value} (h : Below w.heap.size w W ∧ n ≤ W.heap.size ∧ Bx W b1 c1 ∧ By12 W y) (hb : Below m W W') (hm : m = W.heap.size) : Below w.heap.size w W' ∧ n ≤ W'.heap.size ∧ Bx W' b1 c1 ∧ By12 W' y := by
  subst hm
  obtain ⟨h0, hn, h1, hy⟩ := h
  exact ⟨below_more h0 hb, Nat.le_trans hn hb.size, h1.below hb, By12.of (hy.1.below hb)⟩
theorem keep2 {w W W' : World} {m : Nat} {n b1 b2 : Nat} {c1 c2 : Array Value} (h : Below w.heap.size w W ∧ n ≤ W.heap.size ∧ Bx W b1 c1 ∧ Bx W b2 c2) (hb : Below m W W') (hm : m = W.heap.size) : Below w.heap.size w W' ∧ n ≤ W'.heap.size ∧ Bx W' b1 c1 ∧ Bx W' b2 c2 := by
  subst hm
  obtain ⟨h0, hn, h1, h2⟩ := h
  exact ⟨below_more h0 hb, Nat.le_trans hn hb.size, h1.below hb, h2.below hb⟩
theorem keep2y1 {w W W' : World} {m : Nat} {n b1 b2 y : Nat} {c1 c2 : Array Value} (h : Below w.heap.size w W ∧ n ≤ W.heap.size ∧ Bx W b1 c1 ∧ Bx W b2 c2 ∧ By1 W y) (hb : Below m W W') (hm : m = W.heap.size) : Below w.heap.size w W' ∧ n ≤ W'.heap.size ∧ Bx W' b1 c1 ∧ Bx W' b2 c2 ∧ By1 W' y := by
  subst hm
  obtain ⟨h0, hn, h1, h2, hy⟩ := h
  exact ⟨below_more h0 hb, Nat.le_trans hn hb.size, h1.below hb, h2.below hb, By1.of (hy.1.below hb)⟩
theorem keep2y2 {w W W' : World} {m : Nat} {n b1 b2 y : Nat} {c1 c2 : Array Value} (h : Below w.heap.size w W ∧ n ≤ W.heap.size ∧ Bx W b1 c1 ∧ Bx W b2 c2 ∧ By2 W y) (hb : Below m W W') (hm : m = W.heap.size) : Below w.heap.size w W' ∧ n ≤ W'.heap.size ∧ Bx W' b1 c1 ∧ Bx W' b2 c2 ∧ By2 W' y := by
  subst hm
  obtain ⟨h0, hn, h1, h2, hy⟩ := h
  exact ⟨below_more h0 hb, Nat.le_trans hn hb.size, h1.below hb, h2.below hb, By2.of (hy.1.below hb)⟩
theorem keep2y4 {w W W' : World} {m : Nat} {n b1 b2 y : Nat} {c1 c2 : Array Value} (h : Below w.heap.size w W ∧ n ≤ W.heap.size ∧ Bx W b1 c1 ∧ Bx W b2 c2 ∧ By4 W y) (hb : Below m W W') (hm : m = W.heap.size) : Below w.heap.size w W' ∧ n ≤ W'.heap.size ∧ Bx W' b1 c1 ∧ Bx W' b2 c2 ∧ By4 W' y := by
  subst hm
  obtain ⟨h0, hn, h1, h2, hy⟩ := h
  exact ⟨below_more h0 hb, Nat.le_trans hn hb.size, h1.below hb, h2.below hb, By4.of (hy.1.below hb)⟩
theorem keep2y5 {w W W' : World} {m : Nat} {n b1 b2 y : Nat} {c1 c2 : Array Value} (h : Below w.heap.size w W ∧ n ≤ W.heap.size ∧ Bx W b1 c1 ∧ Bx W b2 c2 ∧ By5 W y) (hb : Below m W W') (hm : m = W.heap.size) : Below w.heap.size w W' ∧ n ≤ W'.heap.size ∧ Bx W' b1 c1 ∧ Bx W' b2 c2 ∧ By5 W' y := by
  subst hm
  obtain ⟨h0, hn, h1, h2, hy⟩ := h
  exact ⟨below_more h0 hb, Nat.le_trans hn hb.size, h1.below hb, h2.below hb, By5.of (hy.1.below hb)⟩
theorem keep2y6 {w W W' : World} {m : Nat} {n b1 b2 y : Nat} {c1 c2 : Array Value} (h : Below w.heap.size w W ∧ n ≤ W.heap.size ∧ Bx W b1 c1 ∧ Bx W b2 c2 ∧ By6 W y) (hb : Below m W W') (hm : m = W.heap.size) : Below w.heap.size w W' ∧ n ≤ W'.heap.size ∧ Bx W' b1 c1 ∧ Bx W' b2 c2 ∧ By6 W' y := by
  subst hm
  obtain ⟨h0, hn, h1, h2, hy⟩ := h
  exact ⟨below_more h0 hb, Nat.le_trans hn hb.size, h1.below hb, h2.below hb, By6.of (hy.1.below hb)⟩
theorem keep2y8 {w W W' : World} {m : Nat} {n b1 b2 y : Nat} {c1 c2 : Array Value} (h : Below w.heap.size w W ∧ n ≤ W.heap.size ∧ Bx W b1 c1 ∧ Bx W b2 c2 ∧ By8 W y) (hb : Below m W W') (hm : m = W.heap.size) : Below w.heap.size w W' ∧ n ≤ W'.heap.size ∧ Bx W' b1 c1 ∧ Bx W' b2 c2 ∧ By8 W' y := by
  subst hm
  obtain ⟨h0, hn, h1, h2, hy⟩ := h
  exact ⟨below_more h0 hb, Nat.le_trans hn hb.size, h1.below hb, h2.below hb, By8.of (hy.1.below hb)⟩
theorem keep2y10 {w W W' : World} {m : Nat} {n b1 b2 y : Nat} {c1 c2 : Array Value} (h : Below w.heap.size w W ∧ n ≤ W.heap.size ∧ Bx W b1 c1 ∧ Bx W b2 c2 ∧ By10 W y) (hb : Below m W W') (hm : m = W.heap.size) : Below w.heap.size w W' ∧ n ≤ W'.heap.size ∧ Bx W' b1 c1 ∧ Bx W' b2 c2 ∧ By10 W' y := by
  subst hm
  obtain ⟨h0, hn, h1, h2, hy⟩ := h
  exact ⟨below_more h0 hb, Nat.le_trans hn hb.size, h1.below hb, h2.below hb, By10.of (hy.1.below hb)⟩
theorem keep2y12 {w W W' : World} {m : Nat} {n b1 b2 y : Nat} {c1 c2 : Array Value} (h : Below w.heap.size w W ∧ n ≤ W.heap.size ∧ Bx W b1 c1 ∧ Bx W b2 c2 ∧ By12 W y) (hb : Below m W W') (hm : m = W.heap.size) : Below w.heap.size w W' ∧ n ≤ W'.heap.size ∧ Bx W' b1 c1 ∧ Bx W' b2 c2 ∧ By12 W' y := by
  subst hm
  obtain ⟨h0, hn, h1, h2, hy⟩ := h
  exact ⟨below_more h0 hb, Nat.le_trans hn hb.size, h1.below hb, h2.below hb, By12.of (hy.1.below hb)⟩
theorem keep3 {w W W' : World} {m : Nat} {n b1 b2 b3 : Nat} {c1 c2 c3 : Array Value} (h : Below w.heap.size w W ∧ n ≤ W.heap.size ∧ Bx W b1 c1 ∧ Bx W b2 c2 ∧ Bx W b3 c3) (hb : Below m W W') (hm : m = W.heap.size) : Below w.heap.size w W' ∧ n ≤ W'.heap.size ∧ Bx W' b1 c1 ∧ Bx W' b2 c2 ∧ Bx W' b3 c3 := by
  subst hm
  obtain ⟨h0, hn, h1, h2, h3⟩ := h
  exact ⟨below_more h0 hb, Nat.le_trans hn hb.size, h1.below hb, h2.below hb, h3.below hb⟩
theorem keep3y1 {w W W' : World} {m : Nat} {n b1 b2 b3 y : Nat} {c1 c2 c3 : Array Value} (h : Below w.heap.size w W ∧ n ≤ W.heap.size ∧ Bx W b1 c1 ∧ Bx W b2 c2 ∧ Bx W b3 c3 ∧ By1 W y) (hb : Below m W W') (hm : m = W.heap.size) : Below w.heap.size w W' ∧ n ≤ W'.heap.size ∧ Bx W' b1 c1 ∧ Bx W' b2 c2 ∧ Bx W' b3 c3 ∧ By1 W' y := by
  subst hm
  obtain ⟨h0, hn, h1, h2, h3, hy⟩ := h
  exact ⟨below_more h0 hb, Nat.le_trans hn hb.size, h1.below hb, h2.below hb, h3.below hb, By1.of (hy.1.below hb)⟩
theorem keep3y2 {w W W' : World} {m : Nat} {n b1 b2 b3 y : Nat} {c1 c2 c3 : Array Value} (h : Below w.heap.size w W ∧ n ≤ W.heap.size ∧ Bx W b1 c1 ∧ Bx W b2 c2 ∧ Bx W b3 c3 ∧ By2 W y) (hb : Below m W W') (hm : m = W.heap.size) : Below w.heap.size w W' ∧ n ≤ W'.heap.size ∧ Bx W' b1 c1 ∧ Bx W' b2 c2 ∧ Bx W' b3 c3 ∧ By2 W' y := by
  subst hm
  obtain ⟨h0, hn, h1, h2, h3, hy⟩ := h
  exact ⟨below_more h0 hb, Nat.le_trans hn hb.size, h1.below hb, h2.below hb, h3.below hb, By2.of (hy.1.below hb)⟩
theorem keep3y4 {w W W' : World} {m : Nat} {n b1 b2 b3 y : Nat} {c1 c2 c3 : Array Value} (h : Below w.heap.size w W ∧ n ≤ W.heap.size ∧ Bx W b1 c1 ∧ Bx W b2 c2 ∧ Bx W b3 c3 ∧ By4 W y) (hb : Below m W W') (hm : m = W.heap.size) : Below w.heap.size w W' ∧ n ≤ W'.heap.size ∧ Bx W' b1 c1 ∧ Bx W' b2 c2 ∧ Bx W' b3 c3 ∧ By4 W' y := by
  subst hm
  obtain ⟨h0, hn, h1, h2, h3, hy⟩ := h
  exact ⟨below_more h0 hb, Nat.le_trans hn hb.size, h1.below hb, h2.below hb, h3.below hb, By4.of (hy.1.below hb)⟩
theorem keep3y5 {w W W' : World} {m : Nat} {n b1 b2 b3 y : Nat} {c1 c2 c3 : Array Value} (h : Below w.heap.size w W ∧ n ≤ W.heap.size ∧ Bx W b1 c1 ∧ Bx W b2 c2 ∧ Bx W b3 c3 ∧ By5 W y) (hb : Below m W W') (hm : m = W.heap.size) : Below w.heap.size w W' ∧ n ≤ W'.heap.size ∧ Bx W' b1 c1 ∧ Bx W' b2 c2 ∧ Bx W' b3 c3 ∧ By5 W' y := by
  subst hm
  obtain ⟨h0, hn, h1, h2, h3, hy⟩ := h
  exact ⟨below_more h0 hb, Nat.le_trans hn hb.size, h1.below hb, h2.below hb, h3.below hb, By5.of (hy.1.below hb)⟩
theorem keep3y6 {w W W' : World} {m : Nat} {n b1 b2 b3 y : Nat} {c1 c2 c3 : Array Value} (h : Below w.heap.size w W ∧ n ≤ W.heap.size ∧ Bx W b1 c1 ∧ Bx W b2 c2 ∧ Bx W b3 c3 ∧ By6 W y) (hb : Below m W W') (hm : m = W.heap.size) : Below w.heap.size w W' ∧ n ≤ W'.heap.size ∧ Bx W' b1 c1 ∧ Bx W' b2 c2 ∧ Bx W' b3 c3 ∧ By6 W' y := by
  subst hm
  obtain ⟨h0, hn, h1, h2, h3, hy⟩ := h
  exact ⟨below_more h0 hb, Nat.le_trans hn hb.size, h1.below hb, h2.below hb, h3.below hb, By6.of (hy.1.below hb)⟩
theorem keep3y8 {w W W' : World} {m : Nat} {n b1 b2 b3 y : Nat} {c1 c2 c3 : Array Value} (h : Below w.heap.size w W ∧ n ≤ W.heap.size ∧ Bx W b1 c1 ∧ Bx W b2 c2 ∧ Bx W b3 c3 ∧ By8 W y) (hb : Below m W W') (hm : m = W.heap.size) : Below w.heap.size w W' ∧ n ≤ W'.heap.size ∧ Bx W' b1 c1 ∧ Bx W' b2 c2 ∧ Bx W' b3 c3 ∧ By8 W' y := by
  subst hm
  obtain ⟨h0, hn, h1, h2, h3, hy⟩ := h
  exact ⟨below_more h0 hb, Nat.le_trans hn hb.size, h1.below hb, h2.below hb, h3.below hb, By8.of (hy.1.below hb)⟩
theorem keep3y10 {w W W' : World} {m : Nat} {n b1 b2 b3 y : Nat} {c1 c2 c3 : Array Value} (h : Below w.heap.size w W ∧ n ≤ W.heap.size ∧ Bx W b1 c1 ∧ Bx W b2 c2 ∧ Bx W b3 c3 ∧ By10 W y) (hb : Below m W W') (hm : m = W.heap.size) : Below w.heap.size w W' ∧ n ≤ W'.heap.size ∧ Bx W' b1 c1 ∧ Bx W' b2 c2 ∧ Bx W' b3 c3 ∧ By10 W' y := by
  subst hm
  obtain ⟨h0, hn, h1, h2, h3, hy⟩ := h
  exact ⟨below_more h0 hb, Nat.le_trans hn hb.size, h1.below hb, h2.below hb, h3.below hb, By10.of (hy.1.below hb)⟩
theorem keep3y12 {w W W' : World} {m : Nat} {n b1 b2 b3 y : Nat} {c1 c2 c3 : Array Value} (h : Below w.heap.size w W ∧ n ≤ W.heap.size ∧ Bx W b1 c1 ∧ Bx W b2 c2 ∧ Bx W b3 c3 ∧ By12 W y) (hb : Below m W W') (hm : m = W.heap.size) : Below w.heap.size w W' ∧ n ≤ W'.heap.size ∧ Bx W' b1 c1 ∧ Bx W' b2 c2 ∧ Bx W' b3 c3 ∧ By12 W' y := by
  subst hm
  obtain ⟨h0, hn, h1, h2, h3, hy⟩ := h
  exact ⟨below_more h0 hb, Nat.le_trans hn hb.size, h1.below hb, h2.below hb, h3.below hb, By12.of (hy.1.below hb)⟩
theorem keep4 {w W W' : World} {m : Nat} {n b1 b2 b3 b4 : Nat} {c1 c2 c3 c4 : Array Value} (h : Below w.heap.size w W ∧ n ≤ W.heap.size ∧ Bx W b1 c1 ∧ Bx W b2 c2 ∧ Bx W b3 c3 ∧ Bx W b4 c4) (hb : Below m W W') (hm : m = W.heap.size) : Below w.heap.size w W' ∧ n ≤ W'.heap.size ∧ Bx W' b1 c1 ∧ Bx W' b2 c2 ∧ Bx W' b3 c3 ∧ Bx W' b4 c4 := by
  subst hm
  obtain ⟨h0, hn, h1, h2, h3, h4⟩ := h
  exact ⟨below_more h0 hb, Nat.le_trans hn hb.size, h1.below hb, h2.below hb, h3.below hb, h4.below hb⟩
theorem keep4y1 {w W W' : World} {m : Nat} {n b1 b2 b3 b4 y : Nat} {c1 c2 c3 c4 : Array Value} (h : Below w.heap.size w W ∧ n ≤ W.heap.size ∧ Bx W b1 c1 ∧ Bx W b2 c2 ∧ Bx W b3 c3 ∧ Bx W b4 c4 ∧ By1 W y) (hb : Below m W W') (hm : m = W.heap.size) : Below w.heap.size w W' ∧ n ≤ W'.heap.size ∧ Bx W' b1 c1 ∧ Bx W' b2 c2 ∧ Bx W' b3 c3 ∧ Bx W' b4 c4 ∧ By1 W' y := by
  subst hm
  obtain ⟨h0, hn, h1, h2, h3, h4, hy⟩ := h
  exact ⟨below_more h0 hb, Nat.le_trans hn hb.size, h1.below hb, h2.below hb, h3.below hb, h4.below hb, By1.of (hy.1.below hb)⟩
theorem keep4y2 {w W W' : World} {m : Nat} {n b1 b2 b3 b4 y : Nat} {c1 c2 c3 c4 : Array Value} (h : Below w.heap.size w W ∧ n ≤ W.heap.size ∧ Bx W b1 c1 ∧ Bx W b2 c2 ∧ Bx W b3 c3 ∧ Bx W b4 c4 ∧ By2 W y) (hb : Below m W W') (hm : m = W.heap.size) : Below w.heap.size w W' ∧ n ≤ W'.heap.size ∧ Bx W' b1 c1 ∧ Bx W' b2 c2 ∧ Bx W' b3 c3 ∧ Bx W' b4 c4 ∧ By2 W' y := by
  subst hm
  obtain ⟨h0, hn, h1, h2, h3, h4, hy⟩ := h
  exact ⟨below_more h0 hb, Nat.le_trans hn hb.size, h1.below hb, h2.below hb, h3.below hb, h4.below hb, By2.of (hy.1.below hb)⟩
theorem keep4y4 {w W W' : World} {m : Nat} {n b1 b2 b3 b4 y : Nat} {c1 c2 c3 c4 : Array Value} (h : Below w.heap.size w W ∧ n ≤ W.heap.size ∧ Bx W b1 c1 ∧ Bx W b2 c2 ∧ Bx W b3 c3 ∧ Bx W b4 c4 ∧ By4 W y) (hb : Below m W W') (hm : m = W.heap.size) : Below w.heap.size w W' ∧ n ≤ W'.heap.size ∧ Bx W' b1 c1 ∧ Bx W' b2 c2 ∧ Bx W' b3 c3 ∧ Bx W' b4 c4 ∧ By4 W' y := by
  subst hm
  obtain ⟨h0, hn, h1, h2, h3, h4, hy⟩ := h
  exact ⟨below_more h0 hb, Nat.le_trans hn hb.size, h1.below hb, h2.below hb, h3.below hb, h4.below hb, By4.of (hy.1.below hb)⟩
theorem keep4y5 {w W W' : World} {m : Nat} {n b1 b2 b3 b4 y : Nat} {c1 c2 c3 c4 : Array Value} (h : Below w.heap.size w W ∧ n ≤ W.heap.size ∧ Bx W b1 c1 ∧ Bx W b2 c2 ∧ Bx W b3 c3 ∧ Bx W b4 c4 ∧ By5 W y) (hb : Below m W W') (hm : m = W.heap.size) : Below w.heap.size w W' ∧ n ≤ W'.heap.size ∧ Bx W' b1 c1 ∧ Bx W' b2 c2 ∧ Bx W' b3 c3 ∧ Bx W' b4 c4 ∧ By5 W' y := by
  subst hm
  obtain ⟨h0, hn, h1, h2, h3, h4, hy⟩ := h
  exact ⟨below_more h0 hb, Nat.le_trans hn hb.size, h1.below hb, h2.below hb, h3.below hb, h4.below hb, By5.of (hy.1.below hb)⟩
theorem keep4y6 {w W W' : World} {m : Nat} {n b1 b2 b3 b4 y : Nat} {c1 c2 c3 c4 : Array Value} (h : Below w.heap.size w W ∧ n ≤ W.heap.size ∧ Bx W b1 c1 ∧ Bx W b2 c2 ∧ Bx W b3 c3 ∧ Bx W b4 c4 ∧ By6 W y) (hb : Below m W W') (hm : m = W.heap.size) : Below w.heap.size w W' ∧ n ≤ W'.heap.size ∧ Bx W' b1 c1 ∧ Bx W' b2 c2 ∧ Bx W' b3 c3 ∧ Bx W' b4 c4 ∧ By6 W' y := by
  subst hm
  obtain ⟨h0, hn, h1, h2, h3, h4, hy⟩ := h
  exact ⟨below_more h0 hb, Nat.le_trans hn hb.size, h1.below hb, h2.below hb, h3.below hb, h4.below hb, By6.of (hy.1.below hb)⟩
theorem keep4y8 {w W W' : World} {m : Nat} {n b1 b2 b3 b4 y : Nat} {c1 c2 c3 c4 : Array Value} (h : Below w.heap.size w W ∧ n ≤ W.heap.size ∧ Bx W b1 c1 ∧ Bx W b2 c2 ∧ Bx W b3 c3 ∧ Bx W b4 c4 ∧ By8 W y) (hb : Below m W W') (hm : m = W.heap.size) : Below w.heap.size w W' ∧ n ≤ W'.heap.size ∧ Bx W' b1 c1 ∧ Bx W' b2 c2 ∧ Bx W' b3 c3 ∧ Bx W' b4 c4 ∧ By8 W' y := by
  subst hm
  obtain ⟨h0, hn, h1, h2, h3, h4, hy⟩ := h
  exact ⟨below_more h0 hb, Nat.le_trans hn hb.size, h1.below hb, h2.below hb, h3.below hb, h4.below hb, By8.of (hy.1.below hb)⟩
theorem keep4y10 {w W W' : World} {m : Nat} {n b1 b2 b3 b4 y : Nat} {c1 c2 c3 c4 : Array Value} (h : Below w.heap.size w W ∧ n ≤ W.heap.size ∧ Bx W b1 c1 ∧ Bx W b2 c2 ∧ Bx W b3 c3 ∧ Bx W b4 c4 ∧ By10 W y) (hb : Below m W W') (hm : m = W.heap.size) : Below w.heap.size w W' ∧ n ≤ W'.heap.size ∧ Bx W' b1 c1 ∧ Bx W' b2 c2 ∧ Bx W' b3 c3 ∧ Bx W' b4 c4 ∧ By10 W' y := by
  subst hm
  obtain ⟨h0, hn, h1, h2, h3, h4, hy⟩ := h
  exact ⟨below_more h0 hb, Nat.le_trans hn hb.size, h1.below hb, h2.below hb, h3.below hb, h4.below hb, By10.of (hy.1.below hb)⟩
theorem keep4y12 {w W W' : World} {m : Nat} {n b1 b2 b3 b4 y : Nat} {c1 c2 c3 c4 : Array Value} (h : Below w.heap.size w W ∧ n ≤ W.heap.size ∧ Bx W b1 c1 ∧ Bx W b2 c2 ∧ Bx W b3 c3 ∧ Bx W b4 c4 ∧ By12 W y) (hb : Below m W W') (hm : m = W.heap.size) : Below w.heap.size w W' ∧ n ≤ W'.heap.size ∧ Bx W' b1 c1 ∧ Bx W' b2 c2 ∧ Bx W' b3 c3 ∧ Bx W' b4 c4 ∧ By12 W' y := by
  subst hm
  obtain ⟨h0, hn, h1, h2, h3, h4, hy⟩ := h
  exact ⟨below_more h0 hb, Nat.le_trans hn hb.size, h1.below hb, h2.below hb, h3.below hb, h4.below hb, By12.of (hy.1.below hb)⟩
theorem keep5 {w W W' : World} {m : Nat} {n b1 b2 b3 b4 b5 : Nat} {c1 c2 c3 c4 c5 : Array Value} (h : Below w.heap.size w W ∧ n ≤ W.heap.size ∧ Bx W b1 c1 ∧ Bx W b2 c2 ∧ Bx W b3 c3 ∧ Bx W b4 c4 ∧ Bx W b5 c5) (hb : Below m W W') (hm : m = W.heap.size) : Below w.heap.size w W' ∧ n ≤ W'.heap.size ∧ Bx W' b1 c1 ∧ Bx W' b2 c2 ∧ Bx W' b3 c3 ∧ Bx W' b4 c4 ∧ Bx W' b5 c5 := by
  subst hm
  obtain ⟨h0, hn, h1, h2, h3, h4, h5⟩ := h
  exact ⟨below_more h0 hb, Nat.le_trans hn hb.size, h1.below hb, h2.below hb, h3.below hb, h4.below hb, h5.below hb⟩
theorem keep5y1 {w W W' : World} {m : Nat} {n b1 b2 b3 b4 b5 y : Nat} {c1 c2 c3 c4 c5 : Array Value} (h : Below w.heap.size w W ∧ n ≤ W.heap.size ∧ Bx W b1 c1 ∧ Bx W b2 c2 ∧ Bx W b3 c3 ∧ Bx W b4 c4 ∧ Bx W b5 c5 ∧ By1 W y) (hb : Below m W W') (hm : m = W.heap.size) : Below w.heap.size w W' ∧ n ≤ W'.heap.size ∧ Bx W' b1 c1 ∧ Bx W' b2 c2 ∧ Bx W' b3 c3 ∧ Bx W' b4 c4 ∧ Bx W' b5 c5 ∧ By1 W' y := by
  subst hm
  obtain ⟨h0, hn, h1, h2, h3, h4, h5, hy⟩ := h
  exact ⟨below_more h0 hb, Nat.le_trans hn hb.size, h1.below hb, h2.below hb, h3.below hb, h4.below hb, h5.below hb, By1.of (hy.1.below hb)⟩
theorem keep5y2 {w W W' : World} {m : Nat} {n b1 b2 b3 b4 b5 y : Nat} {c1 c2 c3 c4 c5 : Array Value} (h : Below w.heap.size w W ∧ n ≤ W.heap.size ∧ Bx W b1 c1 ∧ Bx W b2 c2 ∧ Bx W b3 c3 ∧ Bx W b4 c4 ∧ Bx W b5 c5 ∧ By2 W y) (hb : Below m W W') (hm : m = W.heap.size) : Below w.heap.size w W' ∧ n ≤ W'.heap.size ∧ Bx W' b1 c1 ∧ Bx W' b2 c2 ∧ Bx W' b3 c3 ∧ Bx W' b4 c4 ∧ Bx W' b5 c5 ∧ By2 W' y := by
  subst hm
  obtain ⟨h0, hn, h1, h2, h3, h4, h5, hy⟩ := h
  exact ⟨below_more h0 hb, Nat.le_trans hn hb.size, h1.below hb, h2.below hb, h3.below hb, h4.below hb, h5.below hb, By2.of (hy.1.below hb)⟩
theorem keep5y4 {w W W' : World} {m : Nat} {n b1 b2 b3 b4 b5 y : Nat} {c1 c2 c3 c4 c5 : Array Value} (h : Below w.heap.size w W ∧ n ≤ W.heap.size ∧ Bx W b1 c1 ∧ Bx W b2 c2 ∧ Bx W b3 c3 ∧ Bx W b4 c4 ∧ Bx W b5 c5 ∧ By4 W y) (hb : Below m W W') (hm : m = W.heap.size) : Below w.heap.size w W' ∧ n ≤ W'.heap.size ∧ Bx W' b1 c1 ∧ Bx W' b2 c2 ∧ Bx W' b3 c3 ∧ Bx W' b4 c4 ∧ Bx W' b5 c5 ∧ By4 W' y := by
  subst hm
  obtain ⟨h0, hn, h1, h2, h3, h4, h5, hy⟩ := h
  exact ⟨below_more h0 hb, Nat.le_trans hn hb.size, h1.below hb, h2.below hb, h3.below hb, h4.below hb, h5.below hb, By4.of (hy.1.below hb)⟩
theorem keep5y5 {w W W' : World} {m : Nat} {n b1 b2 b3 b4 b5 y : Nat} {c1 c2 c3 c4 c5 : Array Value} (h : Below w.heap.size w W ∧ n ≤ W.heap.size ∧ Bx W b1 c1 ∧ Bx W b2 c2 ∧ Bx W b3 c3 ∧ Bx W b4 c4 ∧ Bx W b5 c5 ∧ By5 W y) (hb : Below m W W') (hm : m = W.heap.size) : Below w.heap.size w W' ∧ n ≤ W'.heap.size ∧ Bx W' b1 c1 ∧ Bx W' b2 c2 ∧ Bx W' b3 c3 ∧ Bx W' b4 c4 ∧ Bx W' b5 c5 ∧ By5 W' y := by
  subst hm
  obtain ⟨h0, hn, h1, h2, h3, h4, h5, hy⟩ := h
  exact ⟨below_more h0 hb, Nat.le_trans hn hb.size, h1.below hb, h2.below hb, h3.below hb, h4.below hb, h5.below hb, By5.of (hy.1.below hb)⟩
theorem keep5y6 {w W W' : World} {m : Nat} {n b1 b2 b3 b4 b5 y : Nat} {c1 c2 c3 c4 c5 : Array Value} (h : Below w.heap.size w W ∧ n ≤ W.heap.size ∧ Bx W b1 c1 ∧ Bx W b2 c2 ∧ Bx W b3 c3 ∧ Bx W b4 c4 ∧ Bx W b5 c5 ∧ By6 W y) (hb : Below m W W') (hm : m = W.heap.size) : Below w.heap.size w W' ∧ n ≤ W'.heap.size ∧ Bx W' b1 c1 ∧ Bx W' b2 c2 ∧ Bx W' b3 c3 ∧ Bx W' b4 c4 ∧ Bx W' b5 c5 ∧ By6 W' y := by
  subst hm
  obtain ⟨h0, hn, h1, h2, h3, h4, h5, hy⟩ := h
  exact ⟨below_more h0 hb, Nat.le_trans hn hb.size, h1.below hb, h2.below hb, h3.below hb, h4.below hb, h5.below hb, By6.of (hy.1.below hb)⟩
theorem keep5y8 {w W W' : World} {m : Nat} {n b1 b2 b3 b4 b5 y : Nat} {c1 c2 c3 c4 c5 : Array Value} (h : Below w.heap.size w W ∧ n ≤ W.heap.size ∧ Bx W b1 c1 ∧ Bx W b2 c2 ∧ Bx W b3 c3 ∧ Bx W b4 c4 ∧ Bx W b5 c5 ∧ By8 W y) (hb : Below m W W') (hm : m = W.heap.size) : Below w.heap.size w W' ∧ n ≤ W'.heap.size ∧ Bx W' b1 c1 ∧ Bx W' b2 c2 ∧ Bx W' b3 c3 ∧ Bx W' b4 c4 ∧ Bx W' b5 c5 ∧ By8 W' y := by
  subst hm
  obtain ⟨h0, hn, h1, h2, h3, h4, h5, hy⟩ := h
  exact ⟨below_more h0 hb, Nat.le_trans hn hb.size, h1.below hb, h2.below hb, h3.below hb, h4.below hb, h5.below hb, By8.of (hy.1.below hb)⟩
theorem keep5y10 {w W W' : World} {m : Nat} {n b1 b2 b3 b4 b5 y : Nat} {c1 c2 c3 c4 c5 : Array Value} (h : Below w.heap.size w W ∧ n ≤ W.heap.size ∧ Bx W b1 c1 ∧ Bx W b2 c2 ∧ Bx W b3 c3 ∧ Bx W b4 c4 ∧ Bx W b5 c5 ∧ By10 W y) (hb : Below m W W') (hm : m = W.heap.size) : Below w.heap.size w W' ∧ n ≤ W'.heap.size ∧ Bx W' b1 c1 ∧ Bx W' b2 c2 ∧ Bx W' b3 c3 ∧ Bx W' b4 c4 ∧ Bx W' b5 c5 ∧ By10 W' y := by
  subst hm
  obtain ⟨h0, hn, h1, h2, h3, h4, h5, hy⟩ := h
  exact ⟨below_more h0 hb, Nat.le_trans hn hb.size, h1.below hb, h2.below hb, h3.below hb, h4.below hb, h5.below hb, By10.of (hy.1.below hb)⟩
theorem keep5y12 {w W W' : World} {m : Nat} {n b1 b2 b3 b4 b5 y : Nat} {c1 c2 c3 c4 c5 : Array Value} (h : Below w.heap.size w W ∧ n ≤ W.heap.size ∧ Bx W b1 c1 ∧ Bx W b2 c2 ∧ Bx W b3 c3 ∧ Bx W b4 c4 ∧ Bx W b5 c5 ∧ By12 W y) (hb : Below m W W') (hm : m = W.heap.size) : Below w.heap.size w W' ∧ n ≤ W'.heap.size ∧ Bx W' b1 c1 ∧ Bx W' b2 c2 ∧ Bx W' b3 c3 ∧ Bx W' b4 c4 ∧ Bx W' b5 c5 ∧ By12 W' y := by
  subst hm
  obtain ⟨h0, hn, h1, h2, h3, h4, h5, hy⟩ := h
  exact ⟨below_more h0 hb, Nat.le_trans hn hb.size, h1.below hb, h2.below hb, h3.below hb, h4.below hb, h5.below hb, By12.of (hy.1.below hb)⟩
theorem keep6 {w W W' : World} {m : Nat} {n b1 b2 b3 b4 b5 b6 : Nat} {c1 c2 c3 c4 c5 c6 : Array Value} (h : Below w.heap.size w W ∧ n ≤ W.heap.size ∧ Bx W b1 c1 ∧ Bx W b2 c2 ∧ Bx W b3 c3 ∧ Bx W b4 c4 ∧ Bx W b5 c5 ∧ Bx W b6 c6) (hb : Below m W W') (hm : m = W.heap.size) : Below w.heap.size w W' ∧ n ≤ W'.heap.size ∧ Bx W' b1 c1 ∧ Bx W' b2 c2 ∧ Bx W' b3 c3 ∧ Bx W' b4 c4 ∧ Bx W' b5 c5 ∧ Bx W' b6 c6 := by
  subst hm
  obtain ⟨h0, hn, h1, h2, h3, h4, h5, h6⟩ := h
  exact ⟨below_more h0 hb, Nat.le_trans hn hb.size, h1.below hb, h2.below hb, h3.below hb, h4.below hb, h5.below hb, h6.below hb⟩
theorem keep6y1 {w W W' : World} {m : Nat} {n b1 b2 b3 b4 b5 b6 y : Nat} {c1 c2 c3 c4 c5 c6 : Array Value} (h : Below w.heap.size w W ∧ n ≤ W.heap.size ∧ Bx W b1 c1 ∧ Bx W b2 c2 ∧ Bx W b3 c3 ∧ Bx W b4 c4 ∧ Bx W b5 c5 ∧ Bx W b6 c6 ∧ By1 W y) (hb : Below m W W') (hm : m = W.heap.size) : Below w.heap.size w W' ∧ n ≤ W'.heap.size ∧ Bx W' b1 c1 ∧ Bx W' b2 c2 ∧ Bx W' b3 c3 ∧ Bx W' b4 c4 ∧ Bx W' b5 c5 ∧ Bx W' b6 c6 ∧ By1 W' y := by
  subst hm
  obtain ⟨h0, hn, h1, h2, h3, h4, h5, h6, hy⟩ := h
  exact ⟨below_more h0 hb, Nat.le_trans hn hb.size, h1.below hb, h2.below hb, h3.below hb, h4.below hb, h5.below hb, h6.below hb, By1.of (hy.1.below hb)⟩
theorem keep6y2 {w W W' : World} {m : Nat} {n b1 b2 b3 b4 b5 b6 y : Nat} {c1 c2 c3 c4 c5 c6 : Array Value} (h : Below w.heap.size w W ∧ n ≤ W.heap.size ∧ Bx W b1 c1 ∧ Bx W b2 c2 ∧ Bx W b3 c3 ∧ Bx W b4 c4 ∧ Bx W b5 c5 ∧ Bx W b6 c6 ∧ By2 W y) (hb : Below m W W') (hm : m = W.heap.size) : Below w.heap.size w W' ∧ n ≤ W'.heap.size ∧ Bx W' b1 c1 ∧ Bx W' b2 c2 ∧ Bx W' b3 c3 ∧ Bx W' b4 c4 ∧ Bx W' b5 c5 ∧ Bx W' b6 c6 ∧ By2 W' y := by
  subst hm
  obtain ⟨h0, hn, h1, h2, h3, h4, h5, h6, hy⟩ := h
  exact ⟨below_more h0 hb, Nat.le_trans hn hb.size, h1.below hb, h2.below hb, h3.below hb, h4.below hb, h5.below hb, h6.below hb, By2.of (hy.1.below hb)⟩
theorem keep6y4 {w W W' : World} {m : Nat} {n b1 b2 b3 b4 b5 b6 y : Nat} {c1 c2 c3 c4 c5 c6 : Array Value} (h : Below w.heap.size w W ∧ n ≤ W.heap.size ∧ Bx W b1 c1 ∧ Bx W b2 c2 ∧ Bx W b3 c3 ∧ Bx W b4 c4 ∧ Bx W b5 c5 ∧ Bx W b6 c6 ∧ By4 W y) (hb : Below m W W') (hm : m = W.heap.size) : Below w.heap.size w W' ∧ n ≤ W'.heap.size ∧ Bx W' b1 c1 ∧ Bx W' b2 c2 ∧ Bx W' b3 c3 ∧ Bx W' b4 c4 ∧ Bx W' b5 c5 ∧ Bx W' b6 c6 ∧ By4 W' y := by
  subst hm
  obtain ⟨h0, hn, h1, h2, h3, h4, h5, h6, hy⟩ := h
  exact ⟨below_more h0 hb, Nat.le_trans hn hb.size, h1.below hb, h2.below hb, h3.below hb, h4.below hb, h5.below hb, h6.below hb, By4.of (hy.1.below hb)⟩
theorem keep6y5 {w W W' : World} {m : Nat} {n b1 b2 b3 b4 b5 b6 y : Nat} {c1 c2 c3 c4 c5 c6 : Array Value} (h : Below w.heap.size w W ∧ n ≤ W.heap.size ∧ Bx W b1 c1 ∧ Bx W b2 c2 ∧ Bx W b3 c3 ∧ Bx W b4 c4 ∧ Bx W b5 c5 ∧ Bx W b6 c6 ∧ By5 W y) (hb : Below m W W') (hm : m = W.heap.size) : Below w.heap.size w W' ∧ n ≤ W'.heap.size ∧ Bx W' b1 c1 ∧ Bx W' b2 c2 ∧ Bx W' b3 c3 ∧ Bx W' b4 c4 ∧ Bx W' b5 c5 ∧ Bx W' b6 c6 ∧ By5 W' y := by
  subst hm
  obtain ⟨h0, hn, h1, h2, h3, h4, h5, h6, hy⟩ := h
  exact ⟨below_more h0 hb, Nat.le_trans hn hb.size, h1.below hb, h2.below hb, h3.below hb, h4.below hb, h5.below hb, h6.below hb, By5.of (hy.1.below hb)⟩
theorem keep6y6 {w W W' : World} {m : Nat} {n b1 b2 b3 b4 b5 b6 y : Nat} {c1 c2 c3 c4 c5 c6 : Array Value} (h : Below w.heap.size w W ∧ n ≤ W.heap.size ∧ Bx W b1 c1 ∧ Bx W b2 c2 ∧ Bx W b3 c3 ∧ Bx W b4 c4 ∧ Bx W b5 c5 ∧ Bx W b6 c6 ∧ By6 W y) (hb : Below m W W') (hm : m = W.heap.size) : Below w.heap.size w W' ∧ n ≤ W'.heap.size ∧ Bx W' b1 c1 ∧ Bx W' b2 c2 ∧ Bx W' b3 c3 ∧ Bx W' b4 c4 ∧ Bx W' b5 c5 ∧ Bx W' b6 c6 ∧ By6 W' y := by
  subst hm
  obtain ⟨h0, hn, h1, h2, h3, h4, h5, h6, hy⟩ := h
  exact ⟨below_more h0 hb, Nat.le_trans hn hb.size, h1.below hb, h2.below hb, h3.below hb, h4.below hb, h5.below hb, h6.below hb, By6.of (hy.1.below hb)⟩
theorem keep6y8 {w W W' : World} {m : Nat} {n b1 b2 b3 b4 b5 b6 y : Nat} {c1 c2 c3 c4 c5 c6 : Array Value} (h : Below w.heap.size w W ∧ n ≤ W.heap.size ∧ Bx W b1 c1 ∧ Bx W b2 c2 ∧ Bx W b3 c3 ∧ Bx W b4 c4 ∧ Bx W b5 c5 ∧ Bx W b6 c6 ∧ By8 W y) (hb : Below m W W') (hm : m = W.heap.size) : Below w.heap.size w W' ∧ n ≤ W'.heap.size ∧ Bx W' b1 c1 ∧ Bx W' b2 c2 ∧ Bx W' b3 c3 ∧ Bx W' b4 c4 ∧ Bx W' b5 c5 ∧ Bx W' b6 c6 ∧ By8 W' y := by
  subst hm
  obtain ⟨h0, hn, h1, h2, h3, h4, h5, h6, hy⟩ := h
  exact ⟨below_more h0 hb, Nat.le_trans hn hb.size, h1.below hb, h2.below hb, h3.below hb, h4.below hb, h5.below hb, h6.below hb, By8.of (hy.1.below hb)⟩
theorem keep6y10 {w W W' : World} {m : Nat} {n b1 b2 b3 b4 b5 b6 y : Nat} {c1 c2 c3 c4 c5 c6 : Array Value} (h : Below w.heap.size w W ∧ n ≤ W.heap.size ∧ Bx W b1 c1 ∧ Bx W b2 c2 ∧ Bx W b3 c3 ∧ Bx W b4 c4 ∧ Bx W b5 c5 ∧ Bx W b6 c6 ∧ By10 W y) (hb : Below m W W') (hm : m = W.heap.size) : Below w.heap.size w W' ∧ n ≤ W'.heap.size ∧ Bx W' b1 c1 ∧ Bx W' b2 c2 ∧ Bx W' b3 c3 ∧ Bx W' b4 c4 ∧ Bx W' b5 c5 ∧ Bx W' b6 c6 ∧ By10 W' y := by
  subst hm
  obtain ⟨h0, hn, h1, h2, h3, h4, h5, h6, hy⟩ := h
  exact ⟨below_more h0 hb, Nat.le_trans hn hb.size, h1.below hb, h2.below hb, h3.below hb, h4.below hb, h5.below hb, h6.below hb, By10.of (hy.1.below hb)⟩
theorem keep6y12 {w W W' : World} {m : Nat} {n b1 b2 b3 b4 b5 b6 y : Nat} {c1 c2 c3 c4 c5 c6 : Array Value} (h : Below w.heap.size w W ∧ n ≤ W.heap.size ∧ Bx W b1 c1 ∧ Bx W b2 c2 ∧ Bx W b3 c3 ∧ Bx W b4 c4 ∧ Bx W b5 c5 ∧ Bx W b6 c6 ∧ By12 W y) (hb : Below m W W') (hm : m = W.heap.size) : Below w.heap.size w W' ∧ n ≤ W'.heap.size ∧ Bx W' b1 c1 ∧ Bx W' b2 c2 ∧ Bx W' b3 c3 ∧ Bx W' b4 c4 ∧ Bx W' b5 c5 ∧ Bx W' b6 c6 ∧ By12 W' y := by
  subst hm
  obtain ⟨h0, hn, h1, h2, h3, h4, h5, h6, hy⟩ := h
  exact ⟨below_more h0 hb, Nat.le_trans hn hb.size, h1.below hb, h2.below hb, h3.below hb, h4.below hb, h5.below hb, h6.below hb, By12.of (hy.1.below hb)⟩
theorem keep7 {w W W' : World} {m : Nat} {n b1 b2 b3 b4 b5 b6 b7 : Nat} {c1 c2 c3 c4 c5 c6 c7 : Array Value} (h : Below w.heap.size w W ∧ n ≤ W.heap.size ∧ Bx W b1 c1 ∧ Bx W b2 c2 ∧ Bx W b3 c3 ∧ Bx W b4 c4 ∧ Bx W b5 c5 ∧ Bx W b6 c6 ∧ Bx W b7 c7) (hb : Below m W W') (hm : m = W.heap.size) : Below w.heap.size w W' ∧ n ≤ W'.heap.size ∧ Bx W' b1 c1 ∧ Bx W' b2 c2 ∧ Bx W' b3 c3 ∧ Bx W' b4 c4 ∧ Bx W' b5 c5 ∧ Bx W' b6 c6 ∧ Bx W' b7 c7 := by
  subst hm
  obtain ⟨h0, hn, h1, h2, h3, h4, h5, h6, h7⟩ := h
  exact ⟨below_more h0 hb, Nat.le_trans hn hb.size, h1.below hb, h2.below hb, h3.below hb, h4.below hb, h5.below hb, h6.below hb, h7.below hb⟩
theorem keep7y1 {w W W' : World} {m : Nat} {n b1 b2 b3 b4 b5 b6 b7 y : Nat} {c1 c2 c3 c4 c5 c6 c7 : Array Value} (h : Below w.heap.size w W ∧ n ≤ W.heap.size ∧ Bx W b1 c1 ∧ Bx W b2 c2 ∧ Bx W b3 c3 ∧ Bx W b4 c4 ∧ Bx W b5 c5 ∧ Bx W b6 c6 ∧ Bx W b7 c7 ∧ By1 W y) (hb : Below m W W') (hm : m = W.heap.size) : Below w.heap.size w W' ∧ n ≤ W'.heap.size ∧ Bx W' b1 c1 ∧ Bx W' b2 c2 ∧ Bx W' b3 c3 ∧ Bx W' b4 c4 ∧ Bx W' b5 c5 ∧ Bx W' b6 c6 ∧ Bx W' b7 c7 ∧ By1 W' y := by
  subst hm
  obtain ⟨h0, hn, h1, h2, h3, h4, h5, h6, h7, hy⟩ := h
  exact ⟨below_more h0 hb, Nat.le_trans hn hb.size, h1.below hb, h2.below hb, h3.below hb, h4.below hb, h5.below hb, h6.below hb, h7.below hb, By1.of (hy.1.below hb)⟩
theorem keep7y2 {w W W' : World} {m : Nat} {n b1 b2 b3 b4 b5 b6 b7 y : Nat} {c1 c2 c3 c4 c5 c6 c7 : Array Value} (h : Below w.heap.size w W ∧ n ≤ W.heap.size ∧ Bx W b1 c1 ∧ Bx W b2 c2 ∧ Bx W b3 c3 ∧ Bx W b4 c4 ∧ Bx W b5 c5 ∧ Bx W b6 c6 ∧ Bx W b7 c7 ∧ By2 W y) (hb : Below m W W') (hm : m = W.heap.size) : Below w.heap.size w W' ∧ n ≤ W'.heap.size ∧ Bx W' b1 c1 ∧ Bx W' b2 c2 ∧ Bx W' b3 c3 ∧ Bx W' b4 c4 ∧ Bx W' b5 c5 ∧ Bx W' b6 c6 ∧ Bx W' b7 c7 ∧ By2 W' y := by
  subst hm
  obtain ⟨h0, hn, h1, h2, h3, h4, h5, h6, h7, hy⟩ := h
  exact ⟨below_more h0 hb, Nat.le_trans hn hb.size, h1.below hb, h2.below hb, h3.below hb, h4.below hb, h5.below hb, h6.below hb, h7.below hb, By2.of (hy.1.below hb)⟩
theorem keep7y4 {w W W' : World} {m : Nat} {n b1 b2 b3 b4 b5 b6 b7 y : Nat} {c1 c2 c3 c4 c5 c6 c7 : Array Value} (h : Below w.heap.size w W ∧ n ≤ W.heap.size ∧ Bx W b1 c1 ∧ Bx W b2 c2 ∧ Bx W b3 c3 ∧ Bx W b4 c4 ∧ Bx W b5 c5 ∧ Bx W b6 c6 ∧ Bx W b7 c7 ∧ By4 W y) (hb : Below m W W') (hm : m = W.heap.size) : Below w.heap.size w W' ∧ n ≤ W'.heap.size ∧ Bx W' b1 c1 ∧ Bx W' b2 c2 ∧ Bx W' b3 c3 ∧ Bx W' b4 c4 ∧ Bx W' b5 c5 ∧ Bx W' b6 c6 ∧ Bx W' b7 c7 ∧ By4 W' y := by
  subst hm
  obtain ⟨h0, hn, h1, h2, h3, h4, h5, h6, h7, hy⟩ := h
  exact ⟨below_more h0 hb, Nat.le_trans hn hb.size, h1.below hb, h2.below hb, h3.below hb, h4.below hb, h5.below hb, h6.below hb, h7.below hb, By4.of (hy.1.below hb)⟩
theorem keep7y5 {w W W' : World} {m : Nat} {n b1 b2 b3 b4 b5 b6 b7 y : Nat} {c1 c2 c3 c4 c5 c6 c7 : Array Value} (h : Below w.heap.size w W ∧ n ≤ W.heap.size ∧ Bx W b1 c1 ∧ Bx W b2 c2 ∧ Bx W b3 c3 ∧ Bx W b4 c4 ∧ Bx W b5 c5 ∧ Bx W b6 c6 ∧ Bx W b7 c7 ∧ By5 W y) (hb : Below m W W') (hm : m = W.heap.size) : Below w.heap.size w W' ∧ n ≤ W'.heap.size ∧ Bx W' b1 c1 ∧ Bx W' b2 c2 ∧ Bx W' b3 c3 ∧ Bx W' b4 c4 ∧ Bx W' b5 c5 ∧ Bx W' b6 c6 ∧ Bx W' b7 c7 ∧ By5 W' y := by
  subst hm
  obtain ⟨h0, hn, h1, h2, h3, h4, h5, h6, h7, hy⟩ := h
  exact ⟨below_more h0 hb, Nat.le_trans hn hb.size, h1.below hb, h2.below hb, h3.below hb, h4.below hb, h5.below hb, h6.below hb, h7.below hb, By5.of (hy.1.below hb)⟩
theorem keep7y6 {w W W' : World} {m : Nat} {n b1 b2 b3 b4 b5 b6 b7 y : Nat} {c1 c2 c3 c4 c5 c6 c7 : Array Value} (h : Below w.heap.size w W ∧ n ≤ W.heap.size ∧ Bx W b1 c1 ∧ Bx W b2 c2 ∧ Bx W b3 c3 ∧ Bx W b4 c4 ∧ Bx W b5 c5 ∧ Bx W b6 c6 ∧ Bx W b7 c7 ∧ By6 W y) (hb : Below m W W') (hm : m = W.heap.size) : Below w.heap.size w W' ∧ n ≤ W'.heap.size ∧ Bx W' b1 c1 ∧ Bx W' b2 c2 ∧ Bx W' b3 c3 ∧ Bx W' b4 c4 ∧ Bx W' b5 c5 ∧ Bx W' b6 c6 ∧ Bx W' b7 c7 ∧ By6 W' y := by
  subst hm
  obtain ⟨h0, hn, h1, h2, h3, h4, h5, h6, h7, hy⟩ := h
  exact ⟨below_more h0 hb, Nat.le_trans hn hb.size, h1.below hb, h2.below hb, h3.below hb, h4.below hb, h5.below hb, h6.below hb, h7.below hb, By6.of (hy.1.below hb)⟩
theorem keep7y8 {w W W' : World} {m : Nat} {n b1 b2 b3 b4 b5 b6 b7 y : Nat} {c1 c2 c3 c4 c5 c6 c7 : Array Value} (h : Below w.heap.size w W ∧ n ≤ W.heap.size ∧ Bx W b1 c1 ∧ Bx W b2 c2 ∧ Bx W b3 c3 ∧ Bx W b4 c4 ∧ Bx W b5 c5 ∧ Bx W b6 c6 ∧ Bx W b7 c7 ∧ By8 W y) (hb : Below m W W') (hm : m = W.heap.size) : Below w.heap.size w W' ∧ n ≤ W'.heap.size ∧ Bx W' b1 c1 ∧ Bx W' b2 c2 ∧ Bx W' b3 c3 ∧ Bx W' b4 c4 ∧ Bx W' b5 c5 ∧ Bx W' b6 c6 ∧ Bx W' b7 c7 ∧ By8 W' y := by
  subst hm
  obtain ⟨h0, hn, h1, h2, h3, h4, h5, h6, h7, hy⟩ := h
  exact ⟨below_more h0 hb, Nat.le_trans hn hb.size, h1.below hb, h2.below hb, h3.below hb, h4.below hb, h5.below hb, h6.below hb, h7.below hb, By8.of (hy.1.below hb)⟩
theorem keep7y10 {w W W' : World} {m : Nat} {n b1 b2 b3 b4 b5 b6 b7 y : Nat} {c1 c2 c3 c4 c5 c6 c7 : Array Value} (h : Below w.heap.size w W ∧ n ≤ W.heap.size ∧ Bx W b1 c1 ∧ Bx W b2 c2 ∧ Bx W b3 c3 ∧ Bx W b4 c4 ∧ Bx W b5 c5 ∧ Bx W b6 c6 ∧ Bx W b7 c7 ∧ By10 W y) (hb : Below m W W') (hm : m = W.heap.size) : Below w.heap.size w W' ∧ n ≤ W'.heap.size ∧ Bx W' b1 c1 ∧ Bx W' b2 c2 ∧ Bx W' b3 c3 ∧ Bx W' b4 c4 ∧ Bx W' b5 c5 ∧ Bx W' b6 c6 ∧ Bx W' b7 c7 ∧ By10 W' y := by
  subst hm
  obtain ⟨h0, hn, h1, h2, h3, h4, h5, h6, h7, hy⟩ := h
  exact ⟨below_more h0 hb, Nat.le_trans hn hb.size, h1.below hb, h2.below hb, h3.below hb, h4.below hb, h5.below hb, h6.below hb, h7.below hb, By10.of (hy.1.below hb)⟩
theorem keep7y12 {w W W' : World} {m : Nat} {n b1 b2 b3 b4 b5 b6 b7 y : Nat} {c1 c2 c3 c4 c5 c6 c7 : Array Value} (h : Below w.heap.size w W ∧ n ≤ W.heap.size ∧ Bx W b1 c1 ∧ Bx W b2 c2 ∧ Bx W b3 c3 ∧ Bx W b4 c4 ∧ Bx W b5 c5 ∧ Bx W b6 c6 ∧ Bx W b7 c7 ∧ By12 W y) (hb : Below m W W') (hm : m = W.heap.size) : Below w.heap.size w W' ∧ n ≤ W'.heap.size ∧ Bx W' b1 c1 ∧ Bx W' b2 c2 ∧ Bx W' b3 c3 ∧ Bx W' b4 c4 ∧ Bx W' b5 c5 ∧ Bx W' b6 c6 ∧ Bx W' b7 c7 ∧ By12 W' y := by
  subst hm
  obtain ⟨h0, hn, h1, h2, h3, h4, h5, h6, h7, hy⟩ := h
  exact ⟨below_more h0 hb, Nat.le_trans hn hb.size, h1.below hb, h2.below hb, h3.below hb, h4.below hb, h5.below hb, h6.below hb, h7.below hb, By12.of (hy.1.below hb)⟩

end Go.Proofs.Ythcboomdkpiflaa
