/- The drift law's walk with a frame that is known by its slots alone: each step tells one slot more. -/
import Derived.Test.YthcboomdkpiflaaRows
import Derived.Test.YthcboomdkpiflaaDrift
import Derived.WalkKit
import Derived.Handy
namespace Go.Proofs.Ythcboomdkpiflaa
open Go Go.RowKit
set_option linter.unusedVariables false
set_option linter.unusedSimpArgs false

/-- a' is a with v in slot d. -/
def NextAct (a a' : Act) (d : Tmp) (v : Value) : Prop :=
  a'.tmps.size = a.tmps.size ∧ a'.eval (.tmp d) = v ∧ (∀ e, Nat.beq d e = false → a'.eval (.tmp e) = a.eval (.tmp e)) ∧ a'.defers = a.defers
theorem next_put {a : Act} {d : Tmp} {v : Value} (h : d < a.tmps.size) : NextAct a (a.put (some d) v) d v := by
  refine ⟨by simp [Act.put], by simp [Act.put, Act.eval, h], fun e he => ?_, rfl⟩
  have : d ≠ e := fun h => by subst h; rw [Nat.beq_refl] at he; cases he
  simp only [Act.put, Act.eval, Array.getD_eq_getD_getElem?]
  rw [Array.getElem?_setIfInBounds_ne this]
theorem act_gen {G : Act → Prop} {a : Act} {d : Tmp} {v : Value} {n : Nat} (hz : a.tmps.size = n) (hd : decide (d < n) = true) (h : ∀ a', a'.tmps.size = n → NextAct a a' d v → G a') : G (a.put (some d) v) := by
  subst hz
  have := next_put (v := v) (of_decide_eq_true hd)
  exact h _ this.1 this
theorem ev_lit {l : List Value} {a : Act} {ds : List Deferred} {t : Tmp} {v : Value} (ha : a = ⟨l.toArray, ds⟩) (h : l[t]? = some v) : a.eval (.tmp t) = v := by
  subst ha
  simp [Act.eval, h]
theorem size_lit {l : List Value} {a : Act} {ds : List Deferred} {n : Nat} (ha : a = ⟨l.toArray, ds⟩) (h : l.length = n) : a.tmps.size = n := by
  subst ha
  simpa using h
theorem defers_lit {l : List Value} {a : Act} {ds : List Deferred} (ha : a = ⟨l.toArray, ds⟩) : a.defers = ds := by
  subst ha
  rfl
/-- The slots from i on read l. -/
def AllEv (a : Act) : Nat → List Value → Prop
  | _, [] => True
  | i, v :: l => a.eval (.tmp i) = v ∧ AllEv a (i + 1) l
theorem allEv_get {a : Act} : ∀ {l : List Value} {i : Nat}, AllEv a i l → ∀ j (h : j < l.length), a.eval (.tmp (i + j)) = l[j]
  | _ :: l, i, h, 0, _ => h.1
  | _ :: l, i, h, j + 1, hj => by
    have := allEv_get h.2 j (by simpa using hj)
    rw [show i + (j + 1) = i + 1 + j by omega, this]
    rfl
theorem act_lit {a : Act} {l : List Value} {ds : List Deferred} {n : Nat} (hz : a.tmps.size = n) (hd : a.defers = ds) (hl : l.length = n) (h : AllEv a 0 l) : a = ⟨l.toArray, ds⟩ := by
  obtain ⟨t, d⟩ := a
  simp only at hz hd
  subst hd
  have : t = l.toArray := by
    refine Array.ext (by simp [hz, hl]) fun i h1 h2 => ?_
    have := allEv_get h i (by omega)
    simp only [Nat.zero_add, Act.eval] at this
    simpa [h1] using this
  rw [this]
/-- A frame's slots under a name of their own. -/
theorem rho_of (a : Act) : ∃ ρ : Operand → Value, (∀ t, a.eval (.tmp t) = ρ (.tmp t)) := ⟨a.eval, fun _ => rfl⟩

section
variable {P : Program} {ops : Array Oper} {Q : Exit → Act → World → Prop} {S : World → Prop} {row : Option Nat}
theorem wanted_not {o : Oper} {a : Act} (hg : o.guard = none) : Region.wanted o (yielded ops a.tmps) = true := by
  unfold Region.wanted; rw [hg]
theorem yielded_ev {a : Act} {j : Nat} {d : Tmp} {b : Bool} (hd : (ops[j]?).bind (·.dst) = some d) (F : a.eval (.tmp d) = .bool b) : yielded ops a.tmps j = some b := by
  unfold yielded
  rw [hd]
  have : a.tmps[d]? = some (.bool b) := by
    simp only [Act.eval] at F
    by_cases h : d < a.tmps.size
    · simp only [Array.getD, h, dif_pos] at F
      rw [Array.getElem?_eq_getElem h]
      exact congrArg some F
    · simp only [Array.getD, h, dif_neg, not_false_eq_true] at F
      cases F
  simp [this]
theorem wanted_yes {o : Oper} {a : Act} {j : Nat} {g : Bool} {d : Tmp} (hg : o.guard = some (j, g)) (hd : (ops[j]?).bind (·.dst) = some d) (F : a.eval (.tmp d) = .bool g) : Region.wanted o (yielded ops a.tmps) = true := by
  unfold Region.wanted; rw [hg]
  simp [yielded_ev hd F]
theorem wanted_no {o : Oper} {a : Act} {j : Nat} {g g' : Bool} {d : Tmp} (hg : o.guard = some (j, g)) (hd : (ops[j]?).bind (·.dst) = some d) (F : a.eval (.tmp d) = .bool g') (hne : (g' == g) = false) : Region.wanted o (yielded ops a.tmps) = false := by
  unfold Region.wanted; rw [hg]
  simp only [yielded_ev hd F]
  cases g <;> cases g' <;> simp_all
/-- How an operation reads the frame. -/
def Reads (a : Act) (ρ : Operand → Value) : Prop := (∀ t, ρ (.tmp t) = a.eval (.tmp t)) ∧ (∀ v, ρ (.const v) = v) ∧ (∀ f, ρ (.func f) = .func (.func f) #[] #[]) ∧ ∀ g, ρ (.global g) = .pointer (some ⟨g, 0, none⟩)
theorem reads (a : Act) : Reads a a.eval := ⟨fun _ => rfl, fun _ => rfl, fun _ => rfl, fun _ => rfl⟩

theorem dqo_start {K : Act → World → Prop} {l : List (Nat × Nat)} {a : Act} {w : World} (h : ∀ a', a' = a → dqL P ops S row K l a' w) : dqL P ops S row K l a w := h a rfl
theorem dqo_pure {K : Act → World → Prop} {i n : Nat} {o : Oper} {d : Tmp} {l : List (Nat × Nat)} {a : Act} {w : World} {v : Value} (hi : ops[i]? = some o) (hd : o.dst = some d) (hz : a.tmps.size = n) (hdn : decide (d < n) = true) (hw : Region.wanted o (yielded ops a.tmps) = true)
    (hv : ∀ ρ, Reads a ρ → ∀ w, S w → (execOp ρ o).run P w = .ok (.value v) w) (h : ∀ a', a'.tmps.size = n → NextAct a a' d v → dqL P ops S row K l a' w) : dqL P ops S row K ((i, 0) :: l) a w :=
  dq_pure hi hw (hv _ (reads a)) (by rw [hd]; exact act_gen (G := fun a' => dqL P ops S row K l a' w) hz hdn h)
theorem dqo_pass {K : Act → World → Prop} {i n : Nat} {o : Oper} {d : Tmp} {l : List (Nat × Nat)} {a : Act} {w : World} (hi : ops[i]? = some o) (hd : o.dst = some d) (hz : a.tmps.size = n) (hdn : decide (d < n) = true) (hw : Region.wanted o (yielded ops a.tmps) = false)
    (h : ∀ a', a'.tmps.size = n → NextAct a a' d undef → dqL P ops S row K l a' w) : dqL P ops S row K ((i, 0) :: l) a w :=
  dq_pass hi hw (by rw [hd]; exact act_gen (G := fun a' => dqL P ops S row K l a' w) hz hdn h)
theorem dqo_call {K : Act → World → Prop} {i n : Nat} {o : Oper} {d : Tmp} {l : List (Nat × Nat)} {a : Act} {w : World} {v : Value} {f : FuncId} {args : Array Value} (hi : ops[i]? = some o) (hd : o.dst = some d) (hz : a.tmps.size = n) (hdn : decide (d < n) = true) (hw : Region.wanted o (yielded ops a.tmps) = true)
    (hv : ∀ ρ, Reads a ρ → ∀ w, (execOp ρ o).run P w = .ok (.enter f args) w)
    (hc : ∀ w, S w → Calls P f args w fun e w' => e = .returned v ∧ w.grownBy w' row) (h : ∀ a', a'.tmps.size = n → NextAct a a' d v → dqL P ops S row K l a' w) : dqL P ops S row K ((i, 0) :: l) a w :=
  dq_call hi hw (hv _ (reads a)) hc (by rw [hd]; exact act_gen (G := fun a' => dqL P ops S row K l a' w) hz hdn h)
theorem dqo_ask {K : Act → World → Prop} {i n : Nat} {o : Oper} {d : Tmp} {l : List (Nat × Nat)} {a : Act} {w : World} {f : FuncId} {args : Array Value} {R : Value → World → Prop} (hi : ops[i]? = some o) (hd : o.dst = some d) (hz : a.tmps.size = n) (hdn : decide (d < n) = true) (hw : Region.wanted o (yielded ops a.tmps) = true)
    (hv : ∀ ρ, Reads a ρ → ∀ w, (execOp ρ o).run P w = .ok (.enter f args) w)
    (hc : ∀ w1, S w1 → w.grownBy w1 row → Calls P f args w1 fun e w' => ∃ v, e = .returned v ∧ R v w' ∧ w1.grownBy w' row)
    (h : ∀ v w', S w' → w.grownBy w' row → R v w' → ∀ a', a'.tmps.size = n → NextAct a a' d v → dqL P ops S row K l a' w') (hk : ∀ w w', S w → w.grownBy w' row → S w') : dqL P ops S row K ((i, 1) :: l) a w :=
  dq_ask hi hw (hv _ (reads a)) hc (fun v w' hs hg hr => by rw [hd]; exact act_gen (G := fun a' => dqL P ops S row K l a' w') hz hdn (h v w' hs hg hr)) hk
theorem dqo_late {K : Act → World → Prop} {i n : Nat} {o : Oper} {d : Tmp} {l : List (Nat × Nat)} {a : Act} {w : World} {v : Value} (hi : ops[i]? = some o) (hd : o.dst = some d) (hz : a.tmps.size = n) (hdn : decide (d < n) = true) (hw : Region.wanted o (yielded ops a.tmps) = true)
    (hv : ∀ ρ, Reads a ρ → ∀ w, (execOp ρ o).run P w = .ok (.value v) w) (h : ∀ a', a'.tmps.size = n → NextAct a a' d v → dqL P ops S row K l a' w) : dqL P ops S row K ((i, 2) :: l) a w :=
  dq_late hi hw (hv _ (reads a)) (by rw [hd]; exact act_gen (G := fun a' => dqL P ops S row K l a' w) hz hdn h)
theorem fa_box {n0 n i : Nat} {K : Act → World → Prop} {d : Tmp} {zs : Array Value} {rem : Boxes} {bs : List (Nat × Array Value)} {a : Act} (hz : a.tmps.size = n) (hd : decide (d < n) = true)
    (h : ∀ b, n0 ≤ b → (∀ p ∈ bs, p.1 ≠ b) → ∀ a', a'.tmps.size = n → NextAct a a' d (.pointer (some ⟨b, 0, none⟩)) → fa S n0 K rem ((b, zs) :: bs) a') : fa S n0 K ((i, d, zs) :: rem) bs a :=
  fun b hb hne => act_gen (G := fun a' => fa S n0 K rem ((b, zs) :: bs) a') hz hd (h b hb hne)
theorem fa_nil {n0 : Nat} {K : Act → World → Prop} {bs : List (Nat × Array Value)} {a : Act} (h : ∀ w, S w → (∀ p ∈ bs, HB w p.1 p.2) → K a w) : fa S n0 K [] bs a := h
end
end Go.Proofs.Ythcboomdkpiflaa
