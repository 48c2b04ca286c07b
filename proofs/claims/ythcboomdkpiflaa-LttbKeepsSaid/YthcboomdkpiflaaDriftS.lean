/- The drift law's walk with a frame that differs from the first one in the region's slots only. -/
import Derived.Test.YthcboomdkpiflaaRows
import Derived.Test.YthcboomdkpiflaaDriftO
namespace Go.Proofs.Ythcboomdkpiflaa
open Go Go.RowKit
set_option linter.unusedVariables false
set_option linter.unusedSimpArgs false

/-- a reads as a0 but at the slots ds. -/
def SameBut (a0 a : Act) (ds : List Nat) : Prop := ∀ e : Nat, ds.all (fun d => !Nat.beq d e) = true → a.eval (.tmp e) = a0.eval (.tmp e)
theorem same_start (a : Act) : SameBut a a [] := fun _ _ => rfl
theorem SameBut.next {a0 a a' : Act} {d : Tmp} {v : Value} {ds : List Nat} (h : SameBut a0 a ds) (n : NextAct a a' d v) : SameBut a0 a' (d :: ds) := fun e he => by
  rw [List.all_cons, Bool.and_eq_true] at he
  have h1 : Nat.beq d e = false := by
    cases hb : Nat.beq d e
    · rfl
    · rw [hb] at he; exact absurd he.1 (by decide)
  exact (n.2.2.1 e h1).trans (h e he.2)
theorem SameBut.ev {a0 a : Act} {l : List Value} {fs : List Deferred} {ds : List Nat} {t : Nat} {v : Value} (h : SameBut a0 a ds) (ha : a0 = ⟨l.toArray, fs⟩) (hl : l[t]? = some v) (hd : ds.all (fun d => !Nat.beq d t) = true) : a.eval (.tmp t) = v := (h t hd).trans (ev_lit ha hl)
end Go.Proofs.Ythcboomdkpiflaa
