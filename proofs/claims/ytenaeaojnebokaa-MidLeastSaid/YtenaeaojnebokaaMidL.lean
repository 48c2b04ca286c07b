/- What midrange's laws share. -/
import Derived.Test.YtenaeaojnebokaaRows
import Derived.Test.YtenaeaojnebokaaMidG
namespace Go.Proofs.Ytenaeaojnebokaa
open Go.ChangeShapes Go.WideShapes Go.ChangeAt Go.RowKit
set_option linter.unusedVariables false
set_option linter.unusedSimpArgs false

theorem slz_i64 {W : World} {v : Value} {zs : List Int} (h : SlZ W .i64 v zs) : ∀ z ∈ zs, I64 z := by
  obtain ⟨_, _, _, _, _, _, _, hw, _⟩ := h
  exact fun z hz => I64.of_wf (hw z hz)
theorem slz_form {W : World} {v : Value} {zs : List Int} (h : SlZ W .i64 v zs) : ∃ a cap, v = .slice a zs.length cap := by
  obtain ⟨a, len, cap, rfl, rfl, _⟩ := h
  exact ⟨a, cap, rfl⟩
theorem i64_wf {z : Int} (h : I64 z) : (Lit.int .i64 z).wf = true := by
  obtain ⟨h1, h2⟩ := h
  have e : IntKind.i64.min = -9223372036854775808 := by decide
  have e' : IntKind.i64.max = 9223372036854775807 := by decide
  simp [Lit.wf, e, e']
  omega
theorem slz_own {W : World} {base : Nat} {e : TypeId} {v : Value} {zs : List Int} (h : W.ownsRow base e 1 v zs.length (zs.map (Value.int .i64))) (hz : ∀ z ∈ zs, I64 z) : SlZ W .i64 v zs := by
  obtain ⟨a, cap, rfl, h1, h2, hc⟩ := own_slice h (by simp)
  refine ⟨a, _, cap, rfl, rfl, h1, h2, fun z hm => i64_wf (hz z hm), fun hl => ?_⟩
  obtain ⟨g, rfl, _, hg, hcs⟩ := hc hl
  refine ⟨g, 0, rfl, hg, fun i hi => ?_⟩
  rw [Nat.zero_add]
  exact hcs i _ (by rw [List.getElem?_map, List.getElem?_eq_getElem hi, List.getD_eq_getElem?_getD, List.getElem?_eq_getElem hi]; rfl)
theorem segs_len {t : Int} {zs : List Int} (h : ∀ z ∈ zs, I64 z) : (segs t zs).length ≤ 1073741825 := by
  unfold segs
  split
  · rename_i hc
    simp only [Bool.and_eq_true, decide_eq_true_eq] at hc
    have := (mok t zs h).2.2.2.2
    have := fin_len (mfold t zs).1.1 (mfold t zs).1.2.1 (mfold t zs).1.2.2
    unfold mall
    rw [List.length_append]
    omega
  · simp
theorem tol_i64 {z : Int} (h : Tol z) : I64 z := by
  obtain ⟨h1, h2⟩ := h
  exact ⟨by omega, by omega⟩
theorem tol_tolb {z : Int} (h : Tol z) : tolb z = true := by
  obtain ⟨h1, h2⟩ := h
  exact tolb_of (by omega) (by omega)
end Go.Proofs.Ytenaeaojnebokaa
