/- Opening an argument that is a state. -/
import Derived.Test.YtenaeaojnebokaaRows
import Derived.Test.YtenaeaojnebokaaMidT
import Derived.OpenShut
import Derived.SizedLaws
import Derived.Laws.IdiomArrays
import Derived.Lib.SmallJoins
namespace Go.Proofs.Ytenaeaojnebokaa
open Go.ChangeShapes Go.WideShapes Go.ChangeAt Go.RowKit
set_option linter.unusedVariables false
set_option linter.unusedSimpArgs false

section
variable {H : Type} {enc : TypeId × Value → H} {P : Program}
theorem list4 {l : List Value} (h : l.length = 4) : ∃ x y z u, l = [x, y, z, u] := by
  match l, h with
  | [x, y, z, u], _ => exact ⟨x, y, z, u, rfl⟩
theorem open_four {t : TypeId} {f0 f1 f2 f3 : Field} {v : Value} {d : DataW H} {ps : List MemPlace} {W : World} {base : Nat} (ht : P.underlying t = some (.struct #[f0, f1, f2, f3])) (k0 : P.underlying f0.type = some (.int .i64)) (k1 : P.underlying f1.type = some (.int .i64)) (k2 : P.underlying f2.type = some (.int .i64)) (k3 : P.underlying f3.type = some (.int .i64))
    (o0 : f0.offset = 0) (o1 : f1.offset = 1) (o2 : f2.offset = 2) (o3 : f3.offset = 3) (c0 : P.cellsOf f0.type = 1) (c1 : P.cellsOf f1.type = 1) (c2 : P.cellsOf f2.type = 1) (c3 : P.cellsOf f3.type = 1) (ct : P.cellsOf t = 4)
    (hv : Value.okWide P W .any base t v) (h : DataW.Trod enc P W 0 (fun _ => true) true t v d ps) : ∃ a b c e, v = .agg #[.int .i64 a, .int .i64 b, .int .i64 c, .int .i64 e] ∧ I64 a ∧ I64 b ∧ I64 c ∧ I64 e := by
  obtain ⟨cs, rfl, hsz⟩ := okWide_struct ht hv
  obtain ⟨fuel, hf⟩ := h
  obtain ⟨y0, y1, y2, y3, n, _, hlen, e0, e1, e2, e3⟩ := Go.Joins.trod_struct4 ht hf
  have hl : cs.toList.length = 4 := by rw [Array.length_toList, hsz, ct]
  obtain ⟨x, y, z, u, hxy⟩ := list4 hl
  have hcs : cs = #[x, y, z, u] := by rw [← Array.toArray_toList (xs := cs), hxy]
  subst hcs
  rw [o0, c0] at e0
  rw [o1, c1] at e1
  rw [o2, c2] at e2
  rw [o3, c3] at e3
  obtain ⟨a0, r0, -, w0⟩ := DataW.trod_int k0 e0
  obtain ⟨a1, r1, -, w1⟩ := DataW.trod_int k1 e1
  obtain ⟨a2, r2, -, w2⟩ := DataW.trod_int k2 e2
  obtain ⟨a3, r3, -, w3⟩ := DataW.trod_int k3 e3
  simp [Value.cells] at r0 r1 r2 r3
  subst r0; subst r1; subst r2; subst r3
  exact ⟨a0, a1, a2, a3, rfl, I64.of_wf w0, I64.of_wf w1, I64.of_wf w2, I64.of_wf w3⟩
end
set_option maxRecDepth 100000 in
theorem open_ms {H : Type} {enc : TypeId × Value → H} {v : Value} {d : DataW H} {ps : List MemPlace} {W : World} {base : Nat} (hv : Value.okWide Try.prog W .any base 55 v) (h : DataW.Trod enc Try.prog W 0 (fun _ => true) true 55 v d ps) : ∃ a b c e, v = .agg #[.int .i64 a, .int .i64 b, .int .i64 c, .int .i64 e] ∧ I64 a ∧ I64 b ∧ I64 c ∧ I64 e :=
  open_four Try.underlying55 Try.underlying2 Try.underlying3 Try.underlying2 Try.underlying2 rfl rfl rfl rfl (by kernel_rfl) (by kernel_rfl) (by kernel_rfl) (by kernel_rfl) (by kernel_rfl) hv h
theorem start_form (t : Int) : ∃ a b c d er, startV t = .tuple #[MS a b c d, .int .i64 er] := by
  unfold startV
  split
  · exact ⟨_, _, _, _, _, rfl⟩
  · exact ⟨_, _, _, _, _, rfl⟩
end Go.Proofs.Ytenaeaojnebokaa
