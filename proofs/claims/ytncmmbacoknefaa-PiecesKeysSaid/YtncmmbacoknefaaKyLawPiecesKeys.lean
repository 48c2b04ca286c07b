/- Proved: tscodeclaw19.PiecesKeys returns true for all arguments. No condition. -/
import Derived.Test.YtncmmbacoknefaaRows
import Derived.Test.YtncmmbacoknefaaKyClPiecesKeys
import Derived.OpenShut
import Derived.SizedLaws
import Derived.Laws.IdiomArrays
import Derived.WalkKit
import Derived.ProofKit
import Derived.Outline
import Derived.Test.YtncmmbacoknefaaKy2
import Derived.Test.YtncmmbacoknefaaKy5
namespace Go.Proofs.Ytncmmbacoknefaa.piecesKeys
open Go.ChangeShapes Go.WideShapes Go.ChangeAt Go.RowKit Sx
set_option linter.unusedVariables false
set_option linter.unusedSimpArgs false


theorem and_62 {x : Int} : ∃ t, IntKind.i64.wrap (BitVec.ofInt IntKind.i64.bits x &&& BitVec.ofInt IntKind.i64.bits 4611686018427387903).toNat = t ∧ 0 ≤ t ∧ t ≤ 4611686018427387903 := by
  have h : (BitVec.ofInt IntKind.i64.bits x &&& BitVec.ofInt IntKind.i64.bits 4611686018427387903).toNat ≤ 4611686018427387903 := by
    rw [BitVec.toNat_and]
    exact Nat.le_trans Nat.and_le_right (by decide)
  refine ⟨_, IntWalk.i64_in _ ⟨by omega, by omega⟩, by omega, by omega⟩
set_option maxHeartbeats 8000000 in
set_option maxRecDepth 100000 in
theorem walk (w : World) (a0 : Int) (h0 : I64 a0) (a1 : Int) (h1 : I64 a1) :
    Calls Try.prog 15 #[.int .i64 a0, .int .i64 a1] w fun e w' => e = .returned (.bool true) ∧ Below w.heap.size w w' := by

  have kn := fun W => gives_known en_w19_known (g_known19 W)
  obtain ⟨t, ht, t0, t1⟩ := and_62 (x := a1)
  have it : I64 t := ⟨by omega, by omega⟩
  have kk := fun W => gx_key h0 it W
  have kb := fun W => gx_base (ke_i64 (t := t) h0) it W
  have o1 := fun W => rx_of h0 W
  have o2 := fun W => rx_of (un_i64 it) W
  have fv := (bd_i64 h0).fits
  have fu := (bd_i64 (un_i64 it)).fits
  have hb := bd_mul (bd_i64 (ke_i64 (t := t) h0)) (bd_i64 (un_i64 it))
  have fb := hb.fits
  have bd : Bd 130 (a0 - ke a0 t * un t) := bd_sub (bd_i64 h0) hb (by decide) (by decide)
  have fd := bd.fits
  have su := fun W => rx_sub fv fb fd W
  have sg := fun W => rx_sign fd W
  have cp := fun W => rx_compare fd fu W
  obtain ⟨h1', h2'⟩ := ke_base a0 t
  have eu : (if t < 1 then 1 else t) = un t := rfl
  rw [show cm (a0 - ke a0 t * un t) (un t) = -1 from by unfold cm; rw [if_pos (by omega)]] at cp
  have sg0 : 0 ≤ cm (a0 - ke a0 t * un t) 0 := by
    unfold cm
    rw [if_neg (by omega)]
    split <;> decide
  generalize cm (a0 - ke a0 t * un t) 0 = S0 at *
  clear h1' h2' hb bd fb fv fu fd
  generalize ke a0 t = K at *
  generalize hU : un t = U at *
  generalize K * U = B at *
  refine known_of (enter Try.func15 w19_PiecesKeys.ok (args := [_, _]) (by simp) ?_)
  repeat' (first | simp (disch := omega) only [sxE, w19_PiecesKeys.E, Nat.reduceAdd, Nat.reduceEqDiff, Nat.reduceMul, Nat.reduceSub, Int.reduceAdd, Int.reduceSub, Int.reduceMul, Int.reduceNeg, Int.reduceLT, Int.reduceLE, Int.reduceEq, Int.reduceToNat, ↓reduceIte, Int.reducePow, Nat.reduceLeDiff, Nat.reduceLT, ne_eq, eq_self, List.length_cons, List.length_nil, qxE, ht, eu, hU] | (with_reducible refine Sx.call_at (f := 63) (fun W hW => kk W) ?_) | (with_reducible refine Sx.call_at (f := 62) (fun W hW => kb W) ?_) | (with_reducible refine Sx.call_at (f := 20) (fun W hW => o1 W) ?_) | (with_reducible refine Sx.call_at (f := 20) (fun W hW => o2 W) ?_) | (with_reducible refine Sx.call_at (f := 41) (fun W hW => su W) ?_) | (with_reducible refine Sx.call_at (f := 65) (fun W hW => sg W) ?_) | (with_reducible refine Sx.call_at (f := 42) (fun W hW => cp W) ?_) | (with_reducible refine Sx.call_at (f := 64) (fun W hW => kn W) ?_) | ((with_reducible first | apply cond_beq | apply gd_beq) <;> (intro hc; first | simp only [beq_iff_eq.2 hc] | simp only [beq_eq_false_iff_ne.2 hc] | skip)) | ((with_reducible first | apply cond_dec | apply gd_dec) <;> (intro hc; first | simp only [decide_eq_true hc] | simp only [decide_eq_false hc] | skip)) | ((with_reducible first | apply cond_of | apply gd_of) <;> (intro hc; try simp only [hc])) | (with_reducible refine cregF ?_))
/-! ### The row -/
set_option maxRecDepth 100000 in
theorem lifted (os : Os) (started : os.Started) (H : Type) (enc : TypeId × Value → H) :
    ReturnsInHanded {} Try.checked os 15 .any (Rows.piecesKeysSpec.pre6 enc Try.prog Try.f15 Rows.piecesKeysRow.domain false) (Rows.piecesKeysSpec.post enc Try.prog Try.f15 false true false false) := by
  refine returnsInHanded_of_change_sized (C := Try.checked) own started (by kernel_rfl) Try.func15
    (ChangeSpec.witness6 (enc := enc) (C := Try.checked) false ⟨#[], #[.int .i64 0, .int .i64 0], []⟩ 8 (by kernel_rfl) (by kernel_rfl) (by kernel_rfl) (by kernel_rfl)) ?_
  intro W base args ds gs before hval0 hW hcnd hsz _
  have hval : ∀ (j : Nat) t v, Try.f15.params[j]? = some t → args[j]? = some v → Value.okWide Try.prog W .any base t v := hval0
  have hW' := hW
  obtain ⟨p, q, hA0, hV, rfl, hfz, hnd⟩ := hW
  have hA : DataW.TrodAll enc Try.prog W 0 (fun _ => true) true Try.f15.params.toList args.toList ds p := hA0
  rw [Try.params15] at hA hval
  obtain ⟨v0, vs0, d0, ds0, p0, q0, hargs, rfl, rfl, g0, r0⟩ := trodAll_cons hA
  obtain ⟨v1, vs1, d1, ds1, p1, q1, rfl, rfl, rfl, g1, r1⟩ := trodAll_cons r0
  obtain ⟨rfl, rfl, rfl⟩ := trodAll_nil r1
  obtain rfl : args = #[v0, v1] := by cases args; simp_all
  obtain ⟨rfl, rfl⟩ := trodVars_none hV
  have hlt : ∀ x ∈ (p0 ++ (p1 ++ [])) ++ [], x.block < W.heap.size := fun x hx => hW'.lt x hx
  obtain ⟨a0, rfl, rfl, rfl, w0⟩ := open_int Try.underlying2 (hval 0 2 v0 rfl rfl) g0
  obtain ⟨a1, rfl, rfl, rfl, w1⟩ := open_int Try.underlying2 (hval 1 2 v1 rfl rfl) g1
  refine (walk W a0 (I64.of_wf w0) a1 (I64.of_wf w1)).mono fun e W' ⟨he, hb⟩ => ?_
  subst he
  exact ⟨_, rfl, law_post laidOut (by kernel_rfl) rfl rfl Try.underlying4 hW' rfl rfl rfl hb⟩

theorem over : Rows.piecesKeysRow.holds Try.pinned (OpenSpec.ofChange Rows.piecesKeysSpec) :=
  OpenClaim.holds_of_wide 15 Try.f15 rfl rfl rfl rfl rfl rfl rfl ⟨rfl, rfl, rfl, rfl, rfl⟩ rfl rfl rfl rfl rfl (by kernel_rfl) Try.func15 (by kernel_rfl)
    (of_decide_eq_true (by kernel_rfl)) (by unfold Func.isWrapper; first | (rw [if_pos (by decide +kernel)]; kernel_rfl) | (rw [if_neg (by decide +kernel)]; exact ⟨rfl, rfl⟩))
    (fun os started H enc _ => lifted os started H enc)

/-- The given statement. -/
theorem proved : Rows.PiecesKeysSaid :=
  over
#print axioms proved
end Go.Proofs.Ytncmmbacoknefaa.piecesKeys

