/- Proved: tscodeclaw01.CheckedSums returns true for all arguments. No condition. -/
import Derived.Test.YtenaeaojnebokaaRows
import Derived.Test.YtenaeaojnebokaaChk
import Derived.Test.YtenaeaojnebokaaMade
import Derived.Test.YtenaeaojnebokaaLaw
import Derived.WalkKit
import Derived.ProofKit
import Derived.OpenShut
import Derived.SizedLaws
import Derived.Outline
namespace Go.Proofs.Ytenaeaojnebokaa.checkedSums
open Go.ChangeShapes Go.WideShapes Go.ChangeAt Go.RowKit
set_option linter.unusedVariables false

theorem alike_any (a b : Int) (ha : I64 a) (hb : I64 b) (w : World) :
    Calls Try.prog 38 #[.int .i64 a, .int .i64 b] w fun e w' => e = .returned (.bool true) ∧ w = w' := by
  go_enter Try.func38, Try.ntmps38
  go_wp2_with (first | (go_at_call 43; refine (add_any a b ha hb _).mono ?_; rintro e w' ⟨rfl, rfl⟩) | (go_at_call 56; refine (radd_any a b ha hb _).mono ?_; rintro e w' ⟨rfl, rfl⟩) | (go_at_call 57; refine (sub_any a b ha hb _).mono ?_; rintro e w' ⟨rfl, rfl⟩) | (go_at_call 58; refine (rsub_any a b ha hb _).mono ?_; rintro e w' ⟨rfl, rfl⟩) | (go_at_call 59; refine (mul_any a b ha hb _).mono ?_; rintro e w' ⟨rfl, rfl⟩) | (go_at_call 60; refine (rmul_any a b ha hb _).mono ?_; rintro e w' ⟨rfl, rfl⟩) | (go_at_call 14; refine (dist_any a b ha hb _).mono ?_; rintro e w' ⟨rfl, rfl⟩) | (go_at_call 37; refine (rdist_any a b ha hb _).mono ?_; rintro e w' ⟨rfl, rfl⟩) | (go_at_call 13; refine (mid_any a b ha hb _).mono ?_; rintro e w' ⟨rfl, rfl⟩) | (go_at_call 36; refine (rmid_any a b ha hb _).mono ?_; rintro e w' ⟨rfl, rfl⟩) | (go_at_call 23; refine (diff_any a b _).mono ?_; rintro e w' ⟨rfl, rfl⟩) | (go_at_call 61; refine (rdiff_any a b _).mono ?_; rintro e w' ⟨rfl, rfl⟩) )
  go_ret
  exact ⟨ret_b rfl, rfl⟩

theorem walk (w : World) (a0 : Int) (h0 : I64 a0) (a1 : Int) (h1 : I64 a1) (s2 : Option Addr) (l2 c2 : Nat) (z2 : List Int) (h2 : SlZ w .i64 (.slice s2 l2 c2) z2) :
    Calls Try.prog 11 #[.int .i64 a0, .int .i64 a1, .slice s2 l2 c2] w fun e w' => e = .returned (.bool true) ∧ Below w.heap.size w w' := by
  have TN := tape_new (t := 64) h2
  obtain ⟨tk, tb⟩ := TN
  have m1 : I64 (-1) := ⟨by decide, by decide⟩
  go_enter Try.func11, Try.ntmps11
  go_wp2_with (first | (go_at_call 16; refine (new_any _ _ _ _).mono ?_; rintro e w' ⟨rfl, rfl⟩) | (go_at_call 17; refine (int_any _ _ (by assumption)).mono ?_; rintro e w' ⟨r, hr, rfl, ht, hg⟩) | (go_at_call 38; refine (alike_any _ _ (by assumption) (by assumption) _).mono ?_; rintro e w' ⟨rfl, rfl⟩) | (go_at_call 15; refine (known01_any _).mono ?_; rintro e w' ⟨rfl, rfl⟩))
  go_ret
  exact ⟨ret_b rfl, by repeat (first | assumption | refine Below.grown ?_ (by assumption) (Nat.le_of_lt (TapeOk.lt (by assumption))) (fun k e => Nat.le_of_eq (Option.some.inj e)))⟩

/-! ### The row -/
set_option maxRecDepth 100000 in
theorem lifted (os : Os) (started : os.Started) (H : Type) (enc : TypeId × Value → H) :
    ReturnsInHanded {} Try.checked os 11 .any (Rows.checkedSumsSpec.pre6 enc Try.prog Try.f11 Rows.checkedSumsRow.domain false) (Rows.checkedSumsSpec.post enc Try.prog Try.f11 false true false false) := by
  refine returnsInHanded_of_change_sized (C := Try.checked) own started (by kernel_rfl) Try.func11
    (ChangeSpec.witness6 (enc := enc) (C := Try.checked) false ⟨#[], #[.int .i64 0, .int .i64 0, .slice none 0 0], []⟩ 8 (by kernel_rfl) (by kernel_rfl) (by kernel_rfl) (by kernel_rfl)) ?_
  intro W base args ds gs before hval0 hW hcnd hsz _
  have hval : ∀ (j : Nat) t v, Try.f11.params[j]? = some t → args[j]? = some v → Value.okWide Try.prog W .any base t v := hval0
  have hW' := hW
  obtain ⟨p, q, hA0, hV, rfl, hfz, hnd⟩ := hW
  have hA : DataW.TrodAll enc Try.prog W 0 (fun _ => true) true Try.f11.params.toList args.toList ds p := hA0
  rw [Try.params11] at hA hval
  obtain ⟨v0, vs0, d0, ds0, p0, q0, hargs, rfl, rfl, g0, r0⟩ := trodAll_cons hA
  obtain ⟨v1, vs1, d1, ds1, p1, q1, rfl, rfl, rfl, g1, r1⟩ := trodAll_cons r0
  obtain ⟨v2, vs2, d2, ds2, p2, q2, rfl, rfl, rfl, g2, r2⟩ := trodAll_cons r1
  obtain ⟨rfl, rfl, rfl⟩ := trodAll_nil r2
  obtain rfl : args = #[v0, v1, v2] := by cases args; simp_all
  obtain ⟨rfl, rfl⟩ := trodVars_none hV
  have hlt : ∀ x ∈ (p0 ++ (p1 ++ (p2 ++ []))) ++ [], x.block < W.heap.size := fun x hx => hW'.lt x hx
  obtain ⟨a0, rfl, rfl, rfl, w0⟩ := open_int Try.underlying2 (hval 0 2 v0 rfl rfl) g0
  obtain ⟨a1, rfl, rfl, rfl, w1⟩ := open_int Try.underlying2 (hval 1 2 v1 rfl rfl) g1
  obtain ⟨z2, hs2⟩ := open_slz Try.underlying27 Try.underlying3 (by kernel_rfl) (hval 2 27 v2 rfl rfl) g2 (fun x hx => hlt x (by simp [hx]))
  have hs2' := hs2
  obtain ⟨s2, l2, c2, rfl, _⟩ := hs2'
  refine (walk W a0 (I64.of_wf w0) a1 (I64.of_wf w1) s2 l2 c2 z2 hs2).mono fun e W' ⟨he, hb⟩ => ?_
  subst he
  exact ⟨_, rfl, law_post laidOut (by kernel_rfl) rfl rfl Try.underlying4 hW' rfl rfl rfl hb⟩

theorem over : Rows.checkedSumsRow.holds Try.pinned (OpenSpec.ofChange Rows.checkedSumsSpec) :=
  OpenClaim.holds_of_wide 11 Try.f11 rfl rfl rfl rfl rfl rfl rfl ⟨rfl, rfl, rfl, rfl, rfl⟩ rfl rfl rfl rfl rfl (by kernel_rfl) Try.func11 (by kernel_rfl)
    (of_decide_eq_true (by kernel_rfl)) (by unfold Func.isWrapper; first | (rw [if_pos (by decide +kernel)]; kernel_rfl) | (rw [if_neg (by decide +kernel)]; exact ⟨rfl, rfl⟩))
    (fun os started H enc _ => lifted os started H enc)

/-- The given statement. -/
theorem proved : Rows.CheckedSumsSaid :=
  over
#print axioms proved
end Go.Proofs.Ytenaeaojnebokaa.checkedSums
