/- Proved: tscodeclaw01.CheckedMiddles returns true for all arguments. No condition. -/
import Derived.Test.YtenaeaojnebokaaRows
import Derived.Test.YtenaeaojnebokaaChk
import Derived.WalkKit
import Derived.ProofKit
import Derived.OpenShut
import Derived.Outline
namespace Go.Proofs.Ytenaeaojnebokaa.checkedMiddles
open Go.ChangeShapes Go.WideShapes Go.ChangeAt Go.RowKit
set_option linter.unusedVariables false

theorem own : ownKnob Try.prog.godebug = none := by kernel_rfl

theorem mids (a b : Int) (h : a ≤ b) : a ≤ (a + b) / 2 ∧ (a + b) / 2 ≤ b ∧ (dst b ((a + b) / 2) = dst a ((a + b) / 2) ∨ dst b ((a + b) / 2) = dst a ((a + b) / 2) + 1) := by
  unfold dst
  refine ⟨by omega, by omega, ?_⟩
  split <;> split <;> omega
theorem small (a b : Int) (ha : I64 a) (hb : I64 b) (h : a ≤ b) : dst a ((a + b) / 2) + 1 ≤ 18446744073709551615 ∧ 0 ≤ dst a ((a + b) / 2) := by
  obtain ⟨a1, a2⟩ := ha; obtain ⟨b1, b2⟩ := hb
  unfold dst; split <;> omega

theorem walk (a b : Int) (w0 : (Lit.int .i64 a).wf = true) (w1 : (Lit.int .i64 b).wf = true) (w : World) :
    Calls Try.prog 3 #[.int .i64 a, .int .i64 b] w fun e w' => e = .returned (.bool true) ∧ Grown w w' := by
  have ha := I64.of_wf w0
  have hb := I64.of_wf w1
  have hm := mid_in a b ha hb
  have hc : (a + b) / 2 = (b + a) / 2 := by rw [Int.add_comm]
  have t0 : ((a + b) / 2 == (b + a) / 2) = true := beq_iff_eq.2 hc
  by_cases h : a ≤ b
  · have c := mids a b h
    obtain ⟨c1, c2, c3⟩ := c
    have d := small a b ha hb h
    obtain ⟨d1, d2⟩ := d
    clear hc
    rcases c3 with c3 | c3
    · have t1 : (dst b ((a + b) / 2) == dst a ((a + b) / 2)) = true := beq_iff_eq.2 c3
      clear c3
      go_enter Try.func3, Try.ntmps3
      go_wp2_with (first | (go_at_call 13; first | ((with_reducible refine (mid_any a b ha hb _).mono ?_); rintro e w' ⟨rfl, rfl⟩) | ((with_reducible refine (mid_any b a hb ha _).mono ?_); rintro e w' ⟨rfl, rfl⟩)) | (go_at_call 14; first | ((with_reducible refine (dist_any a _ ha hm _).mono ?_); rintro e w' ⟨rfl, rfl⟩) | ((with_reducible refine (dist_any b _ hb hm _).mono ?_); rintro e w' ⟨rfl, rfl⟩)) | (go_at_call 15; refine (known01_any _).mono ?_; rintro e w' ⟨rfl, rfl⟩))
      all_goals (go_ret; exact ⟨ret_b rfl, Grown.refl _⟩)
    · have t1 : (dst b ((a + b) / 2) == dst a ((a + b) / 2)) = false := beq_eq_false_iff_ne.2 (by omega)
      have t2 : (dst b ((a + b) / 2) == dst a ((a + b) / 2) + 1) = true := beq_iff_eq.2 c3
      clear c3
      go_enter Try.func3, Try.ntmps3
      go_wp2_with (first | (go_at_call 13; first | ((with_reducible refine (mid_any a b ha hb _).mono ?_); rintro e w' ⟨rfl, rfl⟩) | ((with_reducible refine (mid_any b a hb ha _).mono ?_); rintro e w' ⟨rfl, rfl⟩)) | (go_at_call 14; first | ((with_reducible refine (dist_any a _ ha hm _).mono ?_); rintro e w' ⟨rfl, rfl⟩) | ((with_reducible refine (dist_any b _ hb hm _).mono ?_); rintro e w' ⟨rfl, rfl⟩)) | (go_at_call 15; refine (known01_any _).mono ?_; rintro e w' ⟨rfl, rfl⟩))
      all_goals (go_ret; exact ⟨ret_b rfl, Grown.refl _⟩)
  · have c := mids b a (by omega)
    have d := small b a hb ha (by omega)
    rw [← hc] at c d
    obtain ⟨c1, c2, c3⟩ := c
    obtain ⟨d1, d2⟩ := d
    clear hc
    rcases c3 with c3 | c3
    · have t1 : (dst a ((a + b) / 2) == dst b ((a + b) / 2)) = true := beq_iff_eq.2 c3
      clear c3
      go_enter Try.func3, Try.ntmps3
      go_wp2_with (first | (go_at_call 13; first | ((with_reducible refine (mid_any a b ha hb _).mono ?_); rintro e w' ⟨rfl, rfl⟩) | ((with_reducible refine (mid_any b a hb ha _).mono ?_); rintro e w' ⟨rfl, rfl⟩)) | (go_at_call 14; first | ((with_reducible refine (dist_any a _ ha hm _).mono ?_); rintro e w' ⟨rfl, rfl⟩) | ((with_reducible refine (dist_any b _ hb hm _).mono ?_); rintro e w' ⟨rfl, rfl⟩)) | (go_at_call 15; refine (known01_any _).mono ?_; rintro e w' ⟨rfl, rfl⟩))
      all_goals (go_ret; exact ⟨ret_b rfl, Grown.refl _⟩)
    · have t1 : (dst a ((a + b) / 2) == dst b ((a + b) / 2)) = false := beq_eq_false_iff_ne.2 (by omega)
      have t2 : (dst a ((a + b) / 2) == dst b ((a + b) / 2) + 1) = true := beq_iff_eq.2 c3
      clear c3
      go_enter Try.func3, Try.ntmps3
      go_wp2_with (first | (go_at_call 13; first | ((with_reducible refine (mid_any a b ha hb _).mono ?_); rintro e w' ⟨rfl, rfl⟩) | ((with_reducible refine (mid_any b a hb ha _).mono ?_); rintro e w' ⟨rfl, rfl⟩)) | (go_at_call 14; first | ((with_reducible refine (dist_any a _ ha hm _).mono ?_); rintro e w' ⟨rfl, rfl⟩) | ((with_reducible refine (dist_any b _ hb hm _).mono ?_); rintro e w' ⟨rfl, rfl⟩)) | (go_at_call 15; refine (known01_any _).mono ?_; rintro e w' ⟨rfl, rfl⟩))
      all_goals (go_ret; exact ⟨ret_b rfl, Grown.refl _⟩)

/-! ### THE ROW's STEP: WRITTEN OUT: LEAVE IT -/
set_option maxRecDepth 100000 in
theorem lifted (os : Os) (started : os.Started) (H : Type) (enc : TypeId × Value → H) :
    ReturnsInHanded {} Try.checked os 3 .any (Rows.checkedMiddlesSpec.pre6 enc Try.prog Try.f3 Rows.checkedMiddlesRow.domain false) (Rows.checkedMiddlesSpec.post enc Try.prog Try.f3 false true false false) := by
  refine returnsInHanded_of_change (C := Try.checked) own started (by kernel_rfl) Try.func3
    (ChangeSpec.witness6 (enc := enc) (C := Try.checked) false ⟨#[], #[.int .i64 0, .int .i64 0], []⟩ 8 (by kernel_rfl) (by kernel_rfl) (by kernel_rfl) (by kernel_rfl)) ?_
  intro W base args ds gs before hval0 hW hcnd _
  have hval : ∀ (j : Nat) t v, Try.f3.params[j]? = some t → args[j]? = some v → Value.okWide Try.prog W .any base t v := hval0
  have hW' := hW
  obtain ⟨p, q, hA0, hV, rfl, hfz, hnd⟩ := hW
  have hA : DataW.TrodAll enc Try.prog W 0 (fun _ => true) true Try.f3.params.toList args.toList ds p := hA0
  rw [Try.params3] at hA hval
  obtain ⟨v0, vs0, d0, ds0, p0, q0, hargs, rfl, rfl, h0, r0⟩ := trodAll_cons hA
  obtain ⟨v1, vs1, d1, ds1, p1, q1, rfl, rfl, rfl, h1, r1⟩ := trodAll_cons r0
  obtain ⟨rfl, rfl, rfl⟩ := trodAll_nil r1
  obtain rfl : args = #[v0, v1] := by cases args; simp_all
  obtain ⟨rfl, rfl⟩ := trodVars_none hV
  obtain ⟨a0, rfl, rfl, rfl, w0⟩ := open_int Try.underlying2 (hval 0 2 v0 rfl rfl) h0
  obtain ⟨a1, rfl, rfl, rfl, w1⟩ := open_int Try.underlying2 (hval 1 2 v1 rfl rfl) h1
  clear hA0 hval0
  simp only [List.append_nil] at hW'
  refine (walk a0 a1 w0 w1 W).mono fun e W' ⟨he, hg⟩ => ?_
  subst he
  exact ⟨_, rfl, post_of_same (pa := []) (pv := []) hW' (fun _ _ _ => (trodAll_cons_mk (shut_bool Try.underlying4 _) trodAll_mk0)) (fun sp _ => (trodAll_cons_mk (shut_int Try.underlying2 w0) (trodAll_cons_mk (shut_int Try.underlying2 w1) trodAll_mk0))) (fun _ _ => rfl) rfl
    (hg.frame _) hg.2.1 (ok_one (by kernel_rfl) rfl (okWide_bool_mk Try.underlying4 _))⟩

theorem over : Rows.checkedMiddlesRow.holds Try.pinned (OpenSpec.ofChange Rows.checkedMiddlesSpec) :=
  OpenClaim.holds_of_wide 3 Try.f3 rfl rfl rfl rfl rfl rfl rfl ⟨rfl, rfl, rfl, rfl, rfl⟩ rfl rfl rfl rfl rfl (by kernel_rfl) Try.func3 (by kernel_rfl)
    (of_decide_eq_true (by kernel_rfl)) (by unfold Func.isWrapper; first | (rw [if_pos (by decide +kernel)]; kernel_rfl) | (rw [if_neg (by decide +kernel)]; exact ⟨rfl, rfl⟩))
    (fun os started H enc _ => lifted os started H enc)

/-- ████ THE STATEMENT ████ -/
theorem proved : Rows.CheckedMiddlesSaid :=
  over
#print axioms proved
end Go.Proofs.Ytenaeaojnebokaa.checkedMiddles
