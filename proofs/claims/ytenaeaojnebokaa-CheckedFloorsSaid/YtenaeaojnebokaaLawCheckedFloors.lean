/- Proved: tscodeclaw01.CheckedFloors returns true for all arguments. No condition. -/
import Derived.Test.YtenaeaojnebokaaRows
import Derived.Test.YtenaeaojnebokaaChk
import Derived.WalkKit
import Derived.ProofKit
import Derived.OpenShut
namespace Go.Proofs.Ytenaeaojnebokaa.checkedFloors
open Go.ChangeShapes Go.WideShapes Go.ChangeAt Go.RowKit
set_option linter.unusedVariables false

theorem own : ownKnob Try.prog.godebug = none := by kernel_rfl

theorem fdiv_is (a b : Int) (ha : I64 a) (hb : I64 b) (p : Bool) (z : dvb a b = p) (w : World) :
    Calls Try.prog 25 #[.int .i64 a, .int .i64 b] w fun e w' => e = .returned (.tuple #[.int .i64 (orZ p (a.fdiv b)), .bool p]) ∧ w = w' := by
  subst z; exact fdiv_any a b ha hb w
theorem cdiv_is (a b : Int) (ha : I64 a) (hb : I64 b) (p : Bool) (z : dvb a b = p) (w : World) :
    Calls Try.prog 27 #[.int .i64 a, .int .i64 b] w fun e w' => e = .returned (.tuple #[.int .i64 (orZ p (cdv a b)), .bool p]) ∧ w = w' := by
  subst z; exact cdiv_any a b ha hb w
theorem fmod_is (a b : Int) (ha : I64 a) (hb : I64 b) (p : Bool) (z : nz b = p) (w : World) :
    Calls Try.prog 26 #[.int .i64 a, .int .i64 b] w fun e w' => e = .returned (.tuple #[.int .i64 (orZ p (a.fmod b)), .bool p]) ∧ w = w' := by
  subst z; exact fmod_any a b ha hb w

theorem walk (a b : Int) (w0 : (Lit.int .i64 a).wf = true) (w1 : (Lit.int .i64 b).wf = true) (w : World) :
    Calls Try.prog 6 #[.int .i64 a, .int .i64 b] w fun e w' => e = .returned (.bool true) ∧ Grown w w' := by
  have ha := I64.of_wf w0
  have hb := I64.of_wf w1
  by_cases h0 : b = 0
  · have z := hid (dvb_no0 (a := a) h0)
    have z2 : Hid (nz b = false) := dF (fun h => h h0)
    have t1 : (b == 0) = true := beq_iff_eq.2 h0
    have t2 : (b != 0) = false := by rw [bne, t1]; rfl
    clear h0
    go_enter Try.func6, Try.ntmps6
    go_wp2_with (first | (go_at_call 25; refine (fdiv_is a b ha hb false z.out _).mono ?_; rintro e w' ⟨rfl, rfl⟩) | (go_at_call 27; refine (cdiv_is a b ha hb false z.out _).mono ?_; rintro e w' ⟨rfl, rfl⟩) | (go_at_call 26; refine (fmod_is a b ha hb false z2.out _).mono ?_; rintro e w' ⟨rfl, rfl⟩) | (go_at_call 15; refine (known01_any _).mono ?_; rintro e w' ⟨rfl, rfl⟩))
    all_goals (go_ret; exact ⟨ret_b rfl, Grown.refl _⟩)
  have t1 : (b == 0) = false := beq_eq_false_iff_ne.2 h0
  have t2 : (b != 0) = true := bne_iff_ne.2 h0
  have z2 : Hid (nz b = true) := dT h0
  by_cases hm : a = -9223372036854775808 ∧ b = -1
  · have z := hid (dvb_no1 hm.1 hm.2)
    clear h0 hm
    go_enter Try.func6, Try.ntmps6
    go_wp2_with (first | (go_at_call 25; refine (fdiv_is a b ha hb false z.out _).mono ?_; rintro e w' ⟨rfl, rfl⟩) | (go_at_call 27; refine (cdiv_is a b ha hb false z.out _).mono ?_; rintro e w' ⟨rfl, rfl⟩) | (go_at_call 26; refine (fmod_is a b ha hb true z2.out _).mono ?_; rintro e w' ⟨rfl, rfl⟩) | (go_at_call 15; refine (known01_any _).mono ?_; rintro e w' ⟨rfl, rfl⟩))
    all_goals (go_ret; exact ⟨ret_b rfl, Grown.refl _⟩)
  have zz := dvb_yes h0 hm
  have z := hid zz
  have e1 : (wrap64 (wrap64 (a.fdiv b * b) + a.fmod b) == a) = true := beq_iff_eq.2 (floors_eq a b ha)
  have fb := fmod_bd a b h0
  obtain ⟨fb1, fb2⟩ := fb
  have e2 : decide (dst (a.fmod b) 0 < dst b 0) = true := dT fb1
  have hr := fmod_in a b hb h0
  have hc := cdv_eq a b h0
  have hci := cdv_in a b ha hb zz
  have oz1 : orZ true (a.fdiv b) = a.fdiv b := rfl
  have oz2 : orZ true (cdv a b) = cdv a b := rfl
  have oz3 : orZ true (a.fmod b) = a.fmod b := rfl
  by_cases hr0 : a.fmod b = 0
  · rw [if_pos hr0] at hc
    have t3 : (a.fmod b == 0) = true := beq_iff_eq.2 hr0
    have t4 : (a.fmod b != 0) = false := by rw [bne, t3]; rfl
    have t5 : (cdv a b == wrap64 (a.fdiv b)) = true := by
      rw [wrap64_id _ (by rw [hc, Int.add_zero] at hci; exact hci)]; exact beq_iff_eq.2 (by omega)
    have t6 : (cdv a b == a.fdiv b) = true := beq_iff_eq.2 (by omega)
    clear hr0 hc hm zz fb2 fb1 h0
    go_enter Try.func6, Try.ntmps6
    go_wp2_with (first | (go_at_call 25; refine (fdiv_is a b ha hb true z.out _).mono ?_; rintro e w' ⟨rfl, rfl⟩) | (go_at_call 27; refine (cdiv_is a b ha hb true z.out _).mono ?_; rintro e w' ⟨rfl, rfl⟩) | (go_at_call 26; refine (fmod_is a b ha hb true z2.out _).mono ?_; rintro e w' ⟨rfl, rfl⟩) | (go_at_call 15; refine (known01_any _).mono ?_; rintro e w' ⟨rfl, rfl⟩) | (go_at_call 14; first | ((with_reducible refine (dist_any _ 0 hr i64_zero _).mono ?_); rintro e w' ⟨rfl, rfl⟩) | ((with_reducible refine (dist_any b 0 hb i64_zero _).mono ?_); rintro e w' ⟨rfl, rfl⟩)))
    all_goals (go_ret; exact ⟨ret_b rfl, Grown.refl _⟩)
  · rw [if_neg hr0] at hc
    have t3 : (a.fmod b == 0) = false := beq_eq_false_iff_ne.2 hr0
    have t4 : (a.fmod b != 0) = true := bne_iff_ne.2 hr0
    have t5 : (cdv a b == wrap64 (a.fdiv b + 1)) = true := by
      rw [← hc, wrap64_id _ hci]; exact beq_iff_eq.2 rfl
    have t6 : (decide (a.fmod b < 0) == decide (b < 0)) = true := beq_iff_eq.2 (fb2 hr0)
    clear hr0 hc hm zz fb2 fb1 h0
    go_enter Try.func6, Try.ntmps6
    go_wp2_with (first | (go_at_call 25; refine (fdiv_is a b ha hb true z.out _).mono ?_; rintro e w' ⟨rfl, rfl⟩) | (go_at_call 27; refine (cdiv_is a b ha hb true z.out _).mono ?_; rintro e w' ⟨rfl, rfl⟩) | (go_at_call 26; refine (fmod_is a b ha hb true z2.out _).mono ?_; rintro e w' ⟨rfl, rfl⟩) | (go_at_call 15; refine (known01_any _).mono ?_; rintro e w' ⟨rfl, rfl⟩) | (go_at_call 14; first | ((with_reducible refine (dist_any _ 0 hr i64_zero _).mono ?_); rintro e w' ⟨rfl, rfl⟩) | ((with_reducible refine (dist_any b 0 hb i64_zero _).mono ?_); rintro e w' ⟨rfl, rfl⟩)))
    all_goals (go_ret; exact ⟨ret_b rfl, Grown.refl _⟩)

/-! ### THE ROW's STEP: WRITTEN OUT: LEAVE IT -/
set_option maxRecDepth 100000 in
theorem lifted (os : Os) (started : os.Started) (H : Type) (enc : TypeId × Value → H) :
    ReturnsInHanded {} Try.checked os 6 .any (Rows.checkedFloorsSpec.pre6 enc Try.prog Try.f6 Rows.checkedFloorsRow.domain false) (Rows.checkedFloorsSpec.post enc Try.prog Try.f6 false true false false) := by
  refine returnsInHanded_of_change (C := Try.checked) own started (by kernel_rfl) Try.func6
    (ChangeSpec.witness6 (enc := enc) (C := Try.checked) false ⟨#[], #[.int .i64 0, .int .i64 0], []⟩ 8 (by kernel_rfl) (by kernel_rfl) (by kernel_rfl) (by kernel_rfl)) ?_
  intro W base args ds gs before hval0 hW hcnd _
  have hval : ∀ (j : Nat) t v, Try.f6.params[j]? = some t → args[j]? = some v → Value.okWide Try.prog W .any base t v := hval0
  have hW' := hW
  obtain ⟨p, q, hA0, hV, rfl, hfz, hnd⟩ := hW
  have hA : DataW.TrodAll enc Try.prog W 0 (fun _ => true) true Try.f6.params.toList args.toList ds p := hA0
  rw [Try.params6] at hA hval
  obtain ⟨v0, vs0, d0, ds0, p0, q0, hargs, rfl, rfl, h0, r0⟩ := trodAll_cons hA
  obtain ⟨v1, vs1, d1, ds1, p1, q1, rfl, rfl, rfl, h1, r1⟩ := trodAll_cons r0
  obtain ⟨rfl, rfl, rfl⟩ := trodAll_nil r1
  obtain rfl : args = #[v0, v1] := by cases args; simp_all
  obtain ⟨rfl, rfl⟩ := trodVars_none hV
  obtain ⟨a0, rfl, rfl, rfl, w0⟩ := open_int Try.underlying2 (hval 0 2 v0 rfl rfl) h0
  obtain ⟨a1, rfl, rfl, rfl, w1⟩ := open_int Try.underlying2 (hval 1 2 v1 rfl rfl) h1
  clear hA0 hval0
  simp only [List.append_nil] at hW'
  refine (walk a0 a1 w0 w1 W).mono fun e W' ⟨he, hg⟩ => ?_
  subst he
  exact ⟨_, rfl, post_of_same (pa := []) (pv := []) hW' (fun _ _ _ => (trodAll_cons_mk (shut_bool Try.underlying4 _) trodAll_mk0)) (fun sp _ => (trodAll_cons_mk (shut_int Try.underlying2 w0) (trodAll_cons_mk (shut_int Try.underlying2 w1) trodAll_mk0))) (fun _ _ => rfl) rfl
    (hg.frame _) hg.2.1 (ok_one (by kernel_rfl) rfl (okWide_bool_mk Try.underlying4 _))⟩

theorem over : Rows.checkedFloorsRow.holds Try.pinned (OpenSpec.ofChange Rows.checkedFloorsSpec) :=
  OpenClaim.holds_of_wide 6 Try.f6 rfl rfl rfl rfl rfl rfl rfl ⟨rfl, rfl, rfl, rfl, rfl⟩ rfl rfl rfl rfl rfl (by kernel_rfl) Try.func6 (by kernel_rfl)
    (of_decide_eq_true (by kernel_rfl)) (by unfold Func.isWrapper; first | (rw [if_pos (by decide +kernel)]; kernel_rfl) | (rw [if_neg (by decide +kernel)]; exact ⟨rfl, rfl⟩))
    (fun os started H enc _ => lifted os started H enc)

/-- ████ THE STATEMENT ████ -/
theorem proved : Rows.CheckedFloorsSaid :=
  over
#print axioms proved
end Go.Proofs.Ytenaeaojnebokaa.checkedFloors
