/- Proved: tscodeclaw01.CheckedApplies returns true for all arguments. No condition. -/
import Derived.Test.YtenaeaojnebokaaRows
import Derived.Test.YtenaeaojnebokaaChk
import Derived.Test.YtenaeaojnebokaaMade
import Derived.Test.YtenaeaojnebokaaLaw
import Derived.WalkKit
import Derived.ProofKit
import Derived.OpenShut
import Derived.SizedLaws
import Derived.Outline
namespace Go.Proofs.Ytenaeaojnebokaa.checkedApplies
open Go.ChangeShapes Go.WideShapes Go.ChangeAt Go.RowKit
set_option linter.unusedVariables false

theorem apply_diff (a b : Int) (ha : I64 a) : wrap64 (b + IntKind.u64.wrap (a - b)) = a := by
  have e : wrap64 (b + IntKind.u64.wrap (a - b)) = wrap64 a := by simp only [wrap64, IntKind.wrap_u64]; omega
  rw [e, wrap64_id a ha]
theorem diff_in (a b : Int) : U64 (IntKind.u64.wrap (a - b)) := u64_wrap_in _

theorem walk (w : World) (a0 : Int) (h0 : I64 a0) (a1 : Int) (h1 : I64 a1) (a2 : Int) (h2 : I64 a2) (a3 : Int) (h3 : U64 a3) (s4 : Option Addr) (l4 c4 : Nat) (z4 : List Int) (h4 : SlZ w .i64 (.slice s4 l4 c4) z4) :
    Calls Try.prog 4 #[.int .i64 a0, .int .i64 a1, .int .i64 a2, .int .u64 a3, .slice s4 l4 c4] w fun e w' => e = .returned (.bool true) ∧ Below w.heap.size w w' := by
  have TN := tape_new (t := 64) h4
  obtain ⟨tk, tb⟩ := TN
  have t1 : (wrap64 (a1 + IntKind.u64.wrap (a0 - a1)) == a0) = true := beq_iff_eq.2 (apply_diff a0 a1 h0)
  have D1 := diff_in a0 a1
  go_enter Try.func4, Try.ntmps4
  go_wp2_with (first | (go_at_call 16; refine (new_any _ _ _ _).mono ?_; rintro e w' ⟨rfl, rfl⟩) | (go_at_call 17; refine (int_any _ _ (by assumption)).mono ?_; rintro e w' ⟨r, hr, rfl, ht, hg⟩) | (go_at_call 18; refine (next_any _ 3000 (by exact ⟨by decide, by decide⟩) _ (by assumption)).mono ?_; rintro e w' ⟨n, ⟨n1, n2, n3⟩, rfl, ht, hg⟩; have hn : I64 n := ⟨by omega, by omega⟩) | (go_at_call 19; refine (near_any _ _ _ (by assumption) (by assumption) (by assumption) _).mono ?_; rintro e w' ⟨rfl, rfl⟩) | (go_at_call 20; refine (rnear_any _ _ _ (by assumption) (by assumption) (by assumption) _).mono ?_; rintro e w' ⟨rfl, rfl⟩) | (go_at_call 21; refine (apply_any _ _ (by first | assumption | exact diff_in _ _) _).mono ?_; rintro e w' ⟨rfl, rfl⟩) | (go_at_call 22; refine (rapply_any _ _ (by assumption) _).mono ?_; rintro e w' ⟨rfl, rfl⟩) | (go_at_call 23; refine (diff_any _ _ _).mono ?_; rintro e w' ⟨rfl, rfl⟩) | (go_at_call 15; refine (known01_any _).mono ?_; rintro e w' ⟨rfl, rfl⟩))
  go_ret
  exact ⟨ret_b (by first | rfl | exact (beq_iff_eq.2 (apply_diff _ _ (by assumption)))), by repeat (first | assumption | refine Below.grown ?_ (by assumption) (Nat.le_of_lt (TapeOk.lt (by assumption))) (fun k e => Nat.le_of_eq (Option.some.inj e)))⟩

/-! ### The row -/
set_option maxRecDepth 100000 in
theorem lifted (os : Os) (started : os.Started) (H : Type) (enc : TypeId × Value → H) :
    ReturnsInHanded {} Try.checked os 4 .any (Rows.checkedAppliesSpec.pre6 enc Try.prog Try.f4 Rows.checkedAppliesRow.domain false) (Rows.checkedAppliesSpec.post enc Try.prog Try.f4 false true false false) := by
  refine returnsInHanded_of_change_sized (C := Try.checked) own started (by kernel_rfl) Try.func4
    (ChangeSpec.witness6 (enc := enc) (C := Try.checked) false ⟨#[], #[.int .i64 0, .int .i64 0, .int .i64 0, .int .u64 0, .slice none 0 0], []⟩ 8 (by kernel_rfl) (by kernel_rfl) (by kernel_rfl) (by kernel_rfl)) ?_
  intro W base args ds gs before hval0 hW hcnd hsz _
  have hval : ∀ (j : Nat) t v, Try.f4.params[j]? = some t → args[j]? = some v → Value.okWide Try.prog W .any base t v := hval0
  have hW' := hW
  obtain ⟨p, q, hA0, hV, rfl, hfz, hnd⟩ := hW
  have hA : DataW.TrodAll enc Try.prog W 0 (fun _ => true) true Try.f4.params.toList args.toList ds p := hA0
  rw [Try.params4] at hA hval
  obtain ⟨v0, vs0, d0, ds0, p0, q0, hargs, rfl, rfl, g0, r0⟩ := trodAll_cons hA
  obtain ⟨v1, vs1, d1, ds1, p1, q1, rfl, rfl, rfl, g1, r1⟩ := trodAll_cons r0
  obtain ⟨v2, vs2, d2, ds2, p2, q2, rfl, rfl, rfl, g2, r2⟩ := trodAll_cons r1
  obtain ⟨v3, vs3, d3, ds3, p3, q3, rfl, rfl, rfl, g3, r3⟩ := trodAll_cons r2
  obtain ⟨v4, vs4, d4, ds4, p4, q4, rfl, rfl, rfl, g4, r4⟩ := trodAll_cons r3
  obtain ⟨rfl, rfl, rfl⟩ := trodAll_nil r4
  obtain rfl : args = #[v0, v1, v2, v3, v4] := by cases args; simp_all
  obtain ⟨rfl, rfl⟩ := trodVars_none hV
  have hlt : ∀ x ∈ (p0 ++ (p1 ++ (p2 ++ (p3 ++ (p4 ++ []))))) ++ [], x.block < W.heap.size := fun x hx => hW'.lt x hx
  obtain ⟨a0, rfl, rfl, rfl, w0⟩ := open_int Try.underlying2 (hval 0 2 v0 rfl rfl) g0
  obtain ⟨a1, rfl, rfl, rfl, w1⟩ := open_int Try.underlying2 (hval 1 2 v1 rfl rfl) g1
  obtain ⟨a2, rfl, rfl, rfl, w2⟩ := open_int Try.underlying2 (hval 2 2 v2 rfl rfl) g2
  obtain ⟨a3, rfl, rfl, rfl, w3⟩ := open_int Try.underlying23 (hval 3 23 v3 rfl rfl) g3
  obtain ⟨z4, hs4⟩ := open_slz Try.underlying27 Try.underlying3 (by kernel_rfl) (hval 4 27 v4 rfl rfl) g4 (fun x hx => hlt x (by simp [hx]))
  have hs4' := hs4
  obtain ⟨s4, l4, c4, rfl, _⟩ := hs4'
  refine (walk W a0 (I64.of_wf w0) a1 (I64.of_wf w1) a2 (I64.of_wf w2) a3 (U64.of_wf w3) s4 l4 c4 z4 hs4).mono fun e W' ⟨he, hb⟩ => ?_
  subst he
  exact ⟨_, rfl, law_post laidOut (by kernel_rfl) rfl rfl Try.underlying4 hW' rfl rfl rfl hb⟩

theorem over : Rows.checkedAppliesRow.holds Try.pinned (OpenSpec.ofChange Rows.checkedAppliesSpec) :=
  OpenClaim.holds_of_wide 4 Try.f4 rfl rfl rfl rfl rfl rfl rfl ⟨rfl, rfl, rfl, rfl, rfl⟩ rfl rfl rfl rfl rfl (by kernel_rfl) Try.func4 (by kernel_rfl)
    (of_decide_eq_true (by kernel_rfl)) (by unfold Func.isWrapper; first | (rw [if_pos (by decide +kernel)]; kernel_rfl) | (rw [if_neg (by decide +kernel)]; exact ⟨rfl, rfl⟩))
    (fun os started H enc _ => lifted os started H enc)

/-- The given statement. -/
theorem proved : Rows.CheckedAppliesSaid :=
  over
#print axioms proved
end Go.Proofs.Ytenaeaojnebokaa.checkedApplies
