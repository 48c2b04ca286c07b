/- midrange and its reference: tolerances, starts, whether a state is valid. -/
import Derived.Test.YtenaeaojnebokaaRows
import Derived.Test.YtenaeaojnebokaaChk
import Derived.Test.YtenaeaojnebokaaDriftO
import Derived.WalkKit
import Derived.ProofKit
import Derived.WalkLawsBesides
import Derived.WalkSpells
import Derived.RegionTactic
import Derived.ChangeAlike
import Derived.BigRegion
import Derived.Outline
import Derived.Handy
namespace Go.Proofs.Ytenaeaojnebokaa
open Go.ChangeShapes Go.WideShapes Go.ChangeAt Go.RowKit
set_option linter.unusedVariables false
set_option linter.unusedSimpArgs false

/-! ### Plain -/
abbrev MS (t c mn mx : Int) : Value := .agg #[.int .i64 t, .int .i64 c, .int .i64 mn, .int .i64 mx]
def tolb (t : Int) : Bool := decide (0 ≤ t) && decide (t ≤ 4611686018427387904)
theorem tolb_yes {t : Int} (h : tolb t = true) : 0 ≤ t ∧ t ≤ 4611686018427387904 := by
  unfold tolb at h; simpa using h
theorem tolb_of {t : Int} (h1 : 0 ≤ t) (h2 : t ≤ 4611686018427387904) : tolb t = true := by
  unfold tolb; simp [h1, h2]
theorem tolb_i64 {t : Int} (h : tolb t = true) : I64 t := by
  obtain ⟨h1, h2⟩ := tolb_yes h; exact ⟨by omega, by omega⟩
/-- Whether a range is narrow. -/
def narr (t mn mx : Int) : Bool := decide (dst mx mn ≤ 2 * t)
def vld (t c mn mx : Int) : Bool := tolb t && (decide (0 ≤ c) && (decide (c ≤ 1073741824) && (decide (mn ≤ mx) && (narr t mn mx && (if c = 0 then decide (mn = 0) && decide (mx = 0) else if c = 1 then decide (mn = mx) else true)))))

/-! ### Tolerances, starts -/
theorem tolerable_any (t : Int) (w : World) : Calls Try.prog 62 #[.int .i64 t] w fun e w' => e = .returned (.bool (tolb t)) ∧ w = w' := by
  by_cases h0 : 0 ≤ t <;> by_cases h1 : t ≤ 4611686018427387904
  all_goals
    have hv : tolb t = decide (0 ≤ t ∧ t ≤ 4611686018427387904) := by unfold tolb; simp
    simp only [h0, h1, and_self, and_true, and_false, decide_true, decide_false] at hv
    rw [hv]
    clear hv
    go_enter Try.func62, Try.ntmps62
    (repeat' (first | go_values | go_skip | go_guarded | go_step | go_upon | (simp only [Int.not_lt, Int.not_le] at *; go_simp) | (go_values <;> (try go_simp)) | (go_ite <;> go_prune <;> (try go_simp)) | (split <;> (first | (rename_i hx; exact (hx _ rfl).elim) | go_prune))))
    go_ret
    exact ⟨rfl, rfl⟩
theorem rtol_any (t : Int) (w : World) : Calls Try.prog 63 #[.int .i64 t] w fun e w' => e = .returned (.bool (tolb t)) ∧ w = w' := by
  by_cases h0 : 0 ≤ t <;> by_cases h1 : t ≤ 4611686018427387904
  all_goals
    have hv : tolb t = decide (0 ≤ t ∧ t ≤ 4611686018427387904) := by unfold tolb; simp
    simp only [h0, h1, and_self, and_true, and_false, decide_true, decide_false] at hv
    rw [hv]
    clear hv
    go_enter Try.func63, Try.ntmps63
    (repeat' (first | go_values | go_skip | go_guarded | go_step | go_upon | (simp only [Int.not_lt, Int.not_le] at *; go_simp) | (go_values <;> (try go_simp)) | (go_ite <;> go_prune <;> (try go_simp)) | (split <;> (first | (rename_i hx; exact (hx _ rfl).elim) | go_prune))))
    go_ret
    exact ⟨rfl, rfl⟩
/-- What Start returns. -/
def startV (t : Int) : Value := if tolb t then .tuple #[MS t 0 0 0, .int .i64 0] else .tuple #[MS 0 0 0 0, .int .i64 9]
theorem start_any (t : Int) (w : World) : Calls Try.prog 40 #[.int .i64 t] w fun e w' => e = .returned (startV t) ∧ Below w.heap.size w w' := by
  cases h : tolb t
  all_goals
    have hS : startV t = if tolb t then .tuple #[MS t 0 0 0, .int .i64 0] else .tuple #[MS 0 0 0 0, .int .i64 9] := rfl
    rw [h] at hS
    simp only [if_true, Bool.false_eq_true, if_false] at hS
    rw [hS]
    clear hS
    have C := fun W => tolerable_any t W
    rw [h] at C
    clear h
    go_enter Try.func40, Try.ntmps40
    (repeat' (first | (go_big_may; (first | (go_at_call 62; refine (C _).mono ?_; rintro e w' ⟨rfl, rfl⟩))) | go_values | go_skip | go_guarded | go_step | go_upon | (simp only [Int.not_lt, Int.not_le] at *; go_simp) | (go_values <;> (try go_simp)) | (go_ite <;> go_prune <;> (try go_simp)) | (split <;> (first | (rename_i hx; exact (hx _ rfl).elim) | go_prune))))
    refine bodyPost_ret ?_ rfl ⟨rfl, by (repeat' (first | (with_reducible assumption) | (with_reducible exact Below.refl _ _) | (with_reducible refine Below.alloc ?_ ?_ _) | (with_reducible refine Below.setCell ?_ ?_ _) | (with_reducible refine Below.drew ?_) | (with_reducible refine below_more ?_ (by with_reducible assumption)) | go_size | omega | (with_reducible refine below_drewN ?_)))⟩
    simp [results, Try.results40, go_sem]
theorem rstart_any (t : Int) (w : World) : Calls Try.prog 41 #[.int .i64 t] w fun e w' => e = .returned (startV t) ∧ Below w.heap.size w w' := by
  cases h : tolb t
  all_goals
    have hS : startV t = if tolb t then .tuple #[MS t 0 0 0, .int .i64 0] else .tuple #[MS 0 0 0 0, .int .i64 9] := rfl
    rw [h] at hS
    simp only [if_true, Bool.false_eq_true, if_false] at hS
    rw [hS]
    clear hS
    have C := fun W => rtol_any t W
    rw [h] at C
    clear h
    go_enter Try.func41, Try.ntmps41
    (repeat' (first | (go_big_may; (first | (go_at_call 63; refine (C _).mono ?_; rintro e w' ⟨rfl, rfl⟩))) | go_values | go_skip | go_guarded | go_step | go_upon | (simp only [Int.not_lt, Int.not_le] at *; go_simp) | (go_values <;> (try go_simp)) | (go_ite <;> go_prune <;> (try go_simp)) | (split <;> (first | (rename_i hx; exact (hx _ rfl).elim) | go_prune))))
    refine bodyPost_ret ?_ rfl ⟨rfl, by (repeat' (first | (with_reducible assumption) | (with_reducible exact Below.refl _ _) | (with_reducible refine Below.alloc ?_ ?_ _) | (with_reducible refine Below.setCell ?_ ?_ _) | (with_reducible refine Below.drew ?_) | (with_reducible refine below_more ?_ (by with_reducible assumption)) | go_size | omega | (with_reducible refine below_drewN ?_)))⟩
    simp [results, Try.results41, go_sem]

/-! ### Narrow ranges -/

set_option maxRecDepth 100000 in
theorem narrow_any {t c mn mx : Int} (ht : tolb t = true) (h1 : I64 mn) (h2 : I64 mx) (w : World) : Calls Try.prog 70 #[MS t c mn mx] w fun e w' => e = .returned (.bool (narr t mn mx)) ∧ Below w.heap.size w w' := by
  obtain ⟨t1, t2⟩ := tolb_yes ht
  have C := fun W => Chk.dist_any mx mn h2 h1 W
  unfold narr
  generalize dst mx mn = d at *
  go_enter Try.func70, Try.ntmps70
  (repeat' (first | go_values | go_skip | go_guarded | go_step | go_upon | (simp only [Int.not_lt, Int.not_le] at *; go_simp) | (go_values <;> (try go_simp)) | (go_ite <;> go_prune <;> (try go_simp)) | (split <;> (first | (rename_i hx; exact (hx _ rfl).elim) | go_prune))))
  
  (refine wp_region_dq (row := none) (S := (fun Wz => Below w.heap.size w Wz ∧ w.heap.size ≤ Wz.heap.size ∧ Bx Wz (w.heap.size) (#[.int .i64 t, .int .i64 c, .int .i64 mn, .int .i64 mx]))) (n0 := w.heap.size) 10 [] [(0, 0), (1, 0), (2, 0), (3, 0), (4, 0), (5, 0), (6, 0), (7, 0), (8, 0), (9, 0)] [] (by kernel_rfl) (by kernel_rfl) (fun _ _ d _ _ h => by cases d <;> exact h) ⟨by (repeat' (first | (with_reducible assumption) | (with_reducible exact Below.refl _ _) | (with_reducible refine Below.alloc ?_ ?_ _) | (with_reducible refine Below.setCell ?_ ?_ _) | (with_reducible refine Below.drew ?_) | (with_reducible refine below_more ?_ (by with_reducible assumption)) | go_size | omega | (with_reducible refine below_drewN ?_))), (by first | go_size | omega), Bx.of (by (repeat' (first | (with_reducible assumption) | ((with_reducible refine HB.new _ _ _ ?_) <;> (go_size; done)) | (with_reducible refine HB.old (by go_size) ?_) | (with_reducible refine HB.drew ?_) | (with_reducible refine HB.over5 ?_) | (with_reducible refine HB.over4 ?_) | (with_reducible refine HB.setne (by first | go_size | (dsimp only; omega)) ?_) | (with_reducible refine HN.set ?_) | (with_reducible refine HN.setne (by first | go_size | (dsimp only; omega)) ?_) | (with_reducible refine HN.drew ?_) | (with_reducible refine HN.old (by go_size) ?_) | (with_reducible exact HN.of5 (by assumption)) | (with_reducible exact HN.new5 _ _ (by go_size)) | (with_reducible exact HN.of4 (by assumption)) | (with_reducible exact HN.new4 _ _ (by go_size)))))⟩ (fun _ _ h g => keep1 h (below_gt g) rfl) (fun _ h => h.2.1) (fun _ h => by cases h) (by simp) ?_)
  refine' dq_pure (by rfl) (by rfl) ?hv1 ?rest1
  case hv1 => (intro w hw; (try dsimp only at hw); go_split_ands; go_simp; try with_reducible rfl)
  case' rest1 => try simp only [Act.put, List.setIfInBounds_toArray, List.set_cons_zero, List.set_cons_succ]
  refine' dq_pure (by rfl) (by rfl) ?hv2 ?rest2
  case hv2 => (intro w hw; (try dsimp only at hw); go_split_ands; go_simp; try with_reducible rfl)
  case' rest2 => try simp only [Act.put, List.setIfInBounds_toArray, List.set_cons_zero, List.set_cons_succ]
  refine' dq_pure (by rfl) (by rfl) ?hv3 ?rest3
  case hv3 => (intro w hw; (try dsimp only at hw); go_split_ands; go_simp; try with_reducible rfl)
  case' rest3 => try simp only [Act.put, List.setIfInBounds_toArray, List.set_cons_zero, List.set_cons_succ]
  refine' dq_pure (by rfl) (by rfl) ?hv4 ?rest4
  case hv4 => (intro w hw; (try dsimp only at hw); go_split_ands; go_simp; try with_reducible rfl)
  case' rest4 => try simp only [Act.put, List.setIfInBounds_toArray, List.set_cons_zero, List.set_cons_succ]
  refine' dq_call (by rfl) (by rfl) ?hv5 ?hc5 ?rest5
  case hv5 => (intro w; go_simp; exact ⟨rfl, rfl⟩)
  case hc5 => exact (fun w hw => calls_gs (C _))
  case' rest5 => try simp only [Act.put, List.setIfInBounds_toArray, List.set_cons_zero, List.set_cons_succ]
  refine' dq_pure (by rfl) (by rfl) ?hv6 ?rest6
  case hv6 => (intro w hw; (try dsimp only at hw); go_split_ands; go_simp; try with_reducible rfl)
  case' rest6 => try simp only [Act.put, List.setIfInBounds_toArray, List.set_cons_zero, List.set_cons_succ]
  refine' dq_pure (by rfl) (by rfl) ?hv7 ?rest7
  case hv7 => (intro w hw; (try dsimp only at hw); go_split_ands; go_simp; try with_reducible rfl)
  case' rest7 => try simp only [Act.put, List.setIfInBounds_toArray, List.set_cons_zero, List.set_cons_succ]
  refine' dq_pure (by rfl) (by rfl) ?hv8 ?rest8
  case hv8 => (intro w hw; (try dsimp only at hw); go_split_ands; go_simp; try with_reducible rfl)
  case' rest8 => try simp only [Act.put, List.setIfInBounds_toArray, List.set_cons_zero, List.set_cons_succ]
  refine' dq_pure (by rfl) (by rfl) ?hv9 ?rest9
  case hv9 => (intro w hw; (try dsimp only at hw); go_split_ands; go_simp; try with_reducible rfl)
  case' rest9 => try simp only [Act.put, List.setIfInBounds_toArray, List.set_cons_zero, List.set_cons_succ]
  refine' dq_pure (by rfl) (by rfl) ?hv10 ?rest10
  case hv10 => (intro w hw; (try dsimp only at hw); go_split_ands; go_simp; try with_reducible rfl)
  case' rest10 => try simp only [Act.put, List.setIfInBounds_toArray, List.set_cons_zero, List.set_cons_succ]
  refine dq_nil ?_
  simp only [fa, List.drop_succ_cons, List.drop_zero]
  rintro W ⟨⟨hb0, hn0, ⟨B1, B1c, B1f, B1l⟩⟩, hgl⟩ hbs
  clear hbs hgl
  (repeat' (first | go_values | go_skip | go_guarded | go_step | go_upon | (simp only [Int.not_lt, Int.not_le] at *; go_simp) | (go_values <;> (try go_simp)) | (go_ite <;> go_prune <;> (try go_simp)) | (split <;> (first | (rename_i hx; exact (hx _ rfl).elim) | go_prune))))
  go_ret
  exact ⟨rfl, by (repeat' (first | (with_reducible assumption) | (with_reducible exact Below.refl _ _) | (with_reducible refine Below.alloc ?_ ?_ _) | (with_reducible refine Below.setCell ?_ ?_ _) | (with_reducible refine Below.drew ?_) | (with_reducible refine below_more ?_ (by with_reducible assumption)) | go_size | omega | (with_reducible refine below_drewN ?_)))⟩
set_option maxRecDepth 100000 in
theorem rfits_any {t c mn mx : Int} (ht : tolb t = true) (h1 : I64 mn) (h2 : I64 mx) (w : World) : Calls Try.prog 72 #[MS t c mn mx] w fun e w' => e = .returned (.bool (narr t mn mx)) ∧ Below w.heap.size w w' := by
  obtain ⟨t1, t2⟩ := tolb_yes ht
  have C := fun W => Chk.rdist_any mn mx h1 h2 W
  unfold narr
  rw [dst_comm mx mn]
  generalize dst mn mx = d at *
  go_enter Try.func72, Try.ntmps72
  (repeat' (first | go_values | go_skip | go_guarded | go_step | go_upon | (simp only [Int.not_lt, Int.not_le] at *; go_simp) | (go_values <;> (try go_simp)) | (go_ite <;> go_prune <;> (try go_simp)) | (split <;> (first | (rename_i hx; exact (hx _ rfl).elim) | go_prune))))
  
  (refine wp_region_dq (row := none) (S := (fun Wz => Below w.heap.size w Wz ∧ w.heap.size ≤ Wz.heap.size ∧ Bx Wz (w.heap.size) (#[.int .i64 t, .int .i64 c, .int .i64 mn, .int .i64 mx]))) (n0 := w.heap.size) 10 [] [(0, 0), (1, 0), (2, 0), (3, 0), (4, 0), (5, 0), (6, 0), (7, 0), (8, 0), (9, 0)] [] (by kernel_rfl) (by kernel_rfl) (fun _ _ d _ _ h => by cases d <;> exact h) ⟨by (repeat' (first | (with_reducible assumption) | (with_reducible exact Below.refl _ _) | (with_reducible refine Below.alloc ?_ ?_ _) | (with_reducible refine Below.setCell ?_ ?_ _) | (with_reducible refine Below.drew ?_) | (with_reducible refine below_more ?_ (by with_reducible assumption)) | go_size | omega | (with_reducible refine below_drewN ?_))), (by first | go_size | omega), Bx.of (by (repeat' (first | (with_reducible assumption) | ((with_reducible refine HB.new _ _ _ ?_) <;> (go_size; done)) | (with_reducible refine HB.old (by go_size) ?_) | (with_reducible refine HB.drew ?_) | (with_reducible refine HB.over5 ?_) | (with_reducible refine HB.over4 ?_) | (with_reducible refine HB.setne (by first | go_size | (dsimp only; omega)) ?_) | (with_reducible refine HN.set ?_) | (with_reducible refine HN.setne (by first | go_size | (dsimp only; omega)) ?_) | (with_reducible refine HN.drew ?_) | (with_reducible refine HN.old (by go_size) ?_) | (with_reducible exact HN.of5 (by assumption)) | (with_reducible exact HN.new5 _ _ (by go_size)) | (with_reducible exact HN.of4 (by assumption)) | (with_reducible exact HN.new4 _ _ (by go_size)))))⟩ (fun _ _ h g => keep1 h (below_gt g) rfl) (fun _ h => h.2.1) (fun _ h => by cases h) (by simp) ?_)
  refine' dq_pure (by rfl) (by rfl) ?hv11 ?rest11
  case hv11 => (intro w hw; (try dsimp only at hw); go_split_ands; go_simp; try with_reducible rfl)
  case' rest11 => try simp only [Act.put, List.setIfInBounds_toArray, List.set_cons_zero, List.set_cons_succ]
  refine' dq_pure (by rfl) (by rfl) ?hv12 ?rest12
  case hv12 => (intro w hw; (try dsimp only at hw); go_split_ands; go_simp; try with_reducible rfl)
  case' rest12 => try simp only [Act.put, List.setIfInBounds_toArray, List.set_cons_zero, List.set_cons_succ]
  refine' dq_pure (by rfl) (by rfl) ?hv13 ?rest13
  case hv13 => (intro w hw; (try dsimp only at hw); go_split_ands; go_simp; try with_reducible rfl)
  case' rest13 => try simp only [Act.put, List.setIfInBounds_toArray, List.set_cons_zero, List.set_cons_succ]
  refine' dq_pure (by rfl) (by rfl) ?hv14 ?rest14
  case hv14 => (intro w hw; (try dsimp only at hw); go_split_ands; go_simp; try with_reducible rfl)
  case' rest14 => try simp only [Act.put, List.setIfInBounds_toArray, List.set_cons_zero, List.set_cons_succ]
  refine' dq_call (by rfl) (by rfl) ?hv15 ?hc15 ?rest15
  case hv15 => (intro w; go_simp; exact ⟨rfl, rfl⟩)
  case hc15 => exact (fun w hw => calls_gs (C _))
  case' rest15 => try simp only [Act.put, List.setIfInBounds_toArray, List.set_cons_zero, List.set_cons_succ]
  refine' dq_pure (by rfl) (by rfl) ?hv16 ?rest16
  case hv16 => (intro w hw; (try dsimp only at hw); go_split_ands; go_simp; try with_reducible rfl)
  case' rest16 => try simp only [Act.put, List.setIfInBounds_toArray, List.set_cons_zero, List.set_cons_succ]
  refine' dq_pure (by rfl) (by rfl) ?hv17 ?rest17
  case hv17 => (intro w hw; (try dsimp only at hw); go_split_ands; go_simp; try with_reducible rfl)
  case' rest17 => try simp only [Act.put, List.setIfInBounds_toArray, List.set_cons_zero, List.set_cons_succ]
  refine' dq_pure (by rfl) (by rfl) ?hv18 ?rest18
  case hv18 => (intro w hw; (try dsimp only at hw); go_split_ands; go_simp; try with_reducible rfl)
  case' rest18 => try simp only [Act.put, List.setIfInBounds_toArray, List.set_cons_zero, List.set_cons_succ]
  refine' dq_pure (by rfl) (by rfl) ?hv19 ?rest19
  case hv19 => (intro w hw; (try dsimp only at hw); go_split_ands; go_simp; try with_reducible rfl)
  case' rest19 => try simp only [Act.put, List.setIfInBounds_toArray, List.set_cons_zero, List.set_cons_succ]
  refine' dq_pure (by rfl) (by rfl) ?hv20 ?rest20
  case hv20 => (intro w hw; (try dsimp only at hw); go_split_ands; go_simp; try with_reducible rfl)
  case' rest20 => try simp only [Act.put, List.setIfInBounds_toArray, List.set_cons_zero, List.set_cons_succ]
  refine dq_nil ?_
  simp only [fa, List.drop_succ_cons, List.drop_zero]
  rintro W ⟨⟨hb0, hn0, ⟨B1, B1c, B1f, B1l⟩⟩, hgl⟩ hbs
  clear hbs hgl
  (repeat' (first | go_values | go_skip | go_guarded | go_step | go_upon | (simp only [Int.not_lt, Int.not_le] at *; go_simp) | (go_values <;> (try go_simp)) | (go_ite <;> go_prune <;> (try go_simp)) | (split <;> (first | (rename_i hx; exact (hx _ rfl).elim) | go_prune))))
  go_ret
  exact ⟨rfl, by (repeat' (first | (with_reducible assumption) | (with_reducible exact Below.refl _ _) | (with_reducible refine Below.alloc ?_ ?_ _) | (with_reducible refine Below.setCell ?_ ?_ _) | (with_reducible refine Below.drew ?_) | (with_reducible refine below_more ?_ (by with_reducible assumption)) | go_size | omega | (with_reducible refine below_drewN ?_)))⟩
end Go.Proofs.Ytenaeaojnebokaa
