/- midrange: what a state ends with; one step. -/
import Derived.Test.YtenaeaojnebokaaRows
import Derived.Test.YtenaeaojnebokaaMidV
import Derived.WalkKit
import Derived.ProofKit
import Derived.WalkLawsBesides
import Derived.WalkSpells
import Derived.RegionTactic
import Derived.ChangeAlike
import Derived.BigRegion
import Derived.Outline
import Derived.Handy
namespace Go.Proofs.Ytenaeaojnebokaa
open Go.ChangeShapes Go.WideShapes Go.ChangeAt Go.RowKit
set_option linter.unusedVariables false
set_option linter.unusedSimpArgs false

/-- A list of no constant or of one. -/
def Ended (B : Nat) (W : World) (v : Value) (o : Option (Int × Int)) : Prop :=
  (v = .slice none 0 0 ∧ o = none) ∨ ∃ b c m, v = .slice (some ⟨b, 0, none⟩) 1 1 ∧ o = some (c, m) ∧ B ≤ b ∧ HB W b #[.int .i64 c, .int .i64 m]
theorem Ended.mono {B B' : Nat} {W : World} {v : Value} {o : Option (Int × Int)} (h : Ended B W v o) (hB : B' ≤ B) : Ended B' W v o := by
  rcases h with h | ⟨b, c, m, h1, h2, h3, h4⟩
  · exact .inl h
  · exact .inr ⟨b, c, m, h1, h2, Nat.le_trans hB h3, h4⟩
theorem Ended.below {B : Nat} {W W' : World} {v : Value} {o : Option (Int × Int)} (h : Ended B W v o) (hb : Below W.heap.size W W') : Ended B W' v o := by
  rcases h with h | ⟨b, c, m, h1, h2, h3, h4⟩
  · exact .inl h
  · exact .inr ⟨b, c, m, h1, h2, h3, h4.below hb⟩
/-- What a state ends with. -/
def fin (c mn mx : Int) : Option (Int × Int) := if c = 0 then none else some (c, (mn + mx) / 2)


set_option maxRecDepth 100000 in
theorem rest_any {t c mn mx : Int} (h1 : I64 mn) (h2 : I64 mx) (w : World) : Calls Try.prog 51 #[MS t c mn mx] w fun e w' => ∃ v, e = .returned v ∧ Ended w.heap.size w' v (fin c mn mx) ∧ Below w.heap.size w w' := by
  unfold fin
  by_cases hc : c = 0
  · subst hc
    rw [if_pos rfl]
    go_enter Try.func51, Try.ntmps51
    (repeat' (first | go_values | go_skip | go_guarded | go_step | go_upon | (simp only [Int.not_lt, Int.not_le] at *; go_simp) | (go_values <;> (try go_simp)) | (go_ite <;> go_prune <;> (try go_simp)) | (split <;> (first | (rename_i hx; exact (hx _ rfl).elim) | go_prune))))
    go_ret
    exact ⟨_, rfl, .inl ⟨rfl, rfl⟩, by (repeat' (first | (with_reducible assumption) | (with_reducible exact Below.refl _ _) | (with_reducible refine Below.alloc ?_ ?_ _) | (with_reducible refine Below.setCell ?_ ?_ _) | (with_reducible refine Below.drew ?_) | (with_reducible refine below_more ?_ (by with_reducible assumption)) | go_size | omega | (with_reducible refine below_drewN ?_)))⟩
  · rw [if_neg hc]
    have C := fun W => Chk.mid_any mn mx h1 h2 W
    generalize (mn + mx) / 2 = m at *
    go_enter Try.func51, Try.ntmps51
    (repeat' (first | go_values | go_skip | go_guarded | go_step | go_upon | (simp only [Int.not_lt, Int.not_le] at *; go_simp) | (go_values <;> (try go_simp)) | (go_ite <;> go_prune <;> (try go_simp)) | (split <;> (first | (rename_i hx; exact (hx _ rfl).elim) | go_prune))))
    
    (refine wp_region_dq (row := none) (S := (fun Wz => Below w.heap.size w Wz ∧ w.heap.size ≤ Wz.heap.size ∧ Bx Wz (w.heap.size) (#[.int .i64 t, .int .i64 c, .int .i64 mn, .int .i64 mx]))) (n0 := w.heap.size) 8 [] [(0, 0), (1, 0), (2, 0), (3, 0), (4, 0), (5, 0), (6, 0), (7, 0)] [] (by kernel_rfl) (by kernel_rfl) (fun _ _ d _ _ h => by cases d <;> exact h) ⟨by (repeat' (first | (with_reducible assumption) | (with_reducible exact Below.refl _ _) | (with_reducible refine Below.alloc ?_ ?_ _) | (with_reducible refine Below.setCell ?_ ?_ _) | (with_reducible refine Below.drew ?_) | (with_reducible refine below_more ?_ (by with_reducible assumption)) | go_size | omega | (with_reducible refine below_drewN ?_))), (by first | go_size | omega), Bx.of (by (repeat' (first | (with_reducible assumption) | ((with_reducible refine HB.new _ _ _ ?_) <;> (go_size; done)) | (with_reducible refine HB.old (by go_size) ?_) | (with_reducible refine HB.drew ?_) | (with_reducible refine HB.over5 ?_) | (with_reducible refine HB.over4 ?_) | (with_reducible refine HB.setne (by first | go_size | (dsimp only; omega)) ?_) | (with_reducible refine HN.set ?_) | (with_reducible refine HN.setne (by first | go_size | (dsimp only; omega)) ?_) | (with_reducible refine HN.drew ?_) | (with_reducible refine HN.old (by go_size) ?_) | (with_reducible exact HN.of5 (by assumption)) | (with_reducible exact HN.new5 _ _ (by go_size)) | (with_reducible exact HN.of4 (by assumption)) | (with_reducible exact HN.new4 _ _ (by go_size)))))⟩ (fun _ _ h g => keep1 h (below_gt g) rfl) (fun _ h => h.2.1) (fun _ h => by cases h) (by simp) ?_)
    refine' dq_pure (by rfl) (by rfl) ?hv1 ?rest1
    case hv1 => (intro w hw; (try dsimp only at hw); go_split_ands; go_simp; try with_reducible rfl)
    case' rest1 => try simp only [Act.put, List.setIfInBounds_toArray, List.set_cons_zero, List.set_cons_succ]
    refine' dq_pure (by rfl) (by rfl) ?hv2 ?rest2
    case hv2 => (intro w hw; (try dsimp only at hw); go_split_ands; go_simp; try with_reducible rfl)
    case' rest2 => try simp only [Act.put, List.setIfInBounds_toArray, List.set_cons_zero, List.set_cons_succ]
    refine' dq_pure (by rfl) (by rfl) ?hv3 ?rest3
    case hv3 => (intro w hw; (try dsimp only at hw); go_split_ands; go_simp; try with_reducible rfl)
    case' rest3 => try simp only [Act.put, List.setIfInBounds_toArray, List.set_cons_zero, List.set_cons_succ]
    refine' dq_pure (by rfl) (by rfl) ?hv4 ?rest4
    case hv4 => (intro w hw; (try dsimp only at hw); go_split_ands; go_simp; try with_reducible rfl)
    case' rest4 => try simp only [Act.put, List.setIfInBounds_toArray, List.set_cons_zero, List.set_cons_succ]
    refine' dq_pure (by rfl) (by rfl) ?hv5 ?rest5
    case hv5 => (intro w hw; (try dsimp only at hw); go_split_ands; go_simp; try with_reducible rfl)
    case' rest5 => try simp only [Act.put, List.setIfInBounds_toArray, List.set_cons_zero, List.set_cons_succ]
    refine' dq_pure (by rfl) (by rfl) ?hv6 ?rest6
    case hv6 => (intro w hw; (try dsimp only at hw); go_split_ands; go_simp; try with_reducible rfl)
    case' rest6 => try simp only [Act.put, List.setIfInBounds_toArray, List.set_cons_zero, List.set_cons_succ]
    refine' dq_call (by rfl) (by rfl) ?hv7 ?hc7 ?rest7
    case hv7 => (intro w; go_simp; exact ⟨rfl, rfl⟩)
    case hc7 => exact (fun w hw => calls_gs (C _))
    case' rest7 => try simp only [Act.put, List.setIfInBounds_toArray, List.set_cons_zero, List.set_cons_succ]
    refine' dq_pure (by rfl) (by rfl) ?hv8 ?rest8
    case hv8 => (intro w hw; (try dsimp only at hw); go_split_ands; go_simp; try with_reducible rfl)
    case' rest8 => try simp only [Act.put, List.setIfInBounds_toArray, List.set_cons_zero, List.set_cons_succ]
    refine dq_nil ?_
    simp only [fa, List.drop_succ_cons, List.drop_zero]
    rintro W ⟨⟨hb0, hn0, ⟨B1, B1c, B1f, B1l⟩⟩, hgl⟩ hbs
    clear hbs hgl
    (repeat' (first | go_values | go_skip | go_guarded | go_step | go_upon | (simp only [Int.not_lt, Int.not_le] at *; go_simp) | (go_values <;> (try go_simp)) | (go_ite <;> go_prune <;> (try go_simp)) | (split <;> (first | (rename_i hx; exact (hx _ rfl).elim) | go_prune))))
    go_ret
    exact ⟨_, rfl, .inr ⟨_, c, m, rfl, rfl, hn0, HB.new _ _ _ rfl⟩, by (repeat' (first | (with_reducible assumption) | (with_reducible exact Below.refl _ _) | (with_reducible refine Below.alloc ?_ ?_ _) | (with_reducible refine Below.setCell ?_ ?_ _) | (with_reducible refine Below.drew ?_) | (with_reducible refine below_more ?_ (by with_reducible assumption)) | go_size | omega | (with_reducible refine below_drewN ?_)))⟩
/-- What Finish returns. -/
def FinP (t c mn mx : Int) (w : World) (e : Ending) (w' : World) : Prop := ∃ v, e = .returned (.tuple #[v, .int .i64 (if vld t c mn mx then 0 else 1)]) ∧ Ended w.heap.size w' v (if vld t c mn mx then fin c mn mx else none) ∧ Below w.heap.size w w'
set_option maxRecDepth 100000 in
theorem finish_any {t c mn mx : Int} (h1 : I64 mn) (h2 : I64 mx) (w : World) : Calls Try.prog 65 #[MS t c mn mx] w (FinP t c mn mx w) := by
  have C := fun W => valid_any (t := t) (c := c) h1 h2 W
  unfold FinP
  cases hv : vld t c mn mx
  all_goals
    rw [hv] at C
    clear hv
    simp only [if_true, Bool.false_eq_true, if_false]
    go_enter Try.func65, Try.ntmps65
    (repeat' (first | (go_big_may; (first | (go_at_call 66; refine (C _).mono ?_; rintro e w' ⟨rfl, hbw⟩; have N1 := Bx.of (HB.below (b := w.heap.size) (cs := #[.int .i64 t, .int .i64 c, .int .i64 mn, .int .i64 mx]) (by (repeat' (first | (with_reducible assumption) | ((with_reducible refine HB.new _ _ _ ?_) <;> (go_size; done)) | (with_reducible refine HB.old (by go_size) ?_) | (with_reducible refine HB.drew ?_) | (with_reducible refine HB.over5 ?_) | (with_reducible refine HB.over4 ?_) | (with_reducible refine HB.setne (by first | go_size | (dsimp only; omega)) ?_) | (with_reducible refine HN.set ?_) | (with_reducible refine HN.setne (by first | go_size | (dsimp only; omega)) ?_) | (with_reducible refine HN.drew ?_) | (with_reducible refine HN.old (by go_size) ?_) | (with_reducible exact HN.of5 (by assumption)) | (with_reducible exact HN.new5 _ _ (by go_size)) | (with_reducible exact HN.of4 (by assumption)) | (with_reducible exact HN.new4 _ _ (by go_size))))) hbw); (try clear B1 B1c B1f B1l); obtain ⟨B1, B1c, B1f, B1l⟩ := N1; have hsz := hbw.size; (try simp only [World.size_alloc, World.size_setCell, World.size_drew] at hsz)) | (go_at_call 51; refine (rest_any h1 h2 _).mono ?_; rintro e w' ⟨v, rfl, hE, hbw⟩; have hsz := hbw.size))) | go_values | go_skip | go_guarded | go_step | go_upon | (simp only [Int.not_lt, Int.not_le] at *; go_simp) | (go_values <;> (try go_simp)) | (go_ite <;> go_prune <;> (try go_simp)) | (split <;> (first | (rename_i hx; exact (hx _ rfl).elim) | go_prune))))
    first | refine bodyPost_ret ?_ rfl ⟨_, rfl, hE.mono (by go_size), by (repeat' (first | (with_reducible assumption) | (with_reducible exact Below.refl _ _) | (with_reducible refine Below.alloc ?_ ?_ _) | (with_reducible refine Below.setCell ?_ ?_ _) | (with_reducible refine Below.drew ?_) | (with_reducible refine below_more ?_ (by with_reducible assumption)) | go_size | omega | (with_reducible refine below_drewN ?_)))⟩ | refine bodyPost_ret ?_ rfl ⟨_, rfl, .inl ⟨rfl, rfl⟩, by (repeat' (first | (with_reducible assumption) | (with_reducible exact Below.refl _ _) | (with_reducible refine Below.alloc ?_ ?_ _) | (with_reducible refine Below.setCell ?_ ?_ _) | (with_reducible refine Below.drew ?_) | (with_reducible refine below_more ?_ (by with_reducible assumption)) | go_size | omega | (with_reducible refine below_drewN ?_)))⟩
    simp [results, Try.results65, go_sem]
set_option maxRecDepth 100000 in
theorem rfinish_any {t c mn mx : Int} (h1 : I64 mn) (h2 : I64 mx) (w : World) : Calls Try.prog 55 #[MS t c mn mx] w (FinP t c mn mx w) := by
  have C := fun W => rvalid_any (t := t) (c := c) h1 h2 W
  unfold FinP
  cases hv : vld t c mn mx
  · rw [hv] at C
    clear hv
    simp only [Bool.false_eq_true, if_false]
    go_enter Try.func55, Try.ntmps55
    (repeat' (first | (go_big_may; (first | (go_at_call 67; refine (C _).mono ?_; rintro e w' ⟨rfl, hbw⟩; have N1 := Bx.of (HB.below (b := w.heap.size) (cs := #[.int .i64 t, .int .i64 c, .int .i64 mn, .int .i64 mx]) (by (repeat' (first | (with_reducible assumption) | ((with_reducible refine HB.new _ _ _ ?_) <;> (go_size; done)) | (with_reducible refine HB.old (by go_size) ?_) | (with_reducible refine HB.drew ?_) | (with_reducible refine HB.over5 ?_) | (with_reducible refine HB.over4 ?_) | (with_reducible refine HB.setne (by first | go_size | (dsimp only; omega)) ?_) | (with_reducible refine HN.set ?_) | (with_reducible refine HN.setne (by first | go_size | (dsimp only; omega)) ?_) | (with_reducible refine HN.drew ?_) | (with_reducible refine HN.old (by go_size) ?_) | (with_reducible exact HN.of5 (by assumption)) | (with_reducible exact HN.new5 _ _ (by go_size)) | (with_reducible exact HN.of4 (by assumption)) | (with_reducible exact HN.new4 _ _ (by go_size))))) hbw); (try clear B1 B1c B1f B1l); obtain ⟨B1, B1c, B1f, B1l⟩ := N1; have hsz := hbw.size; (try simp only [World.size_alloc, World.size_setCell, World.size_drew] at hsz)))) | go_values | go_skip | go_guarded | go_step | go_upon | (simp only [Int.not_lt, Int.not_le] at *; go_simp) | (go_values <;> (try go_simp)) | (go_ite <;> go_prune <;> (try go_simp)) | (split <;> (first | (rename_i hx; exact (hx _ rfl).elim) | go_prune))))
    refine bodyPost_ret ?_ rfl ⟨_, rfl, .inl ⟨rfl, rfl⟩, by (repeat' (first | (with_reducible assumption) | (with_reducible exact Below.refl _ _) | (with_reducible refine Below.alloc ?_ ?_ _) | (with_reducible refine Below.setCell ?_ ?_ _) | (with_reducible refine Below.drew ?_) | (with_reducible refine below_more ?_ (by with_reducible assumption)) | go_size | omega | (with_reducible refine below_drewN ?_)))⟩
    simp [results, Try.results55, go_sem]
  · rw [hv] at C
    clear hv
    simp only [if_true]
    unfold fin
    by_cases hc : c = 0
    · subst hc
      rw [if_pos rfl]
      go_enter Try.func55, Try.ntmps55
      (repeat' (first | (go_big_may; (first | (go_at_call 67; refine (C _).mono ?_; rintro e w' ⟨rfl, hbw⟩; have N1 := Bx.of (HB.below (b := w.heap.size) (cs := _) (by (repeat' (first | (with_reducible assumption) | ((with_reducible refine HB.new _ _ _ ?_) <;> (go_size; done)) | (with_reducible refine HB.old (by go_size) ?_) | (with_reducible refine HB.drew ?_) | (with_reducible refine HB.over5 ?_) | (with_reducible refine HB.over4 ?_) | (with_reducible refine HB.setne (by first | go_size | (dsimp only; omega)) ?_) | (with_reducible refine HN.set ?_) | (with_reducible refine HN.setne (by first | go_size | (dsimp only; omega)) ?_) | (with_reducible refine HN.drew ?_) | (with_reducible refine HN.old (by go_size) ?_) | (with_reducible exact HN.of5 (by assumption)) | (with_reducible exact HN.new5 _ _ (by go_size)) | (with_reducible exact HN.of4 (by assumption)) | (with_reducible exact HN.new4 _ _ (by go_size))))) hbw); (try clear B1 B1c B1f B1l); obtain ⟨B1, B1c, B1f, B1l⟩ := N1; have hsz := hbw.size; (try simp only [World.size_alloc, World.size_setCell, World.size_drew] at hsz)))) | go_values | go_skip | go_guarded | go_step | go_upon | (simp only [Int.not_lt, Int.not_le] at *; go_simp) | (go_values <;> (try go_simp)) | (go_ite <;> go_prune <;> (try go_simp)) | (split <;> (first | (rename_i hx; exact (hx _ rfl).elim) | go_prune))))
      refine bodyPost_ret ?_ rfl ⟨_, rfl, .inl ⟨rfl, rfl⟩, by (repeat' (first | (with_reducible assumption) | (with_reducible exact Below.refl _ _) | (with_reducible refine Below.alloc ?_ ?_ _) | (with_reducible refine Below.setCell ?_ ?_ _) | (with_reducible refine Below.drew ?_) | (with_reducible refine below_more ?_ (by with_reducible assumption)) | go_size | omega | (with_reducible refine below_drewN ?_)))⟩
      simp [results, Try.results55, go_sem]
    · rw [if_neg hc]
      have M := fun W => Chk.rmid_any mn mx h1 h2 W
      generalize (mn + mx) / 2 = m at *
      go_enter Try.func55, Try.ntmps55
      (repeat' (first | (go_big_may; (first | (go_at_call 67; refine (C _).mono ?_; rintro e w' ⟨rfl, hbw⟩; have N1 := Bx.of (HB.below (b := w.heap.size) (cs := #[.int .i64 t, .int .i64 c, .int .i64 mn, .int .i64 mx]) (by (repeat' (first | (with_reducible assumption) | ((with_reducible refine HB.new _ _ _ ?_) <;> (go_size; done)) | (with_reducible refine HB.old (by go_size) ?_) | (with_reducible refine HB.drew ?_) | (with_reducible refine HB.over5 ?_) | (with_reducible refine HB.over4 ?_) | (with_reducible refine HB.setne (by first | go_size | (dsimp only; omega)) ?_) | (with_reducible refine HN.set ?_) | (with_reducible refine HN.setne (by first | go_size | (dsimp only; omega)) ?_) | (with_reducible refine HN.drew ?_) | (with_reducible refine HN.old (by go_size) ?_) | (with_reducible exact HN.of5 (by assumption)) | (with_reducible exact HN.new5 _ _ (by go_size)) | (with_reducible exact HN.of4 (by assumption)) | (with_reducible exact HN.new4 _ _ (by go_size))))) hbw); (try clear B1 B1c B1f B1l); obtain ⟨B1, B1c, B1f, B1l⟩ := N1; have hsz := hbw.size; (try simp only [World.size_alloc, World.size_setCell, World.size_drew] at hsz)))) | go_values | go_skip | go_guarded | go_step | go_upon | (simp only [Int.not_lt, Int.not_le] at *; go_simp) | (go_values <;> (try go_simp)) | (go_ite <;> go_prune <;> (try go_simp)) | (split <;> (first | (rename_i hx; exact (hx _ rfl).elim) | go_prune))))
      
      (refine wp_region_dq (row := none) (S := (fun Wz => Below w.heap.size w Wz ∧ w.heap.size ≤ Wz.heap.size ∧ Bx Wz (w.heap.size) (#[.int .i64 t, .int .i64 c, .int .i64 mn, .int .i64 mx]))) (n0 := w.heap.size) 8 [] [(0, 0), (1, 0), (2, 0), (3, 0), (4, 0), (5, 0), (6, 0), (7, 0)] [] (by kernel_rfl) (by kernel_rfl) (fun _ _ d _ _ h => by cases d <;> exact h) ⟨by (repeat' (first | (with_reducible assumption) | (with_reducible exact Below.refl _ _) | (with_reducible refine Below.alloc ?_ ?_ _) | (with_reducible refine Below.setCell ?_ ?_ _) | (with_reducible refine Below.drew ?_) | (with_reducible refine below_more ?_ (by with_reducible assumption)) | go_size | omega | (with_reducible refine below_drewN ?_))), (by first | go_size | omega), Bx.of (by (repeat' (first | (with_reducible assumption) | ((with_reducible refine HB.new _ _ _ ?_) <;> (go_size; done)) | (with_reducible refine HB.old (by go_size) ?_) | (with_reducible refine HB.drew ?_) | (with_reducible refine HB.over5 ?_) | (with_reducible refine HB.over4 ?_) | (with_reducible refine HB.setne (by first | go_size | (dsimp only; omega)) ?_) | (with_reducible refine HN.set ?_) | (with_reducible refine HN.setne (by first | go_size | (dsimp only; omega)) ?_) | (with_reducible refine HN.drew ?_) | (with_reducible refine HN.old (by go_size) ?_) | (with_reducible exact HN.of5 (by assumption)) | (with_reducible exact HN.new5 _ _ (by go_size)) | (with_reducible exact HN.of4 (by assumption)) | (with_reducible exact HN.new4 _ _ (by go_size)))))⟩ (fun _ _ h g => keep1 h (below_gt g) rfl) (fun _ h => h.2.1) (fun _ h => by cases h) (by simp) ?_)
      refine' dq_pure (by rfl) (by rfl) ?hv9 ?rest9
      case hv9 => (intro w hw; (try dsimp only at hw); go_split_ands; go_simp; try with_reducible rfl)
      case' rest9 => try simp only [Act.put, List.setIfInBounds_toArray, List.set_cons_zero, List.set_cons_succ]
      refine' dq_pure (by rfl) (by rfl) ?hv10 ?rest10
      case hv10 => (intro w hw; (try dsimp only at hw); go_split_ands; go_simp; try with_reducible rfl)
      case' rest10 => try simp only [Act.put, List.setIfInBounds_toArray, List.set_cons_zero, List.set_cons_succ]
      refine' dq_pure (by rfl) (by rfl) ?hv11 ?rest11
      case hv11 => (intro w hw; (try dsimp only at hw); go_split_ands; go_simp; try with_reducible rfl)
      case' rest11 => try simp only [Act.put, List.setIfInBounds_toArray, List.set_cons_zero, List.set_cons_succ]
      refine' dq_pure (by rfl) (by rfl) ?hv12 ?rest12
      case hv12 => (intro w hw; (try dsimp only at hw); go_split_ands; go_simp; try with_reducible rfl)
      case' rest12 => try simp only [Act.put, List.setIfInBounds_toArray, List.set_cons_zero, List.set_cons_succ]
      refine' dq_pure (by rfl) (by rfl) ?hv13 ?rest13
      case hv13 => (intro w hw; (try dsimp only at hw); go_split_ands; go_simp; try with_reducible rfl)
      case' rest13 => try simp only [Act.put, List.setIfInBounds_toArray, List.set_cons_zero, List.set_cons_succ]
      refine' dq_pure (by rfl) (by rfl) ?hv14 ?rest14
      case hv14 => (intro w hw; (try dsimp only at hw); go_split_ands; go_simp; try with_reducible rfl)
      case' rest14 => try simp only [Act.put, List.setIfInBounds_toArray, List.set_cons_zero, List.set_cons_succ]
      refine' dq_call (by rfl) (by rfl) ?hv15 ?hc15 ?rest15
      case hv15 => (intro w; go_simp; exact ⟨rfl, rfl⟩)
      case hc15 => exact (fun w hw => calls_gs (M _))
      case' rest15 => try simp only [Act.put, List.setIfInBounds_toArray, List.set_cons_zero, List.set_cons_succ]
      refine' dq_pure (by rfl) (by rfl) ?hv16 ?rest16
      case hv16 => (intro w hw; (try dsimp only at hw); go_split_ands; go_simp; try with_reducible rfl)
      case' rest16 => try simp only [Act.put, List.setIfInBounds_toArray, List.set_cons_zero, List.set_cons_succ]
      refine dq_nil ?_
      simp only [fa, List.drop_succ_cons, List.drop_zero]
      rintro W ⟨⟨hb0, hn0, ⟨B1, B1c, B1f, B1l⟩⟩, hgl⟩ hbs
      clear hbs hgl
      (repeat' (first | go_values | go_skip | go_guarded | go_step | go_upon | (simp only [Int.not_lt, Int.not_le] at *; go_simp) | (go_values <;> (try go_simp)) | (go_ite <;> go_prune <;> (try go_simp)) | (split <;> (first | (rename_i hx; exact (hx _ rfl).elim) | go_prune))))
      refine bodyPost_ret ?_ rfl ⟨_, rfl, .inr ⟨_, c, m, rfl, rfl, hn0, HB.new _ _ _ rfl⟩, by (repeat' (first | (with_reducible assumption) | (with_reducible exact Below.refl _ _) | (with_reducible refine Below.alloc ?_ ?_ _) | (with_reducible refine Below.setCell ?_ ?_ _) | (with_reducible refine Below.drew ?_) | (with_reducible refine below_more ?_ (by with_reducible assumption)) | go_size | omega | (with_reducible refine below_drewN ?_)))⟩
      simp [results, Try.results55, go_sem]

/-! ### One step -/
/-- Whether a value goes on with the state's range. -/
def goes (t c mn mx v : Int) : Bool := decide (0 < c) && narr t (min mn v) (max mx v)
def nC (t c mn mx v : Int) : Int := if goes t c mn mx v then c + 1 else 1
def nMin (t c mn mx v : Int) : Int := if goes t c mn mx v then min mn v else v
def nMax (t c mn mx v : Int) : Int := if goes t c mn mx v then max mx v else v
def nEnd (t c mn mx v : Int) : Option (Int × Int) := if goes t c mn mx v then none else fin c mn mx
def StpP (t c mn mx v : Int) (w : World) (e : Ending) (w' : World) : Prop := ∃ vv, e = .returned (.tuple #[MS t (nC t c mn mx v) (nMin t c mn mx v) (nMax t c mn mx v), vv]) ∧ Ended w.heap.size w' vv (nEnd t c mn mx v) ∧ Below w.heap.size w w'
theorem min_i64 {a b : Int} (ha : I64 a) (hb : I64 b) : I64 (min a b) := by obtain ⟨h1, h2⟩ := ha; obtain ⟨h3, h4⟩ := hb; exact ⟨by omega, by omega⟩
theorem max_i64 {a b : Int} (ha : I64 a) (hb : I64 b) : I64 (max a b) := by obtain ⟨h1, h2⟩ := ha; obtain ⟨h3, h4⟩ := hb; exact ⟨by omega, by omega⟩
theorem Ended.setc {B : Nat} {W : World} {p : Addr} {u v : Value} {o : Option (Int × Int)} (hp : p.block < B) (h : Ended B W v o) : Ended B (W.setCell p u) v o := by
  rcases h with h | ⟨b, c, m, h1, h2, h3, h4⟩
  · exact .inl h
  · exact .inr ⟨b, c, m, h1, h2, h3, HB.setne (by omega) h4⟩

set_option maxHeartbeats 4000000 in
set_option maxRecDepth 100000 in
theorem step_any {t c mn mx v : Int} (ht : tolb t = true) (hc0 : 0 ≤ c) (hc : c < 1073741824) (h1 : I64 mn) (h2 : I64 mx) (h3 : I64 v) (w : World) : Calls Try.prog 50 #[MS t c mn mx, .int .i64 v] w (StpP t c mn mx v w) := by
  unfold StpP nC nMin nMax nEnd
  by_cases hp : 0 < c
  · have hg : goes t c mn mx v = narr t (min mn v) (max mx v) := by unfold goes; simp [hp]
    have C := fun W => narrow_any (c := c + 1) ht (min_i64 h1 h3) (max_i64 h2 h3) W
    rw [← hg] at C
    clear hg
    cases hq : goes t c mn mx v
    all_goals rw [hq] at C
    all_goals clear hq
    all_goals simp only [if_true, Bool.false_eq_true, if_false]
    · have H : (mn ≤ v ∧ v ≤ mx) ∨ (mn ≤ v ∧ mx < v) ∨ (v < mn ∧ v ≤ mx) ∨ (v < mn ∧ mx < v) := by omega
      rcases H with ⟨hm, hx⟩ | ⟨hm, hx⟩ | ⟨hm, hx⟩ | ⟨hm, hx⟩
      · have e1 : min mn v = mn := by omega
        have e2 : max mx v = mx := by omega
        rw [e1, e2] at C
        clear e1 e2
        go_enter Try.func50, Try.ntmps50
        (repeat' (first | (go_big_may; (first | (go_at_call 70; refine (C _).mono ?_; rintro e w' ⟨rfl, hbw⟩; have N1 := Bx.of (HB.below (b := w.heap.size) (cs := #[.int .i64 t, .int .i64 c, .int .i64 mn, .int .i64 mx]) (by (repeat' (first | (with_reducible assumption) | ((with_reducible refine HB.new _ _ _ ?_) <;> (go_size; done)) | (with_reducible refine HB.old (by go_size) ?_) | (with_reducible refine HB.drew ?_) | (with_reducible refine HB.over5 ?_) | (with_reducible refine HB.over4 ?_) | (with_reducible refine HB.setne (by first | go_size | (dsimp only; omega)) ?_) | (with_reducible refine HN.set ?_) | (with_reducible refine HN.setne (by first | go_size | (dsimp only; omega)) ?_) | (with_reducible refine HN.drew ?_) | (with_reducible refine HN.old (by go_size) ?_) | (with_reducible exact HN.of5 (by assumption)) | (with_reducible exact HN.new5 _ _ (by go_size)) | (with_reducible exact HN.of4 (by assumption)) | (with_reducible exact HN.new4 _ _ (by go_size))))) hbw); have N2 := Bx.of (HB.below (b := w.heap.size + 1) (cs := #[.int .i64 0, .int .i64 0, .int .i64 0, .int .i64 0]) (by (repeat' (first | (with_reducible assumption) | ((with_reducible refine HB.new _ _ _ ?_) <;> (go_size; done)) | (with_reducible refine HB.old (by go_size) ?_) | (with_reducible refine HB.drew ?_) | (with_reducible refine HB.over5 ?_) | (with_reducible refine HB.over4 ?_) | (with_reducible refine HB.setne (by first | go_size | (dsimp only; omega)) ?_) | (with_reducible refine HN.set ?_) | (with_reducible refine HN.setne (by first | go_size | (dsimp only; omega)) ?_) | (with_reducible refine HN.drew ?_) | (with_reducible refine HN.old (by go_size) ?_) | (with_reducible exact HN.of5 (by assumption)) | (with_reducible exact HN.new5 _ _ (by go_size)) | (with_reducible exact HN.of4 (by assumption)) | (with_reducible exact HN.new4 _ _ (by go_size))))) hbw); (try clear B1 B1c B1f B1l); (try clear B2 B2c B2f B2l); obtain ⟨B1, B1c, B1f, B1l⟩ := N1; obtain ⟨B2, B2c, B2f, B2l⟩ := N2; have hsz := hbw.size; (try simp only [World.size_alloc, World.size_setCell, World.size_drew] at hsz)))) | go_values | go_skip | go_guarded | go_step | go_upon | (simp only [Int.not_lt, Int.not_le] at *; go_simp) | (go_values <;> (try go_simp)) | (go_ite <;> go_prune <;> (try go_simp)) | (split <;> (first | (rename_i hx; exact (hx _ rfl).elim) | go_prune))))
        
        (refine wp_region_dq (row := none) (S := (fun Wz => Below w.heap.size w Wz ∧ w.heap.size + 1 + 1 ≤ Wz.heap.size ∧ Bx Wz (w.heap.size) (#[.int .i64 t, .int .i64 c, .int .i64 mn, .int .i64 mx]) ∧ Bx Wz (w.heap.size + 1) (#[.int .i64 0, .int .i64 0, .int .i64 0, .int .i64 0]))) (n0 := w.heap.size + 1 + 1) 7 [] [(0, 0), (1, 0), (2, 0), (3, 0), (4, 0), (5, 0), (6, 1)] [] (by kernel_rfl) (by kernel_rfl) (fun _ _ d _ _ h => by cases d <;> exact h) ⟨by (repeat' (first | (with_reducible assumption) | (with_reducible exact Below.refl _ _) | (with_reducible refine Below.alloc ?_ ?_ _) | (with_reducible refine Below.setCell ?_ ?_ _) | (with_reducible refine Below.drew ?_) | (with_reducible refine below_more ?_ (by with_reducible assumption)) | go_size | omega | (with_reducible refine below_drewN ?_))), (by first | go_size | omega), Bx.of (by (repeat' (first | (with_reducible assumption) | ((with_reducible refine HB.new _ _ _ ?_) <;> (go_size; done)) | (with_reducible refine HB.old (by go_size) ?_) | (with_reducible refine HB.drew ?_) | (with_reducible refine HB.over5 ?_) | (with_reducible refine HB.over4 ?_) | (with_reducible refine HB.setne (by first | go_size | (dsimp only; omega)) ?_) | (with_reducible refine HN.set ?_) | (with_reducible refine HN.setne (by first | go_size | (dsimp only; omega)) ?_) | (with_reducible refine HN.drew ?_) | (with_reducible refine HN.old (by go_size) ?_) | (with_reducible exact HN.of5 (by assumption)) | (with_reducible exact HN.new5 _ _ (by go_size)) | (with_reducible exact HN.of4 (by assumption)) | (with_reducible exact HN.new4 _ _ (by go_size))))), Bx.of (by (repeat' (first | (with_reducible assumption) | ((with_reducible refine HB.new _ _ _ ?_) <;> (go_size; done)) | (with_reducible refine HB.old (by go_size) ?_) | (with_reducible refine HB.drew ?_) | (with_reducible refine HB.over5 ?_) | (with_reducible refine HB.over4 ?_) | (with_reducible refine HB.setne (by first | go_size | (dsimp only; omega)) ?_) | (with_reducible refine HN.set ?_) | (with_reducible refine HN.setne (by first | go_size | (dsimp only; omega)) ?_) | (with_reducible refine HN.drew ?_) | (with_reducible refine HN.old (by go_size) ?_) | (with_reducible exact HN.of5 (by assumption)) | (with_reducible exact HN.new5 _ _ (by go_size)) | (with_reducible exact HN.of4 (by assumption)) | (with_reducible exact HN.new4 _ _ (by go_size)))))⟩ (fun _ _ h g => keep2 h (below_gt g) rfl) (fun _ h => h.2.1) (fun _ h => by cases h) (by simp) ?_)
        refine' dq_pure (by rfl) (by rfl) ?hv17 ?rest17
        case hv17 => (intro w hw; (try dsimp only at hw); go_split_ands; go_simp; try with_reducible rfl)
        case' rest17 => try simp only [Act.put, List.setIfInBounds_toArray, List.set_cons_zero, List.set_cons_succ]
        refine' dq_pure (by rfl) (by rfl) ?hv18 ?rest18
        case hv18 => (intro w hw; (try dsimp only at hw); go_split_ands; go_simp; try with_reducible rfl)
        case' rest18 => try simp only [Act.put, List.setIfInBounds_toArray, List.set_cons_zero, List.set_cons_succ]
        refine' dq_pure (by rfl) (by rfl) ?hv19 ?rest19
        case hv19 => (intro w hw; (try dsimp only at hw); go_split_ands; go_simp; try with_reducible rfl)
        case' rest19 => try simp only [Act.put, List.setIfInBounds_toArray, List.set_cons_zero, List.set_cons_succ]
        refine' dq_pure (by rfl) (by rfl) ?hv20 ?rest20
        case hv20 => (intro w hw; (try dsimp only at hw); go_split_ands; go_simp; try with_reducible rfl)
        case' rest20 => try simp only [Act.put, List.setIfInBounds_toArray, List.set_cons_zero, List.set_cons_succ]
        refine' dq_pure (by rfl) (by rfl) ?hv21 ?rest21
        case hv21 => (intro w hw; (try dsimp only at hw); go_split_ands; go_simp; try with_reducible rfl)
        case' rest21 => try simp only [Act.put, List.setIfInBounds_toArray, List.set_cons_zero, List.set_cons_succ]
        refine' dq_pure (by rfl) (by rfl) ?hv22 ?rest22
        case hv22 => (intro w hw; (try dsimp only at hw); go_split_ands; go_simp; try with_reducible rfl)
        case' rest22 => try simp only [Act.put, List.setIfInBounds_toArray, List.set_cons_zero, List.set_cons_succ]
        refine' dq_ask (R := (fun vv Wz => Ended (w.heap.size + 1 + 1) Wz vv (fin c mn mx))) (by rfl) (by rfl) ?hv23 ?hc23 ?rest23 (fun _ _ h g => keep2 h (below_gt g) rfl)
        case hv23 => (intro w; go_simp; exact ⟨rfl, rfl⟩)
        case hc23 => exact (fun wq hsq htq => (rest_any h1 h2 wq).mono fun e w' ⟨vv, he, hE, hb⟩ => ⟨vv, he, hE.mono hsq.2.1, gt_below hb _⟩)
        case' rest23 => try simp only [Act.put, List.setIfInBounds_toArray, List.set_cons_zero, List.set_cons_succ]
        intro vr wr hsr hgr hE
        refine dq_nil ?_
        simp only [fa, List.drop_succ_cons, List.drop_zero]
        rintro W ⟨⟨hb0, hn0, ⟨B1, B1c, B1f, B1l⟩, ⟨B2, B2c, B2f, B2l⟩⟩, hgl⟩ hbs
        clear hbs
        have hE2 := hE.below (below_gt hgl)
        clear hE
        (repeat' (first | go_values | go_skip | go_guarded | go_step | go_upon | (simp only [Int.not_lt, Int.not_le] at *; go_simp) | (go_values <;> (try go_simp)) | (go_ite <;> go_prune <;> (try go_simp)) | (split <;> (first | (rename_i hx; exact (hx _ rfl).elim) | go_prune))))
        refine bodyPost_ret ?_ rfl ⟨vr, rfl, Ended.mono (B := w.heap.size + 1 + 1) (by repeat' (first | (with_reducible exact hE2) | (with_reducible refine Ended.setc (by dsimp only; omega) ?_))) (by omega), by (repeat' (first | (with_reducible assumption) | (with_reducible exact Below.refl _ _) | (with_reducible refine Below.alloc ?_ ?_ _) | (with_reducible refine Below.setCell ?_ ?_ _) | (with_reducible refine Below.drew ?_) | (with_reducible refine below_more ?_ (by with_reducible assumption)) | go_size | omega | (with_reducible refine below_drewN ?_)))⟩
        simp [results, Try.results50, go_sem, B2c, B2f, B2l]
      · have e1 : min mn v = mn := by omega
        have e2 : max mx v = v := by omega
        rw [e1, e2] at C
        clear e1 e2
        go_enter Try.func50, Try.ntmps50
        (repeat' (first | (go_big_may; (first | (go_at_call 70; refine (C _).mono ?_; rintro e w' ⟨rfl, hbw⟩; have N1 := Bx.of (HB.below (b := w.heap.size) (cs := #[.int .i64 t, .int .i64 c, .int .i64 mn, .int .i64 mx]) (by (repeat' (first | (with_reducible assumption) | ((with_reducible refine HB.new _ _ _ ?_) <;> (go_size; done)) | (with_reducible refine HB.old (by go_size) ?_) | (with_reducible refine HB.drew ?_) | (with_reducible refine HB.over5 ?_) | (with_reducible refine HB.over4 ?_) | (with_reducible refine HB.setne (by first | go_size | (dsimp only; omega)) ?_) | (with_reducible refine HN.set ?_) | (with_reducible refine HN.setne (by first | go_size | (dsimp only; omega)) ?_) | (with_reducible refine HN.drew ?_) | (with_reducible refine HN.old (by go_size) ?_) | (with_reducible exact HN.of5 (by assumption)) | (with_reducible exact HN.new5 _ _ (by go_size)) | (with_reducible exact HN.of4 (by assumption)) | (with_reducible exact HN.new4 _ _ (by go_size))))) hbw); have N2 := Bx.of (HB.below (b := w.heap.size + 1) (cs := #[.int .i64 0, .int .i64 0, .int .i64 0, .int .i64 0]) (by (repeat' (first | (with_reducible assumption) | ((with_reducible refine HB.new _ _ _ ?_) <;> (go_size; done)) | (with_reducible refine HB.old (by go_size) ?_) | (with_reducible refine HB.drew ?_) | (with_reducible refine HB.over5 ?_) | (with_reducible refine HB.over4 ?_) | (with_reducible refine HB.setne (by first | go_size | (dsimp only; omega)) ?_) | (with_reducible refine HN.set ?_) | (with_reducible refine HN.setne (by first | go_size | (dsimp only; omega)) ?_) | (with_reducible refine HN.drew ?_) | (with_reducible refine HN.old (by go_size) ?_) | (with_reducible exact HN.of5 (by assumption)) | (with_reducible exact HN.new5 _ _ (by go_size)) | (with_reducible exact HN.of4 (by assumption)) | (with_reducible exact HN.new4 _ _ (by go_size))))) hbw); (try clear B1 B1c B1f B1l); (try clear B2 B2c B2f B2l); obtain ⟨B1, B1c, B1f, B1l⟩ := N1; obtain ⟨B2, B2c, B2f, B2l⟩ := N2; have hsz := hbw.size; (try simp only [World.size_alloc, World.size_setCell, World.size_drew] at hsz)))) | go_values | go_skip | go_guarded | go_step | go_upon | (simp only [Int.not_lt, Int.not_le] at *; go_simp) | (go_values <;> (try go_simp)) | (go_ite <;> go_prune <;> (try go_simp)) | (split <;> (first | (rename_i hx; exact (hx _ rfl).elim) | go_prune))))
        
        (refine wp_region_dq (row := none) (S := (fun Wz => Below w.heap.size w Wz ∧ w.heap.size + 1 + 1 ≤ Wz.heap.size ∧ Bx Wz (w.heap.size) (#[.int .i64 t, .int .i64 c, .int .i64 mn, .int .i64 mx]) ∧ Bx Wz (w.heap.size + 1) (#[.int .i64 0, .int .i64 0, .int .i64 0, .int .i64 0]))) (n0 := w.heap.size + 1 + 1) 7 [] [(0, 0), (1, 0), (2, 0), (3, 0), (4, 0), (5, 0), (6, 1)] [] (by kernel_rfl) (by kernel_rfl) (fun _ _ d _ _ h => by cases d <;> exact h) ⟨by (repeat' (first | (with_reducible assumption) | (with_reducible exact Below.refl _ _) | (with_reducible refine Below.alloc ?_ ?_ _) | (with_reducible refine Below.setCell ?_ ?_ _) | (with_reducible refine Below.drew ?_) | (with_reducible refine below_more ?_ (by with_reducible assumption)) | go_size | omega | (with_reducible refine below_drewN ?_))), (by first | go_size | omega), Bx.of (by (repeat' (first | (with_reducible assumption) | ((with_reducible refine HB.new _ _ _ ?_) <;> (go_size; done)) | (with_reducible refine HB.old (by go_size) ?_) | (with_reducible refine HB.drew ?_) | (with_reducible refine HB.over5 ?_) | (with_reducible refine HB.over4 ?_) | (with_reducible refine HB.setne (by first | go_size | (dsimp only; omega)) ?_) | (with_reducible refine HN.set ?_) | (with_reducible refine HN.setne (by first | go_size | (dsimp only; omega)) ?_) | (with_reducible refine HN.drew ?_) | (with_reducible refine HN.old (by go_size) ?_) | (with_reducible exact HN.of5 (by assumption)) | (with_reducible exact HN.new5 _ _ (by go_size)) | (with_reducible exact HN.of4 (by assumption)) | (with_reducible exact HN.new4 _ _ (by go_size))))), Bx.of (by (repeat' (first | (with_reducible assumption) | ((with_reducible refine HB.new _ _ _ ?_) <;> (go_size; done)) | (with_reducible refine HB.old (by go_size) ?_) | (with_reducible refine HB.drew ?_) | (with_reducible refine HB.over5 ?_) | (with_reducible refine HB.over4 ?_) | (with_reducible refine HB.setne (by first | go_size | (dsimp only; omega)) ?_) | (with_reducible refine HN.set ?_) | (with_reducible refine HN.setne (by first | go_size | (dsimp only; omega)) ?_) | (with_reducible refine HN.drew ?_) | (with_reducible refine HN.old (by go_size) ?_) | (with_reducible exact HN.of5 (by assumption)) | (with_reducible exact HN.new5 _ _ (by go_size)) | (with_reducible exact HN.of4 (by assumption)) | (with_reducible exact HN.new4 _ _ (by go_size)))))⟩ (fun _ _ h g => keep2 h (below_gt g) rfl) (fun _ h => h.2.1) (fun _ h => by cases h) (by simp) ?_)
        refine' dq_pure (by rfl) (by rfl) ?hv24 ?rest24
        case hv24 => (intro w hw; (try dsimp only at hw); go_split_ands; go_simp; try with_reducible rfl)
        case' rest24 => try simp only [Act.put, List.setIfInBounds_toArray, List.set_cons_zero, List.set_cons_succ]
        refine' dq_pure (by rfl) (by rfl) ?hv25 ?rest25
        case hv25 => (intro w hw; (try dsimp only at hw); go_split_ands; go_simp; try with_reducible rfl)
        case' rest25 => try simp only [Act.put, List.setIfInBounds_toArray, List.set_cons_zero, List.set_cons_succ]
        refine' dq_pure (by rfl) (by rfl) ?hv26 ?rest26
        case hv26 => (intro w hw; (try dsimp only at hw); go_split_ands; go_simp; try with_reducible rfl)
        case' rest26 => try simp only [Act.put, List.setIfInBounds_toArray, List.set_cons_zero, List.set_cons_succ]
        refine' dq_pure (by rfl) (by rfl) ?hv27 ?rest27
        case hv27 => (intro w hw; (try dsimp only at hw); go_split_ands; go_simp; try with_reducible rfl)
        case' rest27 => try simp only [Act.put, List.setIfInBounds_toArray, List.set_cons_zero, List.set_cons_succ]
        refine' dq_pure (by rfl) (by rfl) ?hv28 ?rest28
        case hv28 => (intro w hw; (try dsimp only at hw); go_split_ands; go_simp; try with_reducible rfl)
        case' rest28 => try simp only [Act.put, List.setIfInBounds_toArray, List.set_cons_zero, List.set_cons_succ]
        refine' dq_pure (by rfl) (by rfl) ?hv29 ?rest29
        case hv29 => (intro w hw; (try dsimp only at hw); go_split_ands; go_simp; try with_reducible rfl)
        case' rest29 => try simp only [Act.put, List.setIfInBounds_toArray, List.set_cons_zero, List.set_cons_succ]
        refine' dq_ask (R := (fun vv Wz => Ended (w.heap.size + 1 + 1) Wz vv (fin c mn mx))) (by rfl) (by rfl) ?hv30 ?hc30 ?rest30 (fun _ _ h g => keep2 h (below_gt g) rfl)
        case hv30 => (intro w; go_simp; exact ⟨rfl, rfl⟩)
        case hc30 => exact (fun wq hsq htq => (rest_any h1 h2 wq).mono fun e w' ⟨vv, he, hE, hb⟩ => ⟨vv, he, hE.mono hsq.2.1, gt_below hb _⟩)
        case' rest30 => try simp only [Act.put, List.setIfInBounds_toArray, List.set_cons_zero, List.set_cons_succ]
        intro vr wr hsr hgr hE
        refine dq_nil ?_
        simp only [fa, List.drop_succ_cons, List.drop_zero]
        rintro W ⟨⟨hb0, hn0, ⟨B1, B1c, B1f, B1l⟩, ⟨B2, B2c, B2f, B2l⟩⟩, hgl⟩ hbs
        clear hbs
        have hE2 := hE.below (below_gt hgl)
        clear hE
        (repeat' (first | go_values | go_skip | go_guarded | go_step | go_upon | (simp only [Int.not_lt, Int.not_le] at *; go_simp) | (go_values <;> (try go_simp)) | (go_ite <;> go_prune <;> (try go_simp)) | (split <;> (first | (rename_i hx; exact (hx _ rfl).elim) | go_prune))))
        refine bodyPost_ret ?_ rfl ⟨vr, rfl, Ended.mono (B := w.heap.size + 1 + 1) (by repeat' (first | (with_reducible exact hE2) | (with_reducible refine Ended.setc (by dsimp only; omega) ?_))) (by omega), by (repeat' (first | (with_reducible assumption) | (with_reducible exact Below.refl _ _) | (with_reducible refine Below.alloc ?_ ?_ _) | (with_reducible refine Below.setCell ?_ ?_ _) | (with_reducible refine Below.drew ?_) | (with_reducible refine below_more ?_ (by with_reducible assumption)) | go_size | omega | (with_reducible refine below_drewN ?_)))⟩
        simp [results, Try.results50, go_sem, B2c, B2f, B2l]
      · have e1 : min mn v = v := by omega
        have e2 : max mx v = mx := by omega
        rw [e1, e2] at C
        clear e1 e2
        go_enter Try.func50, Try.ntmps50
        (repeat' (first | (go_big_may; (first | (go_at_call 70; refine (C _).mono ?_; rintro e w' ⟨rfl, hbw⟩; have N1 := Bx.of (HB.below (b := w.heap.size) (cs := #[.int .i64 t, .int .i64 c, .int .i64 mn, .int .i64 mx]) (by (repeat' (first | (with_reducible assumption) | ((with_reducible refine HB.new _ _ _ ?_) <;> (go_size; done)) | (with_reducible refine HB.old (by go_size) ?_) | (with_reducible refine HB.drew ?_) | (with_reducible refine HB.over5 ?_) | (with_reducible refine HB.over4 ?_) | (with_reducible refine HB.setne (by first | go_size | (dsimp only; omega)) ?_) | (with_reducible refine HN.set ?_) | (with_reducible refine HN.setne (by first | go_size | (dsimp only; omega)) ?_) | (with_reducible refine HN.drew ?_) | (with_reducible refine HN.old (by go_size) ?_) | (with_reducible exact HN.of5 (by assumption)) | (with_reducible exact HN.new5 _ _ (by go_size)) | (with_reducible exact HN.of4 (by assumption)) | (with_reducible exact HN.new4 _ _ (by go_size))))) hbw); have N2 := Bx.of (HB.below (b := w.heap.size + 1) (cs := #[.int .i64 0, .int .i64 0, .int .i64 0, .int .i64 0]) (by (repeat' (first | (with_reducible assumption) | ((with_reducible refine HB.new _ _ _ ?_) <;> (go_size; done)) | (with_reducible refine HB.old (by go_size) ?_) | (with_reducible refine HB.drew ?_) | (with_reducible refine HB.over5 ?_) | (with_reducible refine HB.over4 ?_) | (with_reducible refine HB.setne (by first | go_size | (dsimp only; omega)) ?_) | (with_reducible refine HN.set ?_) | (with_reducible refine HN.setne (by first | go_size | (dsimp only; omega)) ?_) | (with_reducible refine HN.drew ?_) | (with_reducible refine HN.old (by go_size) ?_) | (with_reducible exact HN.of5 (by assumption)) | (with_reducible exact HN.new5 _ _ (by go_size)) | (with_reducible exact HN.of4 (by assumption)) | (with_reducible exact HN.new4 _ _ (by go_size))))) hbw); (try clear B1 B1c B1f B1l); (try clear B2 B2c B2f B2l); obtain ⟨B1, B1c, B1f, B1l⟩ := N1; obtain ⟨B2, B2c, B2f, B2l⟩ := N2; have hsz := hbw.size; (try simp only [World.size_alloc, World.size_setCell, World.size_drew] at hsz)))) | go_values | go_skip | go_guarded | go_step | go_upon | (simp only [Int.not_lt, Int.not_le] at *; go_simp) | (go_values <;> (try go_simp)) | (go_ite <;> go_prune <;> (try go_simp)) | (split <;> (first | (rename_i hx; exact (hx _ rfl).elim) | go_prune))))
        
        (refine wp_region_dq (row := none) (S := (fun Wz => Below w.heap.size w Wz ∧ w.heap.size + 1 + 1 ≤ Wz.heap.size ∧ Bx Wz (w.heap.size) (#[.int .i64 t, .int .i64 c, .int .i64 mn, .int .i64 mx]) ∧ Bx Wz (w.heap.size + 1) (#[.int .i64 0, .int .i64 0, .int .i64 0, .int .i64 0]))) (n0 := w.heap.size + 1 + 1) 7 [] [(0, 0), (1, 0), (2, 0), (3, 0), (4, 0), (5, 0), (6, 1)] [] (by kernel_rfl) (by kernel_rfl) (fun _ _ d _ _ h => by cases d <;> exact h) ⟨by (repeat' (first | (with_reducible assumption) | (with_reducible exact Below.refl _ _) | (with_reducible refine Below.alloc ?_ ?_ _) | (with_reducible refine Below.setCell ?_ ?_ _) | (with_reducible refine Below.drew ?_) | (with_reducible refine below_more ?_ (by with_reducible assumption)) | go_size | omega | (with_reducible refine below_drewN ?_))), (by first | go_size | omega), Bx.of (by (repeat' (first | (with_reducible assumption) | ((with_reducible refine HB.new _ _ _ ?_) <;> (go_size; done)) | (with_reducible refine HB.old (by go_size) ?_) | (with_reducible refine HB.drew ?_) | (with_reducible refine HB.over5 ?_) | (with_reducible refine HB.over4 ?_) | (with_reducible refine HB.setne (by first | go_size | (dsimp only; omega)) ?_) | (with_reducible refine HN.set ?_) | (with_reducible refine HN.setne (by first | go_size | (dsimp only; omega)) ?_) | (with_reducible refine HN.drew ?_) | (with_reducible refine HN.old (by go_size) ?_) | (with_reducible exact HN.of5 (by assumption)) | (with_reducible exact HN.new5 _ _ (by go_size)) | (with_reducible exact HN.of4 (by assumption)) | (with_reducible exact HN.new4 _ _ (by go_size))))), Bx.of (by (repeat' (first | (with_reducible assumption) | ((with_reducible refine HB.new _ _ _ ?_) <;> (go_size; done)) | (with_reducible refine HB.old (by go_size) ?_) | (with_reducible refine HB.drew ?_) | (with_reducible refine HB.over5 ?_) | (with_reducible refine HB.over4 ?_) | (with_reducible refine HB.setne (by first | go_size | (dsimp only; omega)) ?_) | (with_reducible refine HN.set ?_) | (with_reducible refine HN.setne (by first | go_size | (dsimp only; omega)) ?_) | (with_reducible refine HN.drew ?_) | (with_reducible refine HN.old (by go_size) ?_) | (with_reducible exact HN.of5 (by assumption)) | (with_reducible exact HN.new5 _ _ (by go_size)) | (with_reducible exact HN.of4 (by assumption)) | (with_reducible exact HN.new4 _ _ (by go_size)))))⟩ (fun _ _ h g => keep2 h (below_gt g) rfl) (fun _ h => h.2.1) (fun _ h => by cases h) (by simp) ?_)
        refine' dq_pure (by rfl) (by rfl) ?hv31 ?rest31
        case hv31 => (intro w hw; (try dsimp only at hw); go_split_ands; go_simp; try with_reducible rfl)
        case' rest31 => try simp only [Act.put, List.setIfInBounds_toArray, List.set_cons_zero, List.set_cons_succ]
        refine' dq_pure (by rfl) (by rfl) ?hv32 ?rest32
        case hv32 => (intro w hw; (try dsimp only at hw); go_split_ands; go_simp; try with_reducible rfl)
        case' rest32 => try simp only [Act.put, List.setIfInBounds_toArray, List.set_cons_zero, List.set_cons_succ]
        refine' dq_pure (by rfl) (by rfl) ?hv33 ?rest33
        case hv33 => (intro w hw; (try dsimp only at hw); go_split_ands; go_simp; try with_reducible rfl)
        case' rest33 => try simp only [Act.put, List.setIfInBounds_toArray, List.set_cons_zero, List.set_cons_succ]
        refine' dq_pure (by rfl) (by rfl) ?hv34 ?rest34
        case hv34 => (intro w hw; (try dsimp only at hw); go_split_ands; go_simp; try with_reducible rfl)
        case' rest34 => try simp only [Act.put, List.setIfInBounds_toArray, List.set_cons_zero, List.set_cons_succ]
        refine' dq_pure (by rfl) (by rfl) ?hv35 ?rest35
        case hv35 => (intro w hw; (try dsimp only at hw); go_split_ands; go_simp; try with_reducible rfl)
        case' rest35 => try simp only [Act.put, List.setIfInBounds_toArray, List.set_cons_zero, List.set_cons_succ]
        refine' dq_pure (by rfl) (by rfl) ?hv36 ?rest36
        case hv36 => (intro w hw; (try dsimp only at hw); go_split_ands; go_simp; try with_reducible rfl)
        case' rest36 => try simp only [Act.put, List.setIfInBounds_toArray, List.set_cons_zero, List.set_cons_succ]
        refine' dq_ask (R := (fun vv Wz => Ended (w.heap.size + 1 + 1) Wz vv (fin c mn mx))) (by rfl) (by rfl) ?hv37 ?hc37 ?rest37 (fun _ _ h g => keep2 h (below_gt g) rfl)
        case hv37 => (intro w; go_simp; exact ⟨rfl, rfl⟩)
        case hc37 => exact (fun wq hsq htq => (rest_any h1 h2 wq).mono fun e w' ⟨vv, he, hE, hb⟩ => ⟨vv, he, hE.mono hsq.2.1, gt_below hb _⟩)
        case' rest37 => try simp only [Act.put, List.setIfInBounds_toArray, List.set_cons_zero, List.set_cons_succ]
        intro vr wr hsr hgr hE
        refine dq_nil ?_
        simp only [fa, List.drop_succ_cons, List.drop_zero]
        rintro W ⟨⟨hb0, hn0, ⟨B1, B1c, B1f, B1l⟩, ⟨B2, B2c, B2f, B2l⟩⟩, hgl⟩ hbs
        clear hbs
        have hE2 := hE.below (below_gt hgl)
        clear hE
        (repeat' (first | go_values | go_skip | go_guarded | go_step | go_upon | (simp only [Int.not_lt, Int.not_le] at *; go_simp) | (go_values <;> (try go_simp)) | (go_ite <;> go_prune <;> (try go_simp)) | (split <;> (first | (rename_i hx; exact (hx _ rfl).elim) | go_prune))))
        refine bodyPost_ret ?_ rfl ⟨vr, rfl, Ended.mono (B := w.heap.size + 1 + 1) (by repeat' (first | (with_reducible exact hE2) | (with_reducible refine Ended.setc (by dsimp only; omega) ?_))) (by omega), by (repeat' (first | (with_reducible assumption) | (with_reducible exact Below.refl _ _) | (with_reducible refine Below.alloc ?_ ?_ _) | (with_reducible refine Below.setCell ?_ ?_ _) | (with_reducible refine Below.drew ?_) | (with_reducible refine below_more ?_ (by with_reducible assumption)) | go_size | omega | (with_reducible refine below_drewN ?_)))⟩
        simp [results, Try.results50, go_sem, B2c, B2f, B2l]
      · have e1 : min mn v = v := by omega
        have e2 : max mx v = v := by omega
        rw [e1, e2] at C
        clear e1 e2
        go_enter Try.func50, Try.ntmps50
        (repeat' (first | (go_big_may; (first | (go_at_call 70; refine (C _).mono ?_; rintro e w' ⟨rfl, hbw⟩; have N1 := Bx.of (HB.below (b := w.heap.size) (cs := #[.int .i64 t, .int .i64 c, .int .i64 mn, .int .i64 mx]) (by (repeat' (first | (with_reducible assumption) | ((with_reducible refine HB.new _ _ _ ?_) <;> (go_size; done)) | (with_reducible refine HB.old (by go_size) ?_) | (with_reducible refine HB.drew ?_) | (with_reducible refine HB.over5 ?_) | (with_reducible refine HB.over4 ?_) | (with_reducible refine HB.setne (by first | go_size | (dsimp only; omega)) ?_) | (with_reducible refine HN.set ?_) | (with_reducible refine HN.setne (by first | go_size | (dsimp only; omega)) ?_) | (with_reducible refine HN.drew ?_) | (with_reducible refine HN.old (by go_size) ?_) | (with_reducible exact HN.of5 (by assumption)) | (with_reducible exact HN.new5 _ _ (by go_size)) | (with_reducible exact HN.of4 (by assumption)) | (with_reducible exact HN.new4 _ _ (by go_size))))) hbw); have N2 := Bx.of (HB.below (b := w.heap.size + 1) (cs := #[.int .i64 0, .int .i64 0, .int .i64 0, .int .i64 0]) (by (repeat' (first | (with_reducible assumption) | ((with_reducible refine HB.new _ _ _ ?_) <;> (go_size; done)) | (with_reducible refine HB.old (by go_size) ?_) | (with_reducible refine HB.drew ?_) | (with_reducible refine HB.over5 ?_) | (with_reducible refine HB.over4 ?_) | (with_reducible refine HB.setne (by first | go_size | (dsimp only; omega)) ?_) | (with_reducible refine HN.set ?_) | (with_reducible refine HN.setne (by first | go_size | (dsimp only; omega)) ?_) | (with_reducible refine HN.drew ?_) | (with_reducible refine HN.old (by go_size) ?_) | (with_reducible exact HN.of5 (by assumption)) | (with_reducible exact HN.new5 _ _ (by go_size)) | (with_reducible exact HN.of4 (by assumption)) | (with_reducible exact HN.new4 _ _ (by go_size))))) hbw); (try clear B1 B1c B1f B1l); (try clear B2 B2c B2f B2l); obtain ⟨B1, B1c, B1f, B1l⟩ := N1; obtain ⟨B2, B2c, B2f, B2l⟩ := N2; have hsz := hbw.size; (try simp only [World.size_alloc, World.size_setCell, World.size_drew] at hsz)))) | go_values | go_skip | go_guarded | go_step | go_upon | (simp only [Int.not_lt, Int.not_le] at *; go_simp) | (go_values <;> (try go_simp)) | (go_ite <;> go_prune <;> (try go_simp)) | (split <;> (first | (rename_i hx; exact (hx _ rfl).elim) | go_prune))))
        
        (refine wp_region_dq (row := none) (S := (fun Wz => Below w.heap.size w Wz ∧ w.heap.size + 1 + 1 ≤ Wz.heap.size ∧ Bx Wz (w.heap.size) (#[.int .i64 t, .int .i64 c, .int .i64 mn, .int .i64 mx]) ∧ Bx Wz (w.heap.size + 1) (#[.int .i64 0, .int .i64 0, .int .i64 0, .int .i64 0]))) (n0 := w.heap.size + 1 + 1) 7 [] [(0, 0), (1, 0), (2, 0), (3, 0), (4, 0), (5, 0), (6, 1)] [] (by kernel_rfl) (by kernel_rfl) (fun _ _ d _ _ h => by cases d <;> exact h) ⟨by (repeat' (first | (with_reducible assumption) | (with_reducible exact Below.refl _ _) | (with_reducible refine Below.alloc ?_ ?_ _) | (with_reducible refine Below.setCell ?_ ?_ _) | (with_reducible refine Below.drew ?_) | (with_reducible refine below_more ?_ (by with_reducible assumption)) | go_size | omega | (with_reducible refine below_drewN ?_))), (by first | go_size | omega), Bx.of (by (repeat' (first | (with_reducible assumption) | ((with_reducible refine HB.new _ _ _ ?_) <;> (go_size; done)) | (with_reducible refine HB.old (by go_size) ?_) | (with_reducible refine HB.drew ?_) | (with_reducible refine HB.over5 ?_) | (with_reducible refine HB.over4 ?_) | (with_reducible refine HB.setne (by first | go_size | (dsimp only; omega)) ?_) | (with_reducible refine HN.set ?_) | (with_reducible refine HN.setne (by first | go_size | (dsimp only; omega)) ?_) | (with_reducible refine HN.drew ?_) | (with_reducible refine HN.old (by go_size) ?_) | (with_reducible exact HN.of5 (by assumption)) | (with_reducible exact HN.new5 _ _ (by go_size)) | (with_reducible exact HN.of4 (by assumption)) | (with_reducible exact HN.new4 _ _ (by go_size))))), Bx.of (by (repeat' (first | (with_reducible assumption) | ((with_reducible refine HB.new _ _ _ ?_) <;> (go_size; done)) | (with_reducible refine HB.old (by go_size) ?_) | (with_reducible refine HB.drew ?_) | (with_reducible refine HB.over5 ?_) | (with_reducible refine HB.over4 ?_) | (with_reducible refine HB.setne (by first | go_size | (dsimp only; omega)) ?_) | (with_reducible refine HN.set ?_) | (with_reducible refine HN.setne (by first | go_size | (dsimp only; omega)) ?_) | (with_reducible refine HN.drew ?_) | (with_reducible refine HN.old (by go_size) ?_) | (with_reducible exact HN.of5 (by assumption)) | (with_reducible exact HN.new5 _ _ (by go_size)) | (with_reducible exact HN.of4 (by assumption)) | (with_reducible exact HN.new4 _ _ (by go_size)))))⟩ (fun _ _ h g => keep2 h (below_gt g) rfl) (fun _ h => h.2.1) (fun _ h => by cases h) (by simp) ?_)
        refine' dq_pure (by rfl) (by rfl) ?hv38 ?rest38
        case hv38 => (intro w hw; (try dsimp only at hw); go_split_ands; go_simp; try with_reducible rfl)
        case' rest38 => try simp only [Act.put, List.setIfInBounds_toArray, List.set_cons_zero, List.set_cons_succ]
        refine' dq_pure (by rfl) (by rfl) ?hv39 ?rest39
        case hv39 => (intro w hw; (try dsimp only at hw); go_split_ands; go_simp; try with_reducible rfl)
        case' rest39 => try simp only [Act.put, List.setIfInBounds_toArray, List.set_cons_zero, List.set_cons_succ]
        refine' dq_pure (by rfl) (by rfl) ?hv40 ?rest40
        case hv40 => (intro w hw; (try dsimp only at hw); go_split_ands; go_simp; try with_reducible rfl)
        case' rest40 => try simp only [Act.put, List.setIfInBounds_toArray, List.set_cons_zero, List.set_cons_succ]
        refine' dq_pure (by rfl) (by rfl) ?hv41 ?rest41
        case hv41 => (intro w hw; (try dsimp only at hw); go_split_ands; go_simp; try with_reducible rfl)
        case' rest41 => try simp only [Act.put, List.setIfInBounds_toArray, List.set_cons_zero, List.set_cons_succ]
        refine' dq_pure (by rfl) (by rfl) ?hv42 ?rest42
        case hv42 => (intro w hw; (try dsimp only at hw); go_split_ands; go_simp; try with_reducible rfl)
        case' rest42 => try simp only [Act.put, List.setIfInBounds_toArray, List.set_cons_zero, List.set_cons_succ]
        refine' dq_pure (by rfl) (by rfl) ?hv43 ?rest43
        case hv43 => (intro w hw; (try dsimp only at hw); go_split_ands; go_simp; try with_reducible rfl)
        case' rest43 => try simp only [Act.put, List.setIfInBounds_toArray, List.set_cons_zero, List.set_cons_succ]
        refine' dq_ask (R := (fun vv Wz => Ended (w.heap.size + 1 + 1) Wz vv (fin c mn mx))) (by rfl) (by rfl) ?hv44 ?hc44 ?rest44 (fun _ _ h g => keep2 h (below_gt g) rfl)
        case hv44 => (intro w; go_simp; exact ⟨rfl, rfl⟩)
        case hc44 => exact (fun wq hsq htq => (rest_any h1 h2 wq).mono fun e w' ⟨vv, he, hE, hb⟩ => ⟨vv, he, hE.mono hsq.2.1, gt_below hb _⟩)
        case' rest44 => try simp only [Act.put, List.setIfInBounds_toArray, List.set_cons_zero, List.set_cons_succ]
        intro vr wr hsr hgr hE
        refine dq_nil ?_
        simp only [fa, List.drop_succ_cons, List.drop_zero]
        rintro W ⟨⟨hb0, hn0, ⟨B1, B1c, B1f, B1l⟩, ⟨B2, B2c, B2f, B2l⟩⟩, hgl⟩ hbs
        clear hbs
        have hE2 := hE.below (below_gt hgl)
        clear hE
        (repeat' (first | go_values | go_skip | go_guarded | go_step | go_upon | (simp only [Int.not_lt, Int.not_le] at *; go_simp) | (go_values <;> (try go_simp)) | (go_ite <;> go_prune <;> (try go_simp)) | (split <;> (first | (rename_i hx; exact (hx _ rfl).elim) | go_prune))))
        refine bodyPost_ret ?_ rfl ⟨vr, rfl, Ended.mono (B := w.heap.size + 1 + 1) (by repeat' (first | (with_reducible exact hE2) | (with_reducible refine Ended.setc (by dsimp only; omega) ?_))) (by omega), by (repeat' (first | (with_reducible assumption) | (with_reducible exact Below.refl _ _) | (with_reducible refine Below.alloc ?_ ?_ _) | (with_reducible refine Below.setCell ?_ ?_ _) | (with_reducible refine Below.drew ?_) | (with_reducible refine below_more ?_ (by with_reducible assumption)) | go_size | omega | (with_reducible refine below_drewN ?_)))⟩
        simp [results, Try.results50, go_sem, B2c, B2f, B2l]
    · by_cases hm : mn ≤ v <;> by_cases hx : v ≤ mx
      all_goals
        (first | (have e1 : min mn v = mn := by omega) | (have e1 : min mn v = v := by omega))
        (first | (have e2 : max mx v = mx := by omega) | (have e2 : max mx v = v := by omega))
        rw [e1, e2] at C
        rw [e1, e2]
        clear e1 e2
        (try simp only [Int.not_le] at hm)
        (try simp only [Int.not_le] at hx)
        go_enter Try.func50, Try.ntmps50
        (repeat' (first | (go_big_may; (first | (go_at_call 70; refine (C _).mono ?_; rintro e w' ⟨rfl, hbw⟩; have N1 := Bx.of (HB.below (b := w.heap.size) (cs := #[.int .i64 t, .int .i64 c, .int .i64 mn, .int .i64 mx]) (by (repeat' (first | (with_reducible assumption) | ((with_reducible refine HB.new _ _ _ ?_) <;> (go_size; done)) | (with_reducible refine HB.old (by go_size) ?_) | (with_reducible refine HB.drew ?_) | (with_reducible refine HB.over5 ?_) | (with_reducible refine HB.over4 ?_) | (with_reducible refine HB.setne (by first | go_size | (dsimp only; omega)) ?_) | (with_reducible refine HN.set ?_) | (with_reducible refine HN.setne (by first | go_size | (dsimp only; omega)) ?_) | (with_reducible refine HN.drew ?_) | (with_reducible refine HN.old (by go_size) ?_) | (with_reducible exact HN.of5 (by assumption)) | (with_reducible exact HN.new5 _ _ (by go_size)) | (with_reducible exact HN.of4 (by assumption)) | (with_reducible exact HN.new4 _ _ (by go_size))))) hbw); have N2 := Bx.of (HB.below (b := w.heap.size + 1) (cs := #[.int .i64 0, .int .i64 0, .int .i64 0, .int .i64 0]) (by (repeat' (first | (with_reducible assumption) | ((with_reducible refine HB.new _ _ _ ?_) <;> (go_size; done)) | (with_reducible refine HB.old (by go_size) ?_) | (with_reducible refine HB.drew ?_) | (with_reducible refine HB.over5 ?_) | (with_reducible refine HB.over4 ?_) | (with_reducible refine HB.setne (by first | go_size | (dsimp only; omega)) ?_) | (with_reducible refine HN.set ?_) | (with_reducible refine HN.setne (by first | go_size | (dsimp only; omega)) ?_) | (with_reducible refine HN.drew ?_) | (with_reducible refine HN.old (by go_size) ?_) | (with_reducible exact HN.of5 (by assumption)) | (with_reducible exact HN.new5 _ _ (by go_size)) | (with_reducible exact HN.of4 (by assumption)) | (with_reducible exact HN.new4 _ _ (by go_size))))) hbw); have N3 := Bx.of (HB.below (b := w.heap.size + 1 + 1) (cs := _) (by (repeat' (first | (with_reducible assumption) | ((with_reducible refine HB.new _ _ _ ?_) <;> (go_size; done)) | (with_reducible refine HB.old (by go_size) ?_) | (with_reducible refine HB.drew ?_) | (with_reducible refine HB.over5 ?_) | (with_reducible refine HB.over4 ?_) | (with_reducible refine HB.setne (by first | go_size | (dsimp only; omega)) ?_) | (with_reducible refine HN.set ?_) | (with_reducible refine HN.setne (by first | go_size | (dsimp only; omega)) ?_) | (with_reducible refine HN.drew ?_) | (with_reducible refine HN.old (by go_size) ?_) | (with_reducible exact HN.of5 (by assumption)) | (with_reducible exact HN.new5 _ _ (by go_size)) | (with_reducible exact HN.of4 (by assumption)) | (with_reducible exact HN.new4 _ _ (by go_size))))) hbw); (try clear B1 B1c B1f B1l); (try clear B2 B2c B2f B2l); (try clear B3 B3c B3f B3l); obtain ⟨B1, B1c, B1f, B1l⟩ := N1; obtain ⟨B2, B2c, B2f, B2l⟩ := N2; obtain ⟨B3, B3c, B3f, B3l⟩ := N3; have hsz := hbw.size; (try simp only [World.size_alloc, World.size_setCell, World.size_drew] at hsz)))) | go_values | go_skip | go_guarded | go_step | go_upon | (simp only [Int.not_lt, Int.not_le] at *; go_simp) | (go_values <;> (try go_simp)) | (go_ite <;> go_prune <;> (try go_simp)) | (split <;> (first | (rename_i hx; exact (hx _ rfl).elim) | go_prune))))
        refine bodyPost_ret ?_ rfl ⟨_, rfl, .inl ⟨rfl, rfl⟩, by (repeat' (first | (with_reducible assumption) | (with_reducible exact Below.refl _ _) | (with_reducible refine Below.alloc ?_ ?_ _) | (with_reducible refine Below.setCell ?_ ?_ _) | (with_reducible refine Below.drew ?_) | (with_reducible refine below_more ?_ (by with_reducible assumption)) | go_size | omega | (with_reducible refine below_drewN ?_)))⟩
        simp [results, Try.results50, go_sem, B2c, B2f, B2l]
  · have hg : goes t c mn mx v = false := by unfold goes; simp [hp]
    rw [hg]
    clear hg
    simp only [Bool.false_eq_true, if_false]
    simp only [Int.not_lt] at hp
    go_enter Try.func50, Try.ntmps50
    (repeat' (first | go_values | go_skip | go_guarded | go_step | go_upon | (simp only [Int.not_lt, Int.not_le] at *; go_simp) | (go_values <;> (try go_simp)) | (go_ite <;> go_prune <;> (try go_simp)) | (split <;> (first | (rename_i hx; exact (hx _ rfl).elim) | go_prune))))
    
    (refine wp_region_dq (row := none) (S := (fun Wz => Below w.heap.size w Wz ∧ w.heap.size + 1 + 1 ≤ Wz.heap.size ∧ Bx Wz (w.heap.size) (#[.int .i64 t, .int .i64 c, .int .i64 mn, .int .i64 mx]) ∧ Bx Wz (w.heap.size + 1) (#[.int .i64 0, .int .i64 0, .int .i64 0, .int .i64 0]))) (n0 := w.heap.size + 1 + 1) 7 [] [(0, 0), (1, 0), (2, 0), (3, 0), (4, 0), (5, 0), (6, 1)] [] (by kernel_rfl) (by kernel_rfl) (fun _ _ d _ _ h => by cases d <;> exact h) ⟨by (repeat' (first | (with_reducible assumption) | (with_reducible exact Below.refl _ _) | (with_reducible refine Below.alloc ?_ ?_ _) | (with_reducible refine Below.setCell ?_ ?_ _) | (with_reducible refine Below.drew ?_) | (with_reducible refine below_more ?_ (by with_reducible assumption)) | go_size | omega | (with_reducible refine below_drewN ?_))), (by first | go_size | omega), Bx.of (by (repeat' (first | (with_reducible assumption) | ((with_reducible refine HB.new _ _ _ ?_) <;> (go_size; done)) | (with_reducible refine HB.old (by go_size) ?_) | (with_reducible refine HB.drew ?_) | (with_reducible refine HB.over5 ?_) | (with_reducible refine HB.over4 ?_) | (with_reducible refine HB.setne (by first | go_size | (dsimp only; omega)) ?_) | (with_reducible refine HN.set ?_) | (with_reducible refine HN.setne (by first | go_size | (dsimp only; omega)) ?_) | (with_reducible refine HN.drew ?_) | (with_reducible refine HN.old (by go_size) ?_) | (with_reducible exact HN.of5 (by assumption)) | (with_reducible exact HN.new5 _ _ (by go_size)) | (with_reducible exact HN.of4 (by assumption)) | (with_reducible exact HN.new4 _ _ (by go_size))))), Bx.of (by (repeat' (first | (with_reducible assumption) | ((with_reducible refine HB.new _ _ _ ?_) <;> (go_size; done)) | (with_reducible refine HB.old (by go_size) ?_) | (with_reducible refine HB.drew ?_) | (with_reducible refine HB.over5 ?_) | (with_reducible refine HB.over4 ?_) | (with_reducible refine HB.setne (by first | go_size | (dsimp only; omega)) ?_) | (with_reducible refine HN.set ?_) | (with_reducible refine HN.setne (by first | go_size | (dsimp only; omega)) ?_) | (with_reducible refine HN.drew ?_) | (with_reducible refine HN.old (by go_size) ?_) | (with_reducible exact HN.of5 (by assumption)) | (with_reducible exact HN.new5 _ _ (by go_size)) | (with_reducible exact HN.of4 (by assumption)) | (with_reducible exact HN.new4 _ _ (by go_size)))))⟩ (fun _ _ h g => keep2 h (below_gt g) rfl) (fun _ h => h.2.1) (fun _ h => by cases h) (by simp) ?_)
    refine' dq_pure (by rfl) (by rfl) ?hv45 ?rest45
    case hv45 => (intro w hw; (try dsimp only at hw); go_split_ands; go_simp; try with_reducible rfl)
    case' rest45 => try simp only [Act.put, List.setIfInBounds_toArray, List.set_cons_zero, List.set_cons_succ]
    refine' dq_pure (by rfl) (by rfl) ?hv46 ?rest46
    case hv46 => (intro w hw; (try dsimp only at hw); go_split_ands; go_simp; try with_reducible rfl)
    case' rest46 => try simp only [Act.put, List.setIfInBounds_toArray, List.set_cons_zero, List.set_cons_succ]
    refine' dq_pure (by rfl) (by rfl) ?hv47 ?rest47
    case hv47 => (intro w hw; (try dsimp only at hw); go_split_ands; go_simp; try with_reducible rfl)
    case' rest47 => try simp only [Act.put, List.setIfInBounds_toArray, List.set_cons_zero, List.set_cons_succ]
    refine' dq_pure (by rfl) (by rfl) ?hv48 ?rest48
    case hv48 => (intro w hw; (try dsimp only at hw); go_split_ands; go_simp; try with_reducible rfl)
    case' rest48 => try simp only [Act.put, List.setIfInBounds_toArray, List.set_cons_zero, List.set_cons_succ]
    refine' dq_pure (by rfl) (by rfl) ?hv49 ?rest49
    case hv49 => (intro w hw; (try dsimp only at hw); go_split_ands; go_simp; try with_reducible rfl)
    case' rest49 => try simp only [Act.put, List.setIfInBounds_toArray, List.set_cons_zero, List.set_cons_succ]
    refine' dq_pure (by rfl) (by rfl) ?hv50 ?rest50
    case hv50 => (intro w hw; (try dsimp only at hw); go_split_ands; go_simp; try with_reducible rfl)
    case' rest50 => try simp only [Act.put, List.setIfInBounds_toArray, List.set_cons_zero, List.set_cons_succ]
    refine' dq_ask (R := (fun vv Wz => Ended (w.heap.size + 1 + 1) Wz vv (fin c mn mx))) (by rfl) (by rfl) ?hv51 ?hc51 ?rest51 (fun _ _ h g => keep2 h (below_gt g) rfl)
    case hv51 => (intro w; go_simp; exact ⟨rfl, rfl⟩)
    case hc51 => exact (fun wq hsq htq => (rest_any h1 h2 wq).mono fun e w' ⟨vv, he, hE, hb⟩ => ⟨vv, he, hE.mono hsq.2.1, gt_below hb _⟩)
    case' rest51 => try simp only [Act.put, List.setIfInBounds_toArray, List.set_cons_zero, List.set_cons_succ]
    intro vr wr hsr hgr hE
    refine dq_nil ?_
    simp only [fa, List.drop_succ_cons, List.drop_zero]
    rintro W ⟨⟨hb0, hn0, ⟨B1, B1c, B1f, B1l⟩, ⟨B2, B2c, B2f, B2l⟩⟩, hgl⟩ hbs
    clear hbs
    have hE2 := hE.below (below_gt hgl)
    clear hE
    (repeat' (first | go_values | go_skip | go_guarded | go_step | go_upon | (simp only [Int.not_lt, Int.not_le] at *; go_simp) | (go_values <;> (try go_simp)) | (go_ite <;> go_prune <;> (try go_simp)) | (split <;> (first | (rename_i hx; exact (hx _ rfl).elim) | go_prune))))
    refine bodyPost_ret ?_ rfl ⟨vr, rfl, Ended.mono (B := w.heap.size + 1 + 1) (by repeat' (first | (with_reducible exact hE2) | (with_reducible refine Ended.setc (by dsimp only; omega) ?_))) (by omega), by (repeat' (first | (with_reducible assumption) | (with_reducible exact Below.refl _ _) | (with_reducible refine Below.alloc ?_ ?_ _) | (with_reducible refine Below.setCell ?_ ?_ _) | (with_reducible refine Below.drew ?_) | (with_reducible refine below_more ?_ (by with_reducible assumption)) | go_size | omega | (with_reducible refine below_drewN ?_)))⟩
    simp [results, Try.results50, go_sem, B2c, B2f, B2l]
end Go.Proofs.Ytenaeaojnebokaa
