/- midrange.Valid and its reference's. -/
import Derived.Test.YtenaeaojnebokaaRows
import Derived.Test.YtenaeaojnebokaaMidA
import Derived.WalkKit
import Derived.ProofKit
import Derived.WalkLawsBesides
import Derived.WalkSpells
import Derived.RegionTactic
import Derived.ChangeAlike
import Derived.BigRegion
import Derived.Outline
import Derived.Handy
namespace Go.Proofs.Ytenaeaojnebokaa
open Go.ChangeShapes Go.WideShapes Go.ChangeAt Go.RowKit
set_option linter.unusedVariables false
set_option linter.unusedSimpArgs false

theorem vld_cases (t c mn mx : Int) : (tolb t = false ∧ vld t c mn mx = false) ∨ (tolb t = true ∧ c < 0 ∧ vld t c mn mx = false) ∨ (tolb t = true ∧ 1073741824 < c ∧ vld t c mn mx = false) ∨ (tolb t = true ∧ c = 0 ∧ mn = 0 ∧ mx = 0 ∧ narr t mn mx = true ∧ vld t c mn mx = true) ∨
    (tolb t = true ∧ c = 0 ∧ mn ≠ 0 ∧ mx < mn ∧ vld t c mn mx = false) ∨ (tolb t = true ∧ c = 0 ∧ mn ≠ 0 ∧ mn ≤ mx ∧ narr t mn mx = false ∧ vld t c mn mx = false) ∨ (tolb t = true ∧ c = 0 ∧ mn ≠ 0 ∧ mn ≤ mx ∧ narr t mn mx = true ∧ vld t c mn mx = false) ∨
    (tolb t = true ∧ c = 0 ∧ mn = 0 ∧ mx ≠ 0 ∧ mx < mn ∧ vld t c mn mx = false) ∨ (tolb t = true ∧ c = 0 ∧ mn = 0 ∧ mx ≠ 0 ∧ mn ≤ mx ∧ narr t mn mx = false ∧ vld t c mn mx = false) ∨ (tolb t = true ∧ c = 0 ∧ mn = 0 ∧ mx ≠ 0 ∧ mn ≤ mx ∧ narr t mn mx = true ∧ vld t c mn mx = false) ∨
    (tolb t = true ∧ 1 ≤ c ∧ c ≤ 1073741824 ∧ mx < mn ∧ vld t c mn mx = false) ∨ (tolb t = true ∧ 1 ≤ c ∧ c ≤ 1073741824 ∧ mn ≤ mx ∧ narr t mn mx = false ∧ vld t c mn mx = false) ∨
    (tolb t = true ∧ c = 1 ∧ mn = mx ∧ narr t mn mx = true ∧ vld t c mn mx = true) ∨ (tolb t = true ∧ c = 1 ∧ mn ≠ mx ∧ mn ≤ mx ∧ narr t mn mx = true ∧ vld t c mn mx = false) ∨ (tolb t = true ∧ 1 < c ∧ c ≤ 1073741824 ∧ mn ≤ mx ∧ narr t mn mx = true ∧ vld t c mn mx = true) := by
  have hz : tolb t = true → narr t 0 0 = true := fun h => by
    obtain ⟨h1, h2⟩ := tolb_yes h
    unfold narr dst; simp; omega
  have hz2 : ∀ z, tolb t = true → narr t z z = true := fun z h => by
    obtain ⟨h1, h2⟩ := tolb_yes h
    unfold narr dst; simp; omega
  by_cases ht : tolb t = true
  · by_cases c0 : c < 0
    · exact .inr (.inl ⟨ht, c0, by unfold vld; simp [ht]; omega⟩)
    by_cases c1 : 1073741824 < c
    · exact .inr (.inr (.inl ⟨ht, c1, by unfold vld; simp [ht]; omega⟩))
    by_cases cz : c = 0
    · subst cz
      by_cases m0 : mn = 0
      · by_cases x0 : mx = 0
        · subst m0; subst x0
          exact .inr (.inr (.inr (.inl ⟨ht, rfl, rfl, rfl, hz ht, by unfold vld; simp [ht, hz ht]⟩)))
        · by_cases hl : mx < mn
          · exact .inr (.inr (.inr (.inr (.inr (.inr (.inr (.inl ⟨ht, rfl, m0, x0, hl, by unfold vld; simp [x0]⟩)))))))
          · cases hn : narr t mn mx
            · exact .inr (.inr (.inr (.inr (.inr (.inr (.inr (.inr (.inl ⟨ht, rfl, m0, x0, by omega, rfl, by unfold vld; simp [x0]⟩))))))))
            · exact .inr (.inr (.inr (.inr (.inr (.inr (.inr (.inr (.inr (.inl ⟨ht, rfl, m0, x0, by omega, rfl, by unfold vld; simp [x0]⟩)))))))))
      · by_cases hl : mx < mn
        · exact .inr (.inr (.inr (.inr (.inl ⟨ht, rfl, m0, hl, by unfold vld; simp [m0]⟩))))
        · cases hn : narr t mn mx
          · exact .inr (.inr (.inr (.inr (.inr (.inl ⟨ht, rfl, m0, by omega, rfl, by unfold vld; simp [m0]⟩)))))
          · exact .inr (.inr (.inr (.inr (.inr (.inr (.inl ⟨ht, rfl, m0, by omega, rfl, by unfold vld; simp [m0]⟩))))))
    · by_cases hl : mx < mn
      · exact .inr (.inr (.inr (.inr (.inr (.inr (.inr (.inr (.inr (.inr (.inl ⟨ht, by omega, by omega, hl, by unfold vld; simp; omega⟩))))))))))
      cases hn : narr t mn mx
      · exact .inr (.inr (.inr (.inr (.inr (.inr (.inr (.inr (.inr (.inr (.inr (.inl ⟨ht, by omega, by omega, by omega, rfl, by unfold vld; simp [hn]⟩)))))))))))
      by_cases ci : c = 1
      · by_cases he : mn = mx
        · exact .inr (.inr (.inr (.inr (.inr (.inr (.inr (.inr (.inr (.inr (.inr (.inr (.inl ⟨ht, ci, he, rfl, by unfold vld; subst ci; subst he; simp [ht, hn]⟩))))))))))))
        · exact .inr (.inr (.inr (.inr (.inr (.inr (.inr (.inr (.inr (.inr (.inr (.inr (.inr (.inl ⟨ht, ci, he, by omega, rfl, by unfold vld; subst ci; simp [he]⟩)))))))))))))
      · exact .inr (.inr (.inr (.inr (.inr (.inr (.inr (.inr (.inr (.inr (.inr (.inr (.inr (.inr ⟨ht, by omega, by omega, by omega, rfl, by unfold vld; simp [ht, hn, cz, ci]; omega⟩)))))))))))))
  · exact .inl ⟨by simpa using ht, by unfold vld; simp [ht]⟩


set_option maxHeartbeats 4000000 in
set_option maxRecDepth 100000 in
theorem valid_any {t c mn mx : Int} (h1 : I64 mn) (h2 : I64 mx) (w : World) : Calls Try.prog 66 #[MS t c mn mx] w fun e w' => e = .returned (.bool (vld t c mn mx)) ∧ Below w.heap.size w w' := by
  have C := fun W => tolerable_any t W
  have N := fun (h : tolb t = true) W => narrow_any (c := c) h h1 h2 W
  rcases vld_cases t c mn mx with ⟨ht, hv⟩ | ⟨ht, x1, hv⟩ | ⟨ht, x1, hv⟩ | ⟨ht, x1, x2, x3, x4, hv⟩ | ⟨ht, x1, x2, x3, hv⟩ | ⟨ht, x1, x2, x3, x4, hv⟩ | ⟨ht, x1, x2, x3, x4, hv⟩ | ⟨ht, x1, x2, x3, x4, hv⟩ | ⟨ht, x1, x2, x3, x4, x5, hv⟩ | ⟨ht, x1, x2, x3, x4, x5, hv⟩ | ⟨ht, x1, x2, x3, hv⟩ | ⟨ht, x1, x2, x3, x4, hv⟩ | ⟨ht, x1, x2, x3, hv⟩ | ⟨ht, x1, x2, x3, x4, hv⟩ | ⟨ht, x1, x2, x3, x4, hv⟩
  all_goals
    rw [hv]
    rw [ht] at C
    clear hv
    (first | (have N' := N ht; (try rw [x3] at N'); (try rw [x4] at N'); (try rw [x5] at N')) | skip)
    (try subst x1)
    (try subst x2)
    (try subst x3)
    clear N
    go_enter Try.func66, Try.ntmps66
    (repeat' (first | (go_big_may; (first | (go_at_call 62; refine (C _).mono ?_; rintro e w' ⟨rfl, rfl⟩) | (go_at_call 70; refine (N' _).mono ?_; rintro e w' ⟨rfl, hbw⟩; have N1 := Bx.of (HB.below (b := w.heap.size) (cs := _) (by (repeat' (first | (with_reducible assumption) | ((with_reducible refine HB.new _ _ _ ?_) <;> (go_size; done)) | (with_reducible refine HB.old (by go_size) ?_) | (with_reducible refine HB.drew ?_) | (with_reducible refine HB.over5 ?_) | (with_reducible refine HB.over4 ?_) | (with_reducible refine HB.setne (by first | go_size | (dsimp only; omega)) ?_) | (with_reducible refine HN.set ?_) | (with_reducible refine HN.setne (by first | go_size | (dsimp only; omega)) ?_) | (with_reducible refine HN.drew ?_) | (with_reducible refine HN.old (by go_size) ?_) | (with_reducible exact HN.of5 (by assumption)) | (with_reducible exact HN.new5 _ _ (by go_size)) | (with_reducible exact HN.of4 (by assumption)) | (with_reducible exact HN.new4 _ _ (by go_size))))) hbw); (try clear B1 B1c B1f B1l); obtain ⟨B1, B1c, B1f, B1l⟩ := N1; have hsz := hbw.size; (try simp only [World.size_alloc, World.size_setCell, World.size_drew] at hsz)))) | go_values | go_skip | go_guarded | go_step | go_upon | (simp only [Int.not_lt, Int.not_le] at *; go_simp) | (go_values <;> (try go_simp)) | (go_ite <;> go_prune <;> (try go_simp)) | (split <;> (first | (rename_i hx; exact (hx _ rfl).elim) | go_prune))))
    go_ret
    first | exact ⟨rfl, by (repeat' (first | (with_reducible assumption) | (with_reducible exact Below.refl _ _) | (with_reducible refine Below.alloc ?_ ?_ _) | (with_reducible refine Below.setCell ?_ ?_ _) | (with_reducible refine Below.drew ?_) | (with_reducible refine below_more ?_ (by with_reducible assumption)) | go_size | omega | (with_reducible refine below_drewN ?_)))⟩ | exact ⟨ret_b (beq_eq_false_iff_ne.2 (by assumption)), by (repeat' (first | (with_reducible assumption) | (with_reducible exact Below.refl _ _) | (with_reducible refine Below.alloc ?_ ?_ _) | (with_reducible refine Below.setCell ?_ ?_ _) | (with_reducible refine Below.drew ?_) | (with_reducible refine below_more ?_ (by with_reducible assumption)) | go_size | omega | (with_reducible refine below_drewN ?_)))⟩
set_option maxHeartbeats 4000000 in
set_option maxRecDepth 100000 in
theorem rvalid_any {t c mn mx : Int} (h1 : I64 mn) (h2 : I64 mx) (w : World) : Calls Try.prog 67 #[MS t c mn mx] w fun e w' => e = .returned (.bool (vld t c mn mx)) ∧ Below w.heap.size w w' := by
  have C := fun W => rtol_any t W
  have N := fun (h : tolb t = true) W => rfits_any (c := c) h h1 h2 W
  rcases vld_cases t c mn mx with ⟨ht, hv⟩ | ⟨ht, x1, hv⟩ | ⟨ht, x1, hv⟩ | ⟨ht, x1, x2, x3, x4, hv⟩ | ⟨ht, x1, x2, x3, hv⟩ | ⟨ht, x1, x2, x3, x4, hv⟩ | ⟨ht, x1, x2, x3, x4, hv⟩ | ⟨ht, x1, x2, x3, x4, hv⟩ | ⟨ht, x1, x2, x3, x4, x5, hv⟩ | ⟨ht, x1, x2, x3, x4, x5, hv⟩ | ⟨ht, x1, x2, x3, hv⟩ | ⟨ht, x1, x2, x3, x4, hv⟩ | ⟨ht, x1, x2, x3, hv⟩ | ⟨ht, x1, x2, x3, x4, hv⟩ | ⟨ht, x1, x2, x3, x4, hv⟩
  all_goals
    rw [hv]
    rw [ht] at C
    clear hv
    (first | (have N' := N ht; (try rw [x3] at N'); (try rw [x4] at N'); (try rw [x5] at N')) | skip)
    (try subst x1)
    (try subst x2)
    (try subst x3)
    clear N
    go_enter Try.func67, Try.ntmps67
    (repeat' (first | (go_big_may; (first | (go_at_call 63; refine (C _).mono ?_; rintro e w' ⟨rfl, rfl⟩) | (go_at_call 72; refine (N' _).mono ?_; rintro e w' ⟨rfl, hbw⟩; have N1 := Bx.of (HB.below (b := w.heap.size) (cs := _) (by (repeat' (first | (with_reducible assumption) | ((with_reducible refine HB.new _ _ _ ?_) <;> (go_size; done)) | (with_reducible refine HB.old (by go_size) ?_) | (with_reducible refine HB.drew ?_) | (with_reducible refine HB.over5 ?_) | (with_reducible refine HB.over4 ?_) | (with_reducible refine HB.setne (by first | go_size | (dsimp only; omega)) ?_) | (with_reducible refine HN.set ?_) | (with_reducible refine HN.setne (by first | go_size | (dsimp only; omega)) ?_) | (with_reducible refine HN.drew ?_) | (with_reducible refine HN.old (by go_size) ?_) | (with_reducible exact HN.of5 (by assumption)) | (with_reducible exact HN.new5 _ _ (by go_size)) | (with_reducible exact HN.of4 (by assumption)) | (with_reducible exact HN.new4 _ _ (by go_size))))) hbw); (try clear B1 B1c B1f B1l); obtain ⟨B1, B1c, B1f, B1l⟩ := N1; have hsz := hbw.size; (try simp only [World.size_alloc, World.size_setCell, World.size_drew] at hsz)))) | go_values | go_skip | go_guarded | go_step | go_upon | (simp only [Int.not_lt, Int.not_le] at *; go_simp) | (go_values <;> (try go_simp)) | (go_ite <;> go_prune <;> (try go_simp)) | (split <;> (first | (rename_i hx; exact (hx _ rfl).elim) | go_prune))))
    go_ret
    first | exact ⟨rfl, by (repeat' (first | (with_reducible assumption) | (with_reducible exact Below.refl _ _) | (with_reducible refine Below.alloc ?_ ?_ _) | (with_reducible refine Below.setCell ?_ ?_ _) | (with_reducible refine Below.drew ?_) | (with_reducible refine below_more ?_ (by with_reducible assumption)) | go_size | omega | (with_reducible refine below_drewN ?_)))⟩ | exact ⟨ret_b (beq_eq_false_iff_ne.2 (by assumption)), by (repeat' (first | (with_reducible assumption) | (with_reducible exact Below.refl _ _) | (with_reducible refine Below.alloc ?_ ?_ _) | (with_reducible refine Below.setCell ?_ ?_ _) | (with_reducible refine Below.drew ?_) | (with_reducible refine below_more ?_ (by with_reducible assumption)) | go_size | omega | (with_reducible refine below_drewN ?_)))⟩
end Go.Proofs.Ytenaeaojnebokaa
