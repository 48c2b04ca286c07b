/- tscodeclaw15.alike: the program and the reference say the same of every state and value. -/
import Derived.Test.YtenaeaojnebokaaRows
import Derived.Test.YtenaeaojnebokaaMidL
import Derived.WalkKit
import Derived.ProofKit
import Derived.WalkLawsBesides
import Derived.WalkSpells
import Derived.RegionTactic
import Derived.ChangeAlike
import Derived.BigRegion
import Derived.Outline
import Derived.Handy
namespace Go.Proofs.Ytenaeaojnebokaa
open Go.ChangeShapes Go.WideShapes Go.ChangeAt Go.RowKit
set_option linter.unusedVariables false
set_option linter.unusedSimpArgs false

/-- A step's answer, told by what the arguments alone decide. -/
def Ans3 (a b c d er : Int) (os : List (Int × Int)) (w : World) (e : Ending) (w' : World) : Prop := ∃ v, e = .returned (.tuple #[MS a b c d, v, .int .i64 er]) ∧ RdC w' v os ∧ Below w.heap.size w w'
def Ans2 (er : Int) (os : List (Int × Int)) (w : World) (e : Ending) (w' : World) : Prop := ∃ v, e = .returned (.tuple #[v, .int .i64 er]) ∧ RdC w' v os ∧ Below w.heap.size w w'
theorem rdc_nil (w : World) : RdC w (.slice none 0 0) [] := ⟨none, 0, rfl, fun h => by simp at h⟩
theorem opt_len (o : Option (Int × Int)) : o.toList.length ≤ 1 := by cases o <;> simp
theorem step_ans {t c mn mx v : Int} (ht : I64 t) (h1 : I64 mn) (h2 : I64 mx) (h3 : I64 v) : ∃ (a b c' d er : Int) (os : List (Int × Int)), os.length ≤ 1 ∧ I64 a ∧ I64 b ∧ I64 c' ∧ I64 d ∧ ∀ w e w', StepP t c mn mx v w e w' → Ans3 a b c' d er os w e w' := by
  unfold StepP
  cases hv : vld t c mn mx
  · exact ⟨0, 0, 0, 0, 1, [], by simp, ⟨by decide, by decide⟩, ⟨by decide, by decide⟩, ⟨by decide, by decide⟩, ⟨by decide, by decide⟩, fun w e w' ⟨he, hb⟩ => ⟨_, by simpa using he, rdc_nil _, hb⟩⟩
  · obtain ⟨_, c0, c1⟩ := vld_yes hv
    by_cases hc : c = 1073741824
    · exact ⟨0, 0, 0, 0, 3, [], by simp, ⟨by decide, by decide⟩, ⟨by decide, by decide⟩, ⟨by decide, by decide⟩, ⟨by decide, by decide⟩, fun w e w' ⟨he, hb⟩ => ⟨_, by simpa [hc] using he, rdc_nil _, hb⟩⟩
    · refine ⟨t, nC t c mn mx v, nMin t c mn mx v, nMax t c mn mx v, 0, (nEnd t c mn mx v).toList, opt_len _, ht, ?_, ?_, ?_, fun w e w' ⟨he, hb⟩ => ?_⟩
      · unfold nC; split <;> exact ⟨by omega, by omega⟩
      · unfold nMin; split
        · exact min_i64 h1 h3
        · exact h3
      · unfold nMax; split
        · exact max_i64 h2 h3
        · exact h3
      · simp only [if_true, if_neg hc] at he
        obtain ⟨vv, he, hE⟩ := he
        exact ⟨vv, he, RdC.ended hE, hb⟩
theorem fin_ans (t c mn mx : Int) : ∃ (er : Int) (os : List (Int × Int)), os.length ≤ 1 ∧ ∀ w e w', FinP t c mn mx w e w' → Ans2 er os w e w' := by
  unfold FinP
  exact ⟨_, _, opt_len _, fun w e w' ⟨v, he, hE, hb⟩ => ⟨v, he, RdC.ended hE, hb⟩⟩
theorem eq_ms (a b c d : Int) (w : World) : (Op.equalIn 10000 55 (.agg #[.int .i64 a, .int .i64 b, .int .i64 c, .int .i64 d]) (.agg #[.int .i64 a, .int .i64 b, .int .i64 c, .int .i64 d])).run Try.prog w = .ok true w := by
  have h : ∀ dd, (Op.equalIn (dd + 3) 55 (.agg #[.int .i64 a, .int .i64 b, .int .i64 c, .int .i64 d]) (.agg #[.int .i64 a, .int .i64 b, .int .i64 c, .int .i64 d])).run Try.prog w = .ok true w := fun dd => by simp [Op.eqItems, go_sem]
  exact h 9997

set_option maxHeartbeats 8000000 in
set_option maxRecDepth 100000 in
theorem alike_any {t c mn mx v : Int} (ht : I64 t) (h1 : I64 mn) (h2 : I64 mx) (h3 : I64 v) (w : World) : Calls Try.prog 42 #[MS t c mn mx, .int .i64 v] w fun e w' => e = .returned (.bool true) ∧ Below w.heap.size w w' := by
  obtain ⟨a, b, c', d, er, os, hos, -, -, -, -, hS⟩ := step_ans (c := c) ht h1 h2 h3
  obtain ⟨fr, fs, hfs, hF⟩ := fin_ans t c mn mx
  have K1 := fun W => (Step_any (t := t) (c := c) h1 h2 h3 W).mono (fun e w' h => hS W e w' h)
  have K2 := fun W => (rStep_any (t := t) (c := c) h1 h2 h3 W).mono (fun e w' h => hS W e w' h)
  have K3 := fun W => (finish_any (t := t) (c := c) h1 h2 W).mono (fun e w' h => hF W e w' h)
  have K4 := fun W => (rfinish_any (t := t) (c := c) h1 h2 W).mono (fun e w' h => hF W e w' h)
  unfold Ans3 at K1 K2
  unfold Ans2 at K3 K4
  have E := eq_ms
  clear hS hF
  go_enter Try.func42, Try.ntmps42
  (repeat' (first | go_values | go_skip | go_guarded | go_step | go_upon | (simp only [Int.not_lt, Int.not_le] at *; go_simp) | (go_values <;> (try go_simp)) | (go_ite <;> go_prune <;> (try go_simp)) | (split <;> (first | (rename_i hx; exact (hx _ rfl).elim) | go_prune))))
  go_at_call 64
  refine (K1 _).mono ?_
  rintro e wa ⟨va, rfl, ra, hbwa⟩
  have N1 := Bx.of (HB.below (b := w.heap.size) (cs := #[.int .i64 t, .int .i64 c, .int .i64 mn, .int .i64 mx]) (by (repeat' (first | (with_reducible assumption) | ((with_reducible refine HB.new _ _ _ ?_) <;> (go_size; done)) | (with_reducible refine HB.old (by go_size) ?_) | (with_reducible refine HB.drew ?_) | (with_reducible refine HB.over5 ?_) | (with_reducible refine HB.over4 ?_) | (with_reducible refine HB.setne (by first | go_size | (dsimp only; omega)) ?_) | (with_reducible refine HN.set ?_) | (with_reducible refine HN.setne (by first | go_size | (dsimp only; omega)) ?_) | (with_reducible refine HN.drew ?_) | (with_reducible refine HN.old (by go_size) ?_) | (with_reducible exact HN.of5 (by assumption)) | (with_reducible exact HN.new5 _ _ (by go_size)) | (with_reducible exact HN.of4 (by assumption)) | (with_reducible exact HN.new4 _ _ (by go_size))))) hbwa)
  have hzwa := hbwa.size
  (try simp only [World.size_alloc, World.size_setCell, World.size_drew] at hzwa)
  (try clear B1 B1c B1f B1l)
  obtain ⟨B1, B1c, B1f, B1l⟩ := N1
  (repeat' (first | go_values | go_skip | go_guarded | go_step | go_upon | (simp only [Int.not_lt, Int.not_le] at *; go_simp) | (go_values <;> (try go_simp)) | (go_ite <;> go_prune <;> (try go_simp)) | (split <;> (first | (rename_i hx; exact (hx _ rfl).elim) | go_prune))))
  go_at_call 54
  refine (K2 _).mono ?_
  rintro e wb ⟨vb, rfl, rb, hbwb⟩
  have N1 := Bx.of (HB.below (b := w.heap.size) (cs := #[.int .i64 t, .int .i64 c, .int .i64 mn, .int .i64 mx]) (by (repeat' (first | (with_reducible assumption) | ((with_reducible refine HB.new _ _ _ ?_) <;> (go_size; done)) | (with_reducible refine HB.old (by go_size) ?_) | (with_reducible refine HB.drew ?_) | (with_reducible refine HB.over5 ?_) | (with_reducible refine HB.over4 ?_) | (with_reducible refine HB.setne (by first | go_size | (dsimp only; omega)) ?_) | (with_reducible refine HN.set ?_) | (with_reducible refine HN.setne (by first | go_size | (dsimp only; omega)) ?_) | (with_reducible refine HN.drew ?_) | (with_reducible refine HN.old (by go_size) ?_) | (with_reducible exact HN.of5 (by assumption)) | (with_reducible exact HN.new5 _ _ (by go_size)) | (with_reducible exact HN.of4 (by assumption)) | (with_reducible exact HN.new4 _ _ (by go_size))))) hbwb)
  have N2 := Bx.of (HB.below (b := wa.heap.size) (cs := #[.int .i64 a, .int .i64 b, .int .i64 c', .int .i64 d]) (by (repeat' (first | (with_reducible assumption) | ((with_reducible refine HB.new _ _ _ ?_) <;> (go_size; done)) | (with_reducible refine HB.old (by go_size) ?_) | (with_reducible refine HB.drew ?_) | (with_reducible refine HB.over5 ?_) | (with_reducible refine HB.over4 ?_) | (with_reducible refine HB.setne (by first | go_size | (dsimp only; omega)) ?_) | (with_reducible refine HN.set ?_) | (with_reducible refine HN.setne (by first | go_size | (dsimp only; omega)) ?_) | (with_reducible refine HN.drew ?_) | (with_reducible refine HN.old (by go_size) ?_) | (with_reducible exact HN.of5 (by assumption)) | (with_reducible exact HN.new5 _ _ (by go_size)) | (with_reducible exact HN.of4 (by assumption)) | (with_reducible exact HN.new4 _ _ (by go_size))))) hbwb)
  have blwb : Below wa.heap.size wa wb := by (repeat' (first | (with_reducible assumption) | (with_reducible exact Below.refl _ _) | (with_reducible refine Below.alloc ?_ ?_ _) | (with_reducible refine Below.setCell ?_ ?_ _) | (with_reducible refine Below.drew ?_) | (with_reducible refine below_more ?_ (by with_reducible assumption)) | go_size | omega | (with_reducible refine below_drewN ?_)))
  replace ra := ra.below blwb
  have hzwb := hbwb.size
  (try simp only [World.size_alloc, World.size_setCell, World.size_drew] at hzwb)
  (try clear B1 B1c B1f B1l)
  obtain ⟨B1, B1c, B1f, B1l⟩ := N1
  (try clear B2 B2c B2f B2l)
  obtain ⟨B2, B2c, B2f, B2l⟩ := N2
  (repeat' (first | go_values | go_skip | go_guarded | go_step | go_upon | (simp only [Int.not_lt, Int.not_le] at *; go_simp) | (go_values <;> (try go_simp)) | (go_ite <;> go_prune <;> (try go_simp)) | (split <;> (first | (rename_i hx; exact (hx _ rfl).elim) | go_prune))))
  go_at_call 65
  refine (K3 _).mono ?_
  rintro e wc ⟨vc, rfl, rc, hbwc⟩
  have N1 := Bx.of (HB.below (b := w.heap.size) (cs := #[.int .i64 t, .int .i64 c, .int .i64 mn, .int .i64 mx]) (by (repeat' (first | (with_reducible assumption) | ((with_reducible refine HB.new _ _ _ ?_) <;> (go_size; done)) | (with_reducible refine HB.old (by go_size) ?_) | (with_reducible refine HB.drew ?_) | (with_reducible refine HB.over5 ?_) | (with_reducible refine HB.over4 ?_) | (with_reducible refine HB.setne (by first | go_size | (dsimp only; omega)) ?_) | (with_reducible refine HN.set ?_) | (with_reducible refine HN.setne (by first | go_size | (dsimp only; omega)) ?_) | (with_reducible refine HN.drew ?_) | (with_reducible refine HN.old (by go_size) ?_) | (with_reducible exact HN.of5 (by assumption)) | (with_reducible exact HN.new5 _ _ (by go_size)) | (with_reducible exact HN.of4 (by assumption)) | (with_reducible exact HN.new4 _ _ (by go_size))))) hbwc)
  have N2 := Bx.of (HB.below (b := wa.heap.size) (cs := #[.int .i64 a, .int .i64 b, .int .i64 c', .int .i64 d]) (by (repeat' (first | (with_reducible assumption) | ((with_reducible refine HB.new _ _ _ ?_) <;> (go_size; done)) | (with_reducible refine HB.old (by go_size) ?_) | (with_reducible refine HB.drew ?_) | (with_reducible refine HB.over5 ?_) | (with_reducible refine HB.over4 ?_) | (with_reducible refine HB.setne (by first | go_size | (dsimp only; omega)) ?_) | (with_reducible refine HN.set ?_) | (with_reducible refine HN.setne (by first | go_size | (dsimp only; omega)) ?_) | (with_reducible refine HN.drew ?_) | (with_reducible refine HN.old (by go_size) ?_) | (with_reducible exact HN.of5 (by assumption)) | (with_reducible exact HN.new5 _ _ (by go_size)) | (with_reducible exact HN.of4 (by assumption)) | (with_reducible exact HN.new4 _ _ (by go_size))))) hbwc)
  have N3 := Bx.of (HB.below (b := wb.heap.size) (cs := #[.int .i64 a, .int .i64 b, .int .i64 c', .int .i64 d]) (by (repeat' (first | (with_reducible assumption) | ((with_reducible refine HB.new _ _ _ ?_) <;> (go_size; done)) | (with_reducible refine HB.old (by go_size) ?_) | (with_reducible refine HB.drew ?_) | (with_reducible refine HB.over5 ?_) | (with_reducible refine HB.over4 ?_) | (with_reducible refine HB.setne (by first | go_size | (dsimp only; omega)) ?_) | (with_reducible refine HN.set ?_) | (with_reducible refine HN.setne (by first | go_size | (dsimp only; omega)) ?_) | (with_reducible refine HN.drew ?_) | (with_reducible refine HN.old (by go_size) ?_) | (with_reducible exact HN.of5 (by assumption)) | (with_reducible exact HN.new5 _ _ (by go_size)) | (with_reducible exact HN.of4 (by assumption)) | (with_reducible exact HN.new4 _ _ (by go_size))))) hbwc)
  have blwc : Below wb.heap.size wb wc := by (repeat' (first | (with_reducible assumption) | (with_reducible exact Below.refl _ _) | (with_reducible refine Below.alloc ?_ ?_ _) | (with_reducible refine Below.setCell ?_ ?_ _) | (with_reducible refine Below.drew ?_) | (with_reducible refine below_more ?_ (by with_reducible assumption)) | go_size | omega | (with_reducible refine below_drewN ?_)))
  replace ra := ra.below blwc
  replace rb := rb.below blwc
  have hzwc := hbwc.size
  (try simp only [World.size_alloc, World.size_setCell, World.size_drew] at hzwc)
  (try clear B1 B1c B1f B1l)
  obtain ⟨B1, B1c, B1f, B1l⟩ := N1
  (try clear B2 B2c B2f B2l)
  obtain ⟨B2, B2c, B2f, B2l⟩ := N2
  (try clear B3 B3c B3f B3l)
  obtain ⟨B3, B3c, B3f, B3l⟩ := N3
  (repeat' (first | go_values | go_skip | go_guarded | go_step | go_upon | (simp only [Int.not_lt, Int.not_le] at *; go_simp) | (go_values <;> (try go_simp)) | (go_ite <;> go_prune <;> (try go_simp)) | (split <;> (first | (rename_i hx; exact (hx _ rfl).elim) | go_prune))))
  go_at_call 55
  refine (K4 _).mono ?_
  rintro e wd ⟨vd, rfl, rd, hbwd⟩
  have N1 := Bx.of (HB.below (b := w.heap.size) (cs := #[.int .i64 t, .int .i64 c, .int .i64 mn, .int .i64 mx]) (by (repeat' (first | (with_reducible assumption) | ((with_reducible refine HB.new _ _ _ ?_) <;> (go_size; done)) | (with_reducible refine HB.old (by go_size) ?_) | (with_reducible refine HB.drew ?_) | (with_reducible refine HB.over5 ?_) | (with_reducible refine HB.over4 ?_) | (with_reducible refine HB.setne (by first | go_size | (dsimp only; omega)) ?_) | (with_reducible refine HN.set ?_) | (with_reducible refine HN.setne (by first | go_size | (dsimp only; omega)) ?_) | (with_reducible refine HN.drew ?_) | (with_reducible refine HN.old (by go_size) ?_) | (with_reducible exact HN.of5 (by assumption)) | (with_reducible exact HN.new5 _ _ (by go_size)) | (with_reducible exact HN.of4 (by assumption)) | (with_reducible exact HN.new4 _ _ (by go_size))))) hbwd)
  have N2 := Bx.of (HB.below (b := wa.heap.size) (cs := #[.int .i64 a, .int .i64 b, .int .i64 c', .int .i64 d]) (by (repeat' (first | (with_reducible assumption) | ((with_reducible refine HB.new _ _ _ ?_) <;> (go_size; done)) | (with_reducible refine HB.old (by go_size) ?_) | (with_reducible refine HB.drew ?_) | (with_reducible refine HB.over5 ?_) | (with_reducible refine HB.over4 ?_) | (with_reducible refine HB.setne (by first | go_size | (dsimp only; omega)) ?_) | (with_reducible refine HN.set ?_) | (with_reducible refine HN.setne (by first | go_size | (dsimp only; omega)) ?_) | (with_reducible refine HN.drew ?_) | (with_reducible refine HN.old (by go_size) ?_) | (with_reducible exact HN.of5 (by assumption)) | (with_reducible exact HN.new5 _ _ (by go_size)) | (with_reducible exact HN.of4 (by assumption)) | (with_reducible exact HN.new4 _ _ (by go_size))))) hbwd)
  have N3 := Bx.of (HB.below (b := wb.heap.size) (cs := #[.int .i64 a, .int .i64 b, .int .i64 c', .int .i64 d]) (by (repeat' (first | (with_reducible assumption) | ((with_reducible refine HB.new _ _ _ ?_) <;> (go_size; done)) | (with_reducible refine HB.old (by go_size) ?_) | (with_reducible refine HB.drew ?_) | (with_reducible refine HB.over5 ?_) | (with_reducible refine HB.over4 ?_) | (with_reducible refine HB.setne (by first | go_size | (dsimp only; omega)) ?_) | (with_reducible refine HN.set ?_) | (with_reducible refine HN.setne (by first | go_size | (dsimp only; omega)) ?_) | (with_reducible refine HN.drew ?_) | (with_reducible refine HN.old (by go_size) ?_) | (with_reducible exact HN.of5 (by assumption)) | (with_reducible exact HN.new5 _ _ (by go_size)) | (with_reducible exact HN.of4 (by assumption)) | (with_reducible exact HN.new4 _ _ (by go_size))))) hbwd)
  have blwd : Below wc.heap.size wc wd := by (repeat' (first | (with_reducible assumption) | (with_reducible exact Below.refl _ _) | (with_reducible refine Below.alloc ?_ ?_ _) | (with_reducible refine Below.setCell ?_ ?_ _) | (with_reducible refine Below.drew ?_) | (with_reducible refine below_more ?_ (by with_reducible assumption)) | go_size | omega | (with_reducible refine below_drewN ?_)))
  replace ra := ra.below blwd
  replace rb := rb.below blwd
  replace rc := rc.below blwd
  have hzwd := hbwd.size
  (try simp only [World.size_alloc, World.size_setCell, World.size_drew] at hzwd)
  (try clear B1 B1c B1f B1l)
  obtain ⟨B1, B1c, B1f, B1l⟩ := N1
  (try clear B2 B2c B2f B2l)
  obtain ⟨B2, B2c, B2f, B2l⟩ := N2
  (try clear B3 B3c B3f B3l)
  obtain ⟨B3, B3c, B3f, B3l⟩ := N3
  clear K1 K2 K3 K4
  (repeat' (first | go_values | go_skip | go_guarded | go_step | go_upon | (simp only [Int.not_lt, Int.not_le] at *; go_simp) | (go_values <;> (try go_simp)) | (go_ite <;> go_prune <;> (try go_simp)) | (split <;> (first | (rename_i hx; exact (hx _ rfl).elim) | go_prune))))
  
  
  
  have hbw0 : Below w.heap.size w wd := by (repeat' (first | (with_reducible assumption) | (with_reducible exact Below.refl _ _) | (with_reducible refine Below.alloc ?_ ?_ _) | (with_reducible refine Below.setCell ?_ ?_ _) | (with_reducible refine Below.drew ?_) | (with_reducible refine below_more ?_ (by with_reducible assumption)) | go_size | omega | (with_reducible refine below_drewN ?_)))
  (refine wp_region_dq (row := none) (S := (fun Wz => Below wd.heap.size wd Wz ∧ wd.heap.size ≤ Wz.heap.size ∧ Bx Wz (w.heap.size) (#[.int .i64 t, .int .i64 c, .int .i64 mn, .int .i64 mx]) ∧ Bx Wz (wa.heap.size) (#[.int .i64 a, .int .i64 b, .int .i64 c', .int .i64 d]) ∧ Bx Wz (wb.heap.size) (#[.int .i64 a, .int .i64 b, .int .i64 c', .int .i64 d]))) (n0 := wd.heap.size) 30 [] [(0, 0), (1, 0), (2, 0), (3, 0), (4, 0), (5, 0), (6, 0), (7, 0), (8, 0), (9, 0), (10, 0), (11, 0), (12, 0), (13, 0), (14, 0), (15, 0), (16, 0), (17, 0), (18, 0), (19, 0), (20, 0), (21, 0), (22, 0), (23, 0), (24, 0), (25, 0), (26, 0), (27, 0), (28, 0), (29, 0)] [] (by kernel_rfl) (by kernel_rfl) (fun _ _ d _ _ h => by cases d <;> exact h) (by refine ⟨?dob1, ?don1, ?_, ?_, ?_⟩; (case dob1 => (repeat' (first | (with_reducible assumption) | (with_reducible exact Below.refl _ _) | (with_reducible refine Below.alloc ?_ ?_ _) | (with_reducible refine Below.setCell ?_ ?_ _) | (with_reducible refine Below.drew ?_) | (with_reducible refine below_more ?_ (by with_reducible assumption)) | go_size | omega | (with_reducible refine below_drewN ?_)))); (case don1 => (first | go_size | omega)); all_goals (first | done | (refine Bx.of ?_; (repeat' (first | (with_reducible assumption) | ((with_reducible refine HB.new _ _ _ ?_) <;> (go_size; done)) | (with_reducible refine HB.old (by go_size) ?_) | (with_reducible refine HB.drew ?_) | (with_reducible refine HB.over5 ?_) | (with_reducible refine HB.over4 ?_) | (with_reducible refine HB.setne (by first | go_size | (dsimp only; omega)) ?_) | (with_reducible refine HN.set ?_) | (with_reducible refine HN.setne (by first | go_size | (dsimp only; omega)) ?_) | (with_reducible refine HN.drew ?_) | (with_reducible refine HN.old (by go_size) ?_) | (with_reducible exact HN.of5 (by assumption)) | (with_reducible exact HN.new5 _ _ (by go_size)) | (with_reducible exact HN.of4 (by assumption)) | (with_reducible exact HN.new4 _ _ (by go_size))))))) (fun _ _ h g => keep3 h (below_gt g) rfl) (fun _ h => h.2.1) (fun _ h => by cases h) (by simp) ?_)
  refine dqo_start ?_
  intro af0 hA
  have Z := size_lit (n := 69) hA (by rfl)
  have D := defers_lit hA
  have F2 := ev_lit (t := 2) hA (by rfl)
  have F4 := ev_lit (t := 4) hA (by rfl)
  have F5 := ev_lit (t := 5) hA (by rfl)
  have F6 := ev_lit (t := 6) hA (by rfl)
  have F7 := ev_lit (t := 7) hA (by rfl)
  have F8 := ev_lit (t := 8) hA (by rfl)
  have F9 := ev_lit (t := 9) hA (by rfl)
  have F10 := ev_lit (t := 10) hA (by rfl)
  have F11 := ev_lit (t := 11) hA (by rfl)
  have F12 := ev_lit (t := 12) hA (by rfl)
  have F13 := ev_lit (t := 13) hA (by rfl)
  have F14 := ev_lit (t := 14) hA (by rfl)
  clear hA
  refine' dqo_pure (d := 39) (by rfl) (by rfl) Z (by rfl) (wanted_not (by rfl)) ?hv1 ?rest1
  case hv1 => (intro ρ hρ; have E2 := (hρ.1 2).trans F2; have Ec := hρ.2.1; have Ef := hρ.2.2.1; clear hρ; intro w hw; (try dsimp only at hw); go_split_ands; go_simp; try with_reducible rfl)
  case' rest1 => intro af1 Zn Nx
  replace F2 := (Nx.2.2.1 2 rfl).trans F2
  replace F4 := (Nx.2.2.1 4 rfl).trans F4
  replace F5 := (Nx.2.2.1 5 rfl).trans F5
  replace F6 := (Nx.2.2.1 6 rfl).trans F6
  replace F7 := (Nx.2.2.1 7 rfl).trans F7
  replace F8 := (Nx.2.2.1 8 rfl).trans F8
  replace F9 := (Nx.2.2.1 9 rfl).trans F9
  replace F10 := (Nx.2.2.1 10 rfl).trans F10
  replace F11 := (Nx.2.2.1 11 rfl).trans F11
  replace F12 := (Nx.2.2.1 12 rfl).trans F12
  replace F13 := (Nx.2.2.1 13 rfl).trans F13
  replace F14 := (Nx.2.2.1 14 rfl).trans F14
  have F39 := Nx.2.1
  replace D := Nx.2.2.2.trans D
  clear Z Nx
  have Z := Zn
  clear Zn af0
  refine' dqo_call (d := 40) (by rfl) (by rfl) Z (by rfl) (wanted_not (by rfl)) ?hv2 ?hc2 ?rest2
  case hv2 => (intro ρ hρ; have E39 := (hρ.1 39).trans F39; have Ec := hρ.2.1; have Ef := hρ.2.2.1; clear hρ; intro w; go_simp; exact ⟨rfl, rfl⟩)
  case hc2 => exact (fun w hw => calls_gt (valid_any h1 h2 _))
  case' rest2 => intro af2 Zn Nx
  replace F2 := (Nx.2.2.1 2 rfl).trans F2
  replace F4 := (Nx.2.2.1 4 rfl).trans F4
  replace F5 := (Nx.2.2.1 5 rfl).trans F5
  replace F6 := (Nx.2.2.1 6 rfl).trans F6
  replace F7 := (Nx.2.2.1 7 rfl).trans F7
  replace F8 := (Nx.2.2.1 8 rfl).trans F8
  replace F9 := (Nx.2.2.1 9 rfl).trans F9
  replace F10 := (Nx.2.2.1 10 rfl).trans F10
  replace F11 := (Nx.2.2.1 11 rfl).trans F11
  replace F12 := (Nx.2.2.1 12 rfl).trans F12
  replace F13 := (Nx.2.2.1 13 rfl).trans F13
  replace F14 := (Nx.2.2.1 14 rfl).trans F14
  clear F39
  have F40 := Nx.2.1
  replace D := Nx.2.2.2.trans D
  clear Z Nx
  have Z := Zn
  clear Zn af1
  refine' dqo_pure (d := 41) (by rfl) (by rfl) Z (by rfl) (wanted_not (by rfl)) ?hv3 ?rest3
  case hv3 => (intro ρ hρ; have E2 := (hρ.1 2).trans F2; have Ec := hρ.2.1; have Ef := hρ.2.2.1; clear hρ; intro w hw; (try dsimp only at hw); go_split_ands; go_simp; try with_reducible rfl)
  case' rest3 => intro af3 Zn Nx
  clear F2
  replace F4 := (Nx.2.2.1 4 rfl).trans F4
  replace F5 := (Nx.2.2.1 5 rfl).trans F5
  replace F6 := (Nx.2.2.1 6 rfl).trans F6
  replace F7 := (Nx.2.2.1 7 rfl).trans F7
  replace F8 := (Nx.2.2.1 8 rfl).trans F8
  replace F9 := (Nx.2.2.1 9 rfl).trans F9
  replace F10 := (Nx.2.2.1 10 rfl).trans F10
  replace F11 := (Nx.2.2.1 11 rfl).trans F11
  replace F12 := (Nx.2.2.1 12 rfl).trans F12
  replace F13 := (Nx.2.2.1 13 rfl).trans F13
  replace F14 := (Nx.2.2.1 14 rfl).trans F14
  replace F40 := (Nx.2.2.1 40 rfl).trans F40
  have F41 := Nx.2.1
  replace D := Nx.2.2.2.trans D
  clear Z Nx
  have Z := Zn
  clear Zn af2
  refine' dqo_call (d := 42) (by rfl) (by rfl) Z (by rfl) (wanted_not (by rfl)) ?hv4 ?hc4 ?rest4
  case hv4 => (intro ρ hρ; have E41 := (hρ.1 41).trans F41; have Ec := hρ.2.1; have Ef := hρ.2.2.1; clear hρ; intro w; go_simp; exact ⟨rfl, rfl⟩)
  case hc4 => exact (fun w hw => calls_gt (rvalid_any h1 h2 _))
  case' rest4 => intro af4 Zn Nx
  replace F4 := (Nx.2.2.1 4 rfl).trans F4
  replace F5 := (Nx.2.2.1 5 rfl).trans F5
  replace F6 := (Nx.2.2.1 6 rfl).trans F6
  replace F7 := (Nx.2.2.1 7 rfl).trans F7
  replace F8 := (Nx.2.2.1 8 rfl).trans F8
  replace F9 := (Nx.2.2.1 9 rfl).trans F9
  replace F10 := (Nx.2.2.1 10 rfl).trans F10
  replace F11 := (Nx.2.2.1 11 rfl).trans F11
  replace F12 := (Nx.2.2.1 12 rfl).trans F12
  replace F13 := (Nx.2.2.1 13 rfl).trans F13
  replace F14 := (Nx.2.2.1 14 rfl).trans F14
  replace F40 := (Nx.2.2.1 40 rfl).trans F40
  clear F41
  have F42 := Nx.2.1
  replace D := Nx.2.2.2.trans D
  clear Z Nx
  have Z := Zn
  clear Zn af3
  refine' dqo_pure (d := 43) (by rfl) (by rfl) Z (by rfl) (wanted_not (by rfl)) ?hv5 ?rest5
  case hv5 => (intro ρ hρ; have E40 := (hρ.1 40).trans F40; have E42 := (hρ.1 42).trans F42; have Ec := hρ.2.1; have Ef := hρ.2.2.1; clear hρ; intro w hw; (try dsimp only at hw); go_split_ands; go_simp; try with_reducible rfl)
  case' rest5 => intro af5 Zn Nx
  replace F4 := (Nx.2.2.1 4 rfl).trans F4
  replace F5 := (Nx.2.2.1 5 rfl).trans F5
  replace F6 := (Nx.2.2.1 6 rfl).trans F6
  replace F7 := (Nx.2.2.1 7 rfl).trans F7
  replace F8 := (Nx.2.2.1 8 rfl).trans F8
  replace F9 := (Nx.2.2.1 9 rfl).trans F9
  replace F10 := (Nx.2.2.1 10 rfl).trans F10
  replace F11 := (Nx.2.2.1 11 rfl).trans F11
  replace F12 := (Nx.2.2.1 12 rfl).trans F12
  replace F13 := (Nx.2.2.1 13 rfl).trans F13
  replace F14 := (Nx.2.2.1 14 rfl).trans F14
  clear F40
  clear F42
  have F43 := Nx.2.1
  replace D := Nx.2.2.2.trans D
  clear Z Nx
  have Z := Zn
  clear Zn af4
  refine' dqo_pure (d := 44) (by rfl) (by rfl) Z (by rfl) (wanted_not (by rfl)) ?hv6 ?rest6
  case hv6 => (intro ρ hρ; have E43 := (hρ.1 43).trans F43; have Ec := hρ.2.1; have Ef := hρ.2.2.1; clear hρ; intro w hw; (try dsimp only at hw); go_split_ands; go_simp; try with_reducible rfl)
  case' rest6 => intro af6 Zn Nx
  replace F4 := (Nx.2.2.1 4 rfl).trans F4
  replace F5 := (Nx.2.2.1 5 rfl).trans F5
  replace F6 := (Nx.2.2.1 6 rfl).trans F6
  replace F7 := (Nx.2.2.1 7 rfl).trans F7
  replace F8 := (Nx.2.2.1 8 rfl).trans F8
  replace F9 := (Nx.2.2.1 9 rfl).trans F9
  replace F10 := (Nx.2.2.1 10 rfl).trans F10
  replace F11 := (Nx.2.2.1 11 rfl).trans F11
  replace F12 := (Nx.2.2.1 12 rfl).trans F12
  replace F13 := (Nx.2.2.1 13 rfl).trans F13
  replace F14 := (Nx.2.2.1 14 rfl).trans F14
  clear F43
  have F44 := Nx.2.1
  replace D := Nx.2.2.2.trans D
  clear Z Nx
  have Z := Zn
  clear Zn af5
  refine' dqo_pure (d := 45) (by rfl) (by rfl) Z (by rfl) (wanted_yes (by rfl) (by rfl) F44) ?hv7 ?rest7
  case hv7 => (intro ρ hρ; have E7 := (hρ.1 7).trans F7; have Ec := hρ.2.1; have Ef := hρ.2.2.1; clear hρ; intro w hw; (try dsimp only at hw); go_split_ands; go_simp; try with_reducible rfl)
  case' rest7 => intro af7 Zn Nx
  replace F4 := (Nx.2.2.1 4 rfl).trans F4
  replace F5 := (Nx.2.2.1 5 rfl).trans F5
  replace F6 := (Nx.2.2.1 6 rfl).trans F6
  clear F7
  replace F8 := (Nx.2.2.1 8 rfl).trans F8
  replace F9 := (Nx.2.2.1 9 rfl).trans F9
  replace F10 := (Nx.2.2.1 10 rfl).trans F10
  replace F11 := (Nx.2.2.1 11 rfl).trans F11
  replace F12 := (Nx.2.2.1 12 rfl).trans F12
  replace F13 := (Nx.2.2.1 13 rfl).trans F13
  replace F14 := (Nx.2.2.1 14 rfl).trans F14
  replace F44 := (Nx.2.2.1 44 rfl).trans F44
  have F45 := Nx.2.1
  replace D := Nx.2.2.2.trans D
  clear Z Nx
  have Z := Zn
  clear Zn af6
  refine' dqo_pure (d := 46) (by rfl) (by rfl) Z (by rfl) (wanted_yes (by rfl) (by rfl) F44) ?hv8 ?rest8
  case hv8 => (intro ρ hρ; have E10 := (hρ.1 10).trans F10; have Ec := hρ.2.1; have Ef := hρ.2.2.1; clear hρ; intro w hw; (try dsimp only at hw); go_split_ands; go_simp; try with_reducible rfl)
  case' rest8 => intro af8 Zn Nx
  replace F4 := (Nx.2.2.1 4 rfl).trans F4
  replace F5 := (Nx.2.2.1 5 rfl).trans F5
  replace F6 := (Nx.2.2.1 6 rfl).trans F6
  replace F8 := (Nx.2.2.1 8 rfl).trans F8
  replace F9 := (Nx.2.2.1 9 rfl).trans F9
  clear F10
  replace F11 := (Nx.2.2.1 11 rfl).trans F11
  replace F12 := (Nx.2.2.1 12 rfl).trans F12
  replace F13 := (Nx.2.2.1 13 rfl).trans F13
  replace F14 := (Nx.2.2.1 14 rfl).trans F14
  replace F44 := (Nx.2.2.1 44 rfl).trans F44
  replace F45 := (Nx.2.2.1 45 rfl).trans F45
  have F46 := Nx.2.1
  replace D := Nx.2.2.2.trans D
  clear Z Nx
  have Z := Zn
  clear Zn af7
  refine' dqo_pure (d := 47) (by rfl) (by rfl) Z (by rfl) (wanted_yes (by rfl) (by rfl) F44) ?hv9 ?rest9
  case hv9 => (intro ρ hρ; have E45 := (hρ.1 45).trans F45; have E46 := (hρ.1 46).trans F46; have Ec := hρ.2.1; have Ef := hρ.2.2.1; clear hρ; intro w hw; (try dsimp only at hw); go_split_ands; go_simp; try with_reducible rfl)
  case' rest9 => intro af9 Zn Nx
  replace F4 := (Nx.2.2.1 4 rfl).trans F4
  replace F5 := (Nx.2.2.1 5 rfl).trans F5
  replace F6 := (Nx.2.2.1 6 rfl).trans F6
  replace F8 := (Nx.2.2.1 8 rfl).trans F8
  replace F9 := (Nx.2.2.1 9 rfl).trans F9
  replace F11 := (Nx.2.2.1 11 rfl).trans F11
  replace F12 := (Nx.2.2.1 12 rfl).trans F12
  replace F13 := (Nx.2.2.1 13 rfl).trans F13
  replace F14 := (Nx.2.2.1 14 rfl).trans F14
  replace F44 := (Nx.2.2.1 44 rfl).trans F44
  clear F45
  clear F46
  have F47 := Nx.2.1
  replace D := Nx.2.2.2.trans D
  clear Z Nx
  have Z := Zn
  clear Zn af8
  refine' dqo_pure (d := 48) (by rfl) (by rfl) Z (by rfl) (wanted_not (by rfl)) ?hv10 ?rest10
  case hv10 => (intro ρ hρ; have E44 := (hρ.1 44).trans F44; have E47 := (hρ.1 47).trans F47; have Ec := hρ.2.1; have Ef := hρ.2.2.1; clear hρ; intro w hw; (try dsimp only at hw); go_split_ands; go_simp; try with_reducible rfl)
  case' rest10 => intro af10 Zn Nx
  replace F4 := (Nx.2.2.1 4 rfl).trans F4
  replace F5 := (Nx.2.2.1 5 rfl).trans F5
  replace F6 := (Nx.2.2.1 6 rfl).trans F6
  replace F8 := (Nx.2.2.1 8 rfl).trans F8
  replace F9 := (Nx.2.2.1 9 rfl).trans F9
  replace F11 := (Nx.2.2.1 11 rfl).trans F11
  replace F12 := (Nx.2.2.1 12 rfl).trans F12
  replace F13 := (Nx.2.2.1 13 rfl).trans F13
  replace F14 := (Nx.2.2.1 14 rfl).trans F14
  clear F44
  clear F47
  have F48 := Nx.2.1
  replace D := Nx.2.2.2.trans D
  clear Z Nx
  have Z := Zn
  clear Zn af9
  refine' dqo_pure (d := 49) (by rfl) (by rfl) Z (by rfl) (wanted_not (by rfl)) ?hv11 ?rest11
  case hv11 => (intro ρ hρ; have E48 := (hρ.1 48).trans F48; have Ec := hρ.2.1; have Ef := hρ.2.2.1; clear hρ; intro w hw; (try dsimp only at hw); go_split_ands; go_simp; try with_reducible rfl)
  case' rest11 => intro af11 Zn Nx
  replace F4 := (Nx.2.2.1 4 rfl).trans F4
  replace F5 := (Nx.2.2.1 5 rfl).trans F5
  replace F6 := (Nx.2.2.1 6 rfl).trans F6
  replace F8 := (Nx.2.2.1 8 rfl).trans F8
  replace F9 := (Nx.2.2.1 9 rfl).trans F9
  replace F11 := (Nx.2.2.1 11 rfl).trans F11
  replace F12 := (Nx.2.2.1 12 rfl).trans F12
  replace F13 := (Nx.2.2.1 13 rfl).trans F13
  replace F14 := (Nx.2.2.1 14 rfl).trans F14
  clear F48
  have F49 := Nx.2.1
  replace D := Nx.2.2.2.trans D
  clear Z Nx
  have Z := Zn
  clear Zn af10
  refine' dqo_pure (d := 50) (by rfl) (by rfl) Z (by rfl) (wanted_yes (by rfl) (by rfl) F49) ?hv12 ?rest12
  case hv12 => (intro ρ hρ; have E5 := (hρ.1 5).trans F5; have Ec := hρ.2.1; have Ef := hρ.2.2.1; clear hρ; intro w hw; (try dsimp only at hw); go_split_ands; go_simp; try with_reducible rfl)
  case' rest12 => intro af12 Zn Nx
  replace F4 := (Nx.2.2.1 4 rfl).trans F4
  clear F5
  replace F6 := (Nx.2.2.1 6 rfl).trans F6
  replace F8 := (Nx.2.2.1 8 rfl).trans F8
  replace F9 := (Nx.2.2.1 9 rfl).trans F9
  replace F11 := (Nx.2.2.1 11 rfl).trans F11
  replace F12 := (Nx.2.2.1 12 rfl).trans F12
  replace F13 := (Nx.2.2.1 13 rfl).trans F13
  replace F14 := (Nx.2.2.1 14 rfl).trans F14
  replace F49 := (Nx.2.2.1 49 rfl).trans F49
  have F50 := Nx.2.1
  replace D := Nx.2.2.2.trans D
  clear Z Nx
  have Z := Zn
  clear Zn af11
  refine' dqo_pure (d := 51) (by rfl) (by rfl) Z (by rfl) (wanted_yes (by rfl) (by rfl) F49) ?hv13 ?rest13
  case hv13 => (intro ρ hρ; have E8 := (hρ.1 8).trans F8; have Ec := hρ.2.1; have Ef := hρ.2.2.1; clear hρ; intro w hw; (try dsimp only at hw); go_split_ands; go_simp; try with_reducible rfl)
  case' rest13 => intro af13 Zn Nx
  replace F4 := (Nx.2.2.1 4 rfl).trans F4
  replace F6 := (Nx.2.2.1 6 rfl).trans F6
  clear F8
  replace F9 := (Nx.2.2.1 9 rfl).trans F9
  replace F11 := (Nx.2.2.1 11 rfl).trans F11
  replace F12 := (Nx.2.2.1 12 rfl).trans F12
  replace F13 := (Nx.2.2.1 13 rfl).trans F13
  replace F14 := (Nx.2.2.1 14 rfl).trans F14
  replace F49 := (Nx.2.2.1 49 rfl).trans F49
  replace F50 := (Nx.2.2.1 50 rfl).trans F50
  have F51 := Nx.2.1
  replace D := Nx.2.2.2.trans D
  clear Z Nx
  have Z := Zn
  clear Zn af12
  refine' dqo_pure (d := 52) (by rfl) (by rfl) Z (by rfl) (wanted_yes (by rfl) (by rfl) F49) ?hv14 ?rest14
  case hv14 => (intro ρ hρ; have E50 := (hρ.1 50).trans F50; have E51 := (hρ.1 51).trans F51; have Ec := hρ.2.1; have Ef := hρ.2.2.1; clear hρ; intro w hw; (try dsimp only at hw); go_split_ands; go_simp; try with_reducible rfl)
  case' rest14 => intro af14 Zn Nx
  replace F4 := (Nx.2.2.1 4 rfl).trans F4
  replace F6 := (Nx.2.2.1 6 rfl).trans F6
  replace F9 := (Nx.2.2.1 9 rfl).trans F9
  replace F11 := (Nx.2.2.1 11 rfl).trans F11
  replace F12 := (Nx.2.2.1 12 rfl).trans F12
  replace F13 := (Nx.2.2.1 13 rfl).trans F13
  replace F14 := (Nx.2.2.1 14 rfl).trans F14
  replace F49 := (Nx.2.2.1 49 rfl).trans F49
  clear F50
  clear F51
  have F52 := Nx.2.1
  replace D := Nx.2.2.2.trans D
  clear Z Nx
  have Z := Zn
  clear Zn af13
  refine' dqo_pure (d := 53) (by rfl) (by rfl) Z (by rfl) (wanted_not (by rfl)) ?hv15 ?rest15
  case hv15 => (intro ρ hρ; have E49 := (hρ.1 49).trans F49; have E52 := (hρ.1 52).trans F52; have Ec := hρ.2.1; have Ef := hρ.2.2.1; clear hρ; intro w hw; (try dsimp only at hw); go_split_ands; go_simp; try with_reducible rfl)
  case' rest15 => intro af15 Zn Nx
  replace F4 := (Nx.2.2.1 4 rfl).trans F4
  replace F6 := (Nx.2.2.1 6 rfl).trans F6
  replace F9 := (Nx.2.2.1 9 rfl).trans F9
  replace F11 := (Nx.2.2.1 11 rfl).trans F11
  replace F12 := (Nx.2.2.1 12 rfl).trans F12
  replace F13 := (Nx.2.2.1 13 rfl).trans F13
  replace F14 := (Nx.2.2.1 14 rfl).trans F14
  clear F49
  clear F52
  have F53 := Nx.2.1
  replace D := Nx.2.2.2.trans D
  clear Z Nx
  have Z := Zn
  clear Zn af14
  refine' dqo_pure (d := 54) (by rfl) (by rfl) Z (by rfl) (wanted_not (by rfl)) ?hv16 ?rest16
  case hv16 => (intro ρ hρ; have E53 := (hρ.1 53).trans F53; have Ec := hρ.2.1; have Ef := hρ.2.2.1; clear hρ; intro w hw; (try dsimp only at hw); go_split_ands; go_simp; try with_reducible rfl)
  case' rest16 => intro af16 Zn Nx
  replace F4 := (Nx.2.2.1 4 rfl).trans F4
  replace F6 := (Nx.2.2.1 6 rfl).trans F6
  replace F9 := (Nx.2.2.1 9 rfl).trans F9
  replace F11 := (Nx.2.2.1 11 rfl).trans F11
  replace F12 := (Nx.2.2.1 12 rfl).trans F12
  replace F13 := (Nx.2.2.1 13 rfl).trans F13
  replace F14 := (Nx.2.2.1 14 rfl).trans F14
  clear F53
  have F54 := Nx.2.1
  replace D := Nx.2.2.2.trans D
  clear Z Nx
  have Z := Zn
  clear Zn af15
  refine' dqo_pure (d := 55) (by rfl) (by rfl) Z (by rfl) (wanted_yes (by rfl) (by rfl) F54) ?hv17 ?rest17
  case hv17 => (intro ρ hρ; have E6 := (hρ.1 6).trans F6; have Ec := hρ.2.1; have Ef := hρ.2.2.1; clear hρ; intro w hw; (try dsimp only at hw); go_split_ands; go_simp; try with_reducible rfl)
  case' rest17 => intro af17 Zn Nx
  replace F4 := (Nx.2.2.1 4 rfl).trans F4
  clear F6
  replace F9 := (Nx.2.2.1 9 rfl).trans F9
  replace F11 := (Nx.2.2.1 11 rfl).trans F11
  replace F12 := (Nx.2.2.1 12 rfl).trans F12
  replace F13 := (Nx.2.2.1 13 rfl).trans F13
  replace F14 := (Nx.2.2.1 14 rfl).trans F14
  replace F54 := (Nx.2.2.1 54 rfl).trans F54
  have F55 := Nx.2.1
  replace D := Nx.2.2.2.trans D
  clear Z Nx
  have Z := Zn
  clear Zn af16
  refine' dqo_pure (d := 56) (by rfl) (by rfl) Z (by rfl) (wanted_yes (by rfl) (by rfl) F54) ?hv18 ?rest18
  case hv18 => (intro ρ hρ; have E9 := (hρ.1 9).trans F9; have Ec := hρ.2.1; have Ef := hρ.2.2.1; clear hρ; intro w hw; (try dsimp only at hw); go_split_ands; go_simp; try with_reducible rfl)
  case' rest18 => intro af18 Zn Nx
  replace F4 := (Nx.2.2.1 4 rfl).trans F4
  clear F9
  replace F11 := (Nx.2.2.1 11 rfl).trans F11
  replace F12 := (Nx.2.2.1 12 rfl).trans F12
  replace F13 := (Nx.2.2.1 13 rfl).trans F13
  replace F14 := (Nx.2.2.1 14 rfl).trans F14
  replace F54 := (Nx.2.2.1 54 rfl).trans F54
  replace F55 := (Nx.2.2.1 55 rfl).trans F55
  have F56 := Nx.2.1
  replace D := Nx.2.2.2.trans D
  clear Z Nx
  have Z := Zn
  clear Zn af17
  refine' dqo_call (d := 57) (by rfl) (by rfl) Z (by rfl) (wanted_yes (by rfl) (by rfl) F54) ?hv19 ?hc19 ?rest19
  case hv19 => (intro ρ hρ; have E55 := (hρ.1 55).trans F55; have E56 := (hρ.1 56).trans F56; have Ec := hρ.2.1; have Ef := hρ.2.2.1; clear hρ; intro w; go_simp; exact ⟨rfl, rfl⟩)
  case hc19 => exact (fun w hw => calls_gt (same_any _ (ra.below hw.1) (rb.below hw.1) (by omega)))
  case' rest19 => intro af19 Zn Nx
  replace F4 := (Nx.2.2.1 4 rfl).trans F4
  replace F11 := (Nx.2.2.1 11 rfl).trans F11
  replace F12 := (Nx.2.2.1 12 rfl).trans F12
  replace F13 := (Nx.2.2.1 13 rfl).trans F13
  replace F14 := (Nx.2.2.1 14 rfl).trans F14
  replace F54 := (Nx.2.2.1 54 rfl).trans F54
  clear F55
  clear F56
  have F57 := Nx.2.1
  replace D := Nx.2.2.2.trans D
  clear Z Nx
  have Z := Zn
  clear Zn af18
  refine' dqo_pure (d := 58) (by rfl) (by rfl) Z (by rfl) (wanted_not (by rfl)) ?hv20 ?rest20
  case hv20 => (intro ρ hρ; have E54 := (hρ.1 54).trans F54; have E57 := (hρ.1 57).trans F57; have Ec := hρ.2.1; have Ef := hρ.2.2.1; clear hρ; intro w hw; (try dsimp only at hw); go_split_ands; go_simp; try with_reducible rfl)
  case' rest20 => intro af20 Zn Nx
  replace F4 := (Nx.2.2.1 4 rfl).trans F4
  replace F11 := (Nx.2.2.1 11 rfl).trans F11
  replace F12 := (Nx.2.2.1 12 rfl).trans F12
  replace F13 := (Nx.2.2.1 13 rfl).trans F13
  replace F14 := (Nx.2.2.1 14 rfl).trans F14
  clear F54
  clear F57
  have F58 := Nx.2.1
  replace D := Nx.2.2.2.trans D
  clear Z Nx
  have Z := Zn
  clear Zn af19
  refine' dqo_pure (d := 59) (by rfl) (by rfl) Z (by rfl) (wanted_not (by rfl)) ?hv21 ?rest21
  case hv21 => (intro ρ hρ; have E58 := (hρ.1 58).trans F58; have Ec := hρ.2.1; have Ef := hρ.2.2.1; clear hρ; intro w hw; (try dsimp only at hw); go_split_ands; go_simp; try with_reducible rfl)
  case' rest21 => intro af21 Zn Nx
  replace F4 := (Nx.2.2.1 4 rfl).trans F4
  replace F11 := (Nx.2.2.1 11 rfl).trans F11
  replace F12 := (Nx.2.2.1 12 rfl).trans F12
  replace F13 := (Nx.2.2.1 13 rfl).trans F13
  replace F14 := (Nx.2.2.1 14 rfl).trans F14
  clear F58
  have F59 := Nx.2.1
  replace D := Nx.2.2.2.trans D
  clear Z Nx
  have Z := Zn
  clear Zn af20
  refine' dqo_pure (d := 60) (by rfl) (by rfl) Z (by rfl) (wanted_yes (by rfl) (by rfl) F59) ?hv22 ?rest22
  case hv22 => (intro ρ hρ; have E12 := (hρ.1 12).trans F12; have Ec := hρ.2.1; have Ef := hρ.2.2.1; clear hρ; intro w hw; (try dsimp only at hw); go_split_ands; go_simp; try with_reducible rfl)
  case' rest22 => intro af22 Zn Nx
  replace F4 := (Nx.2.2.1 4 rfl).trans F4
  replace F11 := (Nx.2.2.1 11 rfl).trans F11
  clear F12
  replace F13 := (Nx.2.2.1 13 rfl).trans F13
  replace F14 := (Nx.2.2.1 14 rfl).trans F14
  replace F59 := (Nx.2.2.1 59 rfl).trans F59
  have F60 := Nx.2.1
  replace D := Nx.2.2.2.trans D
  clear Z Nx
  have Z := Zn
  clear Zn af21
  refine' dqo_pure (d := 61) (by rfl) (by rfl) Z (by rfl) (wanted_yes (by rfl) (by rfl) F59) ?hv23 ?rest23
  case hv23 => (intro ρ hρ; have E14 := (hρ.1 14).trans F14; have Ec := hρ.2.1; have Ef := hρ.2.2.1; clear hρ; intro w hw; (try dsimp only at hw); go_split_ands; go_simp; try with_reducible rfl)
  case' rest23 => intro af23 Zn Nx
  replace F4 := (Nx.2.2.1 4 rfl).trans F4
  replace F11 := (Nx.2.2.1 11 rfl).trans F11
  replace F13 := (Nx.2.2.1 13 rfl).trans F13
  clear F14
  replace F59 := (Nx.2.2.1 59 rfl).trans F59
  replace F60 := (Nx.2.2.1 60 rfl).trans F60
  have F61 := Nx.2.1
  replace D := Nx.2.2.2.trans D
  clear Z Nx
  have Z := Zn
  clear Zn af22
  refine' dqo_pure (d := 62) (by rfl) (by rfl) Z (by rfl) (wanted_yes (by rfl) (by rfl) F59) ?hv24 ?rest24
  case hv24 => (intro ρ hρ; have E60 := (hρ.1 60).trans F60; have E61 := (hρ.1 61).trans F61; have Ec := hρ.2.1; have Ef := hρ.2.2.1; clear hρ; intro w hw; (try dsimp only at hw); go_split_ands; go_simp; try with_reducible rfl)
  case' rest24 => intro af24 Zn Nx
  replace F4 := (Nx.2.2.1 4 rfl).trans F4
  replace F11 := (Nx.2.2.1 11 rfl).trans F11
  replace F13 := (Nx.2.2.1 13 rfl).trans F13
  replace F59 := (Nx.2.2.1 59 rfl).trans F59
  clear F60
  clear F61
  have F62 := Nx.2.1
  replace D := Nx.2.2.2.trans D
  clear Z Nx
  have Z := Zn
  clear Zn af23
  refine' dqo_pure (d := 63) (by rfl) (by rfl) Z (by rfl) (wanted_not (by rfl)) ?hv25 ?rest25
  case hv25 => (intro ρ hρ; have E59 := (hρ.1 59).trans F59; have E62 := (hρ.1 62).trans F62; have Ec := hρ.2.1; have Ef := hρ.2.2.1; clear hρ; intro w hw; (try dsimp only at hw); go_split_ands; go_simp; try with_reducible rfl)
  case' rest25 => intro af25 Zn Nx
  replace F4 := (Nx.2.2.1 4 rfl).trans F4
  replace F11 := (Nx.2.2.1 11 rfl).trans F11
  replace F13 := (Nx.2.2.1 13 rfl).trans F13
  clear F59
  clear F62
  have F63 := Nx.2.1
  replace D := Nx.2.2.2.trans D
  clear Z Nx
  have Z := Zn
  clear Zn af24
  refine' dqo_pure (d := 64) (by rfl) (by rfl) Z (by rfl) (wanted_not (by rfl)) ?hv26 ?rest26
  case hv26 => (intro ρ hρ; have E63 := (hρ.1 63).trans F63; have Ec := hρ.2.1; have Ef := hρ.2.2.1; clear hρ; intro w hw; (try dsimp only at hw); go_split_ands; go_simp; try with_reducible rfl)
  case' rest26 => intro af26 Zn Nx
  replace F4 := (Nx.2.2.1 4 rfl).trans F4
  replace F11 := (Nx.2.2.1 11 rfl).trans F11
  replace F13 := (Nx.2.2.1 13 rfl).trans F13
  clear F63
  have F64 := Nx.2.1
  replace D := Nx.2.2.2.trans D
  clear Z Nx
  have Z := Zn
  clear Zn af25
  refine' dqo_pure (d := 65) (by rfl) (by rfl) Z (by rfl) (wanted_yes (by rfl) (by rfl) F64) ?hv27 ?rest27
  case hv27 => (intro ρ hρ; have E11 := (hρ.1 11).trans F11; have Ec := hρ.2.1; have Ef := hρ.2.2.1; clear hρ; intro w hw; (try dsimp only at hw); go_split_ands; go_simp; try with_reducible rfl)
  case' rest27 => intro af27 Zn Nx
  replace F4 := (Nx.2.2.1 4 rfl).trans F4
  clear F11
  replace F13 := (Nx.2.2.1 13 rfl).trans F13
  replace F64 := (Nx.2.2.1 64 rfl).trans F64
  have F65 := Nx.2.1
  replace D := Nx.2.2.2.trans D
  clear Z Nx
  have Z := Zn
  clear Zn af26
  refine' dqo_pure (d := 66) (by rfl) (by rfl) Z (by rfl) (wanted_yes (by rfl) (by rfl) F64) ?hv28 ?rest28
  case hv28 => (intro ρ hρ; have E13 := (hρ.1 13).trans F13; have Ec := hρ.2.1; have Ef := hρ.2.2.1; clear hρ; intro w hw; (try dsimp only at hw); go_split_ands; go_simp; try with_reducible rfl)
  case' rest28 => intro af28 Zn Nx
  replace F4 := (Nx.2.2.1 4 rfl).trans F4
  clear F13
  replace F64 := (Nx.2.2.1 64 rfl).trans F64
  replace F65 := (Nx.2.2.1 65 rfl).trans F65
  have F66 := Nx.2.1
  replace D := Nx.2.2.2.trans D
  clear Z Nx
  have Z := Zn
  clear Zn af27
  refine' dqo_call (d := 67) (by rfl) (by rfl) Z (by rfl) (wanted_yes (by rfl) (by rfl) F64) ?hv29 ?hc29 ?rest29
  case hv29 => (intro ρ hρ; have E65 := (hρ.1 65).trans F65; have E66 := (hρ.1 66).trans F66; have Ec := hρ.2.1; have Ef := hρ.2.2.1; clear hρ; intro w; go_simp; exact ⟨rfl, rfl⟩)
  case hc29 => exact (fun w hw => calls_gt (same_any _ (rc.below hw.1) (rd.below hw.1) (by omega)))
  case' rest29 => intro af29 Zn Nx
  replace F4 := (Nx.2.2.1 4 rfl).trans F4
  replace F64 := (Nx.2.2.1 64 rfl).trans F64
  clear F65
  clear F66
  have F67 := Nx.2.1
  replace D := Nx.2.2.2.trans D
  clear Z Nx
  have Z := Zn
  clear Zn af28
  refine' dqo_pure (d := 68) (by rfl) (by rfl) Z (by rfl) (wanted_not (by rfl)) ?hv30 ?rest30
  case hv30 => (intro ρ hρ; have E64 := (hρ.1 64).trans F64; have E67 := (hρ.1 67).trans F67; have Ec := hρ.2.1; have Ef := hρ.2.2.1; clear hρ; intro w hw; (try dsimp only at hw); go_split_ands; go_simp; try with_reducible rfl)
  case' rest30 => intro af30 Zn Nx
  replace F4 := (Nx.2.2.1 4 rfl).trans F4
  clear F64
  clear F67
  have F68 := Nx.2.1
  replace D := Nx.2.2.2.trans D
  clear Z Nx
  have Z := Zn
  clear Zn af29
  refine dq_nil ?_
  refine fa_nil ?_
  rintro W ⟨⟨hb0, hn0, ⟨B1, B1c, B1f, B1l⟩, ⟨B2, B2c, B2f, B2l⟩, ⟨B3, B3c, B3f, B3l⟩⟩, hgl⟩ hbs
  clear hbs hgl
  obtain ⟨ρ, hρ⟩ := rho_of af30
  have hL := act_lit (l := [ρ (.tmp 0), ρ (.tmp 1), ρ (.tmp 2), ρ (.tmp 3), _, ρ (.tmp 5), ρ (.tmp 6), ρ (.tmp 7), ρ (.tmp 8), ρ (.tmp 9), ρ (.tmp 10), ρ (.tmp 11), ρ (.tmp 12), ρ (.tmp 13), ρ (.tmp 14), ρ (.tmp 15), ρ (.tmp 16), ρ (.tmp 17), ρ (.tmp 18), ρ (.tmp 19), ρ (.tmp 20), ρ (.tmp 21), ρ (.tmp 22), ρ (.tmp 23), ρ (.tmp 24), ρ (.tmp 25), ρ (.tmp 26), ρ (.tmp 27), ρ (.tmp 28), ρ (.tmp 29), ρ (.tmp 30), ρ (.tmp 31), ρ (.tmp 32), ρ (.tmp 33), ρ (.tmp 34), ρ (.tmp 35), ρ (.tmp 36), ρ (.tmp 37), ρ (.tmp 38), ρ (.tmp 39), ρ (.tmp 40), ρ (.tmp 41), ρ (.tmp 42), ρ (.tmp 43), ρ (.tmp 44), ρ (.tmp 45), ρ (.tmp 46), ρ (.tmp 47), ρ (.tmp 48), ρ (.tmp 49), ρ (.tmp 50), ρ (.tmp 51), ρ (.tmp 52), ρ (.tmp 53), ρ (.tmp 54), ρ (.tmp 55), ρ (.tmp 56), ρ (.tmp 57), ρ (.tmp 58), ρ (.tmp 59), ρ (.tmp 60), ρ (.tmp 61), ρ (.tmp 62), ρ (.tmp 63), ρ (.tmp 64), ρ (.tmp 65), ρ (.tmp 66), ρ (.tmp 67), _]) Z D (by rfl) ⟨hρ 0, hρ 1, hρ 2, hρ 3, F4, hρ 5, hρ 6, hρ 7, hρ 8, hρ 9, hρ 10, hρ 11, hρ 12, hρ 13, hρ 14, hρ 15, hρ 16, hρ 17, hρ 18, hρ 19, hρ 20, hρ 21, hρ 22, hρ 23, hρ 24, hρ 25, hρ 26, hρ 27, hρ 28, hρ 29, hρ 30, hρ 31, hρ 32, hρ 33, hρ 34, hρ 35, hρ 36, hρ 37, hρ 38, hρ 39, hρ 40, hρ 41, hρ 42, hρ 43, hρ 44, hρ 45, hρ 46, hρ 47, hρ 48, hρ 49, hρ 50, hρ 51, hρ 52, hρ 53, hρ 54, hρ 55, hρ 56, hρ 57, hρ 58, hρ 59, hρ 60, hρ 61, hρ 62, hρ 63, hρ 64, hρ 65, hρ 66, hρ 67, F68, trivial⟩
  clear hρ Z D F4 F68
  subst hL
  simp only [List.drop_succ_cons, List.drop_zero]
  (repeat' (first | go_values | go_skip | go_guarded | go_step | go_upon | (simp only [Int.not_lt, Int.not_le] at *; go_simp) | (go_values <;> (try go_simp)) | (go_ite <;> go_prune <;> (try go_simp)) | (split <;> (first | (rename_i hx; exact (hx _ rfl).elim) | go_prune))))
  refine bodyPost_ret (v := .bool true) ?_ rfl ⟨rfl, hbw0.trans (hb0.mono (by have := hbw0.size; omega))⟩
  simp [results, Try.results42, go_sem]
end Go.Proofs.Ytenaeaojnebokaa
