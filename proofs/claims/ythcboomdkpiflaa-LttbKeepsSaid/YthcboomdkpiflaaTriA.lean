/- triangle.Weighted and Doubled and their references, for all arguments. -/
import Derived.Test.YthcboomdkpiflaaRows
import Derived.Test.YthcboomdkpiflaaTri
import Derived.Test.YthcboomdkpiflaaTPlain
import Derived.Test.YthcboomdkpiflaaTriP
import Derived.Test.YthcboomdkpiflaaTriB
import Derived.Test.YthcboomdkpiflaaTriC
import Derived.Test.YthcboomdkpiflaaTriN
import Derived.WalkKit
import Derived.ProofKit
import Derived.WalkLawsBesides
import Derived.WalkSpells
import Derived.RegionTactic
import Derived.ChangeAlike
import Derived.BigRegion
import Derived.Outline
import Derived.Handy
namespace Go.Proofs.Ythcboomdkpiflaa
open Go.ChangeShapes Go.WideShapes Go.ChangeAt Go.RowKit
set_option linter.unusedVariables false
set_option linter.unusedSimpArgs false


theorem weighted_any (ta va tb vb : Int) (h1 : I64 ta) (h2 : I64 va) (h3 : I64 tb) (h4 : I64 vb) (n : Bool) (a b c d : Int) (n' : Bool) (a' b' c' d' : Int) (ha : U64 a) (hb : U64 b) (hc : U64 c) (hd : U64 d) (ha' : U64 a') (hb' : U64 b') (hc' : U64 c') (hd' : U64 d') (m : Int) (w : World) :
    Calls Try.prog 18 #[.agg #[.int .i64 ta, .int .i64 va], .agg #[.int .i64 tb, .int .i64 vb], WV n a b c d, WV n' a' b' c' d', .int .i64 m] w fun e w' => e = .returned (WE (wgt ta va tb vb (wv n a b c d) (wv n' a' b' c' d') m (wok n a b c d n' a' b' c' d' m))) ∧ Below w.heap.size w w' := by
  by_cases hok : wok n a b c d n' a' b' c' d' m = true
  · obtain ⟨hm, k1, k2⟩ := wok_iff.1 hok
    rw [hok]
    exact weighted_yes ta va tb vb h1 h2 h3 h4 n a b c d n' a' b' c' d' _ _ m (IsW.raw ha hb hc hd) (IsW.raw ha' hb' hc' hd') (sm_small ha hb k1) (sm_small ha' hb' k2) hm k1 k2 w
  · rw [Bool.eq_false_iff.2 hok]
    exact weighted_no ta va tb vb n a b c d n' a' b' c' d' m  (wok_not hok) w

theorem rweighted_any (ta va tb vb : Int) (h1 : I64 ta) (h2 : I64 va) (h3 : I64 tb) (h4 : I64 vb) (n : Bool) (a b c d : Int) (n' : Bool) (a' b' c' d' : Int) (ha : U64 a) (hb : U64 b) (hc : U64 c) (hd : U64 d) (ha' : U64 a') (hb' : U64 b') (hc' : U64 c') (hd' : U64 d') (m : Int) (w : World) :
    Calls Try.prog 19 #[.agg #[.int .i64 ta, .int .i64 va], .agg #[.int .i64 tb, .int .i64 vb], WV n a b c d, WV n' a' b' c' d', .int .i64 m] w fun e w' => e = .returned (WE (wgt ta va tb vb (wv n a b c d) (wv n' a' b' c' d') m (wok n a b c d n' a' b' c' d' m))) ∧ Below w.heap.size w w' := by
  by_cases hok : wok n a b c d n' a' b' c' d' m = true
  · obtain ⟨hm, k1, k2⟩ := wok_iff.1 hok
    rw [hok]
    exact rweighted_yes ta va tb vb h1 h2 h3 h4 n a b c d n' a' b' c' d' _ _ m (IsW.raw ha hb hc hd) (IsW.raw ha' hb' hc' hd') (sm_small ha hb k1) (sm_small ha' hb' k2) hm ha hb hc hd ha' hb' hc' hd' k1 k2 w
  · rw [Bool.eq_false_iff.2 hok]
    exact rweighted_no ta va tb vb n a b c d n' a' b' c' d' m ha hb hc hd ha' hb' hc' hd' (wok_not hok) w

theorem sm_we {z : Int} (h : Sm z) : sm (sg z) (lb0 (ab z)) (lb1 (ab z)) (lb2 (ab z)) (lb3 (ab z)) = true := by
  have hf : Fits z := fits_abs (by unfold Sm at h; omega)
  have hz : ab z < 340282366920938463463374607431768211456 := by unfold Sm at h; unfold ab; split <;> omega
  have h0 := ab_nonneg z
  have hc := cn_we hf
  have hu : up1 (up1 (ab z)) = 0 := by unfold up1; omega
  have h2 : lb2 (ab z) = 0 := by unfold lb2; rw [hu]; rfl
  have h3 : lb3 (ab z) = 0 := by unfold lb3; rw [hu]; rfl
  unfold cn at hc
  unfold sm
  rw [h2, h3] at hc ⊢
  revert hc
  cases sg z <;> simp
theorem sm_i64 {z : Int} (h : I64 z) : Sm z := by have := abs_i64 h; unfold Sm; omega
theorem fits_sm {z : Int} (h : Sm z) : Fits z := fits_abs (by unfold Sm at h; omega)

theorem weighted_we {ta va tb vb T V m : Int} (h1 : I64 ta) (h2 : I64 va) (h3 : I64 tb) (h4 : I64 vb) (hT : Sm T) (hV : Sm V) (hm : Cnt m) (w : World) :
    Calls Try.prog 18 #[.agg #[.int .i64 ta, .int .i64 va], .agg #[.int .i64 tb, .int .i64 vb], WE T, WE V, .int .i64 m] w fun e w' => e = .returned (WE (ab (ar ta va tb vb T V m))) ∧ Below w.heap.size w w' :=
  weighted_yes ta va tb vb h1 h2 h3 h4 _ _ _ _ _ _ _ _ _ _ T V m (IsW.we (fits_sm hT)) (IsW.we (fits_sm hV)) hT hV hm (sm_we hT) (sm_we hV) w

set_option maxRecDepth 100000 in
theorem doubled_any {ta va tb vb tc vc : Int} (h1 : I64 ta) (h2 : I64 va) (h3 : I64 tb) (h4 : I64 vb) (h5 : I64 tc) (h6 : I64 vc) (w : World) :
    Calls Try.prog 16 #[.agg #[.int .i64 ta, .int .i64 va], .agg #[.int .i64 tb, .int .i64 vb], .agg #[.int .i64 tc, .int .i64 vc]] w fun e w' => e = .returned (WE (ab (ar ta va tb vb tc vc 1))) ∧ Below w.heap.size w w' := by
  have C1 := fun W => of_any tc h5 W
  have C2 := fun W => of_any vc h6 W
  have C := fun W => weighted_we h1 h2 h3 h4 (sm_i64 h5) (sm_i64 h6) (m := 1) ⟨by decide, by decide⟩ W
  clear h1 h2 h3 h4 h5 h6
  generalize ar ta va tb vb tc vc 1 = z at *
  generalize hR : WE (ab z) = R
  have HR := hid hR
  clear hR
  go_enter Try.func16, Try.ntmps16
  (repeat' (first | go_values | go_skip | go_guarded | go_step | go_upon | (simp only [Int.not_lt, Int.not_le] at *; go_simp) | (go_values <;> (try go_simp)) | (go_ite <;> go_prune <;> (try go_simp)) | (split <;> (first | (rename_i hx; exact (hx _ rfl).elim) | go_prune))))
  
  
  (refine wp_region_dq (row := none) (S := (fun Wz => Below w.heap.size w Wz ∧ w.heap.size ≤ Wz.heap.size ∧ Bx Wz (w.heap.size) (#[.int .i64 ta, .int .i64 va]) ∧ Bx Wz (w.heap.size + 1) (#[.int .i64 tb, .int .i64 vb]) ∧ Bx Wz (w.heap.size + 1 + 1) (#[.int .i64 tc, .int .i64 vc]) ∧ Bx Wz (w.heap.size + 1 + 1 + 1) (#[.bool false, .int .u64 0, .int .u64 0, .int .u64 0, .int .u64 0]))) (n0 := w.heap.size) 9 [] [(0, 0), (1, 0), (2, 0), (3, 0), (4, 0), (5, 0), (6, 0), (7, 0), (8, 0)] [] (by kernel_rfl) (by kernel_rfl) (fun _ _ d _ _ h => by cases d <;> exact h) ⟨by (repeat' (first | (with_reducible assumption) | (with_reducible exact Below.refl _ _) | (with_reducible refine Below.alloc ?_ ?_ _) | (with_reducible refine Below.setCell ?_ ?_ _) | (with_reducible refine Below.drew ?_) | (with_reducible refine below_more ?_ (by with_reducible assumption)) | go_size | omega | (with_reducible refine below_drewN ?_))), (by first | go_size | omega), Bx.of (by (repeat' (first | (with_reducible assumption) | ((with_reducible refine HB.new _ _ _ ?_) <;> (go_size; done)) | (with_reducible refine HB.old (by go_size) ?_) | (with_reducible refine HB.drew ?_) | (with_reducible refine HB.over5 ?_) | (with_reducible refine HB.over4 ?_) | (with_reducible refine HB.setne (by first | go_size | (dsimp only; omega)) ?_) | (with_reducible refine HN.set ?_) | (with_reducible refine HN.setne (by first | go_size | (dsimp only; omega)) ?_) | (with_reducible refine HN.drew ?_) | (with_reducible refine HN.old (by go_size) ?_) | (with_reducible exact HN.of5 (by assumption)) | (with_reducible exact HN.new5 _ _ (by go_size)) | (with_reducible exact HN.of4 (by assumption)) | (with_reducible exact HN.new4 _ _ (by go_size))))), Bx.of (by (repeat' (first | (with_reducible assumption) | ((with_reducible refine HB.new _ _ _ ?_) <;> (go_size; done)) | (with_reducible refine HB.old (by go_size) ?_) | (with_reducible refine HB.drew ?_) | (with_reducible refine HB.over5 ?_) | (with_reducible refine HB.over4 ?_) | (with_reducible refine HB.setne (by first | go_size | (dsimp only; omega)) ?_) | (with_reducible refine HN.set ?_) | (with_reducible refine HN.setne (by first | go_size | (dsimp only; omega)) ?_) | (with_reducible refine HN.drew ?_) | (with_reducible refine HN.old (by go_size) ?_) | (with_reducible exact HN.of5 (by assumption)) | (with_reducible exact HN.new5 _ _ (by go_size)) | (with_reducible exact HN.of4 (by assumption)) | (with_reducible exact HN.new4 _ _ (by go_size))))), Bx.of (by (repeat' (first | (with_reducible assumption) | ((with_reducible refine HB.new _ _ _ ?_) <;> (go_size; done)) | (with_reducible refine HB.old (by go_size) ?_) | (with_reducible refine HB.drew ?_) | (with_reducible refine HB.over5 ?_) | (with_reducible refine HB.over4 ?_) | (with_reducible refine HB.setne (by first | go_size | (dsimp only; omega)) ?_) | (with_reducible refine HN.set ?_) | (with_reducible refine HN.setne (by first | go_size | (dsimp only; omega)) ?_) | (with_reducible refine HN.drew ?_) | (with_reducible refine HN.old (by go_size) ?_) | (with_reducible exact HN.of5 (by assumption)) | (with_reducible exact HN.new5 _ _ (by go_size)) | (with_reducible exact HN.of4 (by assumption)) | (with_reducible exact HN.new4 _ _ (by go_size))))), Bx.of (by (repeat' (first | (with_reducible assumption) | ((with_reducible refine HB.new _ _ _ ?_) <;> (go_size; done)) | (with_reducible refine HB.old (by go_size) ?_) | (with_reducible refine HB.drew ?_) | (with_reducible refine HB.over5 ?_) | (with_reducible refine HB.over4 ?_) | (with_reducible refine HB.setne (by first | go_size | (dsimp only; omega)) ?_) | (with_reducible refine HN.set ?_) | (with_reducible refine HN.setne (by first | go_size | (dsimp only; omega)) ?_) | (with_reducible refine HN.drew ?_) | (with_reducible refine HN.old (by go_size) ?_) | (with_reducible exact HN.of5 (by assumption)) | (with_reducible exact HN.new5 _ _ (by go_size)) | (with_reducible exact HN.of4 (by assumption)) | (with_reducible exact HN.new4 _ _ (by go_size)))))⟩ (fun _ _ h g => keep4 h (below_gt g) rfl) (fun _ h => h.2.1) (fun _ h => by cases h) (by simp) ?_)
  refine' dq_pure (by rfl) (by rfl) ?hv1 ?rest1
  case hv1 => (intro w hw; (try dsimp only at hw); go_split_ands; go_simp; try with_reducible rfl)
  case' rest1 => try simp only [Act.put, List.setIfInBounds_toArray, List.set_cons_zero, List.set_cons_succ]
  refine' dq_pure (by rfl) (by rfl) ?hv2 ?rest2
  case hv2 => (intro w hw; (try dsimp only at hw); go_split_ands; go_simp; try with_reducible rfl)
  case' rest2 => try simp only [Act.put, List.setIfInBounds_toArray, List.set_cons_zero, List.set_cons_succ]
  refine' dq_pure (by rfl) (by rfl) ?hv3 ?rest3
  case hv3 => (intro w hw; (try dsimp only at hw); go_split_ands; go_simp; try with_reducible rfl)
  case' rest3 => try simp only [Act.put, List.setIfInBounds_toArray, List.set_cons_zero, List.set_cons_succ]
  refine' dq_pure (by rfl) (by rfl) ?hv4 ?rest4
  case hv4 => (intro w hw; (try dsimp only at hw); go_split_ands; go_simp; try with_reducible rfl)
  case' rest4 => try simp only [Act.put, List.setIfInBounds_toArray, List.set_cons_zero, List.set_cons_succ]
  refine' dq_call (by rfl) (by rfl) ?hv5 ?hc5 ?rest5
  case hv5 => (intro w; go_simp; exact ⟨rfl, rfl⟩)
  case hc5 => exact (fun w hw => by first | (with_reducible exact calls_gt (C1 _)) | (with_reducible exact calls_gt (C2 _)))
  case' rest5 => try simp only [Act.put, List.setIfInBounds_toArray, List.set_cons_zero, List.set_cons_succ]
  refine' dq_pure (by rfl) (by rfl) ?hv6 ?rest6
  case hv6 => (intro w hw; (try dsimp only at hw); go_split_ands; go_simp; try with_reducible rfl)
  case' rest6 => try simp only [Act.put, List.setIfInBounds_toArray, List.set_cons_zero, List.set_cons_succ]
  refine' dq_pure (by rfl) (by rfl) ?hv7 ?rest7
  case hv7 => (intro w hw; (try dsimp only at hw); go_split_ands; go_simp; try with_reducible rfl)
  case' rest7 => try simp only [Act.put, List.setIfInBounds_toArray, List.set_cons_zero, List.set_cons_succ]
  refine' dq_call (by rfl) (by rfl) ?hv8 ?hc8 ?rest8
  case hv8 => (intro w; go_simp; exact ⟨rfl, rfl⟩)
  case hc8 => exact (fun w hw => by first | (with_reducible exact calls_gt (C1 _)) | (with_reducible exact calls_gt (C2 _)))
  case' rest8 => try simp only [Act.put, List.setIfInBounds_toArray, List.set_cons_zero, List.set_cons_succ]
  refine' dq_call (by rfl) (by rfl) ?hv9 ?hc9 ?rest9
  case hv9 => (intro w; go_simp; exact ⟨rfl, rfl⟩)
  case hc9 => exact (fun w hw => calls_gt (C _))
  case' rest9 => try simp only [Act.put, List.setIfInBounds_toArray, List.set_cons_zero, List.set_cons_succ]
  refine dq_nil ?_
  simp only [fa, List.drop_succ_cons, List.drop_zero]
  rintro W ⟨⟨hb0, hn0, ⟨B1, B1c, B1f, B1l⟩, ⟨B2, B2c, B2f, B2l⟩, ⟨B3, B3c, B3f, B3l⟩, ⟨B4, B4c, B4f, B4l⟩⟩, hgl⟩ hbs
  clear hbs hgl
  (repeat' (first | go_values | go_skip | go_guarded | go_step | go_upon | (simp only [Int.not_lt, Int.not_le] at *; go_simp) | (go_values <;> (try go_simp)) | (go_ite <;> go_prune <;> (try go_simp)) | (split <;> (first | (rename_i hx; exact (hx _ rfl).elim) | go_prune))))
  refine bodyPost_ret (v := WE (ab z)) ?_ rfl ⟨congrArg Ending.returned HR.out, by (repeat' (first | (with_reducible assumption) | (with_reducible exact Below.refl _ _) | (with_reducible refine Below.alloc ?_ ?_ _) | (with_reducible refine Below.setCell ?_ ?_ _) | (with_reducible refine Below.drew ?_) | (with_reducible refine below_more ?_ (by with_reducible assumption)) | go_size | omega | (with_reducible refine below_drewN ?_)))⟩
  simp [results, Try.results16, go_sem, B4c, B4f, B4l]

theorem rweighted_we {ta va tb vb T V m : Int} (h1 : I64 ta) (h2 : I64 va) (h3 : I64 tb) (h4 : I64 vb) (hT : Sm T) (hV : Sm V) (hm : Cnt m) (w : World) :
    Calls Try.prog 19 #[.agg #[.int .i64 ta, .int .i64 va], .agg #[.int .i64 tb, .int .i64 vb], WE T, WE V, .int .i64 m] w fun e w' => e = .returned (WE (ab (ar ta va tb vb T V m))) ∧ Below w.heap.size w w' :=
  rweighted_yes ta va tb vb h1 h2 h3 h4 _ _ _ _ _ _ _ _ _ _ T V m (IsW.we (fits_sm hT)) (IsW.we (fits_sm hV)) hT hV hm (lb0_in _) (lb1_in _) (lb2_in _) (lb3_in _) (lb0_in _) (lb1_in _) (lb2_in _) (lb3_in _) (sm_we hT) (sm_we hV) w

set_option maxRecDepth 100000 in
theorem rdoubled_any {ta va tb vb tc vc : Int} (h1 : I64 ta) (h2 : I64 va) (h3 : I64 tb) (h4 : I64 vb) (h5 : I64 tc) (h6 : I64 vc) (w : World) :
    Calls Try.prog 17 #[.agg #[.int .i64 ta, .int .i64 va], .agg #[.int .i64 tb, .int .i64 vb], .agg #[.int .i64 tc, .int .i64 vc]] w fun e w' => e = .returned (WE (ab (ar ta va tb vb tc vc 1))) ∧ Below w.heap.size w w' := by
  have C1 := fun W => rOf_any tc h5 W
  have C2 := fun W => rOf_any vc h6 W
  have C := fun W => rweighted_we h1 h2 h3 h4 (sm_i64 h5) (sm_i64 h6) (m := 1) ⟨by decide, by decide⟩ W
  clear h1 h2 h3 h4 h5 h6
  generalize ar ta va tb vb tc vc 1 = z at *
  generalize hR : WE (ab z) = R
  have HR := hid hR
  clear hR
  go_enter Try.func17, Try.ntmps17
  (repeat' (first | go_values | go_skip | go_guarded | go_step | go_upon | (simp only [Int.not_lt, Int.not_le] at *; go_simp) | (go_values <;> (try go_simp)) | (go_ite <;> go_prune <;> (try go_simp)) | (split <;> (first | (rename_i hx; exact (hx _ rfl).elim) | go_prune))))
  
  
  (refine wp_region_dq (row := none) (S := (fun Wz => Below w.heap.size w Wz ∧ w.heap.size ≤ Wz.heap.size ∧ Bx Wz (w.heap.size) (#[.int .i64 ta, .int .i64 va]) ∧ Bx Wz (w.heap.size + 1) (#[.int .i64 tb, .int .i64 vb]) ∧ Bx Wz (w.heap.size + 1 + 1) (#[.int .i64 tc, .int .i64 vc]) ∧ Bx Wz (w.heap.size + 1 + 1 + 1) (#[.bool false, .int .u64 0, .int .u64 0, .int .u64 0, .int .u64 0]))) (n0 := w.heap.size) 9 [] [(0, 0), (1, 0), (2, 0), (3, 0), (4, 0), (5, 0), (6, 0), (7, 0), (8, 0)] [] (by kernel_rfl) (by kernel_rfl) (fun _ _ d _ _ h => by cases d <;> exact h) ⟨by (repeat' (first | (with_reducible assumption) | (with_reducible exact Below.refl _ _) | (with_reducible refine Below.alloc ?_ ?_ _) | (with_reducible refine Below.setCell ?_ ?_ _) | (with_reducible refine Below.drew ?_) | (with_reducible refine below_more ?_ (by with_reducible assumption)) | go_size | omega | (with_reducible refine below_drewN ?_))), (by first | go_size | omega), Bx.of (by (repeat' (first | (with_reducible assumption) | ((with_reducible refine HB.new _ _ _ ?_) <;> (go_size; done)) | (with_reducible refine HB.old (by go_size) ?_) | (with_reducible refine HB.drew ?_) | (with_reducible refine HB.over5 ?_) | (with_reducible refine HB.over4 ?_) | (with_reducible refine HB.setne (by first | go_size | (dsimp only; omega)) ?_) | (with_reducible refine HN.set ?_) | (with_reducible refine HN.setne (by first | go_size | (dsimp only; omega)) ?_) | (with_reducible refine HN.drew ?_) | (with_reducible refine HN.old (by go_size) ?_) | (with_reducible exact HN.of5 (by assumption)) | (with_reducible exact HN.new5 _ _ (by go_size)) | (with_reducible exact HN.of4 (by assumption)) | (with_reducible exact HN.new4 _ _ (by go_size))))), Bx.of (by (repeat' (first | (with_reducible assumption) | ((with_reducible refine HB.new _ _ _ ?_) <;> (go_size; done)) | (with_reducible refine HB.old (by go_size) ?_) | (with_reducible refine HB.drew ?_) | (with_reducible refine HB.over5 ?_) | (with_reducible refine HB.over4 ?_) | (with_reducible refine HB.setne (by first | go_size | (dsimp only; omega)) ?_) | (with_reducible refine HN.set ?_) | (with_reducible refine HN.setne (by first | go_size | (dsimp only; omega)) ?_) | (with_reducible refine HN.drew ?_) | (with_reducible refine HN.old (by go_size) ?_) | (with_reducible exact HN.of5 (by assumption)) | (with_reducible exact HN.new5 _ _ (by go_size)) | (with_reducible exact HN.of4 (by assumption)) | (with_reducible exact HN.new4 _ _ (by go_size))))), Bx.of (by (repeat' (first | (with_reducible assumption) | ((with_reducible refine HB.new _ _ _ ?_) <;> (go_size; done)) | (with_reducible refine HB.old (by go_size) ?_) | (with_reducible refine HB.drew ?_) | (with_reducible refine HB.over5 ?_) | (with_reducible refine HB.over4 ?_) | (with_reducible refine HB.setne (by first | go_size | (dsimp only; omega)) ?_) | (with_reducible refine HN.set ?_) | (with_reducible refine HN.setne (by first | go_size | (dsimp only; omega)) ?_) | (with_reducible refine HN.drew ?_) | (with_reducible refine HN.old (by go_size) ?_) | (with_reducible exact HN.of5 (by assumption)) | (with_reducible exact HN.new5 _ _ (by go_size)) | (with_reducible exact HN.of4 (by assumption)) | (with_reducible exact HN.new4 _ _ (by go_size))))), Bx.of (by (repeat' (first | (with_reducible assumption) | ((with_reducible refine HB.new _ _ _ ?_) <;> (go_size; done)) | (with_reducible refine HB.old (by go_size) ?_) | (with_reducible refine HB.drew ?_) | (with_reducible refine HB.over5 ?_) | (with_reducible refine HB.over4 ?_) | (with_reducible refine HB.setne (by first | go_size | (dsimp only; omega)) ?_) | (with_reducible refine HN.set ?_) | (with_reducible refine HN.setne (by first | go_size | (dsimp only; omega)) ?_) | (with_reducible refine HN.drew ?_) | (with_reducible refine HN.old (by go_size) ?_) | (with_reducible exact HN.of5 (by assumption)) | (with_reducible exact HN.new5 _ _ (by go_size)) | (with_reducible exact HN.of4 (by assumption)) | (with_reducible exact HN.new4 _ _ (by go_size)))))⟩ (fun _ _ h g => keep4 h (below_gt g) rfl) (fun _ h => h.2.1) (fun _ h => by cases h) (by simp) ?_)
  refine' dq_pure (by rfl) (by rfl) ?hv10 ?rest10
  case hv10 => (intro w hw; (try dsimp only at hw); go_split_ands; go_simp; try with_reducible rfl)
  case' rest10 => try simp only [Act.put, List.setIfInBounds_toArray, List.set_cons_zero, List.set_cons_succ]
  refine' dq_pure (by rfl) (by rfl) ?hv11 ?rest11
  case hv11 => (intro w hw; (try dsimp only at hw); go_split_ands; go_simp; try with_reducible rfl)
  case' rest11 => try simp only [Act.put, List.setIfInBounds_toArray, List.set_cons_zero, List.set_cons_succ]
  refine' dq_pure (by rfl) (by rfl) ?hv12 ?rest12
  case hv12 => (intro w hw; (try dsimp only at hw); go_split_ands; go_simp; try with_reducible rfl)
  case' rest12 => try simp only [Act.put, List.setIfInBounds_toArray, List.set_cons_zero, List.set_cons_succ]
  refine' dq_pure (by rfl) (by rfl) ?hv13 ?rest13
  case hv13 => (intro w hw; (try dsimp only at hw); go_split_ands; go_simp; try with_reducible rfl)
  case' rest13 => try simp only [Act.put, List.setIfInBounds_toArray, List.set_cons_zero, List.set_cons_succ]
  refine' dq_call (by rfl) (by rfl) ?hv14 ?hc14 ?rest14
  case hv14 => (intro w; go_simp; exact ⟨rfl, rfl⟩)
  case hc14 => exact (fun w hw => by first | (with_reducible exact calls_gt (C1 _)) | (with_reducible exact calls_gt (C2 _)))
  case' rest14 => try simp only [Act.put, List.setIfInBounds_toArray, List.set_cons_zero, List.set_cons_succ]
  refine' dq_pure (by rfl) (by rfl) ?hv15 ?rest15
  case hv15 => (intro w hw; (try dsimp only at hw); go_split_ands; go_simp; try with_reducible rfl)
  case' rest15 => try simp only [Act.put, List.setIfInBounds_toArray, List.set_cons_zero, List.set_cons_succ]
  refine' dq_pure (by rfl) (by rfl) ?hv16 ?rest16
  case hv16 => (intro w hw; (try dsimp only at hw); go_split_ands; go_simp; try with_reducible rfl)
  case' rest16 => try simp only [Act.put, List.setIfInBounds_toArray, List.set_cons_zero, List.set_cons_succ]
  refine' dq_call (by rfl) (by rfl) ?hv17 ?hc17 ?rest17
  case hv17 => (intro w; go_simp; exact ⟨rfl, rfl⟩)
  case hc17 => exact (fun w hw => by first | (with_reducible exact calls_gt (C1 _)) | (with_reducible exact calls_gt (C2 _)))
  case' rest17 => try simp only [Act.put, List.setIfInBounds_toArray, List.set_cons_zero, List.set_cons_succ]
  refine' dq_call (by rfl) (by rfl) ?hv18 ?hc18 ?rest18
  case hv18 => (intro w; go_simp; exact ⟨rfl, rfl⟩)
  case hc18 => exact (fun w hw => calls_gt (C _))
  case' rest18 => try simp only [Act.put, List.setIfInBounds_toArray, List.set_cons_zero, List.set_cons_succ]
  refine dq_nil ?_
  simp only [fa, List.drop_succ_cons, List.drop_zero]
  rintro W ⟨⟨hb0, hn0, ⟨B1, B1c, B1f, B1l⟩, ⟨B2, B2c, B2f, B2l⟩, ⟨B3, B3c, B3f, B3l⟩, ⟨B4, B4c, B4f, B4l⟩⟩, hgl⟩ hbs
  clear hbs hgl
  (repeat' (first | go_values | go_skip | go_guarded | go_step | go_upon | (simp only [Int.not_lt, Int.not_le] at *; go_simp) | (go_values <;> (try go_simp)) | (go_ite <;> go_prune <;> (try go_simp)) | (split <;> (first | (rename_i hx; exact (hx _ rfl).elim) | go_prune))))
  refine bodyPost_ret (v := WE (ab z)) ?_ rfl ⟨congrArg Ending.returned HR.out, by (repeat' (first | (with_reducible assumption) | (with_reducible exact Below.refl _ _) | (with_reducible refine Below.alloc ?_ ?_ _) | (with_reducible refine Below.setCell ?_ ?_ _) | (with_reducible refine Below.drew ?_) | (with_reducible refine below_more ?_ (by with_reducible assumption)) | go_size | omega | (with_reducible refine below_drewN ?_)))⟩
  simp [results, Try.results17, go_sem, B4c, B4f, B4l]
end Go.Proofs.Ythcboomdkpiflaa
