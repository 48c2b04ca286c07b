/- tscodecref02.Compare: the order of the integers. -/
import Derived.Test.YthcboomdkpiflaaRows
import Derived.Test.YthcboomdkpiflaaLtC
import Derived.WalkKit
import Derived.ProofKit
import Derived.WalkLawsBesides
import Derived.WalkSpells
import Derived.RegionTactic
import Derived.ChangeAlike
import Derived.BigRegion
import Derived.Outline
import Derived.Handy
namespace Go.Proofs.Ythcboomdkpiflaa
open Go.ChangeShapes Go.WideShapes Go.ChangeAt Go.RowKit
set_option linter.unusedVariables false
set_option linter.unusedSimpArgs false

theorem cm_sign (z : Int) : (cm z 0 = -1 ∧ z < 0) ∨ (cm z 0 = 0 ∧ z = 0) ∨ (cm z 0 = 1 ∧ 0 < z) := by unfold cm; (repeat' split) <;> omega
theorem cm_bd (m k : Int) : -1 ≤ cm m k ∧ cm m k ≤ 1 := by unfold cm; (repeat' split) <;> omega
theorem cm_negs (m k : Int) : cm (-m) (-k) = -cm m k := by unfold cm; (repeat' split) <;> omega
theorem wv_parts {n : Bool} {a b c d : Int} : (wv n a b c d = MV a b c d) ∨ (wv n a b c d = -MV a b c d) := by unfold wv; cases n <;> simp
theorem cm_same {z z' m m' : Int} (hm : 0 ≤ m) (hm' : 0 ≤ m') (h : z = m ∨ z = -m) (h' : z' = m' ∨ z' = -m') : (z < 0 → z' < 0 → cm z z' = -cm m m') ∧ (0 < z → 0 < z' → cm z z' = cm m m') := by
  refine ⟨fun h1 h2 => ?_, fun h1 h2 => ?_⟩
  · rw [show z = -m by omega, show z' = -m' by omega, cm_negs]
  · rw [show z = m by omega, show z' = m' by omega]


set_option maxHeartbeats 4000000 in
set_option maxRecDepth 100000 in
theorem rcompare2_any (n : Bool) (a b c d : Int) (n' : Bool) (a' b' c' d' : Int) (ha : U64 a) (hb : U64 b) (hc : U64 c) (hd : U64 d) (ha' : U64 a') (hb' : U64 b') (hc' : U64 c') (hd' : U64 d') (w : World) :
    Calls Try.prog 33 #[WV n a b c d, WV n' a' b' c' d'] w fun e w' => e = .returned (.int .i64 (cm (wv n a b c d) (wv n' a' b' c' d'))) ∧ Below w.heap.size w w' := by
  have S1 := fun W => rsign_any n a b c d ha hb hc hd W
  have S2 := fun W => rsign_any n' a' b' c' d' ha' hb' hc' hd' W
  have OA := fun W => mag_ask (rof_any n a b c d ha hb hc hd W)
  have OB := fun W => mag_ask (rof_any n' a' b' c' d' ha' hb' hc' hd' W)
  have m1 := mv_nonneg ha hb hc hd
  have m2 := mv_nonneg ha' hb' hc' hd'
  have CC := rcompare_b (MV a b c d) (MV a' b' c' d') m1 m2
  have CS := cm_same m1 m2 (wv_parts (n := n) (a := a) (b := b) (c := c) (d := d)) (wv_parts (n := n') (a := a') (b := b') (c := c') (d := d'))
  have HB := cm_bd (MV a b c d) (MV a' b' c' d')
  generalize wv n a b c d = z at *
  generalize wv n' a' b' c' d' = z' at *
  generalize MV a b c d = m at *
  generalize MV a' b' c' d' = m' at *
  generalize cm m m' = k at *
  clear ha hb hc hd ha' hb' hc' hd' m1 m2
  obtain ⟨k1, k2⟩ := HB
  rcases cm_sign z with ⟨e1, h1⟩ | ⟨e1, h1⟩ | ⟨e1, h1⟩ <;> rcases cm_sign z' with ⟨e2, h2⟩ | ⟨e2, h2⟩ | ⟨e2, h2⟩
  all_goals
    rw [e1] at S1
    rw [e2] at S2
    clear e1 e2
  · have E : cm z z' = -k := CS.1 h1 h2
    rw [E]
    clear E CS h1 h2
    go_enter Try.func33, Try.ntmps33
    go_wp2_with fail
    
    (refine wp_region_dq (row := none) (S := (fun Wz => Below w.heap.size w Wz ∧ w.heap.size + 2 ≤ Wz.heap.size ∧ Bx Wz (w.heap.size) (#[.bool n, .int .u64 a, .int .u64 b, .int .u64 c, .int .u64 d]) ∧ Bx Wz (w.heap.size + 1) (#[.bool n', .int .u64 a', .int .u64 b', .int .u64 c', .int .u64 d']))) (n0 := w.heap.size + 2) 4 [] [(0, 0), (1, 0), (2, 0), (3, 0)] [] (by kernel_rfl) (by kernel_rfl) (fun _ _ d _ _ h => by cases d <;> exact h) ⟨by (repeat' (first | (with_reducible assumption) | (with_reducible exact Below.refl _ _) | (with_reducible refine Below.alloc ?_ ?_ _) | (with_reducible refine Below.setCell ?_ ?_ _) | (with_reducible refine Below.drew ?_) | (with_reducible refine below_more ?_ (by with_reducible assumption)) | go_size | omega | (with_reducible refine below_drewN ?_))), (by first | go_size | omega), Bx.of (by (repeat' (first | (with_reducible assumption) | ((with_reducible refine HB.new _ _ _ ?_) <;> (go_size; done)) | (with_reducible refine HB.old (by go_size) ?_) | (with_reducible refine HB.drew ?_) | (with_reducible refine HB.over5 ?_) | (with_reducible refine HB.over4 ?_) | (with_reducible refine HB.setne (by first | go_size | (dsimp only; omega)) ?_) | (with_reducible refine HN.set ?_) | (with_reducible refine HN.setne (by first | go_size | (dsimp only; omega)) ?_) | (with_reducible refine HN.drew ?_) | (with_reducible refine HN.old (by go_size) ?_) | (with_reducible exact HN.of5 (by assumption)) | (with_reducible exact HN.new5 _ _ (by go_size)) | (with_reducible exact HN.of4 (by assumption)) | (with_reducible exact HN.new4 _ _ (by go_size))))), Bx.of (by (repeat' (first | (with_reducible assumption) | ((with_reducible refine HB.new _ _ _ ?_) <;> (go_size; done)) | (with_reducible refine HB.old (by go_size) ?_) | (with_reducible refine HB.drew ?_) | (with_reducible refine HB.over5 ?_) | (with_reducible refine HB.over4 ?_) | (with_reducible refine HB.setne (by first | go_size | (dsimp only; omega)) ?_) | (with_reducible refine HN.set ?_) | (with_reducible refine HN.setne (by first | go_size | (dsimp only; omega)) ?_) | (with_reducible refine HN.drew ?_) | (with_reducible refine HN.old (by go_size) ?_) | (with_reducible exact HN.of5 (by assumption)) | (with_reducible exact HN.new5 _ _ (by go_size)) | (with_reducible exact HN.of4 (by assumption)) | (with_reducible exact HN.new4 _ _ (by go_size)))))⟩ (fun _ _ h g => keep2 h (below_gt g) rfl) (fun _ h => h.2.1) (fun _ h => by cases h) (by simp) ?_)
    refine' dq_pure (by rfl) (by rfl) ?hv1 ?rest1
    case hv1 => (intro w hw; (try dsimp only at hw); go_split_ands; go_simp; try with_reducible rfl)
    case' rest1 => try simp only [Act.put, List.setIfInBounds_toArray, List.set_cons_zero, List.set_cons_succ]
    refine' dq_call (by rfl) (by rfl) ?hv2 ?hc2 ?rest2
    case hv2 => (intro w; go_simp; exact ⟨rfl, rfl⟩)
    case hc2 => exact (fun w hw => calls_gt (S1 _))
    case' rest2 => try simp only [Act.put, List.setIfInBounds_toArray, List.set_cons_zero, List.set_cons_succ]
    refine' dq_pure (by rfl) (by rfl) ?hv3 ?rest3
    case hv3 => (intro w hw; (try dsimp only at hw); go_split_ands; go_simp; try with_reducible rfl)
    case' rest3 => try simp only [Act.put, List.setIfInBounds_toArray, List.set_cons_zero, List.set_cons_succ]
    refine' dq_call (by rfl) (by rfl) ?hv4 ?hc4 ?rest4
    case hv4 => (intro w; go_simp; exact ⟨rfl, rfl⟩)
    case hc4 => exact (fun w hw => calls_gt (S2 _))
    case' rest4 => try simp only [Act.put, List.setIfInBounds_toArray, List.set_cons_zero, List.set_cons_succ]
    refine dq_nil ?_
    simp only [fa, List.drop_succ_cons, List.drop_zero]
    rintro W ⟨⟨hb0, hn0, ⟨B1, B1c, B1f, B1l⟩, ⟨B2, B2c, B2f, B2l⟩⟩, hgl⟩ hbs
    clear hbs hgl
    (repeat' (first | go_values | go_skip | go_guarded | go_step | go_upon | (simp only [Int.not_lt, Int.not_le] at *; go_simp) | (go_values <;> (try go_simp)) | (go_ite <;> go_prune <;> (try go_simp)) | (split <;> (first | (rename_i hx; exact (hx _ rfl).elim) | go_prune))))
    
    
    
    (refine wp_region_dq (row := none) (S := (fun Wz => Below w.heap.size w Wz ∧ w.heap.size + 2 ≤ Wz.heap.size ∧ Bx Wz (w.heap.size) (#[.bool n, .int .u64 a, .int .u64 b, .int .u64 c, .int .u64 d]) ∧ Bx Wz (w.heap.size + 1) (#[.bool n', .int .u64 a', .int .u64 b', .int .u64 c', .int .u64 d']))) (n0 := w.heap.size + 2) 7 [] [(0, 0), (1, 0), (3, 0), (2, 1), (4, 1), (5, 1), (6, 0)] [] (by kernel_rfl) (by kernel_rfl) (fun _ _ d _ _ h => by cases d <;> exact h) ⟨by (repeat' (first | (with_reducible assumption) | (with_reducible exact Below.refl _ _) | (with_reducible refine Below.alloc ?_ ?_ _) | (with_reducible refine Below.setCell ?_ ?_ _) | (with_reducible refine Below.drew ?_) | (with_reducible refine below_more ?_ (by with_reducible assumption)) | go_size | omega | (with_reducible refine below_drewN ?_))), (by first | go_size | omega), Bx.of (by (repeat' (first | (with_reducible assumption) | ((with_reducible refine HB.new _ _ _ ?_) <;> (go_size; done)) | (with_reducible refine HB.old (by go_size) ?_) | (with_reducible refine HB.drew ?_) | (with_reducible refine HB.over5 ?_) | (with_reducible refine HB.over4 ?_) | (with_reducible refine HB.setne (by first | go_size | (dsimp only; omega)) ?_) | (with_reducible refine HN.set ?_) | (with_reducible refine HN.setne (by first | go_size | (dsimp only; omega)) ?_) | (with_reducible refine HN.drew ?_) | (with_reducible refine HN.old (by go_size) ?_) | (with_reducible exact HN.of5 (by assumption)) | (with_reducible exact HN.new5 _ _ (by go_size)) | (with_reducible exact HN.of4 (by assumption)) | (with_reducible exact HN.new4 _ _ (by go_size))))), Bx.of (by (repeat' (first | (with_reducible assumption) | ((with_reducible refine HB.new _ _ _ ?_) <;> (go_size; done)) | (with_reducible refine HB.old (by go_size) ?_) | (with_reducible refine HB.drew ?_) | (with_reducible refine HB.over5 ?_) | (with_reducible refine HB.over4 ?_) | (with_reducible refine HB.setne (by first | go_size | (dsimp only; omega)) ?_) | (with_reducible refine HN.set ?_) | (with_reducible refine HN.setne (by first | go_size | (dsimp only; omega)) ?_) | (with_reducible refine HN.drew ?_) | (with_reducible refine HN.old (by go_size) ?_) | (with_reducible exact HN.of5 (by assumption)) | (with_reducible exact HN.new5 _ _ (by go_size)) | (with_reducible exact HN.of4 (by assumption)) | (with_reducible exact HN.new4 _ _ (by go_size)))))⟩ (fun _ _ h g => keep2 h (below_gt g) rfl) (fun _ h => h.2.1) (fun _ h => by cases h) (by simp) ?_)
    refine' dq_pure (by rfl) (by rfl) ?hv5 ?rest5
    case hv5 => (intro w hw; (try dsimp only at hw); go_split_ands; go_simp; try with_reducible rfl)
    case' rest5 => try simp only [Act.put, List.setIfInBounds_toArray, List.set_cons_zero, List.set_cons_succ]
    refine' dq_pure (by rfl) (by rfl) ?hv6 ?rest6
    case hv6 => (intro w hw; (try dsimp only at hw); go_split_ands; go_simp; try with_reducible rfl)
    case' rest6 => try simp only [Act.put, List.setIfInBounds_toArray, List.set_cons_zero, List.set_cons_succ]
    refine' dq_pure (by rfl) (by rfl) ?hv7 ?rest7
    case hv7 => (intro w hw; (try dsimp only at hw); go_split_ands; go_simp; try with_reducible rfl)
    case' rest7 => try simp only [Act.put, List.setIfInBounds_toArray, List.set_cons_zero, List.set_cons_succ]
    refine' dq_ask (R := fun v w' => SlU w' v (wl m)) (by rfl) (by rfl) ?hv8 ?hc8 ?rest8 (fun _ _ h g => keep2 h (below_gt g) rfl)
    case hv8 => (intro w; go_simp; exact ⟨rfl, rfl⟩)
    case hc8 => exact (fun wq hsq htq => OA wq)
    case' rest8 => try simp only [Act.put, List.setIfInBounds_toArray, List.set_cons_zero, List.set_cons_succ]
    (rintro v1 x1 hS1 hg1 hs1; have hs1' := hs1; obtain ⟨a1, l1, c1, rfl, -⟩ := hs1')
    refine' dq_ask (R := fun v w' => SlU w' v (wl m')) (by rfl) (by rfl) ?hv9 ?hc9 ?rest9 (fun _ _ h g => keep2 h (below_gt g) rfl)
    case hv9 => (intro w; go_simp; exact ⟨rfl, rfl⟩)
    case hc9 => exact (fun wq hsq htq => OB wq)
    case' rest9 => try simp only [Act.put, List.setIfInBounds_toArray, List.set_cons_zero, List.set_cons_succ]
    (rintro v2 x2 hS2 hg2 hs2; have hs1 := hs1.below (below_gt hg2); have hs2' := hs2; obtain ⟨a2, l2, c2, rfl, -⟩ := hs2')
    refine' dq_ask (R := fun v _ => v = .int .i64 k) (by rfl) (by rfl) ?hv10 ?hc10 ?rest10 (fun _ _ h g => keep2 h (below_gt g) rfl)
    case hv10 => (intro w; go_simp; exact ⟨rfl, rfl⟩)
    case hc10 => exact (fun wq hsq htq => (CC a1 a2 l1 c1 l2 c2 wq (hs1.below (below_gt htq)) (hs2.below (below_gt htq))).mono (fun e w' ⟨he, hb⟩ => ⟨_, he, rfl, gt_below hb _⟩))
    case' rest10 => try simp only [Act.put, List.setIfInBounds_toArray, List.set_cons_zero, List.set_cons_succ]
    (rintro v3 x3 hS3 hg3 rfl; clear hs1 hs2)
    refine' dq_pure (by rfl) (by rfl) ?hv11 ?rest11
    case hv11 => (intro w hw; (try dsimp only at hw); go_split_ands; go_simp; try with_reducible rfl)
    case' rest11 => try simp only [Act.put, List.setIfInBounds_toArray, List.set_cons_zero, List.set_cons_succ]
    refine dq_nil ?_
    simp only [fa, List.drop_succ_cons, List.drop_zero]
    rintro W ⟨⟨hb0, hn0, ⟨B1, B1c, B1f, B1l⟩, ⟨B2, B2c, B2f, B2l⟩⟩, hgl⟩ hbs
    clear hbs
    (repeat' (first | go_values | go_skip | go_guarded | go_step | go_upon | (simp only [Int.not_lt, Int.not_le] at *; go_simp) | (go_values <;> (try go_simp)) | (go_ite <;> go_prune <;> (try go_simp)) | (split <;> (first | (rename_i hx; exact (hx _ rfl).elim) | go_prune))))
    go_ret
    exact ⟨by first | rfl | (simp; done), by (repeat' (first | (with_reducible assumption) | (with_reducible exact Below.refl _ _) | (with_reducible refine Below.alloc ?_ ?_ _) | (with_reducible refine Below.setCell ?_ ?_ _) | (with_reducible refine Below.drew ?_) | (with_reducible refine below_more ?_ (by with_reducible assumption)) | go_size | omega | (with_reducible refine below_drewN ?_)))⟩
  · have E : cm z z' = -1 := by unfold cm; (repeat' split) <;> omega
    rw [E]
    clear E CS h1 h2 OA OB CC
    go_enter Try.func33, Try.ntmps33
    go_wp2_with fail
    
    (refine wp_region_dq (row := none) (S := (fun Wz => Below w.heap.size w Wz ∧ w.heap.size + 2 ≤ Wz.heap.size ∧ Bx Wz (w.heap.size) (#[.bool n, .int .u64 a, .int .u64 b, .int .u64 c, .int .u64 d]) ∧ Bx Wz (w.heap.size + 1) (#[.bool n', .int .u64 a', .int .u64 b', .int .u64 c', .int .u64 d']))) (n0 := w.heap.size + 2) 4 [] [(0, 0), (1, 0), (2, 0), (3, 0)] [] (by kernel_rfl) (by kernel_rfl) (fun _ _ d _ _ h => by cases d <;> exact h) ⟨by (repeat' (first | (with_reducible assumption) | (with_reducible exact Below.refl _ _) | (with_reducible refine Below.alloc ?_ ?_ _) | (with_reducible refine Below.setCell ?_ ?_ _) | (with_reducible refine Below.drew ?_) | (with_reducible refine below_more ?_ (by with_reducible assumption)) | go_size | omega | (with_reducible refine below_drewN ?_))), (by first | go_size | omega), Bx.of (by (repeat' (first | (with_reducible assumption) | ((with_reducible refine HB.new _ _ _ ?_) <;> (go_size; done)) | (with_reducible refine HB.old (by go_size) ?_) | (with_reducible refine HB.drew ?_) | (with_reducible refine HB.over5 ?_) | (with_reducible refine HB.over4 ?_) | (with_reducible refine HB.setne (by first | go_size | (dsimp only; omega)) ?_) | (with_reducible refine HN.set ?_) | (with_reducible refine HN.setne (by first | go_size | (dsimp only; omega)) ?_) | (with_reducible refine HN.drew ?_) | (with_reducible refine HN.old (by go_size) ?_) | (with_reducible exact HN.of5 (by assumption)) | (with_reducible exact HN.new5 _ _ (by go_size)) | (with_reducible exact HN.of4 (by assumption)) | (with_reducible exact HN.new4 _ _ (by go_size))))), Bx.of (by (repeat' (first | (with_reducible assumption) | ((with_reducible refine HB.new _ _ _ ?_) <;> (go_size; done)) | (with_reducible refine HB.old (by go_size) ?_) | (with_reducible refine HB.drew ?_) | (with_reducible refine HB.over5 ?_) | (with_reducible refine HB.over4 ?_) | (with_reducible refine HB.setne (by first | go_size | (dsimp only; omega)) ?_) | (with_reducible refine HN.set ?_) | (with_reducible refine HN.setne (by first | go_size | (dsimp only; omega)) ?_) | (with_reducible refine HN.drew ?_) | (with_reducible refine HN.old (by go_size) ?_) | (with_reducible exact HN.of5 (by assumption)) | (with_reducible exact HN.new5 _ _ (by go_size)) | (with_reducible exact HN.of4 (by assumption)) | (with_reducible exact HN.new4 _ _ (by go_size)))))⟩ (fun _ _ h g => keep2 h (below_gt g) rfl) (fun _ h => h.2.1) (fun _ h => by cases h) (by simp) ?_)
    refine' dq_pure (by rfl) (by rfl) ?hv12 ?rest12
    case hv12 => (intro w hw; (try dsimp only at hw); go_split_ands; go_simp; try with_reducible rfl)
    case' rest12 => try simp only [Act.put, List.setIfInBounds_toArray, List.set_cons_zero, List.set_cons_succ]
    refine' dq_call (by rfl) (by rfl) ?hv13 ?hc13 ?rest13
    case hv13 => (intro w; go_simp; exact ⟨rfl, rfl⟩)
    case hc13 => exact (fun w hw => calls_gt (S1 _))
    case' rest13 => try simp only [Act.put, List.setIfInBounds_toArray, List.set_cons_zero, List.set_cons_succ]
    refine' dq_pure (by rfl) (by rfl) ?hv14 ?rest14
    case hv14 => (intro w hw; (try dsimp only at hw); go_split_ands; go_simp; try with_reducible rfl)
    case' rest14 => try simp only [Act.put, List.setIfInBounds_toArray, List.set_cons_zero, List.set_cons_succ]
    refine' dq_call (by rfl) (by rfl) ?hv15 ?hc15 ?rest15
    case hv15 => (intro w; go_simp; exact ⟨rfl, rfl⟩)
    case hc15 => exact (fun w hw => calls_gt (S2 _))
    case' rest15 => try simp only [Act.put, List.setIfInBounds_toArray, List.set_cons_zero, List.set_cons_succ]
    refine dq_nil ?_
    simp only [fa, List.drop_succ_cons, List.drop_zero]
    rintro W ⟨⟨hb0, hn0, ⟨B1, B1c, B1f, B1l⟩, ⟨B2, B2c, B2f, B2l⟩⟩, hgl⟩ hbs
    clear hbs hgl
    (repeat' (first | go_values | go_skip | go_guarded | go_step | go_upon | (simp only [Int.not_lt, Int.not_le] at *; go_simp) | (go_values <;> (try go_simp)) | (go_ite <;> go_prune <;> (try go_simp)) | (split <;> (first | (rename_i hx; exact (hx _ rfl).elim) | go_prune))))
    go_ret
    exact ⟨rfl, by (repeat' (first | (with_reducible assumption) | (with_reducible exact Below.refl _ _) | (with_reducible refine Below.alloc ?_ ?_ _) | (with_reducible refine Below.setCell ?_ ?_ _) | (with_reducible refine Below.drew ?_) | (with_reducible refine below_more ?_ (by with_reducible assumption)) | go_size | omega | (with_reducible refine below_drewN ?_)))⟩
  · have E : cm z z' = -1 := by unfold cm; (repeat' split) <;> omega
    rw [E]
    clear E CS h1 h2 OA OB CC
    go_enter Try.func33, Try.ntmps33
    go_wp2_with fail
    
    (refine wp_region_dq (row := none) (S := (fun Wz => Below w.heap.size w Wz ∧ w.heap.size + 2 ≤ Wz.heap.size ∧ Bx Wz (w.heap.size) (#[.bool n, .int .u64 a, .int .u64 b, .int .u64 c, .int .u64 d]) ∧ Bx Wz (w.heap.size + 1) (#[.bool n', .int .u64 a', .int .u64 b', .int .u64 c', .int .u64 d']))) (n0 := w.heap.size + 2) 4 [] [(0, 0), (1, 0), (2, 0), (3, 0)] [] (by kernel_rfl) (by kernel_rfl) (fun _ _ d _ _ h => by cases d <;> exact h) ⟨by (repeat' (first | (with_reducible assumption) | (with_reducible exact Below.refl _ _) | (with_reducible refine Below.alloc ?_ ?_ _) | (with_reducible refine Below.setCell ?_ ?_ _) | (with_reducible refine Below.drew ?_) | (with_reducible refine below_more ?_ (by with_reducible assumption)) | go_size | omega | (with_reducible refine below_drewN ?_))), (by first | go_size | omega), Bx.of (by (repeat' (first | (with_reducible assumption) | ((with_reducible refine HB.new _ _ _ ?_) <;> (go_size; done)) | (with_reducible refine HB.old (by go_size) ?_) | (with_reducible refine HB.drew ?_) | (with_reducible refine HB.over5 ?_) | (with_reducible refine HB.over4 ?_) | (with_reducible refine HB.setne (by first | go_size | (dsimp only; omega)) ?_) | (with_reducible refine HN.set ?_) | (with_reducible refine HN.setne (by first | go_size | (dsimp only; omega)) ?_) | (with_reducible refine HN.drew ?_) | (with_reducible refine HN.old (by go_size) ?_) | (with_reducible exact HN.of5 (by assumption)) | (with_reducible exact HN.new5 _ _ (by go_size)) | (with_reducible exact HN.of4 (by assumption)) | (with_reducible exact HN.new4 _ _ (by go_size))))), Bx.of (by (repeat' (first | (with_reducible assumption) | ((with_reducible refine HB.new _ _ _ ?_) <;> (go_size; done)) | (with_reducible refine HB.old (by go_size) ?_) | (with_reducible refine HB.drew ?_) | (with_reducible refine HB.over5 ?_) | (with_reducible refine HB.over4 ?_) | (with_reducible refine HB.setne (by first | go_size | (dsimp only; omega)) ?_) | (with_reducible refine HN.set ?_) | (with_reducible refine HN.setne (by first | go_size | (dsimp only; omega)) ?_) | (with_reducible refine HN.drew ?_) | (with_reducible refine HN.old (by go_size) ?_) | (with_reducible exact HN.of5 (by assumption)) | (with_reducible exact HN.new5 _ _ (by go_size)) | (with_reducible exact HN.of4 (by assumption)) | (with_reducible exact HN.new4 _ _ (by go_size)))))⟩ (fun _ _ h g => keep2 h (below_gt g) rfl) (fun _ h => h.2.1) (fun _ h => by cases h) (by simp) ?_)
    refine' dq_pure (by rfl) (by rfl) ?hv16 ?rest16
    case hv16 => (intro w hw; (try dsimp only at hw); go_split_ands; go_simp; try with_reducible rfl)
    case' rest16 => try simp only [Act.put, List.setIfInBounds_toArray, List.set_cons_zero, List.set_cons_succ]
    refine' dq_call (by rfl) (by rfl) ?hv17 ?hc17 ?rest17
    case hv17 => (intro w; go_simp; exact ⟨rfl, rfl⟩)
    case hc17 => exact (fun w hw => calls_gt (S1 _))
    case' rest17 => try simp only [Act.put, List.setIfInBounds_toArray, List.set_cons_zero, List.set_cons_succ]
    refine' dq_pure (by rfl) (by rfl) ?hv18 ?rest18
    case hv18 => (intro w hw; (try dsimp only at hw); go_split_ands; go_simp; try with_reducible rfl)
    case' rest18 => try simp only [Act.put, List.setIfInBounds_toArray, List.set_cons_zero, List.set_cons_succ]
    refine' dq_call (by rfl) (by rfl) ?hv19 ?hc19 ?rest19
    case hv19 => (intro w; go_simp; exact ⟨rfl, rfl⟩)
    case hc19 => exact (fun w hw => calls_gt (S2 _))
    case' rest19 => try simp only [Act.put, List.setIfInBounds_toArray, List.set_cons_zero, List.set_cons_succ]
    refine dq_nil ?_
    simp only [fa, List.drop_succ_cons, List.drop_zero]
    rintro W ⟨⟨hb0, hn0, ⟨B1, B1c, B1f, B1l⟩, ⟨B2, B2c, B2f, B2l⟩⟩, hgl⟩ hbs
    clear hbs hgl
    (repeat' (first | go_values | go_skip | go_guarded | go_step | go_upon | (simp only [Int.not_lt, Int.not_le] at *; go_simp) | (go_values <;> (try go_simp)) | (go_ite <;> go_prune <;> (try go_simp)) | (split <;> (first | (rename_i hx; exact (hx _ rfl).elim) | go_prune))))
    go_ret
    exact ⟨rfl, by (repeat' (first | (with_reducible assumption) | (with_reducible exact Below.refl _ _) | (with_reducible refine Below.alloc ?_ ?_ _) | (with_reducible refine Below.setCell ?_ ?_ _) | (with_reducible refine Below.drew ?_) | (with_reducible refine below_more ?_ (by with_reducible assumption)) | go_size | omega | (with_reducible refine below_drewN ?_)))⟩
  · have E : cm z z' = 1 := by unfold cm; (repeat' split) <;> omega
    rw [E]
    clear E CS h1 h2 OA OB CC
    go_enter Try.func33, Try.ntmps33
    go_wp2_with fail
    
    (refine wp_region_dq (row := none) (S := (fun Wz => Below w.heap.size w Wz ∧ w.heap.size + 2 ≤ Wz.heap.size ∧ Bx Wz (w.heap.size) (#[.bool n, .int .u64 a, .int .u64 b, .int .u64 c, .int .u64 d]) ∧ Bx Wz (w.heap.size + 1) (#[.bool n', .int .u64 a', .int .u64 b', .int .u64 c', .int .u64 d']))) (n0 := w.heap.size + 2) 4 [] [(0, 0), (1, 0), (2, 0), (3, 0)] [] (by kernel_rfl) (by kernel_rfl) (fun _ _ d _ _ h => by cases d <;> exact h) ⟨by (repeat' (first | (with_reducible assumption) | (with_reducible exact Below.refl _ _) | (with_reducible refine Below.alloc ?_ ?_ _) | (with_reducible refine Below.setCell ?_ ?_ _) | (with_reducible refine Below.drew ?_) | (with_reducible refine below_more ?_ (by with_reducible assumption)) | go_size | omega | (with_reducible refine below_drewN ?_))), (by first | go_size | omega), Bx.of (by (repeat' (first | (with_reducible assumption) | ((with_reducible refine HB.new _ _ _ ?_) <;> (go_size; done)) | (with_reducible refine HB.old (by go_size) ?_) | (with_reducible refine HB.drew ?_) | (with_reducible refine HB.over5 ?_) | (with_reducible refine HB.over4 ?_) | (with_reducible refine HB.setne (by first | go_size | (dsimp only; omega)) ?_) | (with_reducible refine HN.set ?_) | (with_reducible refine HN.setne (by first | go_size | (dsimp only; omega)) ?_) | (with_reducible refine HN.drew ?_) | (with_reducible refine HN.old (by go_size) ?_) | (with_reducible exact HN.of5 (by assumption)) | (with_reducible exact HN.new5 _ _ (by go_size)) | (with_reducible exact HN.of4 (by assumption)) | (with_reducible exact HN.new4 _ _ (by go_size))))), Bx.of (by (repeat' (first | (with_reducible assumption) | ((with_reducible refine HB.new _ _ _ ?_) <;> (go_size; done)) | (with_reducible refine HB.old (by go_size) ?_) | (with_reducible refine HB.drew ?_) | (with_reducible refine HB.over5 ?_) | (with_reducible refine HB.over4 ?_) | (with_reducible refine HB.setne (by first | go_size | (dsimp only; omega)) ?_) | (with_reducible refine HN.set ?_) | (with_reducible refine HN.setne (by first | go_size | (dsimp only; omega)) ?_) | (with_reducible refine HN.drew ?_) | (with_reducible refine HN.old (by go_size) ?_) | (with_reducible exact HN.of5 (by assumption)) | (with_reducible exact HN.new5 _ _ (by go_size)) | (with_reducible exact HN.of4 (by assumption)) | (with_reducible exact HN.new4 _ _ (by go_size)))))⟩ (fun _ _ h g => keep2 h (below_gt g) rfl) (fun _ h => h.2.1) (fun _ h => by cases h) (by simp) ?_)
    refine' dq_pure (by rfl) (by rfl) ?hv20 ?rest20
    case hv20 => (intro w hw; (try dsimp only at hw); go_split_ands; go_simp; try with_reducible rfl)
    case' rest20 => try simp only [Act.put, List.setIfInBounds_toArray, List.set_cons_zero, List.set_cons_succ]
    refine' dq_call (by rfl) (by rfl) ?hv21 ?hc21 ?rest21
    case hv21 => (intro w; go_simp; exact ⟨rfl, rfl⟩)
    case hc21 => exact (fun w hw => calls_gt (S1 _))
    case' rest21 => try simp only [Act.put, List.setIfInBounds_toArray, List.set_cons_zero, List.set_cons_succ]
    refine' dq_pure (by rfl) (by rfl) ?hv22 ?rest22
    case hv22 => (intro w hw; (try dsimp only at hw); go_split_ands; go_simp; try with_reducible rfl)
    case' rest22 => try simp only [Act.put, List.setIfInBounds_toArray, List.set_cons_zero, List.set_cons_succ]
    refine' dq_call (by rfl) (by rfl) ?hv23 ?hc23 ?rest23
    case hv23 => (intro w; go_simp; exact ⟨rfl, rfl⟩)
    case hc23 => exact (fun w hw => calls_gt (S2 _))
    case' rest23 => try simp only [Act.put, List.setIfInBounds_toArray, List.set_cons_zero, List.set_cons_succ]
    refine dq_nil ?_
    simp only [fa, List.drop_succ_cons, List.drop_zero]
    rintro W ⟨⟨hb0, hn0, ⟨B1, B1c, B1f, B1l⟩, ⟨B2, B2c, B2f, B2l⟩⟩, hgl⟩ hbs
    clear hbs hgl
    (repeat' (first | go_values | go_skip | go_guarded | go_step | go_upon | (simp only [Int.not_lt, Int.not_le] at *; go_simp) | (go_values <;> (try go_simp)) | (go_ite <;> go_prune <;> (try go_simp)) | (split <;> (first | (rename_i hx; exact (hx _ rfl).elim) | go_prune))))
    go_ret
    exact ⟨rfl, by (repeat' (first | (with_reducible assumption) | (with_reducible exact Below.refl _ _) | (with_reducible refine Below.alloc ?_ ?_ _) | (with_reducible refine Below.setCell ?_ ?_ _) | (with_reducible refine Below.drew ?_) | (with_reducible refine below_more ?_ (by with_reducible assumption)) | go_size | omega | (with_reducible refine below_drewN ?_)))⟩
  · have E : cm z z' = 0 := by subst h1; subst h2; rfl
    rw [E]
    clear E CS h1 h2
    go_enter Try.func33, Try.ntmps33
    go_wp2_with fail
    
    (refine wp_region_dq (row := none) (S := (fun Wz => Below w.heap.size w Wz ∧ w.heap.size + 2 ≤ Wz.heap.size ∧ Bx Wz (w.heap.size) (#[.bool n, .int .u64 a, .int .u64 b, .int .u64 c, .int .u64 d]) ∧ Bx Wz (w.heap.size + 1) (#[.bool n', .int .u64 a', .int .u64 b', .int .u64 c', .int .u64 d']))) (n0 := w.heap.size + 2) 4 [] [(0, 0), (1, 0), (2, 0), (3, 0)] [] (by kernel_rfl) (by kernel_rfl) (fun _ _ d _ _ h => by cases d <;> exact h) ⟨by (repeat' (first | (with_reducible assumption) | (with_reducible exact Below.refl _ _) | (with_reducible refine Below.alloc ?_ ?_ _) | (with_reducible refine Below.setCell ?_ ?_ _) | (with_reducible refine Below.drew ?_) | (with_reducible refine below_more ?_ (by with_reducible assumption)) | go_size | omega | (with_reducible refine below_drewN ?_))), (by first | go_size | omega), Bx.of (by (repeat' (first | (with_reducible assumption) | ((with_reducible refine HB.new _ _ _ ?_) <;> (go_size; done)) | (with_reducible refine HB.old (by go_size) ?_) | (with_reducible refine HB.drew ?_) | (with_reducible refine HB.over5 ?_) | (with_reducible refine HB.over4 ?_) | (with_reducible refine HB.setne (by first | go_size | (dsimp only; omega)) ?_) | (with_reducible refine HN.set ?_) | (with_reducible refine HN.setne (by first | go_size | (dsimp only; omega)) ?_) | (with_reducible refine HN.drew ?_) | (with_reducible refine HN.old (by go_size) ?_) | (with_reducible exact HN.of5 (by assumption)) | (with_reducible exact HN.new5 _ _ (by go_size)) | (with_reducible exact HN.of4 (by assumption)) | (with_reducible exact HN.new4 _ _ (by go_size))))), Bx.of (by (repeat' (first | (with_reducible assumption) | ((with_reducible refine HB.new _ _ _ ?_) <;> (go_size; done)) | (with_reducible refine HB.old (by go_size) ?_) | (with_reducible refine HB.drew ?_) | (with_reducible refine HB.over5 ?_) | (with_reducible refine HB.over4 ?_) | (with_reducible refine HB.setne (by first | go_size | (dsimp only; omega)) ?_) | (with_reducible refine HN.set ?_) | (with_reducible refine HN.setne (by first | go_size | (dsimp only; omega)) ?_) | (with_reducible refine HN.drew ?_) | (with_reducible refine HN.old (by go_size) ?_) | (with_reducible exact HN.of5 (by assumption)) | (with_reducible exact HN.new5 _ _ (by go_size)) | (with_reducible exact HN.of4 (by assumption)) | (with_reducible exact HN.new4 _ _ (by go_size)))))⟩ (fun _ _ h g => keep2 h (below_gt g) rfl) (fun _ h => h.2.1) (fun _ h => by cases h) (by simp) ?_)
    refine' dq_pure (by rfl) (by rfl) ?hv24 ?rest24
    case hv24 => (intro w hw; (try dsimp only at hw); go_split_ands; go_simp; try with_reducible rfl)
    case' rest24 => try simp only [Act.put, List.setIfInBounds_toArray, List.set_cons_zero, List.set_cons_succ]
    refine' dq_call (by rfl) (by rfl) ?hv25 ?hc25 ?rest25
    case hv25 => (intro w; go_simp; exact ⟨rfl, rfl⟩)
    case hc25 => exact (fun w hw => calls_gt (S1 _))
    case' rest25 => try simp only [Act.put, List.setIfInBounds_toArray, List.set_cons_zero, List.set_cons_succ]
    refine' dq_pure (by rfl) (by rfl) ?hv26 ?rest26
    case hv26 => (intro w hw; (try dsimp only at hw); go_split_ands; go_simp; try with_reducible rfl)
    case' rest26 => try simp only [Act.put, List.setIfInBounds_toArray, List.set_cons_zero, List.set_cons_succ]
    refine' dq_call (by rfl) (by rfl) ?hv27 ?hc27 ?rest27
    case hv27 => (intro w; go_simp; exact ⟨rfl, rfl⟩)
    case hc27 => exact (fun w hw => calls_gt (S2 _))
    case' rest27 => try simp only [Act.put, List.setIfInBounds_toArray, List.set_cons_zero, List.set_cons_succ]
    refine dq_nil ?_
    simp only [fa, List.drop_succ_cons, List.drop_zero]
    rintro W ⟨⟨hb0, hn0, ⟨B1, B1c, B1f, B1l⟩, ⟨B2, B2c, B2f, B2l⟩⟩, hgl⟩ hbs
    clear hbs hgl
    (repeat' (first | go_values | go_skip | go_guarded | go_step | go_upon | (simp only [Int.not_lt, Int.not_le] at *; go_simp) | (go_values <;> (try go_simp)) | (go_ite <;> go_prune <;> (try go_simp)) | (split <;> (first | (rename_i hx; exact (hx _ rfl).elim) | go_prune))))
    
    
    
    (refine wp_region_dq (row := none) (S := (fun Wz => Below w.heap.size w Wz ∧ w.heap.size + 2 ≤ Wz.heap.size ∧ Bx Wz (w.heap.size) (#[.bool n, .int .u64 a, .int .u64 b, .int .u64 c, .int .u64 d]) ∧ Bx Wz (w.heap.size + 1) (#[.bool n', .int .u64 a', .int .u64 b', .int .u64 c', .int .u64 d']))) (n0 := w.heap.size + 2) 7 [] [(0, 0), (1, 0), (3, 0), (2, 1), (4, 1), (5, 1), (6, 0)] [] (by kernel_rfl) (by kernel_rfl) (fun _ _ d _ _ h => by cases d <;> exact h) ⟨by (repeat' (first | (with_reducible assumption) | (with_reducible exact Below.refl _ _) | (with_reducible refine Below.alloc ?_ ?_ _) | (with_reducible refine Below.setCell ?_ ?_ _) | (with_reducible refine Below.drew ?_) | (with_reducible refine below_more ?_ (by with_reducible assumption)) | go_size | omega | (with_reducible refine below_drewN ?_))), (by first | go_size | omega), Bx.of (by (repeat' (first | (with_reducible assumption) | ((with_reducible refine HB.new _ _ _ ?_) <;> (go_size; done)) | (with_reducible refine HB.old (by go_size) ?_) | (with_reducible refine HB.drew ?_) | (with_reducible refine HB.over5 ?_) | (with_reducible refine HB.over4 ?_) | (with_reducible refine HB.setne (by first | go_size | (dsimp only; omega)) ?_) | (with_reducible refine HN.set ?_) | (with_reducible refine HN.setne (by first | go_size | (dsimp only; omega)) ?_) | (with_reducible refine HN.drew ?_) | (with_reducible refine HN.old (by go_size) ?_) | (with_reducible exact HN.of5 (by assumption)) | (with_reducible exact HN.new5 _ _ (by go_size)) | (with_reducible exact HN.of4 (by assumption)) | (with_reducible exact HN.new4 _ _ (by go_size))))), Bx.of (by (repeat' (first | (with_reducible assumption) | ((with_reducible refine HB.new _ _ _ ?_) <;> (go_size; done)) | (with_reducible refine HB.old (by go_size) ?_) | (with_reducible refine HB.drew ?_) | (with_reducible refine HB.over5 ?_) | (with_reducible refine HB.over4 ?_) | (with_reducible refine HB.setne (by first | go_size | (dsimp only; omega)) ?_) | (with_reducible refine HN.set ?_) | (with_reducible refine HN.setne (by first | go_size | (dsimp only; omega)) ?_) | (with_reducible refine HN.drew ?_) | (with_reducible refine HN.old (by go_size) ?_) | (with_reducible exact HN.of5 (by assumption)) | (with_reducible exact HN.new5 _ _ (by go_size)) | (with_reducible exact HN.of4 (by assumption)) | (with_reducible exact HN.new4 _ _ (by go_size)))))⟩ (fun _ _ h g => keep2 h (below_gt g) rfl) (fun _ h => h.2.1) (fun _ h => by cases h) (by simp) ?_)
    refine' dq_pure (by rfl) (by rfl) ?hv28 ?rest28
    case hv28 => (intro w hw; (try dsimp only at hw); go_split_ands; go_simp; try with_reducible rfl)
    case' rest28 => try simp only [Act.put, List.setIfInBounds_toArray, List.set_cons_zero, List.set_cons_succ]
    refine' dq_pure (by rfl) (by rfl) ?hv29 ?rest29
    case hv29 => (intro w hw; (try dsimp only at hw); go_split_ands; go_simp; try with_reducible rfl)
    case' rest29 => try simp only [Act.put, List.setIfInBounds_toArray, List.set_cons_zero, List.set_cons_succ]
    refine' dq_pure (by rfl) (by rfl) ?hv30 ?rest30
    case hv30 => (intro w hw; (try dsimp only at hw); go_split_ands; go_simp; try with_reducible rfl)
    case' rest30 => try simp only [Act.put, List.setIfInBounds_toArray, List.set_cons_zero, List.set_cons_succ]
    refine' dq_ask (R := fun v w' => SlU w' v (wl m)) (by rfl) (by rfl) ?hv31 ?hc31 ?rest31 (fun _ _ h g => keep2 h (below_gt g) rfl)
    case hv31 => (intro w; go_simp; exact ⟨rfl, rfl⟩)
    case hc31 => exact (fun wq hsq htq => OA wq)
    case' rest31 => try simp only [Act.put, List.setIfInBounds_toArray, List.set_cons_zero, List.set_cons_succ]
    (rintro v1 x1 hS1 hg1 hs1; have hs1' := hs1; obtain ⟨a1, l1, c1, rfl, -⟩ := hs1')
    refine' dq_ask (R := fun v w' => SlU w' v (wl m')) (by rfl) (by rfl) ?hv32 ?hc32 ?rest32 (fun _ _ h g => keep2 h (below_gt g) rfl)
    case hv32 => (intro w; go_simp; exact ⟨rfl, rfl⟩)
    case hc32 => exact (fun wq hsq htq => OB wq)
    case' rest32 => try simp only [Act.put, List.setIfInBounds_toArray, List.set_cons_zero, List.set_cons_succ]
    (rintro v2 x2 hS2 hg2 hs2; have hs1 := hs1.below (below_gt hg2); have hs2' := hs2; obtain ⟨a2, l2, c2, rfl, -⟩ := hs2')
    refine' dq_ask (R := fun v _ => v = .int .i64 k) (by rfl) (by rfl) ?hv33 ?hc33 ?rest33 (fun _ _ h g => keep2 h (below_gt g) rfl)
    case hv33 => (intro w; go_simp; exact ⟨rfl, rfl⟩)
    case hc33 => exact (fun wq hsq htq => (CC a1 a2 l1 c1 l2 c2 wq (hs1.below (below_gt htq)) (hs2.below (below_gt htq))).mono (fun e w' ⟨he, hb⟩ => ⟨_, he, rfl, gt_below hb _⟩))
    case' rest33 => try simp only [Act.put, List.setIfInBounds_toArray, List.set_cons_zero, List.set_cons_succ]
    (rintro v3 x3 hS3 hg3 rfl; clear hs1 hs2)
    refine' dq_pure (by rfl) (by rfl) ?hv34 ?rest34
    case hv34 => (intro w hw; (try dsimp only at hw); go_split_ands; go_simp; try with_reducible rfl)
    case' rest34 => try simp only [Act.put, List.setIfInBounds_toArray, List.set_cons_zero, List.set_cons_succ]
    refine dq_nil ?_
    simp only [fa, List.drop_succ_cons, List.drop_zero]
    rintro W ⟨⟨hb0, hn0, ⟨B1, B1c, B1f, B1l⟩, ⟨B2, B2c, B2f, B2l⟩⟩, hgl⟩ hbs
    clear hbs
    (repeat' (first | go_values | go_skip | go_guarded | go_step | go_upon | (simp only [Int.not_lt, Int.not_le] at *; go_simp) | (go_values <;> (try go_simp)) | (go_ite <;> go_prune <;> (try go_simp)) | (split <;> (first | (rename_i hx; exact (hx _ rfl).elim) | go_prune))))
    go_ret
    exact ⟨by first | rfl | (simp; done), by (repeat' (first | (with_reducible assumption) | (with_reducible exact Below.refl _ _) | (with_reducible refine Below.alloc ?_ ?_ _) | (with_reducible refine Below.setCell ?_ ?_ _) | (with_reducible refine Below.drew ?_) | (with_reducible refine below_more ?_ (by with_reducible assumption)) | go_size | omega | (with_reducible refine below_drewN ?_)))⟩
  · have E : cm z z' = -1 := by unfold cm; (repeat' split) <;> omega
    rw [E]
    clear E CS h1 h2 OA OB CC
    go_enter Try.func33, Try.ntmps33
    go_wp2_with fail
    
    (refine wp_region_dq (row := none) (S := (fun Wz => Below w.heap.size w Wz ∧ w.heap.size + 2 ≤ Wz.heap.size ∧ Bx Wz (w.heap.size) (#[.bool n, .int .u64 a, .int .u64 b, .int .u64 c, .int .u64 d]) ∧ Bx Wz (w.heap.size + 1) (#[.bool n', .int .u64 a', .int .u64 b', .int .u64 c', .int .u64 d']))) (n0 := w.heap.size + 2) 4 [] [(0, 0), (1, 0), (2, 0), (3, 0)] [] (by kernel_rfl) (by kernel_rfl) (fun _ _ d _ _ h => by cases d <;> exact h) ⟨by (repeat' (first | (with_reducible assumption) | (with_reducible exact Below.refl _ _) | (with_reducible refine Below.alloc ?_ ?_ _) | (with_reducible refine Below.setCell ?_ ?_ _) | (with_reducible refine Below.drew ?_) | (with_reducible refine below_more ?_ (by with_reducible assumption)) | go_size | omega | (with_reducible refine below_drewN ?_))), (by first | go_size | omega), Bx.of (by (repeat' (first | (with_reducible assumption) | ((with_reducible refine HB.new _ _ _ ?_) <;> (go_size; done)) | (with_reducible refine HB.old (by go_size) ?_) | (with_reducible refine HB.drew ?_) | (with_reducible refine HB.over5 ?_) | (with_reducible refine HB.over4 ?_) | (with_reducible refine HB.setne (by first | go_size | (dsimp only; omega)) ?_) | (with_reducible refine HN.set ?_) | (with_reducible refine HN.setne (by first | go_size | (dsimp only; omega)) ?_) | (with_reducible refine HN.drew ?_) | (with_reducible refine HN.old (by go_size) ?_) | (with_reducible exact HN.of5 (by assumption)) | (with_reducible exact HN.new5 _ _ (by go_size)) | (with_reducible exact HN.of4 (by assumption)) | (with_reducible exact HN.new4 _ _ (by go_size))))), Bx.of (by (repeat' (first | (with_reducible assumption) | ((with_reducible refine HB.new _ _ _ ?_) <;> (go_size; done)) | (with_reducible refine HB.old (by go_size) ?_) | (with_reducible refine HB.drew ?_) | (with_reducible refine HB.over5 ?_) | (with_reducible refine HB.over4 ?_) | (with_reducible refine HB.setne (by first | go_size | (dsimp only; omega)) ?_) | (with_reducible refine HN.set ?_) | (with_reducible refine HN.setne (by first | go_size | (dsimp only; omega)) ?_) | (with_reducible refine HN.drew ?_) | (with_reducible refine HN.old (by go_size) ?_) | (with_reducible exact HN.of5 (by assumption)) | (with_reducible exact HN.new5 _ _ (by go_size)) | (with_reducible exact HN.of4 (by assumption)) | (with_reducible exact HN.new4 _ _ (by go_size)))))⟩ (fun _ _ h g => keep2 h (below_gt g) rfl) (fun _ h => h.2.1) (fun _ h => by cases h) (by simp) ?_)
    refine' dq_pure (by rfl) (by rfl) ?hv35 ?rest35
    case hv35 => (intro w hw; (try dsimp only at hw); go_split_ands; go_simp; try with_reducible rfl)
    case' rest35 => try simp only [Act.put, List.setIfInBounds_toArray, List.set_cons_zero, List.set_cons_succ]
    refine' dq_call (by rfl) (by rfl) ?hv36 ?hc36 ?rest36
    case hv36 => (intro w; go_simp; exact ⟨rfl, rfl⟩)
    case hc36 => exact (fun w hw => calls_gt (S1 _))
    case' rest36 => try simp only [Act.put, List.setIfInBounds_toArray, List.set_cons_zero, List.set_cons_succ]
    refine' dq_pure (by rfl) (by rfl) ?hv37 ?rest37
    case hv37 => (intro w hw; (try dsimp only at hw); go_split_ands; go_simp; try with_reducible rfl)
    case' rest37 => try simp only [Act.put, List.setIfInBounds_toArray, List.set_cons_zero, List.set_cons_succ]
    refine' dq_call (by rfl) (by rfl) ?hv38 ?hc38 ?rest38
    case hv38 => (intro w; go_simp; exact ⟨rfl, rfl⟩)
    case hc38 => exact (fun w hw => calls_gt (S2 _))
    case' rest38 => try simp only [Act.put, List.setIfInBounds_toArray, List.set_cons_zero, List.set_cons_succ]
    refine dq_nil ?_
    simp only [fa, List.drop_succ_cons, List.drop_zero]
    rintro W ⟨⟨hb0, hn0, ⟨B1, B1c, B1f, B1l⟩, ⟨B2, B2c, B2f, B2l⟩⟩, hgl⟩ hbs
    clear hbs hgl
    (repeat' (first | go_values | go_skip | go_guarded | go_step | go_upon | (simp only [Int.not_lt, Int.not_le] at *; go_simp) | (go_values <;> (try go_simp)) | (go_ite <;> go_prune <;> (try go_simp)) | (split <;> (first | (rename_i hx; exact (hx _ rfl).elim) | go_prune))))
    go_ret
    exact ⟨rfl, by (repeat' (first | (with_reducible assumption) | (with_reducible exact Below.refl _ _) | (with_reducible refine Below.alloc ?_ ?_ _) | (with_reducible refine Below.setCell ?_ ?_ _) | (with_reducible refine Below.drew ?_) | (with_reducible refine below_more ?_ (by with_reducible assumption)) | go_size | omega | (with_reducible refine below_drewN ?_)))⟩
  · have E : cm z z' = 1 := by unfold cm; (repeat' split) <;> omega
    rw [E]
    clear E CS h1 h2 OA OB CC
    go_enter Try.func33, Try.ntmps33
    go_wp2_with fail
    
    (refine wp_region_dq (row := none) (S := (fun Wz => Below w.heap.size w Wz ∧ w.heap.size + 2 ≤ Wz.heap.size ∧ Bx Wz (w.heap.size) (#[.bool n, .int .u64 a, .int .u64 b, .int .u64 c, .int .u64 d]) ∧ Bx Wz (w.heap.size + 1) (#[.bool n', .int .u64 a', .int .u64 b', .int .u64 c', .int .u64 d']))) (n0 := w.heap.size + 2) 4 [] [(0, 0), (1, 0), (2, 0), (3, 0)] [] (by kernel_rfl) (by kernel_rfl) (fun _ _ d _ _ h => by cases d <;> exact h) ⟨by (repeat' (first | (with_reducible assumption) | (with_reducible exact Below.refl _ _) | (with_reducible refine Below.alloc ?_ ?_ _) | (with_reducible refine Below.setCell ?_ ?_ _) | (with_reducible refine Below.drew ?_) | (with_reducible refine below_more ?_ (by with_reducible assumption)) | go_size | omega | (with_reducible refine below_drewN ?_))), (by first | go_size | omega), Bx.of (by (repeat' (first | (with_reducible assumption) | ((with_reducible refine HB.new _ _ _ ?_) <;> (go_size; done)) | (with_reducible refine HB.old (by go_size) ?_) | (with_reducible refine HB.drew ?_) | (with_reducible refine HB.over5 ?_) | (with_reducible refine HB.over4 ?_) | (with_reducible refine HB.setne (by first | go_size | (dsimp only; omega)) ?_) | (with_reducible refine HN.set ?_) | (with_reducible refine HN.setne (by first | go_size | (dsimp only; omega)) ?_) | (with_reducible refine HN.drew ?_) | (with_reducible refine HN.old (by go_size) ?_) | (with_reducible exact HN.of5 (by assumption)) | (with_reducible exact HN.new5 _ _ (by go_size)) | (with_reducible exact HN.of4 (by assumption)) | (with_reducible exact HN.new4 _ _ (by go_size))))), Bx.of (by (repeat' (first | (with_reducible assumption) | ((with_reducible refine HB.new _ _ _ ?_) <;> (go_size; done)) | (with_reducible refine HB.old (by go_size) ?_) | (with_reducible refine HB.drew ?_) | (with_reducible refine HB.over5 ?_) | (with_reducible refine HB.over4 ?_) | (with_reducible refine HB.setne (by first | go_size | (dsimp only; omega)) ?_) | (with_reducible refine HN.set ?_) | (with_reducible refine HN.setne (by first | go_size | (dsimp only; omega)) ?_) | (with_reducible refine HN.drew ?_) | (with_reducible refine HN.old (by go_size) ?_) | (with_reducible exact HN.of5 (by assumption)) | (with_reducible exact HN.new5 _ _ (by go_size)) | (with_reducible exact HN.of4 (by assumption)) | (with_reducible exact HN.new4 _ _ (by go_size)))))⟩ (fun _ _ h g => keep2 h (below_gt g) rfl) (fun _ h => h.2.1) (fun _ h => by cases h) (by simp) ?_)
    refine' dq_pure (by rfl) (by rfl) ?hv39 ?rest39
    case hv39 => (intro w hw; (try dsimp only at hw); go_split_ands; go_simp; try with_reducible rfl)
    case' rest39 => try simp only [Act.put, List.setIfInBounds_toArray, List.set_cons_zero, List.set_cons_succ]
    refine' dq_call (by rfl) (by rfl) ?hv40 ?hc40 ?rest40
    case hv40 => (intro w; go_simp; exact ⟨rfl, rfl⟩)
    case hc40 => exact (fun w hw => calls_gt (S1 _))
    case' rest40 => try simp only [Act.put, List.setIfInBounds_toArray, List.set_cons_zero, List.set_cons_succ]
    refine' dq_pure (by rfl) (by rfl) ?hv41 ?rest41
    case hv41 => (intro w hw; (try dsimp only at hw); go_split_ands; go_simp; try with_reducible rfl)
    case' rest41 => try simp only [Act.put, List.setIfInBounds_toArray, List.set_cons_zero, List.set_cons_succ]
    refine' dq_call (by rfl) (by rfl) ?hv42 ?hc42 ?rest42
    case hv42 => (intro w; go_simp; exact ⟨rfl, rfl⟩)
    case hc42 => exact (fun w hw => calls_gt (S2 _))
    case' rest42 => try simp only [Act.put, List.setIfInBounds_toArray, List.set_cons_zero, List.set_cons_succ]
    refine dq_nil ?_
    simp only [fa, List.drop_succ_cons, List.drop_zero]
    rintro W ⟨⟨hb0, hn0, ⟨B1, B1c, B1f, B1l⟩, ⟨B2, B2c, B2f, B2l⟩⟩, hgl⟩ hbs
    clear hbs hgl
    (repeat' (first | go_values | go_skip | go_guarded | go_step | go_upon | (simp only [Int.not_lt, Int.not_le] at *; go_simp) | (go_values <;> (try go_simp)) | (go_ite <;> go_prune <;> (try go_simp)) | (split <;> (first | (rename_i hx; exact (hx _ rfl).elim) | go_prune))))
    go_ret
    exact ⟨rfl, by (repeat' (first | (with_reducible assumption) | (with_reducible exact Below.refl _ _) | (with_reducible refine Below.alloc ?_ ?_ _) | (with_reducible refine Below.setCell ?_ ?_ _) | (with_reducible refine Below.drew ?_) | (with_reducible refine below_more ?_ (by with_reducible assumption)) | go_size | omega | (with_reducible refine below_drewN ?_)))⟩
  · have E : cm z z' = 1 := by unfold cm; (repeat' split) <;> omega
    rw [E]
    clear E CS h1 h2 OA OB CC
    go_enter Try.func33, Try.ntmps33
    go_wp2_with fail
    
    (refine wp_region_dq (row := none) (S := (fun Wz => Below w.heap.size w Wz ∧ w.heap.size + 2 ≤ Wz.heap.size ∧ Bx Wz (w.heap.size) (#[.bool n, .int .u64 a, .int .u64 b, .int .u64 c, .int .u64 d]) ∧ Bx Wz (w.heap.size + 1) (#[.bool n', .int .u64 a', .int .u64 b', .int .u64 c', .int .u64 d']))) (n0 := w.heap.size + 2) 4 [] [(0, 0), (1, 0), (2, 0), (3, 0)] [] (by kernel_rfl) (by kernel_rfl) (fun _ _ d _ _ h => by cases d <;> exact h) ⟨by (repeat' (first | (with_reducible assumption) | (with_reducible exact Below.refl _ _) | (with_reducible refine Below.alloc ?_ ?_ _) | (with_reducible refine Below.setCell ?_ ?_ _) | (with_reducible refine Below.drew ?_) | (with_reducible refine below_more ?_ (by with_reducible assumption)) | go_size | omega | (with_reducible refine below_drewN ?_))), (by first | go_size | omega), Bx.of (by (repeat' (first | (with_reducible assumption) | ((with_reducible refine HB.new _ _ _ ?_) <;> (go_size; done)) | (with_reducible refine HB.old (by go_size) ?_) | (with_reducible refine HB.drew ?_) | (with_reducible refine HB.over5 ?_) | (with_reducible refine HB.over4 ?_) | (with_reducible refine HB.setne (by first | go_size | (dsimp only; omega)) ?_) | (with_reducible refine HN.set ?_) | (with_reducible refine HN.setne (by first | go_size | (dsimp only; omega)) ?_) | (with_reducible refine HN.drew ?_) | (with_reducible refine HN.old (by go_size) ?_) | (with_reducible exact HN.of5 (by assumption)) | (with_reducible exact HN.new5 _ _ (by go_size)) | (with_reducible exact HN.of4 (by assumption)) | (with_reducible exact HN.new4 _ _ (by go_size))))), Bx.of (by (repeat' (first | (with_reducible assumption) | ((with_reducible refine HB.new _ _ _ ?_) <;> (go_size; done)) | (with_reducible refine HB.old (by go_size) ?_) | (with_reducible refine HB.drew ?_) | (with_reducible refine HB.over5 ?_) | (with_reducible refine HB.over4 ?_) | (with_reducible refine HB.setne (by first | go_size | (dsimp only; omega)) ?_) | (with_reducible refine HN.set ?_) | (with_reducible refine HN.setne (by first | go_size | (dsimp only; omega)) ?_) | (with_reducible refine HN.drew ?_) | (with_reducible refine HN.old (by go_size) ?_) | (with_reducible exact HN.of5 (by assumption)) | (with_reducible exact HN.new5 _ _ (by go_size)) | (with_reducible exact HN.of4 (by assumption)) | (with_reducible exact HN.new4 _ _ (by go_size)))))⟩ (fun _ _ h g => keep2 h (below_gt g) rfl) (fun _ h => h.2.1) (fun _ h => by cases h) (by simp) ?_)
    refine' dq_pure (by rfl) (by rfl) ?hv43 ?rest43
    case hv43 => (intro w hw; (try dsimp only at hw); go_split_ands; go_simp; try with_reducible rfl)
    case' rest43 => try simp only [Act.put, List.setIfInBounds_toArray, List.set_cons_zero, List.set_cons_succ]
    refine' dq_call (by rfl) (by rfl) ?hv44 ?hc44 ?rest44
    case hv44 => (intro w; go_simp; exact ⟨rfl, rfl⟩)
    case hc44 => exact (fun w hw => calls_gt (S1 _))
    case' rest44 => try simp only [Act.put, List.setIfInBounds_toArray, List.set_cons_zero, List.set_cons_succ]
    refine' dq_pure (by rfl) (by rfl) ?hv45 ?rest45
    case hv45 => (intro w hw; (try dsimp only at hw); go_split_ands; go_simp; try with_reducible rfl)
    case' rest45 => try simp only [Act.put, List.setIfInBounds_toArray, List.set_cons_zero, List.set_cons_succ]
    refine' dq_call (by rfl) (by rfl) ?hv46 ?hc46 ?rest46
    case hv46 => (intro w; go_simp; exact ⟨rfl, rfl⟩)
    case hc46 => exact (fun w hw => calls_gt (S2 _))
    case' rest46 => try simp only [Act.put, List.setIfInBounds_toArray, List.set_cons_zero, List.set_cons_succ]
    refine dq_nil ?_
    simp only [fa, List.drop_succ_cons, List.drop_zero]
    rintro W ⟨⟨hb0, hn0, ⟨B1, B1c, B1f, B1l⟩, ⟨B2, B2c, B2f, B2l⟩⟩, hgl⟩ hbs
    clear hbs hgl
    (repeat' (first | go_values | go_skip | go_guarded | go_step | go_upon | (simp only [Int.not_lt, Int.not_le] at *; go_simp) | (go_values <;> (try go_simp)) | (go_ite <;> go_prune <;> (try go_simp)) | (split <;> (first | (rename_i hx; exact (hx _ rfl).elim) | go_prune))))
    go_ret
    exact ⟨rfl, by (repeat' (first | (with_reducible assumption) | (with_reducible exact Below.refl _ _) | (with_reducible refine Below.alloc ?_ ?_ _) | (with_reducible refine Below.setCell ?_ ?_ _) | (with_reducible refine Below.drew ?_) | (with_reducible refine below_more ?_ (by with_reducible assumption)) | go_size | omega | (with_reducible refine below_drewN ?_)))⟩
  · have E : cm z z' = k := CS.2 h1 h2
    rw [E]
    clear E CS h1 h2
    go_enter Try.func33, Try.ntmps33
    go_wp2_with fail
    
    (refine wp_region_dq (row := none) (S := (fun Wz => Below w.heap.size w Wz ∧ w.heap.size + 2 ≤ Wz.heap.size ∧ Bx Wz (w.heap.size) (#[.bool n, .int .u64 a, .int .u64 b, .int .u64 c, .int .u64 d]) ∧ Bx Wz (w.heap.size + 1) (#[.bool n', .int .u64 a', .int .u64 b', .int .u64 c', .int .u64 d']))) (n0 := w.heap.size + 2) 4 [] [(0, 0), (1, 0), (2, 0), (3, 0)] [] (by kernel_rfl) (by kernel_rfl) (fun _ _ d _ _ h => by cases d <;> exact h) ⟨by (repeat' (first | (with_reducible assumption) | (with_reducible exact Below.refl _ _) | (with_reducible refine Below.alloc ?_ ?_ _) | (with_reducible refine Below.setCell ?_ ?_ _) | (with_reducible refine Below.drew ?_) | (with_reducible refine below_more ?_ (by with_reducible assumption)) | go_size | omega | (with_reducible refine below_drewN ?_))), (by first | go_size | omega), Bx.of (by (repeat' (first | (with_reducible assumption) | ((with_reducible refine HB.new _ _ _ ?_) <;> (go_size; done)) | (with_reducible refine HB.old (by go_size) ?_) | (with_reducible refine HB.drew ?_) | (with_reducible refine HB.over5 ?_) | (with_reducible refine HB.over4 ?_) | (with_reducible refine HB.setne (by first | go_size | (dsimp only; omega)) ?_) | (with_reducible refine HN.set ?_) | (with_reducible refine HN.setne (by first | go_size | (dsimp only; omega)) ?_) | (with_reducible refine HN.drew ?_) | (with_reducible refine HN.old (by go_size) ?_) | (with_reducible exact HN.of5 (by assumption)) | (with_reducible exact HN.new5 _ _ (by go_size)) | (with_reducible exact HN.of4 (by assumption)) | (with_reducible exact HN.new4 _ _ (by go_size))))), Bx.of (by (repeat' (first | (with_reducible assumption) | ((with_reducible refine HB.new _ _ _ ?_) <;> (go_size; done)) | (with_reducible refine HB.old (by go_size) ?_) | (with_reducible refine HB.drew ?_) | (with_reducible refine HB.over5 ?_) | (with_reducible refine HB.over4 ?_) | (with_reducible refine HB.setne (by first | go_size | (dsimp only; omega)) ?_) | (with_reducible refine HN.set ?_) | (with_reducible refine HN.setne (by first | go_size | (dsimp only; omega)) ?_) | (with_reducible refine HN.drew ?_) | (with_reducible refine HN.old (by go_size) ?_) | (with_reducible exact HN.of5 (by assumption)) | (with_reducible exact HN.new5 _ _ (by go_size)) | (with_reducible exact HN.of4 (by assumption)) | (with_reducible exact HN.new4 _ _ (by go_size)))))⟩ (fun _ _ h g => keep2 h (below_gt g) rfl) (fun _ h => h.2.1) (fun _ h => by cases h) (by simp) ?_)
    refine' dq_pure (by rfl) (by rfl) ?hv47 ?rest47
    case hv47 => (intro w hw; (try dsimp only at hw); go_split_ands; go_simp; try with_reducible rfl)
    case' rest47 => try simp only [Act.put, List.setIfInBounds_toArray, List.set_cons_zero, List.set_cons_succ]
    refine' dq_call (by rfl) (by rfl) ?hv48 ?hc48 ?rest48
    case hv48 => (intro w; go_simp; exact ⟨rfl, rfl⟩)
    case hc48 => exact (fun w hw => calls_gt (S1 _))
    case' rest48 => try simp only [Act.put, List.setIfInBounds_toArray, List.set_cons_zero, List.set_cons_succ]
    refine' dq_pure (by rfl) (by rfl) ?hv49 ?rest49
    case hv49 => (intro w hw; (try dsimp only at hw); go_split_ands; go_simp; try with_reducible rfl)
    case' rest49 => try simp only [Act.put, List.setIfInBounds_toArray, List.set_cons_zero, List.set_cons_succ]
    refine' dq_call (by rfl) (by rfl) ?hv50 ?hc50 ?rest50
    case hv50 => (intro w; go_simp; exact ⟨rfl, rfl⟩)
    case hc50 => exact (fun w hw => calls_gt (S2 _))
    case' rest50 => try simp only [Act.put, List.setIfInBounds_toArray, List.set_cons_zero, List.set_cons_succ]
    refine dq_nil ?_
    simp only [fa, List.drop_succ_cons, List.drop_zero]
    rintro W ⟨⟨hb0, hn0, ⟨B1, B1c, B1f, B1l⟩, ⟨B2, B2c, B2f, B2l⟩⟩, hgl⟩ hbs
    clear hbs hgl
    (repeat' (first | go_values | go_skip | go_guarded | go_step | go_upon | (simp only [Int.not_lt, Int.not_le] at *; go_simp) | (go_values <;> (try go_simp)) | (go_ite <;> go_prune <;> (try go_simp)) | (split <;> (first | (rename_i hx; exact (hx _ rfl).elim) | go_prune))))
    
    
    
    (refine wp_region_dq (row := none) (S := (fun Wz => Below w.heap.size w Wz ∧ w.heap.size + 2 ≤ Wz.heap.size ∧ Bx Wz (w.heap.size) (#[.bool n, .int .u64 a, .int .u64 b, .int .u64 c, .int .u64 d]) ∧ Bx Wz (w.heap.size + 1) (#[.bool n', .int .u64 a', .int .u64 b', .int .u64 c', .int .u64 d']))) (n0 := w.heap.size + 2) 7 [] [(0, 0), (1, 0), (3, 0), (2, 1), (4, 1), (5, 1), (6, 0)] [] (by kernel_rfl) (by kernel_rfl) (fun _ _ d _ _ h => by cases d <;> exact h) ⟨by (repeat' (first | (with_reducible assumption) | (with_reducible exact Below.refl _ _) | (with_reducible refine Below.alloc ?_ ?_ _) | (with_reducible refine Below.setCell ?_ ?_ _) | (with_reducible refine Below.drew ?_) | (with_reducible refine below_more ?_ (by with_reducible assumption)) | go_size | omega | (with_reducible refine below_drewN ?_))), (by first | go_size | omega), Bx.of (by (repeat' (first | (with_reducible assumption) | ((with_reducible refine HB.new _ _ _ ?_) <;> (go_size; done)) | (with_reducible refine HB.old (by go_size) ?_) | (with_reducible refine HB.drew ?_) | (with_reducible refine HB.over5 ?_) | (with_reducible refine HB.over4 ?_) | (with_reducible refine HB.setne (by first | go_size | (dsimp only; omega)) ?_) | (with_reducible refine HN.set ?_) | (with_reducible refine HN.setne (by first | go_size | (dsimp only; omega)) ?_) | (with_reducible refine HN.drew ?_) | (with_reducible refine HN.old (by go_size) ?_) | (with_reducible exact HN.of5 (by assumption)) | (with_reducible exact HN.new5 _ _ (by go_size)) | (with_reducible exact HN.of4 (by assumption)) | (with_reducible exact HN.new4 _ _ (by go_size))))), Bx.of (by (repeat' (first | (with_reducible assumption) | ((with_reducible refine HB.new _ _ _ ?_) <;> (go_size; done)) | (with_reducible refine HB.old (by go_size) ?_) | (with_reducible refine HB.drew ?_) | (with_reducible refine HB.over5 ?_) | (with_reducible refine HB.over4 ?_) | (with_reducible refine HB.setne (by first | go_size | (dsimp only; omega)) ?_) | (with_reducible refine HN.set ?_) | (with_reducible refine HN.setne (by first | go_size | (dsimp only; omega)) ?_) | (with_reducible refine HN.drew ?_) | (with_reducible refine HN.old (by go_size) ?_) | (with_reducible exact HN.of5 (by assumption)) | (with_reducible exact HN.new5 _ _ (by go_size)) | (with_reducible exact HN.of4 (by assumption)) | (with_reducible exact HN.new4 _ _ (by go_size)))))⟩ (fun _ _ h g => keep2 h (below_gt g) rfl) (fun _ h => h.2.1) (fun _ h => by cases h) (by simp) ?_)
    refine' dq_pure (by rfl) (by rfl) ?hv51 ?rest51
    case hv51 => (intro w hw; (try dsimp only at hw); go_split_ands; go_simp; try with_reducible rfl)
    case' rest51 => try simp only [Act.put, List.setIfInBounds_toArray, List.set_cons_zero, List.set_cons_succ]
    refine' dq_pure (by rfl) (by rfl) ?hv52 ?rest52
    case hv52 => (intro w hw; (try dsimp only at hw); go_split_ands; go_simp; try with_reducible rfl)
    case' rest52 => try simp only [Act.put, List.setIfInBounds_toArray, List.set_cons_zero, List.set_cons_succ]
    refine' dq_pure (by rfl) (by rfl) ?hv53 ?rest53
    case hv53 => (intro w hw; (try dsimp only at hw); go_split_ands; go_simp; try with_reducible rfl)
    case' rest53 => try simp only [Act.put, List.setIfInBounds_toArray, List.set_cons_zero, List.set_cons_succ]
    refine' dq_ask (R := fun v w' => SlU w' v (wl m)) (by rfl) (by rfl) ?hv54 ?hc54 ?rest54 (fun _ _ h g => keep2 h (below_gt g) rfl)
    case hv54 => (intro w; go_simp; exact ⟨rfl, rfl⟩)
    case hc54 => exact (fun wq hsq htq => OA wq)
    case' rest54 => try simp only [Act.put, List.setIfInBounds_toArray, List.set_cons_zero, List.set_cons_succ]
    (rintro v1 x1 hS1 hg1 hs1; have hs1' := hs1; obtain ⟨a1, l1, c1, rfl, -⟩ := hs1')
    refine' dq_ask (R := fun v w' => SlU w' v (wl m')) (by rfl) (by rfl) ?hv55 ?hc55 ?rest55 (fun _ _ h g => keep2 h (below_gt g) rfl)
    case hv55 => (intro w; go_simp; exact ⟨rfl, rfl⟩)
    case hc55 => exact (fun wq hsq htq => OB wq)
    case' rest55 => try simp only [Act.put, List.setIfInBounds_toArray, List.set_cons_zero, List.set_cons_succ]
    (rintro v2 x2 hS2 hg2 hs2; have hs1 := hs1.below (below_gt hg2); have hs2' := hs2; obtain ⟨a2, l2, c2, rfl, -⟩ := hs2')
    refine' dq_ask (R := fun v _ => v = .int .i64 k) (by rfl) (by rfl) ?hv56 ?hc56 ?rest56 (fun _ _ h g => keep2 h (below_gt g) rfl)
    case hv56 => (intro w; go_simp; exact ⟨rfl, rfl⟩)
    case hc56 => exact (fun wq hsq htq => (CC a1 a2 l1 c1 l2 c2 wq (hs1.below (below_gt htq)) (hs2.below (below_gt htq))).mono (fun e w' ⟨he, hb⟩ => ⟨_, he, rfl, gt_below hb _⟩))
    case' rest56 => try simp only [Act.put, List.setIfInBounds_toArray, List.set_cons_zero, List.set_cons_succ]
    (rintro v3 x3 hS3 hg3 rfl; clear hs1 hs2)
    refine' dq_pure (by rfl) (by rfl) ?hv57 ?rest57
    case hv57 => (intro w hw; (try dsimp only at hw); go_split_ands; go_simp; try with_reducible rfl)
    case' rest57 => try simp only [Act.put, List.setIfInBounds_toArray, List.set_cons_zero, List.set_cons_succ]
    refine dq_nil ?_
    simp only [fa, List.drop_succ_cons, List.drop_zero]
    rintro W ⟨⟨hb0, hn0, ⟨B1, B1c, B1f, B1l⟩, ⟨B2, B2c, B2f, B2l⟩⟩, hgl⟩ hbs
    clear hbs
    (repeat' (first | go_values | go_skip | go_guarded | go_step | go_upon | (simp only [Int.not_lt, Int.not_le] at *; go_simp) | (go_values <;> (try go_simp)) | (go_ite <;> go_prune <;> (try go_simp)) | (split <;> (first | (rename_i hx; exact (hx _ rfl).elim) | go_prune))))
    go_ret
    exact ⟨by first | rfl | (simp; done), by (repeat' (first | (with_reducible assumption) | (with_reducible exact Below.refl _ _) | (with_reducible refine Below.alloc ?_ ?_ _) | (with_reducible refine Below.setCell ?_ ?_ _) | (with_reducible refine Below.drew ?_) | (with_reducible refine below_more ?_ (by with_reducible assumption)) | go_size | omega | (with_reducible refine below_drewN ?_)))⟩

theorem rcompare_we {z z' : Int} (h : Fits z) (h' : Fits z') (w : World) : Calls Try.prog 33 #[WE z, WE z'] w fun e w' => e = .returned (.int .i64 (cm z z')) ∧ Below w.heap.size w w' := by
  have := rcompare2_any (sg z) _ _ _ _ (sg z') _ _ _ _ (lb0_in (ab z)) (lb1_in (ab z)) (lb2_in (ab z)) (lb3_in (ab z)) (lb0_in (ab z')) (lb1_in (ab z')) (lb2_in (ab z')) (lb3_in (ab z')) w
  rwa [wv_we h, wv_we h'] at this
end Go.Proofs.Ythcboomdkpiflaa
