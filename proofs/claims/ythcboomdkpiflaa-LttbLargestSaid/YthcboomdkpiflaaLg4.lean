/- Several texts in one: LtD, LtZ, Chk, MadeW, LawT, LtA, LtK, LtM, Sx, SxO, SxR, SxP, SxQ, SxW, DriftM, SxD. -/
import Derived.Test.YthcboomdkpiflaaRows
import Derived.WalkKit
import Derived.ProofKit
import Derived.WalkLawsBesides
import Derived.WalkSpells
import Derived.RegionTactic
import Derived.ChangeAlike
import Derived.BigRegion
import Derived.Outline
import Derived.Handy
import Derived.Deep.QuietTactic
import Derived.BigQuiet
import Derived.Deep.RegionWith
import Derived.Scope
import Derived.Laws.Cells
import Derived.Laws.Entries
import Derived.Test.YthcboomdkpiflaaLg1
import Derived.Test.YthcboomdkpiflaaLg2
import Derived.Test.YthcboomdkpiflaaLg3

/- LtD: tscodecref02.Compare: the order of the integers. -/
namespace Go.Proofs.Ythcboomdkpiflaa
open Go.ChangeShapes Go.WideShapes Go.ChangeAt Go.RowKit
set_option linter.unusedVariables false
set_option linter.unusedSimpArgs false
theorem cm_sign (z : Int) : (cm z 0 = -1 ∧ z < 0) ∨ (cm z 0 = 0 ∧ z = 0) ∨ (cm z 0 = 1 ∧ 0 < z) := by unfold cm; (repeat' split) <;> omega
theorem cm_bd (m k : Int) : -1 ≤ cm m k ∧ cm m k ≤ 1 := by unfold cm; (repeat' split) <;> omega
theorem cm_negs (m k : Int) : cm (-m) (-k) = -cm m k := by unfold cm; (repeat' split) <;> omega
theorem wv_parts {n : Bool} {a b c d : Int} : (wv n a b c d = MV a b c d) ∨ (wv n a b c d = -MV a b c d) := by unfold wv; cases n <;> simp
theorem cm_same {z z' m m' : Int} (hm : 0 ≤ m) (hm' : 0 ≤ m') (h : z = m ∨ z = -m) (h' : z' = m' ∨ z' = -m') : (z < 0 → z' < 0 → cm z z' = -cm m m') ∧ (0 < z → 0 < z' → cm z z' = cm m m') := by
  refine ⟨fun h1 h2 => ?_, fun h1 h2 => ?_⟩
  · rw [show z = -m by omega, show z' = -m' by omega, cm_negs]
  · rw [show z = m by omega, show z' = m' by omega]
set_option maxHeartbeats 4000000 in
set_option maxRecDepth 100000 in
theorem rcompare2_any (n : Bool) (a b c d : Int) (n' : Bool) (a' b' c' d' : Int) (ha : U64 a) (hb : U64 b) (hc : U64 c) (hd : U64 d) (ha' : U64 a') (hb' : U64 b') (hc' : U64 c') (hd' : U64 d') (w : World) :
    Calls Try.prog 33 #[WV n a b c d, WV n' a' b' c' d'] w fun e w' => e = .returned (.int .i64 (cm (wv n a b c d) (wv n' a' b' c' d'))) ∧ Below w.heap.size w w' := by
  have S1 := fun W => rsign_any n a b c d ha hb hc hd W
  have S2 := fun W => rsign_any n' a' b' c' d' ha' hb' hc' hd' W
  have OA := fun W => mag_ask (rof_any n a b c d ha hb hc hd W)
  have OB := fun W => mag_ask (rof_any n' a' b' c' d' ha' hb' hc' hd' W)
  have m1 := mv_nonneg ha hb hc hd
  have m2 := mv_nonneg ha' hb' hc' hd'
  have CC := rcompare_b (MV a b c d) (MV a' b' c' d') m1 m2
  have CS := cm_same m1 m2 (wv_parts (n := n) (a := a) (b := b) (c := c) (d := d)) (wv_parts (n := n') (a := a') (b := b') (c := c') (d := d'))
  have HB := cm_bd (MV a b c d) (MV a' b' c' d')
  generalize wv n a b c d = z at *
  generalize wv n' a' b' c' d' = z' at *
  generalize MV a b c d = m at *
  generalize MV a' b' c' d' = m' at *
  generalize cm m m' = k at *
  clear ha hb hc hd ha' hb' hc' hd' m1 m2
  obtain ⟨k1, k2⟩ := HB
  rcases cm_sign z with ⟨e1, h1⟩ | ⟨e1, h1⟩ | ⟨e1, h1⟩ <;> rcases cm_sign z' with ⟨e2, h2⟩ | ⟨e2, h2⟩ | ⟨e2, h2⟩
  all_goals
    rw [e1] at S1
    rw [e2] at S2
    clear e1 e2
  · have E : cm z z' = -k := CS.1 h1 h2
    rw [E]
    clear E CS h1 h2
    go_enter Try.func33, Try.ntmps33
    go_wp2_with fail
    
    (refine wp_region_dq (row := none) (S := (fun Wz => Below w.heap.size w Wz ∧ w.heap.size + 2 ≤ Wz.heap.size ∧ Bx Wz (w.heap.size) (#[.bool n, .int .u64 a, .int .u64 b, .int .u64 c, .int .u64 d]) ∧ Bx Wz (w.heap.size + 1) (#[.bool n', .int .u64 a', .int .u64 b', .int .u64 c', .int .u64 d']))) (n0 := w.heap.size + 2) 4 [] [(0, 0), (1, 0), (2, 0), (3, 0)] [] (by kernel_rfl) (by kernel_rfl) (fun _ _ d _ _ h => by cases d <;> exact h) ⟨by (repeat' (first | (with_reducible assumption) | (with_reducible exact Below.refl _ _) | (with_reducible refine Below.alloc ?_ ?_ _) | (with_reducible refine Below.setCell ?_ ?_ _) | (with_reducible refine Below.drew ?_) | (with_reducible refine below_more ?_ (by with_reducible assumption)) | go_size | omega | (with_reducible refine below_drewN ?_))), (by first | go_size | omega), Bx.of (by (repeat' (first | (with_reducible assumption) | ((with_reducible refine HB.new _ _ _ ?_) <;> (go_size; done)) | (with_reducible refine HB.old (by go_size) ?_) | (with_reducible refine HB.drew ?_) | (with_reducible refine HB.over5 ?_) | (with_reducible refine HB.over4 ?_) | (with_reducible refine HB.setne (by first | go_size | (dsimp only; omega)) ?_) | (with_reducible refine HN.set ?_) | (with_reducible refine HN.setne (by first | go_size | (dsimp only; omega)) ?_) | (with_reducible refine HN.drew ?_) | (with_reducible refine HN.old (by go_size) ?_) | (with_reducible exact HN.of5 (by assumption)) | (with_reducible exact HN.new5 _ _ (by go_size)) | (with_reducible exact HN.of4 (by assumption)) | (with_reducible exact HN.new4 _ _ (by go_size))))), Bx.of (by (repeat' (first | (with_reducible assumption) | ((with_reducible refine HB.new _ _ _ ?_) <;> (go_size; done)) | (with_reducible refine HB.old (by go_size) ?_) | (with_reducible refine HB.drew ?_) | (with_reducible refine HB.over5 ?_) | (with_reducible refine HB.over4 ?_) | (with_reducible refine HB.setne (by first | go_size | (dsimp only; omega)) ?_) | (with_reducible refine HN.set ?_) | (with_reducible refine HN.setne (by first | go_size | (dsimp only; omega)) ?_) | (with_reducible refine HN.drew ?_) | (with_reducible refine HN.old (by go_size) ?_) | (with_reducible exact HN.of5 (by assumption)) | (with_reducible exact HN.new5 _ _ (by go_size)) | (with_reducible exact HN.of4 (by assumption)) | (with_reducible exact HN.new4 _ _ (by go_size)))))⟩ (fun _ _ h g => keep2 h (below_gt g) rfl) (fun _ h => h.2.1) (fun _ h => by cases h) (by simp) ?_)
    refine' dq_pure (by rfl) (by rfl) ?hv1 ?rest1
    case hv1 => (intro w hw; (try dsimp only at hw); go_split_ands; go_simp; try with_reducible rfl)
    case' rest1 => try simp only [Act.put, List.setIfInBounds_toArray, List.set_cons_zero, List.set_cons_succ]
    refine' dq_call (by rfl) (by rfl) ?hv2 ?hc2 ?rest2
    case hv2 => (intro w; go_simp; exact ⟨rfl, rfl⟩)
    case hc2 => exact (fun w hw => calls_gt (S1 _))
    case' rest2 => try simp only [Act.put, List.setIfInBounds_toArray, List.set_cons_zero, List.set_cons_succ]
    refine' dq_pure (by rfl) (by rfl) ?hv3 ?rest3
    case hv3 => (intro w hw; (try dsimp only at hw); go_split_ands; go_simp; try with_reducible rfl)
    case' rest3 => try simp only [Act.put, List.setIfInBounds_toArray, List.set_cons_zero, List.set_cons_succ]
    refine' dq_call (by rfl) (by rfl) ?hv4 ?hc4 ?rest4
    case hv4 => (intro w; go_simp; exact ⟨rfl, rfl⟩)
    case hc4 => exact (fun w hw => calls_gt (S2 _))
    case' rest4 => try simp only [Act.put, List.setIfInBounds_toArray, List.set_cons_zero, List.set_cons_succ]
    refine dq_nil ?_
    simp only [fa, List.drop_succ_cons, List.drop_zero]
    rintro W ⟨⟨hb0, hn0, ⟨B1, B1c, B1f, B1l⟩, ⟨B2, B2c, B2f, B2l⟩⟩, hgl⟩ hbs
    clear hbs hgl
    (repeat' (first | go_values | go_skip | go_guarded | go_step | go_upon | (simp only [Int.not_lt, Int.not_le] at *; go_simp) | (go_values <;> (try go_simp)) | (go_ite <;> go_prune <;> (try go_simp)) | (split <;> (first | (rename_i hx; exact (hx _ rfl).elim) | go_prune))))
    
    
    
    (refine wp_region_dq (row := none) (S := (fun Wz => Below w.heap.size w Wz ∧ w.heap.size + 2 ≤ Wz.heap.size ∧ Bx Wz (w.heap.size) (#[.bool n, .int .u64 a, .int .u64 b, .int .u64 c, .int .u64 d]) ∧ Bx Wz (w.heap.size + 1) (#[.bool n', .int .u64 a', .int .u64 b', .int .u64 c', .int .u64 d']))) (n0 := w.heap.size + 2) 7 [] [(0, 0), (1, 0), (3, 0), (2, 1), (4, 1), (5, 1), (6, 0)] [] (by kernel_rfl) (by kernel_rfl) (fun _ _ d _ _ h => by cases d <;> exact h) ⟨by (repeat' (first | (with_reducible assumption) | (with_reducible exact Below.refl _ _) | (with_reducible refine Below.alloc ?_ ?_ _) | (with_reducible refine Below.setCell ?_ ?_ _) | (with_reducible refine Below.drew ?_) | (with_reducible refine below_more ?_ (by with_reducible assumption)) | go_size | omega | (with_reducible refine below_drewN ?_))), (by first | go_size | omega), Bx.of (by (repeat' (first | (with_reducible assumption) | ((with_reducible refine HB.new _ _ _ ?_) <;> (go_size; done)) | (with_reducible refine HB.old (by go_size) ?_) | (with_reducible refine HB.drew ?_) | (with_reducible refine HB.over5 ?_) | (with_reducible refine HB.over4 ?_) | (with_reducible refine HB.setne (by first | go_size | (dsimp only; omega)) ?_) | (with_reducible refine HN.set ?_) | (with_reducible refine HN.setne (by first | go_size | (dsimp only; omega)) ?_) | (with_reducible refine HN.drew ?_) | (with_reducible refine HN.old (by go_size) ?_) | (with_reducible exact HN.of5 (by assumption)) | (with_reducible exact HN.new5 _ _ (by go_size)) | (with_reducible exact HN.of4 (by assumption)) | (with_reducible exact HN.new4 _ _ (by go_size))))), Bx.of (by (repeat' (first | (with_reducible assumption) | ((with_reducible refine HB.new _ _ _ ?_) <;> (go_size; done)) | (with_reducible refine HB.old (by go_size) ?_) | (with_reducible refine HB.drew ?_) | (with_reducible refine HB.over5 ?_) | (with_reducible refine HB.over4 ?_) | (with_reducible refine HB.setne (by first | go_size | (dsimp only; omega)) ?_) | (with_reducible refine HN.set ?_) | (with_reducible refine HN.setne (by first | go_size | (dsimp only; omega)) ?_) | (with_reducible refine HN.drew ?_) | (with_reducible refine HN.old (by go_size) ?_) | (with_reducible exact HN.of5 (by assumption)) | (with_reducible exact HN.new5 _ _ (by go_size)) | (with_reducible exact HN.of4 (by assumption)) | (with_reducible exact HN.new4 _ _ (by go_size)))))⟩ (fun _ _ h g => keep2 h (below_gt g) rfl) (fun _ h => h.2.1) (fun _ h => by cases h) (by simp) ?_)
    refine' dq_pure (by rfl) (by rfl) ?hv5 ?rest5
    case hv5 => (intro w hw; (try dsimp only at hw); go_split_ands; go_simp; try with_reducible rfl)
    case' rest5 => try simp only [Act.put, List.setIfInBounds_toArray, List.set_cons_zero, List.set_cons_succ]
    refine' dq_pure (by rfl) (by rfl) ?hv6 ?rest6
    case hv6 => (intro w hw; (try dsimp only at hw); go_split_ands; go_simp; try with_reducible rfl)
    case' rest6 => try simp only [Act.put, List.setIfInBounds_toArray, List.set_cons_zero, List.set_cons_succ]
    refine' dq_pure (by rfl) (by rfl) ?hv7 ?rest7
    case hv7 => (intro w hw; (try dsimp only at hw); go_split_ands; go_simp; try with_reducible rfl)
    case' rest7 => try simp only [Act.put, List.setIfInBounds_toArray, List.set_cons_zero, List.set_cons_succ]
    refine' dq_ask (R := fun v w' => SlU w' v (wl m)) (by rfl) (by rfl) ?hv8 ?hc8 ?rest8 (fun _ _ h g => keep2 h (below_gt g) rfl)
    case hv8 => (intro w; go_simp; exact ⟨rfl, rfl⟩)
    case hc8 => exact (fun wq hsq htq => OA wq)
    case' rest8 => try simp only [Act.put, List.setIfInBounds_toArray, List.set_cons_zero, List.set_cons_succ]
    (rintro v1 x1 hS1 hg1 hs1; have hs1' := hs1; obtain ⟨a1, l1, c1, rfl, -⟩ := hs1')
    refine' dq_ask (R := fun v w' => SlU w' v (wl m')) (by rfl) (by rfl) ?hv9 ?hc9 ?rest9 (fun _ _ h g => keep2 h (below_gt g) rfl)
    case hv9 => (intro w; go_simp; exact ⟨rfl, rfl⟩)
    case hc9 => exact (fun wq hsq htq => OB wq)
    case' rest9 => try simp only [Act.put, List.setIfInBounds_toArray, List.set_cons_zero, List.set_cons_succ]
    (rintro v2 x2 hS2 hg2 hs2; have hs1 := hs1.below (below_gt hg2); have hs2' := hs2; obtain ⟨a2, l2, c2, rfl, -⟩ := hs2')
    refine' dq_ask (R := fun v _ => v = .int .i64 k) (by rfl) (by rfl) ?hv10 ?hc10 ?rest10 (fun _ _ h g => keep2 h (below_gt g) rfl)
    case hv10 => (intro w; go_simp; exact ⟨rfl, rfl⟩)
    case hc10 => exact (fun wq hsq htq => (CC a1 a2 l1 c1 l2 c2 wq (hs1.below (below_gt htq)) (hs2.below (below_gt htq))).mono (fun e w' ⟨he, hb⟩ => ⟨_, he, rfl, gt_below hb _⟩))
    case' rest10 => try simp only [Act.put, List.setIfInBounds_toArray, List.set_cons_zero, List.set_cons_succ]
    (rintro v3 x3 hS3 hg3 rfl; clear hs1 hs2)
    refine' dq_pure (by rfl) (by rfl) ?hv11 ?rest11
    case hv11 => (intro w hw; (try dsimp only at hw); go_split_ands; go_simp; try with_reducible rfl)
    case' rest11 => try simp only [Act.put, List.setIfInBounds_toArray, List.set_cons_zero, List.set_cons_succ]
    refine dq_nil ?_
    simp only [fa, List.drop_succ_cons, List.drop_zero]
    rintro W ⟨⟨hb0, hn0, ⟨B1, B1c, B1f, B1l⟩, ⟨B2, B2c, B2f, B2l⟩⟩, hgl⟩ hbs
    clear hbs
    (repeat' (first | go_values | go_skip | go_guarded | go_step | go_upon | (simp only [Int.not_lt, Int.not_le] at *; go_simp) | (go_values <;> (try go_simp)) | (go_ite <;> go_prune <;> (try go_simp)) | (split <;> (first | (rename_i hx; exact (hx _ rfl).elim) | go_prune))))
    go_ret
    exact ⟨by first | rfl | (simp; done), by (repeat' (first | (with_reducible assumption) | (with_reducible exact Below.refl _ _) | (with_reducible refine Below.alloc ?_ ?_ _) | (with_reducible refine Below.setCell ?_ ?_ _) | (with_reducible refine Below.drew ?_) | (with_reducible refine below_more ?_ (by with_reducible assumption)) | go_size | omega | (with_reducible refine below_drewN ?_)))⟩
  · have E : cm z z' = -1 := by unfold cm; (repeat' split) <;> omega
    rw [E]
    clear E CS h1 h2 OA OB CC
    go_enter Try.func33, Try.ntmps33
    go_wp2_with fail
    
    (refine wp_region_dq (row := none) (S := (fun Wz => Below w.heap.size w Wz ∧ w.heap.size + 2 ≤ Wz.heap.size ∧ Bx Wz (w.heap.size) (#[.bool n, .int .u64 a, .int .u64 b, .int .u64 c, .int .u64 d]) ∧ Bx Wz (w.heap.size + 1) (#[.bool n', .int .u64 a', .int .u64 b', .int .u64 c', .int .u64 d']))) (n0 := w.heap.size + 2) 4 [] [(0, 0), (1, 0), (2, 0), (3, 0)] [] (by kernel_rfl) (by kernel_rfl) (fun _ _ d _ _ h => by cases d <;> exact h) ⟨by (repeat' (first | (with_reducible assumption) | (with_reducible exact Below.refl _ _) | (with_reducible refine Below.alloc ?_ ?_ _) | (with_reducible refine Below.setCell ?_ ?_ _) | (with_reducible refine Below.drew ?_) | (with_reducible refine below_more ?_ (by with_reducible assumption)) | go_size | omega | (with_reducible refine below_drewN ?_))), (by first | go_size | omega), Bx.of (by (repeat' (first | (with_reducible assumption) | ((with_reducible refine HB.new _ _ _ ?_) <;> (go_size; done)) | (with_reducible refine HB.old (by go_size) ?_) | (with_reducible refine HB.drew ?_) | (with_reducible refine HB.over5 ?_) | (with_reducible refine HB.over4 ?_) | (with_reducible refine HB.setne (by first | go_size | (dsimp only; omega)) ?_) | (with_reducible refine HN.set ?_) | (with_reducible refine HN.setne (by first | go_size | (dsimp only; omega)) ?_) | (with_reducible refine HN.drew ?_) | (with_reducible refine HN.old (by go_size) ?_) | (with_reducible exact HN.of5 (by assumption)) | (with_reducible exact HN.new5 _ _ (by go_size)) | (with_reducible exact HN.of4 (by assumption)) | (with_reducible exact HN.new4 _ _ (by go_size))))), Bx.of (by (repeat' (first | (with_reducible assumption) | ((with_reducible refine HB.new _ _ _ ?_) <;> (go_size; done)) | (with_reducible refine HB.old (by go_size) ?_) | (with_reducible refine HB.drew ?_) | (with_reducible refine HB.over5 ?_) | (with_reducible refine HB.over4 ?_) | (with_reducible refine HB.setne (by first | go_size | (dsimp only; omega)) ?_) | (with_reducible refine HN.set ?_) | (with_reducible refine HN.setne (by first | go_size | (dsimp only; omega)) ?_) | (with_reducible refine HN.drew ?_) | (with_reducible refine HN.old (by go_size) ?_) | (with_reducible exact HN.of5 (by assumption)) | (with_reducible exact HN.new5 _ _ (by go_size)) | (with_reducible exact HN.of4 (by assumption)) | (with_reducible exact HN.new4 _ _ (by go_size)))))⟩ (fun _ _ h g => keep2 h (below_gt g) rfl) (fun _ h => h.2.1) (fun _ h => by cases h) (by simp) ?_)
    refine' dq_pure (by rfl) (by rfl) ?hv12 ?rest12
    case hv12 => (intro w hw; (try dsimp only at hw); go_split_ands; go_simp; try with_reducible rfl)
    case' rest12 => try simp only [Act.put, List.setIfInBounds_toArray, List.set_cons_zero, List.set_cons_succ]
    refine' dq_call (by rfl) (by rfl) ?hv13 ?hc13 ?rest13
    case hv13 => (intro w; go_simp; exact ⟨rfl, rfl⟩)
    case hc13 => exact (fun w hw => calls_gt (S1 _))
    case' rest13 => try simp only [Act.put, List.setIfInBounds_toArray, List.set_cons_zero, List.set_cons_succ]
    refine' dq_pure (by rfl) (by rfl) ?hv14 ?rest14
    case hv14 => (intro w hw; (try dsimp only at hw); go_split_ands; go_simp; try with_reducible rfl)
    case' rest14 => try simp only [Act.put, List.setIfInBounds_toArray, List.set_cons_zero, List.set_cons_succ]
    refine' dq_call (by rfl) (by rfl) ?hv15 ?hc15 ?rest15
    case hv15 => (intro w; go_simp; exact ⟨rfl, rfl⟩)
    case hc15 => exact (fun w hw => calls_gt (S2 _))
    case' rest15 => try simp only [Act.put, List.setIfInBounds_toArray, List.set_cons_zero, List.set_cons_succ]
    refine dq_nil ?_
    simp only [fa, List.drop_succ_cons, List.drop_zero]
    rintro W ⟨⟨hb0, hn0, ⟨B1, B1c, B1f, B1l⟩, ⟨B2, B2c, B2f, B2l⟩⟩, hgl⟩ hbs
    clear hbs hgl
    (repeat' (first | go_values | go_skip | go_guarded | go_step | go_upon | (simp only [Int.not_lt, Int.not_le] at *; go_simp) | (go_values <;> (try go_simp)) | (go_ite <;> go_prune <;> (try go_simp)) | (split <;> (first | (rename_i hx; exact (hx _ rfl).elim) | go_prune))))
    go_ret
    exact ⟨rfl, by (repeat' (first | (with_reducible assumption) | (with_reducible exact Below.refl _ _) | (with_reducible refine Below.alloc ?_ ?_ _) | (with_reducible refine Below.setCell ?_ ?_ _) | (with_reducible refine Below.drew ?_) | (with_reducible refine below_more ?_ (by with_reducible assumption)) | go_size | omega | (with_reducible refine below_drewN ?_)))⟩
  · have E : cm z z' = -1 := by unfold cm; (repeat' split) <;> omega
    rw [E]
    clear E CS h1 h2 OA OB CC
    go_enter Try.func33, Try.ntmps33
    go_wp2_with fail
    
    (refine wp_region_dq (row := none) (S := (fun Wz => Below w.heap.size w Wz ∧ w.heap.size + 2 ≤ Wz.heap.size ∧ Bx Wz (w.heap.size) (#[.bool n, .int .u64 a, .int .u64 b, .int .u64 c, .int .u64 d]) ∧ Bx Wz (w.heap.size + 1) (#[.bool n', .int .u64 a', .int .u64 b', .int .u64 c', .int .u64 d']))) (n0 := w.heap.size + 2) 4 [] [(0, 0), (1, 0), (2, 0), (3, 0)] [] (by kernel_rfl) (by kernel_rfl) (fun _ _ d _ _ h => by cases d <;> exact h) ⟨by (repeat' (first | (with_reducible assumption) | (with_reducible exact Below.refl _ _) | (with_reducible refine Below.alloc ?_ ?_ _) | (with_reducible refine Below.setCell ?_ ?_ _) | (with_reducible refine Below.drew ?_) | (with_reducible refine below_more ?_ (by with_reducible assumption)) | go_size | omega | (with_reducible refine below_drewN ?_))), (by first | go_size | omega), Bx.of (by (repeat' (first | (with_reducible assumption) | ((with_reducible refine HB.new _ _ _ ?_) <;> (go_size; done)) | (with_reducible refine HB.old (by go_size) ?_) | (with_reducible refine HB.drew ?_) | (with_reducible refine HB.over5 ?_) | (with_reducible refine HB.over4 ?_) | (with_reducible refine HB.setne (by first | go_size | (dsimp only; omega)) ?_) | (with_reducible refine HN.set ?_) | (with_reducible refine HN.setne (by first | go_size | (dsimp only; omega)) ?_) | (with_reducible refine HN.drew ?_) | (with_reducible refine HN.old (by go_size) ?_) | (with_reducible exact HN.of5 (by assumption)) | (with_reducible exact HN.new5 _ _ (by go_size)) | (with_reducible exact HN.of4 (by assumption)) | (with_reducible exact HN.new4 _ _ (by go_size))))), Bx.of (by (repeat' (first | (with_reducible assumption) | ((with_reducible refine HB.new _ _ _ ?_) <;> (go_size; done)) | (with_reducible refine HB.old (by go_size) ?_) | (with_reducible refine HB.drew ?_) | (with_reducible refine HB.over5 ?_) | (with_reducible refine HB.over4 ?_) | (with_reducible refine HB.setne (by first | go_size | (dsimp only; omega)) ?_) | (with_reducible refine HN.set ?_) | (with_reducible refine HN.setne (by first | go_size | (dsimp only; omega)) ?_) | (with_reducible refine HN.drew ?_) | (with_reducible refine HN.old (by go_size) ?_) | (with_reducible exact HN.of5 (by assumption)) | (with_reducible exact HN.new5 _ _ (by go_size)) | (with_reducible exact HN.of4 (by assumption)) | (with_reducible exact HN.new4 _ _ (by go_size)))))⟩ (fun _ _ h g => keep2 h (below_gt g) rfl) (fun _ h => h.2.1) (fun _ h => by cases h) (by simp) ?_)
    refine' dq_pure (by rfl) (by rfl) ?hv16 ?rest16
    case hv16 => (intro w hw; (try dsimp only at hw); go_split_ands; go_simp; try with_reducible rfl)
    case' rest16 => try simp only [Act.put, List.setIfInBounds_toArray, List.set_cons_zero, List.set_cons_succ]
    refine' dq_call (by rfl) (by rfl) ?hv17 ?hc17 ?rest17
    case hv17 => (intro w; go_simp; exact ⟨rfl, rfl⟩)
    case hc17 => exact (fun w hw => calls_gt (S1 _))
    case' rest17 => try simp only [Act.put, List.setIfInBounds_toArray, List.set_cons_zero, List.set_cons_succ]
    refine' dq_pure (by rfl) (by rfl) ?hv18 ?rest18
    case hv18 => (intro w hw; (try dsimp only at hw); go_split_ands; go_simp; try with_reducible rfl)
    case' rest18 => try simp only [Act.put, List.setIfInBounds_toArray, List.set_cons_zero, List.set_cons_succ]
    refine' dq_call (by rfl) (by rfl) ?hv19 ?hc19 ?rest19
    case hv19 => (intro w; go_simp; exact ⟨rfl, rfl⟩)
    case hc19 => exact (fun w hw => calls_gt (S2 _))
    case' rest19 => try simp only [Act.put, List.setIfInBounds_toArray, List.set_cons_zero, List.set_cons_succ]
    refine dq_nil ?_
    simp only [fa, List.drop_succ_cons, List.drop_zero]
    rintro W ⟨⟨hb0, hn0, ⟨B1, B1c, B1f, B1l⟩, ⟨B2, B2c, B2f, B2l⟩⟩, hgl⟩ hbs
    clear hbs hgl
    (repeat' (first | go_values | go_skip | go_guarded | go_step | go_upon | (simp only [Int.not_lt, Int.not_le] at *; go_simp) | (go_values <;> (try go_simp)) | (go_ite <;> go_prune <;> (try go_simp)) | (split <;> (first | (rename_i hx; exact (hx _ rfl).elim) | go_prune))))
    go_ret
    exact ⟨rfl, by (repeat' (first | (with_reducible assumption) | (with_reducible exact Below.refl _ _) | (with_reducible refine Below.alloc ?_ ?_ _) | (with_reducible refine Below.setCell ?_ ?_ _) | (with_reducible refine Below.drew ?_) | (with_reducible refine below_more ?_ (by with_reducible assumption)) | go_size | omega | (with_reducible refine below_drewN ?_)))⟩
  · have E : cm z z' = 1 := by unfold cm; (repeat' split) <;> omega
    rw [E]
    clear E CS h1 h2 OA OB CC
    go_enter Try.func33, Try.ntmps33
    go_wp2_with fail
    
    (refine wp_region_dq (row := none) (S := (fun Wz => Below w.heap.size w Wz ∧ w.heap.size + 2 ≤ Wz.heap.size ∧ Bx Wz (w.heap.size) (#[.bool n, .int .u64 a, .int .u64 b, .int .u64 c, .int .u64 d]) ∧ Bx Wz (w.heap.size + 1) (#[.bool n', .int .u64 a', .int .u64 b', .int .u64 c', .int .u64 d']))) (n0 := w.heap.size + 2) 4 [] [(0, 0), (1, 0), (2, 0), (3, 0)] [] (by kernel_rfl) (by kernel_rfl) (fun _ _ d _ _ h => by cases d <;> exact h) ⟨by (repeat' (first | (with_reducible assumption) | (with_reducible exact Below.refl _ _) | (with_reducible refine Below.alloc ?_ ?_ _) | (with_reducible refine Below.setCell ?_ ?_ _) | (with_reducible refine Below.drew ?_) | (with_reducible refine below_more ?_ (by with_reducible assumption)) | go_size | omega | (with_reducible refine below_drewN ?_))), (by first | go_size | omega), Bx.of (by (repeat' (first | (with_reducible assumption) | ((with_reducible refine HB.new _ _ _ ?_) <;> (go_size; done)) | (with_reducible refine HB.old (by go_size) ?_) | (with_reducible refine HB.drew ?_) | (with_reducible refine HB.over5 ?_) | (with_reducible refine HB.over4 ?_) | (with_reducible refine HB.setne (by first | go_size | (dsimp only; omega)) ?_) | (with_reducible refine HN.set ?_) | (with_reducible refine HN.setne (by first | go_size | (dsimp only; omega)) ?_) | (with_reducible refine HN.drew ?_) | (with_reducible refine HN.old (by go_size) ?_) | (with_reducible exact HN.of5 (by assumption)) | (with_reducible exact HN.new5 _ _ (by go_size)) | (with_reducible exact HN.of4 (by assumption)) | (with_reducible exact HN.new4 _ _ (by go_size))))), Bx.of (by (repeat' (first | (with_reducible assumption) | ((with_reducible refine HB.new _ _ _ ?_) <;> (go_size; done)) | (with_reducible refine HB.old (by go_size) ?_) | (with_reducible refine HB.drew ?_) | (with_reducible refine HB.over5 ?_) | (with_reducible refine HB.over4 ?_) | (with_reducible refine HB.setne (by first | go_size | (dsimp only; omega)) ?_) | (with_reducible refine HN.set ?_) | (with_reducible refine HN.setne (by first | go_size | (dsimp only; omega)) ?_) | (with_reducible refine HN.drew ?_) | (with_reducible refine HN.old (by go_size) ?_) | (with_reducible exact HN.of5 (by assumption)) | (with_reducible exact HN.new5 _ _ (by go_size)) | (with_reducible exact HN.of4 (by assumption)) | (with_reducible exact HN.new4 _ _ (by go_size)))))⟩ (fun _ _ h g => keep2 h (below_gt g) rfl) (fun _ h => h.2.1) (fun _ h => by cases h) (by simp) ?_)
    refine' dq_pure (by rfl) (by rfl) ?hv20 ?rest20
    case hv20 => (intro w hw; (try dsimp only at hw); go_split_ands; go_simp; try with_reducible rfl)
    case' rest20 => try simp only [Act.put, List.setIfInBounds_toArray, List.set_cons_zero, List.set_cons_succ]
    refine' dq_call (by rfl) (by rfl) ?hv21 ?hc21 ?rest21
    case hv21 => (intro w; go_simp; exact ⟨rfl, rfl⟩)
    case hc21 => exact (fun w hw => calls_gt (S1 _))
    case' rest21 => try simp only [Act.put, List.setIfInBounds_toArray, List.set_cons_zero, List.set_cons_succ]
    refine' dq_pure (by rfl) (by rfl) ?hv22 ?rest22
    case hv22 => (intro w hw; (try dsimp only at hw); go_split_ands; go_simp; try with_reducible rfl)
    case' rest22 => try simp only [Act.put, List.setIfInBounds_toArray, List.set_cons_zero, List.set_cons_succ]
    refine' dq_call (by rfl) (by rfl) ?hv23 ?hc23 ?rest23
    case hv23 => (intro w; go_simp; exact ⟨rfl, rfl⟩)
    case hc23 => exact (fun w hw => calls_gt (S2 _))
    case' rest23 => try simp only [Act.put, List.setIfInBounds_toArray, List.set_cons_zero, List.set_cons_succ]
    refine dq_nil ?_
    simp only [fa, List.drop_succ_cons, List.drop_zero]
    rintro W ⟨⟨hb0, hn0, ⟨B1, B1c, B1f, B1l⟩, ⟨B2, B2c, B2f, B2l⟩⟩, hgl⟩ hbs
    clear hbs hgl
    (repeat' (first | go_values | go_skip | go_guarded | go_step | go_upon | (simp only [Int.not_lt, Int.not_le] at *; go_simp) | (go_values <;> (try go_simp)) | (go_ite <;> go_prune <;> (try go_simp)) | (split <;> (first | (rename_i hx; exact (hx _ rfl).elim) | go_prune))))
    go_ret
    exact ⟨rfl, by (repeat' (first | (with_reducible assumption) | (with_reducible exact Below.refl _ _) | (with_reducible refine Below.alloc ?_ ?_ _) | (with_reducible refine Below.setCell ?_ ?_ _) | (with_reducible refine Below.drew ?_) | (with_reducible refine below_more ?_ (by with_reducible assumption)) | go_size | omega | (with_reducible refine below_drewN ?_)))⟩
  · have E : cm z z' = 0 := by subst h1; subst h2; rfl
    rw [E]
    clear E CS h1 h2
    go_enter Try.func33, Try.ntmps33
    go_wp2_with fail
    
    (refine wp_region_dq (row := none) (S := (fun Wz => Below w.heap.size w Wz ∧ w.heap.size + 2 ≤ Wz.heap.size ∧ Bx Wz (w.heap.size) (#[.bool n, .int .u64 a, .int .u64 b, .int .u64 c, .int .u64 d]) ∧ Bx Wz (w.heap.size + 1) (#[.bool n', .int .u64 a', .int .u64 b', .int .u64 c', .int .u64 d']))) (n0 := w.heap.size + 2) 4 [] [(0, 0), (1, 0), (2, 0), (3, 0)] [] (by kernel_rfl) (by kernel_rfl) (fun _ _ d _ _ h => by cases d <;> exact h) ⟨by (repeat' (first | (with_reducible assumption) | (with_reducible exact Below.refl _ _) | (with_reducible refine Below.alloc ?_ ?_ _) | (with_reducible refine Below.setCell ?_ ?_ _) | (with_reducible refine Below.drew ?_) | (with_reducible refine below_more ?_ (by with_reducible assumption)) | go_size | omega | (with_reducible refine below_drewN ?_))), (by first | go_size | omega), Bx.of (by (repeat' (first | (with_reducible assumption) | ((with_reducible refine HB.new _ _ _ ?_) <;> (go_size; done)) | (with_reducible refine HB.old (by go_size) ?_) | (with_reducible refine HB.drew ?_) | (with_reducible refine HB.over5 ?_) | (with_reducible refine HB.over4 ?_) | (with_reducible refine HB.setne (by first | go_size | (dsimp only; omega)) ?_) | (with_reducible refine HN.set ?_) | (with_reducible refine HN.setne (by first | go_size | (dsimp only; omega)) ?_) | (with_reducible refine HN.drew ?_) | (with_reducible refine HN.old (by go_size) ?_) | (with_reducible exact HN.of5 (by assumption)) | (with_reducible exact HN.new5 _ _ (by go_size)) | (with_reducible exact HN.of4 (by assumption)) | (with_reducible exact HN.new4 _ _ (by go_size))))), Bx.of (by (repeat' (first | (with_reducible assumption) | ((with_reducible refine HB.new _ _ _ ?_) <;> (go_size; done)) | (with_reducible refine HB.old (by go_size) ?_) | (with_reducible refine HB.drew ?_) | (with_reducible refine HB.over5 ?_) | (with_reducible refine HB.over4 ?_) | (with_reducible refine HB.setne (by first | go_size | (dsimp only; omega)) ?_) | (with_reducible refine HN.set ?_) | (with_reducible refine HN.setne (by first | go_size | (dsimp only; omega)) ?_) | (with_reducible refine HN.drew ?_) | (with_reducible refine HN.old (by go_size) ?_) | (with_reducible exact HN.of5 (by assumption)) | (with_reducible exact HN.new5 _ _ (by go_size)) | (with_reducible exact HN.of4 (by assumption)) | (with_reducible exact HN.new4 _ _ (by go_size)))))⟩ (fun _ _ h g => keep2 h (below_gt g) rfl) (fun _ h => h.2.1) (fun _ h => by cases h) (by simp) ?_)
    refine' dq_pure (by rfl) (by rfl) ?hv24 ?rest24
    case hv24 => (intro w hw; (try dsimp only at hw); go_split_ands; go_simp; try with_reducible rfl)
    case' rest24 => try simp only [Act.put, List.setIfInBounds_toArray, List.set_cons_zero, List.set_cons_succ]
    refine' dq_call (by rfl) (by rfl) ?hv25 ?hc25 ?rest25
    case hv25 => (intro w; go_simp; exact ⟨rfl, rfl⟩)
    case hc25 => exact (fun w hw => calls_gt (S1 _))
    case' rest25 => try simp only [Act.put, List.setIfInBounds_toArray, List.set_cons_zero, List.set_cons_succ]
    refine' dq_pure (by rfl) (by rfl) ?hv26 ?rest26
    case hv26 => (intro w hw; (try dsimp only at hw); go_split_ands; go_simp; try with_reducible rfl)
    case' rest26 => try simp only [Act.put, List.setIfInBounds_toArray, List.set_cons_zero, List.set_cons_succ]
    refine' dq_call (by rfl) (by rfl) ?hv27 ?hc27 ?rest27
    case hv27 => (intro w; go_simp; exact ⟨rfl, rfl⟩)
    case hc27 => exact (fun w hw => calls_gt (S2 _))
    case' rest27 => try simp only [Act.put, List.setIfInBounds_toArray, List.set_cons_zero, List.set_cons_succ]
    refine dq_nil ?_
    simp only [fa, List.drop_succ_cons, List.drop_zero]
    rintro W ⟨⟨hb0, hn0, ⟨B1, B1c, B1f, B1l⟩, ⟨B2, B2c, B2f, B2l⟩⟩, hgl⟩ hbs
    clear hbs hgl
    (repeat' (first | go_values | go_skip | go_guarded | go_step | go_upon | (simp only [Int.not_lt, Int.not_le] at *; go_simp) | (go_values <;> (try go_simp)) | (go_ite <;> go_prune <;> (try go_simp)) | (split <;> (first | (rename_i hx; exact (hx _ rfl).elim) | go_prune))))
    
    
    
    (refine wp_region_dq (row := none) (S := (fun Wz => Below w.heap.size w Wz ∧ w.heap.size + 2 ≤ Wz.heap.size ∧ Bx Wz (w.heap.size) (#[.bool n, .int .u64 a, .int .u64 b, .int .u64 c, .int .u64 d]) ∧ Bx Wz (w.heap.size + 1) (#[.bool n', .int .u64 a', .int .u64 b', .int .u64 c', .int .u64 d']))) (n0 := w.heap.size + 2) 7 [] [(0, 0), (1, 0), (3, 0), (2, 1), (4, 1), (5, 1), (6, 0)] [] (by kernel_rfl) (by kernel_rfl) (fun _ _ d _ _ h => by cases d <;> exact h) ⟨by (repeat' (first | (with_reducible assumption) | (with_reducible exact Below.refl _ _) | (with_reducible refine Below.alloc ?_ ?_ _) | (with_reducible refine Below.setCell ?_ ?_ _) | (with_reducible refine Below.drew ?_) | (with_reducible refine below_more ?_ (by with_reducible assumption)) | go_size | omega | (with_reducible refine below_drewN ?_))), (by first | go_size | omega), Bx.of (by (repeat' (first | (with_reducible assumption) | ((with_reducible refine HB.new _ _ _ ?_) <;> (go_size; done)) | (with_reducible refine HB.old (by go_size) ?_) | (with_reducible refine HB.drew ?_) | (with_reducible refine HB.over5 ?_) | (with_reducible refine HB.over4 ?_) | (with_reducible refine HB.setne (by first | go_size | (dsimp only; omega)) ?_) | (with_reducible refine HN.set ?_) | (with_reducible refine HN.setne (by first | go_size | (dsimp only; omega)) ?_) | (with_reducible refine HN.drew ?_) | (with_reducible refine HN.old (by go_size) ?_) | (with_reducible exact HN.of5 (by assumption)) | (with_reducible exact HN.new5 _ _ (by go_size)) | (with_reducible exact HN.of4 (by assumption)) | (with_reducible exact HN.new4 _ _ (by go_size))))), Bx.of (by (repeat' (first | (with_reducible assumption) | ((with_reducible refine HB.new _ _ _ ?_) <;> (go_size; done)) | (with_reducible refine HB.old (by go_size) ?_) | (with_reducible refine HB.drew ?_) | (with_reducible refine HB.over5 ?_) | (with_reducible refine HB.over4 ?_) | (with_reducible refine HB.setne (by first | go_size | (dsimp only; omega)) ?_) | (with_reducible refine HN.set ?_) | (with_reducible refine HN.setne (by first | go_size | (dsimp only; omega)) ?_) | (with_reducible refine HN.drew ?_) | (with_reducible refine HN.old (by go_size) ?_) | (with_reducible exact HN.of5 (by assumption)) | (with_reducible exact HN.new5 _ _ (by go_size)) | (with_reducible exact HN.of4 (by assumption)) | (with_reducible exact HN.new4 _ _ (by go_size)))))⟩ (fun _ _ h g => keep2 h (below_gt g) rfl) (fun _ h => h.2.1) (fun _ h => by cases h) (by simp) ?_)
    refine' dq_pure (by rfl) (by rfl) ?hv28 ?rest28
    case hv28 => (intro w hw; (try dsimp only at hw); go_split_ands; go_simp; try with_reducible rfl)
    case' rest28 => try simp only [Act.put, List.setIfInBounds_toArray, List.set_cons_zero, List.set_cons_succ]
    refine' dq_pure (by rfl) (by rfl) ?hv29 ?rest29
    case hv29 => (intro w hw; (try dsimp only at hw); go_split_ands; go_simp; try with_reducible rfl)
    case' rest29 => try simp only [Act.put, List.setIfInBounds_toArray, List.set_cons_zero, List.set_cons_succ]
    refine' dq_pure (by rfl) (by rfl) ?hv30 ?rest30
    case hv30 => (intro w hw; (try dsimp only at hw); go_split_ands; go_simp; try with_reducible rfl)
    case' rest30 => try simp only [Act.put, List.setIfInBounds_toArray, List.set_cons_zero, List.set_cons_succ]
    refine' dq_ask (R := fun v w' => SlU w' v (wl m)) (by rfl) (by rfl) ?hv31 ?hc31 ?rest31 (fun _ _ h g => keep2 h (below_gt g) rfl)
    case hv31 => (intro w; go_simp; exact ⟨rfl, rfl⟩)
    case hc31 => exact (fun wq hsq htq => OA wq)
    case' rest31 => try simp only [Act.put, List.setIfInBounds_toArray, List.set_cons_zero, List.set_cons_succ]
    (rintro v1 x1 hS1 hg1 hs1; have hs1' := hs1; obtain ⟨a1, l1, c1, rfl, -⟩ := hs1')
    refine' dq_ask (R := fun v w' => SlU w' v (wl m')) (by rfl) (by rfl) ?hv32 ?hc32 ?rest32 (fun _ _ h g => keep2 h (below_gt g) rfl)
    case hv32 => (intro w; go_simp; exact ⟨rfl, rfl⟩)
    case hc32 => exact (fun wq hsq htq => OB wq)
    case' rest32 => try simp only [Act.put, List.setIfInBounds_toArray, List.set_cons_zero, List.set_cons_succ]
    (rintro v2 x2 hS2 hg2 hs2; have hs1 := hs1.below (below_gt hg2); have hs2' := hs2; obtain ⟨a2, l2, c2, rfl, -⟩ := hs2')
    refine' dq_ask (R := fun v _ => v = .int .i64 k) (by rfl) (by rfl) ?hv33 ?hc33 ?rest33 (fun _ _ h g => keep2 h (below_gt g) rfl)
    case hv33 => (intro w; go_simp; exact ⟨rfl, rfl⟩)
    case hc33 => exact (fun wq hsq htq => (CC a1 a2 l1 c1 l2 c2 wq (hs1.below (below_gt htq)) (hs2.below (below_gt htq))).mono (fun e w' ⟨he, hb⟩ => ⟨_, he, rfl, gt_below hb _⟩))
    case' rest33 => try simp only [Act.put, List.setIfInBounds_toArray, List.set_cons_zero, List.set_cons_succ]
    (rintro v3 x3 hS3 hg3 rfl; clear hs1 hs2)
    refine' dq_pure (by rfl) (by rfl) ?hv34 ?rest34
    case hv34 => (intro w hw; (try dsimp only at hw); go_split_ands; go_simp; try with_reducible rfl)
    case' rest34 => try simp only [Act.put, List.setIfInBounds_toArray, List.set_cons_zero, List.set_cons_succ]
    refine dq_nil ?_
    simp only [fa, List.drop_succ_cons, List.drop_zero]
    rintro W ⟨⟨hb0, hn0, ⟨B1, B1c, B1f, B1l⟩, ⟨B2, B2c, B2f, B2l⟩⟩, hgl⟩ hbs
    clear hbs
    (repeat' (first | go_values | go_skip | go_guarded | go_step | go_upon | (simp only [Int.not_lt, Int.not_le] at *; go_simp) | (go_values <;> (try go_simp)) | (go_ite <;> go_prune <;> (try go_simp)) | (split <;> (first | (rename_i hx; exact (hx _ rfl).elim) | go_prune))))
    go_ret
    exact ⟨by first | rfl | (simp; done), by (repeat' (first | (with_reducible assumption) | (with_reducible exact Below.refl _ _) | (with_reducible refine Below.alloc ?_ ?_ _) | (with_reducible refine Below.setCell ?_ ?_ _) | (with_reducible refine Below.drew ?_) | (with_reducible refine below_more ?_ (by with_reducible assumption)) | go_size | omega | (with_reducible refine below_drewN ?_)))⟩
  · have E : cm z z' = -1 := by unfold cm; (repeat' split) <;> omega
    rw [E]
    clear E CS h1 h2 OA OB CC
    go_enter Try.func33, Try.ntmps33
    go_wp2_with fail
    
    (refine wp_region_dq (row := none) (S := (fun Wz => Below w.heap.size w Wz ∧ w.heap.size + 2 ≤ Wz.heap.size ∧ Bx Wz (w.heap.size) (#[.bool n, .int .u64 a, .int .u64 b, .int .u64 c, .int .u64 d]) ∧ Bx Wz (w.heap.size + 1) (#[.bool n', .int .u64 a', .int .u64 b', .int .u64 c', .int .u64 d']))) (n0 := w.heap.size + 2) 4 [] [(0, 0), (1, 0), (2, 0), (3, 0)] [] (by kernel_rfl) (by kernel_rfl) (fun _ _ d _ _ h => by cases d <;> exact h) ⟨by (repeat' (first | (with_reducible assumption) | (with_reducible exact Below.refl _ _) | (with_reducible refine Below.alloc ?_ ?_ _) | (with_reducible refine Below.setCell ?_ ?_ _) | (with_reducible refine Below.drew ?_) | (with_reducible refine below_more ?_ (by with_reducible assumption)) | go_size | omega | (with_reducible refine below_drewN ?_))), (by first | go_size | omega), Bx.of (by (repeat' (first | (with_reducible assumption) | ((with_reducible refine HB.new _ _ _ ?_) <;> (go_size; done)) | (with_reducible refine HB.old (by go_size) ?_) | (with_reducible refine HB.drew ?_) | (with_reducible refine HB.over5 ?_) | (with_reducible refine HB.over4 ?_) | (with_reducible refine HB.setne (by first | go_size | (dsimp only; omega)) ?_) | (with_reducible refine HN.set ?_) | (with_reducible refine HN.setne (by first | go_size | (dsimp only; omega)) ?_) | (with_reducible refine HN.drew ?_) | (with_reducible refine HN.old (by go_size) ?_) | (with_reducible exact HN.of5 (by assumption)) | (with_reducible exact HN.new5 _ _ (by go_size)) | (with_reducible exact HN.of4 (by assumption)) | (with_reducible exact HN.new4 _ _ (by go_size))))), Bx.of (by (repeat' (first | (with_reducible assumption) | ((with_reducible refine HB.new _ _ _ ?_) <;> (go_size; done)) | (with_reducible refine HB.old (by go_size) ?_) | (with_reducible refine HB.drew ?_) | (with_reducible refine HB.over5 ?_) | (with_reducible refine HB.over4 ?_) | (with_reducible refine HB.setne (by first | go_size | (dsimp only; omega)) ?_) | (with_reducible refine HN.set ?_) | (with_reducible refine HN.setne (by first | go_size | (dsimp only; omega)) ?_) | (with_reducible refine HN.drew ?_) | (with_reducible refine HN.old (by go_size) ?_) | (with_reducible exact HN.of5 (by assumption)) | (with_reducible exact HN.new5 _ _ (by go_size)) | (with_reducible exact HN.of4 (by assumption)) | (with_reducible exact HN.new4 _ _ (by go_size)))))⟩ (fun _ _ h g => keep2 h (below_gt g) rfl) (fun _ h => h.2.1) (fun _ h => by cases h) (by simp) ?_)
    refine' dq_pure (by rfl) (by rfl) ?hv35 ?rest35
    case hv35 => (intro w hw; (try dsimp only at hw); go_split_ands; go_simp; try with_reducible rfl)
    case' rest35 => try simp only [Act.put, List.setIfInBounds_toArray, List.set_cons_zero, List.set_cons_succ]
    refine' dq_call (by rfl) (by rfl) ?hv36 ?hc36 ?rest36
    case hv36 => (intro w; go_simp; exact ⟨rfl, rfl⟩)
    case hc36 => exact (fun w hw => calls_gt (S1 _))
    case' rest36 => try simp only [Act.put, List.setIfInBounds_toArray, List.set_cons_zero, List.set_cons_succ]
    refine' dq_pure (by rfl) (by rfl) ?hv37 ?rest37
    case hv37 => (intro w hw; (try dsimp only at hw); go_split_ands; go_simp; try with_reducible rfl)
    case' rest37 => try simp only [Act.put, List.setIfInBounds_toArray, List.set_cons_zero, List.set_cons_succ]
    refine' dq_call (by rfl) (by rfl) ?hv38 ?hc38 ?rest38
    case hv38 => (intro w; go_simp; exact ⟨rfl, rfl⟩)
    case hc38 => exact (fun w hw => calls_gt (S2 _))
    case' rest38 => try simp only [Act.put, List.setIfInBounds_toArray, List.set_cons_zero, List.set_cons_succ]
    refine dq_nil ?_
    simp only [fa, List.drop_succ_cons, List.drop_zero]
    rintro W ⟨⟨hb0, hn0, ⟨B1, B1c, B1f, B1l⟩, ⟨B2, B2c, B2f, B2l⟩⟩, hgl⟩ hbs
    clear hbs hgl
    (repeat' (first | go_values | go_skip | go_guarded | go_step | go_upon | (simp only [Int.not_lt, Int.not_le] at *; go_simp) | (go_values <;> (try go_simp)) | (go_ite <;> go_prune <;> (try go_simp)) | (split <;> (first | (rename_i hx; exact (hx _ rfl).elim) | go_prune))))
    go_ret
    exact ⟨rfl, by (repeat' (first | (with_reducible assumption) | (with_reducible exact Below.refl _ _) | (with_reducible refine Below.alloc ?_ ?_ _) | (with_reducible refine Below.setCell ?_ ?_ _) | (with_reducible refine Below.drew ?_) | (with_reducible refine below_more ?_ (by with_reducible assumption)) | go_size | omega | (with_reducible refine below_drewN ?_)))⟩
  · have E : cm z z' = 1 := by unfold cm; (repeat' split) <;> omega
    rw [E]
    clear E CS h1 h2 OA OB CC
    go_enter Try.func33, Try.ntmps33
    go_wp2_with fail
    
    (refine wp_region_dq (row := none) (S := (fun Wz => Below w.heap.size w Wz ∧ w.heap.size + 2 ≤ Wz.heap.size ∧ Bx Wz (w.heap.size) (#[.bool n, .int .u64 a, .int .u64 b, .int .u64 c, .int .u64 d]) ∧ Bx Wz (w.heap.size + 1) (#[.bool n', .int .u64 a', .int .u64 b', .int .u64 c', .int .u64 d']))) (n0 := w.heap.size + 2) 4 [] [(0, 0), (1, 0), (2, 0), (3, 0)] [] (by kernel_rfl) (by kernel_rfl) (fun _ _ d _ _ h => by cases d <;> exact h) ⟨by (repeat' (first | (with_reducible assumption) | (with_reducible exact Below.refl _ _) | (with_reducible refine Below.alloc ?_ ?_ _) | (with_reducible refine Below.setCell ?_ ?_ _) | (with_reducible refine Below.drew ?_) | (with_reducible refine below_more ?_ (by with_reducible assumption)) | go_size | omega | (with_reducible refine below_drewN ?_))), (by first | go_size | omega), Bx.of (by (repeat' (first | (with_reducible assumption) | ((with_reducible refine HB.new _ _ _ ?_) <;> (go_size; done)) | (with_reducible refine HB.old (by go_size) ?_) | (with_reducible refine HB.drew ?_) | (with_reducible refine HB.over5 ?_) | (with_reducible refine HB.over4 ?_) | (with_reducible refine HB.setne (by first | go_size | (dsimp only; omega)) ?_) | (with_reducible refine HN.set ?_) | (with_reducible refine HN.setne (by first | go_size | (dsimp only; omega)) ?_) | (with_reducible refine HN.drew ?_) | (with_reducible refine HN.old (by go_size) ?_) | (with_reducible exact HN.of5 (by assumption)) | (with_reducible exact HN.new5 _ _ (by go_size)) | (with_reducible exact HN.of4 (by assumption)) | (with_reducible exact HN.new4 _ _ (by go_size))))), Bx.of (by (repeat' (first | (with_reducible assumption) | ((with_reducible refine HB.new _ _ _ ?_) <;> (go_size; done)) | (with_reducible refine HB.old (by go_size) ?_) | (with_reducible refine HB.drew ?_) | (with_reducible refine HB.over5 ?_) | (with_reducible refine HB.over4 ?_) | (with_reducible refine HB.setne (by first | go_size | (dsimp only; omega)) ?_) | (with_reducible refine HN.set ?_) | (with_reducible refine HN.setne (by first | go_size | (dsimp only; omega)) ?_) | (with_reducible refine HN.drew ?_) | (with_reducible refine HN.old (by go_size) ?_) | (with_reducible exact HN.of5 (by assumption)) | (with_reducible exact HN.new5 _ _ (by go_size)) | (with_reducible exact HN.of4 (by assumption)) | (with_reducible exact HN.new4 _ _ (by go_size)))))⟩ (fun _ _ h g => keep2 h (below_gt g) rfl) (fun _ h => h.2.1) (fun _ h => by cases h) (by simp) ?_)
    refine' dq_pure (by rfl) (by rfl) ?hv39 ?rest39
    case hv39 => (intro w hw; (try dsimp only at hw); go_split_ands; go_simp; try with_reducible rfl)
    case' rest39 => try simp only [Act.put, List.setIfInBounds_toArray, List.set_cons_zero, List.set_cons_succ]
    refine' dq_call (by rfl) (by rfl) ?hv40 ?hc40 ?rest40
    case hv40 => (intro w; go_simp; exact ⟨rfl, rfl⟩)
    case hc40 => exact (fun w hw => calls_gt (S1 _))
    case' rest40 => try simp only [Act.put, List.setIfInBounds_toArray, List.set_cons_zero, List.set_cons_succ]
    refine' dq_pure (by rfl) (by rfl) ?hv41 ?rest41
    case hv41 => (intro w hw; (try dsimp only at hw); go_split_ands; go_simp; try with_reducible rfl)
    case' rest41 => try simp only [Act.put, List.setIfInBounds_toArray, List.set_cons_zero, List.set_cons_succ]
    refine' dq_call (by rfl) (by rfl) ?hv42 ?hc42 ?rest42
    case hv42 => (intro w; go_simp; exact ⟨rfl, rfl⟩)
    case hc42 => exact (fun w hw => calls_gt (S2 _))
    case' rest42 => try simp only [Act.put, List.setIfInBounds_toArray, List.set_cons_zero, List.set_cons_succ]
    refine dq_nil ?_
    simp only [fa, List.drop_succ_cons, List.drop_zero]
    rintro W ⟨⟨hb0, hn0, ⟨B1, B1c, B1f, B1l⟩, ⟨B2, B2c, B2f, B2l⟩⟩, hgl⟩ hbs
    clear hbs hgl
    (repeat' (first | go_values | go_skip | go_guarded | go_step | go_upon | (simp only [Int.not_lt, Int.not_le] at *; go_simp) | (go_values <;> (try go_simp)) | (go_ite <;> go_prune <;> (try go_simp)) | (split <;> (first | (rename_i hx; exact (hx _ rfl).elim) | go_prune))))
    go_ret
    exact ⟨rfl, by (repeat' (first | (with_reducible assumption) | (with_reducible exact Below.refl _ _) | (with_reducible refine Below.alloc ?_ ?_ _) | (with_reducible refine Below.setCell ?_ ?_ _) | (with_reducible refine Below.drew ?_) | (with_reducible refine below_more ?_ (by with_reducible assumption)) | go_size | omega | (with_reducible refine below_drewN ?_)))⟩
  · have E : cm z z' = 1 := by unfold cm; (repeat' split) <;> omega
    rw [E]
    clear E CS h1 h2 OA OB CC
    go_enter Try.func33, Try.ntmps33
    go_wp2_with fail
    
    (refine wp_region_dq (row := none) (S := (fun Wz => Below w.heap.size w Wz ∧ w.heap.size + 2 ≤ Wz.heap.size ∧ Bx Wz (w.heap.size) (#[.bool n, .int .u64 a, .int .u64 b, .int .u64 c, .int .u64 d]) ∧ Bx Wz (w.heap.size + 1) (#[.bool n', .int .u64 a', .int .u64 b', .int .u64 c', .int .u64 d']))) (n0 := w.heap.size + 2) 4 [] [(0, 0), (1, 0), (2, 0), (3, 0)] [] (by kernel_rfl) (by kernel_rfl) (fun _ _ d _ _ h => by cases d <;> exact h) ⟨by (repeat' (first | (with_reducible assumption) | (with_reducible exact Below.refl _ _) | (with_reducible refine Below.alloc ?_ ?_ _) | (with_reducible refine Below.setCell ?_ ?_ _) | (with_reducible refine Below.drew ?_) | (with_reducible refine below_more ?_ (by with_reducible assumption)) | go_size | omega | (with_reducible refine below_drewN ?_))), (by first | go_size | omega), Bx.of (by (repeat' (first | (with_reducible assumption) | ((with_reducible refine HB.new _ _ _ ?_) <;> (go_size; done)) | (with_reducible refine HB.old (by go_size) ?_) | (with_reducible refine HB.drew ?_) | (with_reducible refine HB.over5 ?_) | (with_reducible refine HB.over4 ?_) | (with_reducible refine HB.setne (by first | go_size | (dsimp only; omega)) ?_) | (with_reducible refine HN.set ?_) | (with_reducible refine HN.setne (by first | go_size | (dsimp only; omega)) ?_) | (with_reducible refine HN.drew ?_) | (with_reducible refine HN.old (by go_size) ?_) | (with_reducible exact HN.of5 (by assumption)) | (with_reducible exact HN.new5 _ _ (by go_size)) | (with_reducible exact HN.of4 (by assumption)) | (with_reducible exact HN.new4 _ _ (by go_size))))), Bx.of (by (repeat' (first | (with_reducible assumption) | ((with_reducible refine HB.new _ _ _ ?_) <;> (go_size; done)) | (with_reducible refine HB.old (by go_size) ?_) | (with_reducible refine HB.drew ?_) | (with_reducible refine HB.over5 ?_) | (with_reducible refine HB.over4 ?_) | (with_reducible refine HB.setne (by first | go_size | (dsimp only; omega)) ?_) | (with_reducible refine HN.set ?_) | (with_reducible refine HN.setne (by first | go_size | (dsimp only; omega)) ?_) | (with_reducible refine HN.drew ?_) | (with_reducible refine HN.old (by go_size) ?_) | (with_reducible exact HN.of5 (by assumption)) | (with_reducible exact HN.new5 _ _ (by go_size)) | (with_reducible exact HN.of4 (by assumption)) | (with_reducible exact HN.new4 _ _ (by go_size)))))⟩ (fun _ _ h g => keep2 h (below_gt g) rfl) (fun _ h => h.2.1) (fun _ h => by cases h) (by simp) ?_)
    refine' dq_pure (by rfl) (by rfl) ?hv43 ?rest43
    case hv43 => (intro w hw; (try dsimp only at hw); go_split_ands; go_simp; try with_reducible rfl)
    case' rest43 => try simp only [Act.put, List.setIfInBounds_toArray, List.set_cons_zero, List.set_cons_succ]
    refine' dq_call (by rfl) (by rfl) ?hv44 ?hc44 ?rest44
    case hv44 => (intro w; go_simp; exact ⟨rfl, rfl⟩)
    case hc44 => exact (fun w hw => calls_gt (S1 _))
    case' rest44 => try simp only [Act.put, List.setIfInBounds_toArray, List.set_cons_zero, List.set_cons_succ]
    refine' dq_pure (by rfl) (by rfl) ?hv45 ?rest45
    case hv45 => (intro w hw; (try dsimp only at hw); go_split_ands; go_simp; try with_reducible rfl)
    case' rest45 => try simp only [Act.put, List.setIfInBounds_toArray, List.set_cons_zero, List.set_cons_succ]
    refine' dq_call (by rfl) (by rfl) ?hv46 ?hc46 ?rest46
    case hv46 => (intro w; go_simp; exact ⟨rfl, rfl⟩)
    case hc46 => exact (fun w hw => calls_gt (S2 _))
    case' rest46 => try simp only [Act.put, List.setIfInBounds_toArray, List.set_cons_zero, List.set_cons_succ]
    refine dq_nil ?_
    simp only [fa, List.drop_succ_cons, List.drop_zero]
    rintro W ⟨⟨hb0, hn0, ⟨B1, B1c, B1f, B1l⟩, ⟨B2, B2c, B2f, B2l⟩⟩, hgl⟩ hbs
    clear hbs hgl
    (repeat' (first | go_values | go_skip | go_guarded | go_step | go_upon | (simp only [Int.not_lt, Int.not_le] at *; go_simp) | (go_values <;> (try go_simp)) | (go_ite <;> go_prune <;> (try go_simp)) | (split <;> (first | (rename_i hx; exact (hx _ rfl).elim) | go_prune))))
    go_ret
    exact ⟨rfl, by (repeat' (first | (with_reducible assumption) | (with_reducible exact Below.refl _ _) | (with_reducible refine Below.alloc ?_ ?_ _) | (with_reducible refine Below.setCell ?_ ?_ _) | (with_reducible refine Below.drew ?_) | (with_reducible refine below_more ?_ (by with_reducible assumption)) | go_size | omega | (with_reducible refine below_drewN ?_)))⟩
  · have E : cm z z' = k := CS.2 h1 h2
    rw [E]
    clear E CS h1 h2
    go_enter Try.func33, Try.ntmps33
    go_wp2_with fail
    
    (refine wp_region_dq (row := none) (S := (fun Wz => Below w.heap.size w Wz ∧ w.heap.size + 2 ≤ Wz.heap.size ∧ Bx Wz (w.heap.size) (#[.bool n, .int .u64 a, .int .u64 b, .int .u64 c, .int .u64 d]) ∧ Bx Wz (w.heap.size + 1) (#[.bool n', .int .u64 a', .int .u64 b', .int .u64 c', .int .u64 d']))) (n0 := w.heap.size + 2) 4 [] [(0, 0), (1, 0), (2, 0), (3, 0)] [] (by kernel_rfl) (by kernel_rfl) (fun _ _ d _ _ h => by cases d <;> exact h) ⟨by (repeat' (first | (with_reducible assumption) | (with_reducible exact Below.refl _ _) | (with_reducible refine Below.alloc ?_ ?_ _) | (with_reducible refine Below.setCell ?_ ?_ _) | (with_reducible refine Below.drew ?_) | (with_reducible refine below_more ?_ (by with_reducible assumption)) | go_size | omega | (with_reducible refine below_drewN ?_))), (by first | go_size | omega), Bx.of (by (repeat' (first | (with_reducible assumption) | ((with_reducible refine HB.new _ _ _ ?_) <;> (go_size; done)) | (with_reducible refine HB.old (by go_size) ?_) | (with_reducible refine HB.drew ?_) | (with_reducible refine HB.over5 ?_) | (with_reducible refine HB.over4 ?_) | (with_reducible refine HB.setne (by first | go_size | (dsimp only; omega)) ?_) | (with_reducible refine HN.set ?_) | (with_reducible refine HN.setne (by first | go_size | (dsimp only; omega)) ?_) | (with_reducible refine HN.drew ?_) | (with_reducible refine HN.old (by go_size) ?_) | (with_reducible exact HN.of5 (by assumption)) | (with_reducible exact HN.new5 _ _ (by go_size)) | (with_reducible exact HN.of4 (by assumption)) | (with_reducible exact HN.new4 _ _ (by go_size))))), Bx.of (by (repeat' (first | (with_reducible assumption) | ((with_reducible refine HB.new _ _ _ ?_) <;> (go_size; done)) | (with_reducible refine HB.old (by go_size) ?_) | (with_reducible refine HB.drew ?_) | (with_reducible refine HB.over5 ?_) | (with_reducible refine HB.over4 ?_) | (with_reducible refine HB.setne (by first | go_size | (dsimp only; omega)) ?_) | (with_reducible refine HN.set ?_) | (with_reducible refine HN.setne (by first | go_size | (dsimp only; omega)) ?_) | (with_reducible refine HN.drew ?_) | (with_reducible refine HN.old (by go_size) ?_) | (with_reducible exact HN.of5 (by assumption)) | (with_reducible exact HN.new5 _ _ (by go_size)) | (with_reducible exact HN.of4 (by assumption)) | (with_reducible exact HN.new4 _ _ (by go_size)))))⟩ (fun _ _ h g => keep2 h (below_gt g) rfl) (fun _ h => h.2.1) (fun _ h => by cases h) (by simp) ?_)
    refine' dq_pure (by rfl) (by rfl) ?hv47 ?rest47
    case hv47 => (intro w hw; (try dsimp only at hw); go_split_ands; go_simp; try with_reducible rfl)
    case' rest47 => try simp only [Act.put, List.setIfInBounds_toArray, List.set_cons_zero, List.set_cons_succ]
    refine' dq_call (by rfl) (by rfl) ?hv48 ?hc48 ?rest48
    case hv48 => (intro w; go_simp; exact ⟨rfl, rfl⟩)
    case hc48 => exact (fun w hw => calls_gt (S1 _))
    case' rest48 => try simp only [Act.put, List.setIfInBounds_toArray, List.set_cons_zero, List.set_cons_succ]
    refine' dq_pure (by rfl) (by rfl) ?hv49 ?rest49
    case hv49 => (intro w hw; (try dsimp only at hw); go_split_ands; go_simp; try with_reducible rfl)
    case' rest49 => try simp only [Act.put, List.setIfInBounds_toArray, List.set_cons_zero, List.set_cons_succ]
    refine' dq_call (by rfl) (by rfl) ?hv50 ?hc50 ?rest50
    case hv50 => (intro w; go_simp; exact ⟨rfl, rfl⟩)
    case hc50 => exact (fun w hw => calls_gt (S2 _))
    case' rest50 => try simp only [Act.put, List.setIfInBounds_toArray, List.set_cons_zero, List.set_cons_succ]
    refine dq_nil ?_
    simp only [fa, List.drop_succ_cons, List.drop_zero]
    rintro W ⟨⟨hb0, hn0, ⟨B1, B1c, B1f, B1l⟩, ⟨B2, B2c, B2f, B2l⟩⟩, hgl⟩ hbs
    clear hbs hgl
    (repeat' (first | go_values | go_skip | go_guarded | go_step | go_upon | (simp only [Int.not_lt, Int.not_le] at *; go_simp) | (go_values <;> (try go_simp)) | (go_ite <;> go_prune <;> (try go_simp)) | (split <;> (first | (rename_i hx; exact (hx _ rfl).elim) | go_prune))))
    
    
    
    (refine wp_region_dq (row := none) (S := (fun Wz => Below w.heap.size w Wz ∧ w.heap.size + 2 ≤ Wz.heap.size ∧ Bx Wz (w.heap.size) (#[.bool n, .int .u64 a, .int .u64 b, .int .u64 c, .int .u64 d]) ∧ Bx Wz (w.heap.size + 1) (#[.bool n', .int .u64 a', .int .u64 b', .int .u64 c', .int .u64 d']))) (n0 := w.heap.size + 2) 7 [] [(0, 0), (1, 0), (3, 0), (2, 1), (4, 1), (5, 1), (6, 0)] [] (by kernel_rfl) (by kernel_rfl) (fun _ _ d _ _ h => by cases d <;> exact h) ⟨by (repeat' (first | (with_reducible assumption) | (with_reducible exact Below.refl _ _) | (with_reducible refine Below.alloc ?_ ?_ _) | (with_reducible refine Below.setCell ?_ ?_ _) | (with_reducible refine Below.drew ?_) | (with_reducible refine below_more ?_ (by with_reducible assumption)) | go_size | omega | (with_reducible refine below_drewN ?_))), (by first | go_size | omega), Bx.of (by (repeat' (first | (with_reducible assumption) | ((with_reducible refine HB.new _ _ _ ?_) <;> (go_size; done)) | (with_reducible refine HB.old (by go_size) ?_) | (with_reducible refine HB.drew ?_) | (with_reducible refine HB.over5 ?_) | (with_reducible refine HB.over4 ?_) | (with_reducible refine HB.setne (by first | go_size | (dsimp only; omega)) ?_) | (with_reducible refine HN.set ?_) | (with_reducible refine HN.setne (by first | go_size | (dsimp only; omega)) ?_) | (with_reducible refine HN.drew ?_) | (with_reducible refine HN.old (by go_size) ?_) | (with_reducible exact HN.of5 (by assumption)) | (with_reducible exact HN.new5 _ _ (by go_size)) | (with_reducible exact HN.of4 (by assumption)) | (with_reducible exact HN.new4 _ _ (by go_size))))), Bx.of (by (repeat' (first | (with_reducible assumption) | ((with_reducible refine HB.new _ _ _ ?_) <;> (go_size; done)) | (with_reducible refine HB.old (by go_size) ?_) | (with_reducible refine HB.drew ?_) | (with_reducible refine HB.over5 ?_) | (with_reducible refine HB.over4 ?_) | (with_reducible refine HB.setne (by first | go_size | (dsimp only; omega)) ?_) | (with_reducible refine HN.set ?_) | (with_reducible refine HN.setne (by first | go_size | (dsimp only; omega)) ?_) | (with_reducible refine HN.drew ?_) | (with_reducible refine HN.old (by go_size) ?_) | (with_reducible exact HN.of5 (by assumption)) | (with_reducible exact HN.new5 _ _ (by go_size)) | (with_reducible exact HN.of4 (by assumption)) | (with_reducible exact HN.new4 _ _ (by go_size)))))⟩ (fun _ _ h g => keep2 h (below_gt g) rfl) (fun _ h => h.2.1) (fun _ h => by cases h) (by simp) ?_)
    refine' dq_pure (by rfl) (by rfl) ?hv51 ?rest51
    case hv51 => (intro w hw; (try dsimp only at hw); go_split_ands; go_simp; try with_reducible rfl)
    case' rest51 => try simp only [Act.put, List.setIfInBounds_toArray, List.set_cons_zero, List.set_cons_succ]
    refine' dq_pure (by rfl) (by rfl) ?hv52 ?rest52
    case hv52 => (intro w hw; (try dsimp only at hw); go_split_ands; go_simp; try with_reducible rfl)
    case' rest52 => try simp only [Act.put, List.setIfInBounds_toArray, List.set_cons_zero, List.set_cons_succ]
    refine' dq_pure (by rfl) (by rfl) ?hv53 ?rest53
    case hv53 => (intro w hw; (try dsimp only at hw); go_split_ands; go_simp; try with_reducible rfl)
    case' rest53 => try simp only [Act.put, List.setIfInBounds_toArray, List.set_cons_zero, List.set_cons_succ]
    refine' dq_ask (R := fun v w' => SlU w' v (wl m)) (by rfl) (by rfl) ?hv54 ?hc54 ?rest54 (fun _ _ h g => keep2 h (below_gt g) rfl)
    case hv54 => (intro w; go_simp; exact ⟨rfl, rfl⟩)
    case hc54 => exact (fun wq hsq htq => OA wq)
    case' rest54 => try simp only [Act.put, List.setIfInBounds_toArray, List.set_cons_zero, List.set_cons_succ]
    (rintro v1 x1 hS1 hg1 hs1; have hs1' := hs1; obtain ⟨a1, l1, c1, rfl, -⟩ := hs1')
    refine' dq_ask (R := fun v w' => SlU w' v (wl m')) (by rfl) (by rfl) ?hv55 ?hc55 ?rest55 (fun _ _ h g => keep2 h (below_gt g) rfl)
    case hv55 => (intro w; go_simp; exact ⟨rfl, rfl⟩)
    case hc55 => exact (fun wq hsq htq => OB wq)
    case' rest55 => try simp only [Act.put, List.setIfInBounds_toArray, List.set_cons_zero, List.set_cons_succ]
    (rintro v2 x2 hS2 hg2 hs2; have hs1 := hs1.below (below_gt hg2); have hs2' := hs2; obtain ⟨a2, l2, c2, rfl, -⟩ := hs2')
    refine' dq_ask (R := fun v _ => v = .int .i64 k) (by rfl) (by rfl) ?hv56 ?hc56 ?rest56 (fun _ _ h g => keep2 h (below_gt g) rfl)
    case hv56 => (intro w; go_simp; exact ⟨rfl, rfl⟩)
    case hc56 => exact (fun wq hsq htq => (CC a1 a2 l1 c1 l2 c2 wq (hs1.below (below_gt htq)) (hs2.below (below_gt htq))).mono (fun e w' ⟨he, hb⟩ => ⟨_, he, rfl, gt_below hb _⟩))
    case' rest56 => try simp only [Act.put, List.setIfInBounds_toArray, List.set_cons_zero, List.set_cons_succ]
    (rintro v3 x3 hS3 hg3 rfl; clear hs1 hs2)
    refine' dq_pure (by rfl) (by rfl) ?hv57 ?rest57
    case hv57 => (intro w hw; (try dsimp only at hw); go_split_ands; go_simp; try with_reducible rfl)
    case' rest57 => try simp only [Act.put, List.setIfInBounds_toArray, List.set_cons_zero, List.set_cons_succ]
    refine dq_nil ?_
    simp only [fa, List.drop_succ_cons, List.drop_zero]
    rintro W ⟨⟨hb0, hn0, ⟨B1, B1c, B1f, B1l⟩, ⟨B2, B2c, B2f, B2l⟩⟩, hgl⟩ hbs
    clear hbs
    (repeat' (first | go_values | go_skip | go_guarded | go_step | go_upon | (simp only [Int.not_lt, Int.not_le] at *; go_simp) | (go_values <;> (try go_simp)) | (go_ite <;> go_prune <;> (try go_simp)) | (split <;> (first | (rename_i hx; exact (hx _ rfl).elim) | go_prune))))
    go_ret
    exact ⟨by first | rfl | (simp; done), by (repeat' (first | (with_reducible assumption) | (with_reducible exact Below.refl _ _) | (with_reducible refine Below.alloc ?_ ?_ _) | (with_reducible refine Below.setCell ?_ ?_ _) | (with_reducible refine Below.drew ?_) | (with_reducible refine below_more ?_ (by with_reducible assumption)) | go_size | omega | (with_reducible refine below_drewN ?_)))⟩
theorem rcompare_we {z z' : Int} (h : Fits z) (h' : Fits z') (w : World) : Calls Try.prog 33 #[WE z, WE z'] w fun e w' => e = .returned (.int .i64 (cm z z')) ∧ Below w.heap.size w w' := by
  have := rcompare2_any (sg z) _ _ _ _ (sg z') _ _ _ _ (lb0_in (ab z)) (lb1_in (ab z)) (lb2_in (ab z)) (lb3_in (ab z)) (lb0_in (ab z')) (lb1_in (ab z')) (lb2_in (ab z')) (lb3_in (ab z')) w
  rwa [wv_we h, wv_we h'] at this
end Go.Proofs.Ythcboomdkpiflaa

/- LtZ: lttb.Select; slices of samples of one's own. -/
namespace Go.Proofs.Ythcboomdkpiflaa
open Go.ChangeShapes Go.WideShapes Go.ChangeAt Go.RowKit
set_option linter.unusedVariables false
set_option linter.unusedSimpArgs false
/-- The chosen samples. -/
def sel (ss : Smps) (k : Int) : Smps := (ixs ss k).map fun z => ss.getD z.toNat (0, 0)
theorem ixs_in {ss : Smps} (k : Int) (h : ixe ss k = 0) : 3 ≤ k ∧ k ≤ ss.length ∧ (ixs ss k).length = k.toNat ∧ ∀ z ∈ ixs ss k, 0 ≤ z ∧ z < ss.length := by
  have hb : bok ss.length k = true := by
    unfold ixe at h
    cases hi : incr ss <;> cases hb : bok ss.length k <;> simp [hi, hb] at h ⊢
  rcases bok_cases ss.length k with ⟨_, h1, h2, _⟩ | ⟨h3, _⟩
  · unfold ixs
    rw [if_pos h]
    refine ⟨h1, h2, by rw [List.length_append, chs_len]; simp; omega, fun z hz => ?_⟩
    rcases List.mem_append.1 hz with hz | hz
    · unfold chs at hz
      obtain ⟨i, hi, rfl⟩ := List.mem_map.1 hz
      have := chosen_in (ss := ss) (k := k.toNat) (by omega) (by omega) (j := i) (by have := List.mem_range.1 hi; omega)
      omega
    · simp at hz; omega
  · rw [hb] at h3; cases h3
theorem ixs_none {ss : Smps} {k : Int} (h : ixe ss k ≠ 0) : ixs ss k = [] := by unfold ixs; rw [if_neg h]
theorem sel_len (ss : Smps) (k : Int) : (sel ss k).length = (ixs ss k).length := by unfold sel; rw [List.length_map]
theorem sel_get {ss : Smps} {k : Int} {i : Nat} (h : i < (ixs ss k).length) : (sel ss k).getD i (0, 0) = ss.getD ((ixs ss k).getD i 0).toNat (0, 0) := by
  unfold sel
  simp only [List.getD_eq_getElem?_getD, List.getElem?_map, List.getElem?_eq_getElem h]
  rfl
theorem scells_set (ss : Smps) : ∀ (i : Nat) (x y : Int), i < ss.length → ((scells ss).set (i * 2) (.int .i64 x)).set (i * 2 + 1) (.int .i64 y) = scells (ss.set i (x, y)) := by
  induction ss with
  | nil => intro i x y h; simp at h
  | cons s ss ih =>
    intro i x y h
    have e : ∀ (s : Int × Int) ss, scells (s :: ss) = .int .i64 s.1 :: .int .i64 s.2 :: scells ss := fun _ _ => rfl
    cases i with
    | zero => rfl
    | succ i =>
      rw [List.set_cons_succ, e, e, ← ih i x y (by simpa using h), show (i + 1) * 2 = i * 2 + 1 + 1 by omega]
      rfl
theorem scells_zeros (n : Nat) : (madeCells (Value.agg #[.int .i64 0, .int .i64 0]).cells (n * 2)).toList = scells (List.replicate n (0, 0)) := by
  have h1 : (madeCells (Value.agg #[.int .i64 0, .int .i64 0]).cells (n * 2)).toList = List.replicate (n * 2) (.int .i64 0) := by
    rw [List.eq_replicate_iff]
    refine ⟨by simp [size_madeCells], fun b hb => ?_⟩
    have e : (Value.agg #[.int .i64 0, .int .i64 0]).cells = #[Value.int .i64 0, .int .i64 0] := rfl
    rw [e] at hb
    unfold madeCells at hb
    simp at hb
    obtain ⟨a, _, rfl⟩ := hb
    have : a % 2 = 0 ∨ a % 2 = 1 := by omega
    rcases this with h | h <;> simp [h]
  have h2 : scells (List.replicate n (0, 0)) = List.replicate (n * 2) (.int .i64 0) := by
    induction n with
    | zero => rfl
    | succ n ih =>
      rw [List.replicate_succ, show (n + 1) * 2 = n * 2 + 1 + 1 by omega, List.replicate_succ, List.replicate_succ]
      have ih' := ih (by
        rw [List.eq_replicate_iff]
        refine ⟨by simp [size_madeCells], fun b hb => ?_⟩
        have e : (Value.agg #[.int .i64 0, .int .i64 0]).cells = #[Value.int .i64 0, .int .i64 0] := rfl
        rw [e] at hb
        unfold madeCells at hb
        simp at hb
        obtain ⟨a, _, rfl⟩ := hb
        have : a % 2 = 0 ∨ a % 2 = 1 := by omega
        rcases this with h | h <;> simp [h])
      rw [← ih']
      rfl
  rw [h1, h2]
/-- Samples of one's own. -/
def OwnS (W : World) (base g n : Nat) (bs : Smps) : Prop := W.ownsRow base 23 2 (.slice (some ⟨g, 0, none⟩) n n) n (scells bs) ∧ bs.length = n
theorem OwnS.cell {W : World} {base g n : Nat} {bs : Smps} (h : OwnS W base g n bs) (j : Nat) (hj : j < n) : W.cell? ⟨g, j * 2, none⟩ = some (.int .i64 (bs.getD j (0, 0)).1) ∧ W.cell? ⟨g, j * 2 + 1, none⟩ = some (.int .i64 (bs.getD j (0, 0)).2) := by
  obtain ⟨h1, rfl⟩ := h
  have hs := scells_at bs j hj
  rw [Nat.mul_comm] at hs
  have hl := scells_len bs
  exact ⟨by rw [h1.cellAt (j * 2) (by omega)]; exact hs.1, by rw [h1.cellAt (j * 2 + 1) (by omega)]; exact hs.2⟩
theorem OwnS.frozen {W : World} {base g n : Nat} {bs : Smps} (h : OwnS W base g n bs) (j : Nat) : W.frozen? ⟨g, j, none⟩ = false := h.1.frozenAt j
theorem OwnS.stored {W : World} {base g n : Nat} {bs : Smps} (h : OwnS W base g n bs) (j : Nat) (hj : j < n) (x y : Int) : OwnS ((W.setCell ⟨g, j * 2, none⟩ (.int .i64 x)).setCell ⟨g, j * 2 + 1, none⟩ (.int .i64 y)) base g n (bs.set j (x, y)) := by
  obtain ⟨h1, h2⟩ := h
  refine ⟨?_, by rw [List.length_set]; exact h2⟩
  have := ((h1.stored (j * 2) (.int .i64 x)).1.stored (j * 2 + 1) (.int .i64 y)).1
  rw [scells_set bs j x y (by omega)] at this
  exact this
theorem OwnS.lt {W : World} {base g n : Nat} {bs : Smps} (h : OwnS W base g n bs) : g < W.heap.size := (h.1.lt g rfl).2
theorem OwnS.zeros {w : World} {base g n : Nat} (h : w.ownsRow base 23 2 (.slice (some ⟨g, 0, none⟩) n n) n (madeCells (Value.agg #[.int .i64 0, .int .i64 0]).cells (n * 2)).toList) : OwnS w base g n (List.replicate n (0, 0)) := by
  rw [scells_zeros] at h
  exact ⟨h, by simp⟩
theorem sls_own {W : World} {base : Nat} {v : Value} {ss : Smps} (h : W.ownsRow base 23 2 v ss.length (scells ss)) (hz : ∀ s ∈ ss, I64 s.1 ∧ I64 s.2) : SlS W v ss := by
  obtain ⟨a, cap, rfl, h1, h2, hc⟩ := own_slice h (by rw [scells_len])
  refine ⟨a, cap, rfl, h1, h2, hz, fun hl => ?_⟩
  obtain ⟨g, rfl, _, hg, hcs⟩ := hc hl
  refine ⟨g, 0, rfl, hg, fun i hi => ?_⟩
  have hs := scells_at ss i hi
  rw [Nat.mul_comm] at hs
  exact ⟨by rw [Nat.zero_add]; exact hcs _ _ hs.1, by rw [Nat.zero_add]; exact hcs _ _ hs.2⟩
theorem sls_owns {W : World} {base g n : Nat} {bs : Smps} (h : OwnS W base g n bs) (hz : ∀ s ∈ bs, I64 s.1 ∧ I64 s.2) : SlS W (.slice (some ⟨g, 0, none⟩) n n) bs := by
  obtain ⟨h1, rfl⟩ := h
  exact sls_own h1 hz
theorem sls_nil (W : World) : SlS W (.slice none 0 0) [] := ⟨none, 0, rfl, Nat.le_refl _, by simp [maxLen], by simp, fun h => by simp at h⟩
theorem sget_eq {bs : Smps} {j : Nat} (h : j < bs.length) (x : Int × Int) : (bs.set j x).getD j (0, 0) = x := by simp [List.getD_eq_getElem?_getD, h]
theorem sget_ne {bs : Smps} {i j : Nat} (h : i ≠ j) (x : Int × Int) : (bs.set i x).getD j (0, 0) = bs.getD j (0, 0) := by simp [List.getD_eq_getElem?_getD, List.getElem?_set_ne h]
theorem slist_ext {cs bs : Smps} (hl : cs.length = bs.length) (h : ∀ j, j < cs.length → cs.getD j (0, 0) = bs.getD j (0, 0)) : cs = bs := by
  apply List.ext_getElem hl
  intro j h1 h2
  have := h j h1
  rwa [List.getD_eq_getElem?_getD, List.getD_eq_getElem?_getD, List.getElem?_eq_getElem h1, List.getElem?_eq_getElem h2] at this
theorem sel_i64 {ss : Smps} (k : Int) (h : ∀ s ∈ ss, I64 s.1 ∧ I64 s.2) : ∀ s ∈ sel ss k, I64 s.1 ∧ I64 s.2 := fun s hs => by
  unfold sel at hs
  obtain ⟨z, _, rfl⟩ := List.mem_map.1 hs
  exact smp_i64 h _
/-- What Select returns. -/
def SelP (ss : Smps) (k : Int) (w : World) (e : Ending) (w' : World) : Prop :=
  ∃ v, e = .returned (.tuple #[v, .int .i64 (ixe ss k)]) ∧ SlS w' v (sel ss k) ∧ Below w.heap.size w w'
/-- The indexes as a slice of ints. -/
theorem ixs_slz {W : World} {v : Value} {ss : Smps} {k : Int} {base : Nat} (h : W.ownsRow base 3 1 v (ixs ss k).length ((ixs ss k).map (Value.int .i64))) (hn : ss.length ≤ 1000) : SlZ W .i64 v (ixs ss k) := slz_own h fun z hz => by
  by_cases he : ixe ss k = 0
  · have := (ixs_in k he).2.2.2 z hz
    exact ⟨by omega, by omega⟩
  · rw [ixs_none he] at hz; simp at hz
set_option maxHeartbeats 8000000 in
set_option maxRecDepth 100000 in
theorem select_any {v : Value} {ss : Smps} (k : Int) (hk : I64 k) (w : World) (hs : SlS w v ss) (hn : ss.length ≤ 1000) : Calls Try.prog 31 #[v, .int .i64 k] w (SelP ss k w) := by
  have CI := indexes_any k hk w hs hn
  unfold IxP at CI
  unfold SelP
  obtain ⟨a, cap, rfl, hlc, hcm, hin, hcell⟩ := id hs
  have hcapm : cap ≤ 9223372036854775807 := by simpa [maxLen] using hcm
  obtain ⟨i0, hi, hz0, hz1, hz2⟩ := info_parts info_sample
  have HIN := hid (ixs_in (ss := ss) k)
  have HNO := hid (ixs_none (ss := ss) (k := k))
  have HZ := hid (fun W v base h => ixs_slz (W := W) (v := v) (ss := ss) (k := k) (base := base) h hn)
  have HGT := hid (fun i h => sel_get (ss := ss) (k := k) (i := i) h)
  have hsl := sel_len ss k
  have HSI := hid (sel_i64 k hin)
  generalize sel ss k = so at *
  generalize ixs ss k = zs at *
  generalize ixe ss k = E at *
  have HC := hid hcell
  clear hin hcell hcm
  go_enter Try.func31, Try.ntmps31
  (repeat' (first | go_values | go_skip | go_guarded | go_step | go_upon | (simp only [Int.not_lt, Int.not_le] at *; go_simp) | (go_values <;> (try go_simp)) | (go_ite <;> go_prune <;> (try go_simp)) | (split <;> (first | (rename_i hx; exact (hx _ rfl).elim) | go_prune))))
  go_at_call 29
  refine CI.mono ?_
  rintro e w1 ⟨vi, rfl, hown, hb1⟩
  clear CI
  by_cases hE : E = 0
  · subst hE
    obtain ⟨k1, k2, k3, k4⟩ := HIN.out rfl
    have hz := HZ.out _ _ _ hown
    obtain ⟨ai, li, ci, rfl, rfl, hic, him, -, hicell⟩ := hz
    obtain ⟨gi, oi, rfl, hgi, hics⟩ := hicell (by omega)
    have HK4 := hid k4
    have HIC := hid hics
    have hzl : zs.length ≤ 1000 := by omega
    have hz3 : 3 ≤ zs.length := by omega
    clear hown hicell hics k3 k4 HIN HNO HZ
    (repeat' (first | (go_big_may; (first | (refine wpList_make_full _ rfl _ _ 47 rfl w1.heap.size 23 i0 (.agg #[.int .i64 0, .int .i64 0]) 2 Try.underlying47 hi hz0 hz1 .i64 .i64 _ _ zs.length rfl rfl (by first | rfl | omega) (by first | rfl | omega) (by rw [hz2]; omega) (by unfold maxLen; omega) (Nat.le_refl _) ?_; intro wm hown hgr))) | go_values | go_skip | go_guarded | go_step | go_upon | (simp only [Int.not_lt, Int.not_le] at *; go_simp) | (go_values <;> (try go_simp)) | (go_ite <;> go_prune <;> (try go_simp)) | (split <;> (first | (rename_i hx; exact (hx _ rfl).elim) | go_prune))))
    have hO0 : OwnS wm w1.heap.size w1.heap.size zs.length (List.replicate zs.length (0, 0)) := OwnS.zeros hown
    have hB0 : Below w1.heap.size w1 wm := below_gt hgr
    clear hown hgr
    go_loopw [25] (fun i wr => ∃ (j : Nat) (bs : Smps), i = .int .i64 j ∧ j ≤ zs.length ∧ Hid (∀ i, i < j → bs.getD i (0, 0) = ss.getD (zs.getD i 0).toNat (0, 0)) ∧ OwnS wr w1.heap.size w1.heap.size zs.length bs ∧ Below w1.heap.size w1 wr) (fun i _ => zs.length - (intOf i).toNat)
    case atStart => exact ⟨0, _, rfl, Nat.zero_le _, hid (fun j hj => by omega), hO0, hB0⟩
    case round =>
      obtain ⟨j, bs, rfl, hj, hbs, hO, hB⟩ := hrel
      have hBw := hb1.trans (hB.mono hb1.size)
      by_cases hlt : j < zs.length
      · have f1 : wr.cell? ⟨gi, oi + j, none⟩ = some (.int .i64 (zs.getD j 0)) := (hB.cell (p := ⟨gi, oi + j, none⟩) hgi).trans (HIC.out j hlt)
        obtain ⟨b, off, rfl, hb, hcs⟩ := HC.out (by omega)
        have hzin : 0 ≤ zs.getD j 0 ∧ zs.getD j 0 < ss.length := HK4.out _ (by rw [List.getD_eq_getElem?_getD, List.getElem?_eq_getElem hlt]; exact List.getElem_mem hlt)
        have HX := hid (show zs.getD j 0 = zs.getD j 0 from rfl)
        generalize hz : zs.getD j 0 = z at f1 hzin
        clear HX
        have HZJ := hid hz
        clear hz
        obtain ⟨q, rfl⟩ : ∃ q : Nat, z = q := ⟨z.toNat, by omega⟩
        obtain ⟨p1, p2⟩ := hcs q (by omega)
        obtain ⟨xy, hx⟩ : ∃ xy, ss.getD q (0, 0) = xy := ⟨_, rfl⟩
        rw [hx] at p1 p2
        have HX := hid hx
        obtain ⟨x, y⟩ := xy
        dsimp only at p1 p2
        have f2 := (hBw.cell (p := ⟨b, off + q * 2, none⟩) hb).trans p1
        have f3 := (hBw.cell (p := ⟨b, off + q * 2 + 1, none⟩) hb).trans p2
        have f4 := hO.cell j hlt
        obtain ⟨f5, f6⟩ := f4
        have f7 := hO.frozen (j * 2)
        have f8 := hO.frozen (j * 2 + 1)
        have hsz := hO.lt
        have hqn : (q : Int) < ss.length := by omega
        clear hx p1 p2 hcs hzin
        (repeat' (first | go_values | go_skip | go_guarded | go_step | go_upon | (simp only [Int.not_lt, Int.not_le] at *; go_simp) | (go_values <;> (try go_simp)) | (go_ite <;> go_prune <;> (try go_simp)) | (split <;> (first | (rename_i hx; exact (hx _ rfl).elim) | go_prune))))
        go_roundw
        case rel =>
          refine ⟨j + 1, bs.set j (x, y), by simp, by omega, hid (fun i hi => ?_), hO.stored j hlt x y, by (repeat' (first | (with_reducible assumption) | (with_reducible exact Below.refl _ _) | (with_reducible refine Below.alloc ?_ ?_ _) | (with_reducible refine Below.setCell ?_ ?_ _) | (with_reducible refine Below.drew ?_) | (with_reducible refine below_more ?_ (by with_reducible assumption)) | go_size | omega | (with_reducible refine below_drewN ?_)))⟩
          by_cases hij : i = j
          · subst hij; rw [sget_eq (by have := hO.2; omega), HZJ.out, Int.toNat_natCast, HX.out]
          · rw [sget_ne (by omega)]; exact hbs.out i (by omega)
        case measure => simp [intOf]; omega
      · obtain rfl : j = zs.length := by omega
        (repeat' (first | go_values | go_skip | go_guarded | go_step | go_upon | (simp only [Int.not_lt, Int.not_le] at *; go_simp) | (go_values <;> (try go_simp)) | (go_ite <;> go_prune <;> (try go_simp)) | (split <;> (first | (rename_i hx; exact (hx _ rfl).elim) | go_prune))))
        refine bodyPost_ret (v := .tuple #[.slice (some ⟨w1.heap.size, 0, none⟩) zs.length zs.length, .int .i64 0]) ?_ rfl ⟨_, rfl, ?_, by (repeat' (first | (with_reducible assumption) | (with_reducible exact Below.refl _ _) | (with_reducible refine Below.alloc ?_ ?_ _) | (with_reducible refine Below.setCell ?_ ?_ _) | (with_reducible refine Below.drew ?_) | (with_reducible refine below_more ?_ (by with_reducible assumption)) | go_size | omega | (with_reducible refine below_drewN ?_)))⟩
        · simp [results, Try.results31, go_sem]
        · have e : bs = so := slist_ext (by rw [hsl]; exact hO.2) (fun i hi => by rw [hbs.out i (by have := hO.2; omega), HGT.out i (by have := hO.2; omega)])
          exact sls_owns (e ▸ hO) HSI.out
  · have hnil := HNO.out hE
    subst hnil
    have hsn : so = [] := List.eq_nil_of_length_eq_zero hsl
    subst hsn
    (repeat' (first | go_values | go_skip | go_guarded | go_step | go_upon | (simp only [Int.not_lt, Int.not_le] at *; go_simp) | (go_values <;> (try go_simp)) | (go_ite <;> go_prune <;> (try go_simp)) | (split <;> (first | (rename_i hx; exact (hx _ rfl).elim) | go_prune))))
    refine bodyPost_ret (v := .tuple #[.slice none 0 0, .int .i64 E]) ?_ rfl ⟨_, rfl, sls_nil _, by (repeat' (first | (with_reducible assumption) | (with_reducible exact Below.refl _ _) | (with_reducible refine Below.alloc ?_ ?_ _) | (with_reducible refine Below.setCell ?_ ?_ _) | (with_reducible refine Below.drew ?_) | (with_reducible refine below_more ?_ (by with_reducible assumption)) | go_size | omega | (with_reducible refine below_drewN ?_)))⟩
    simp [results, Try.results31, go_sem]
end Go.Proofs.Ythcboomdkpiflaa

/- Chk: Contracts of the functions of the packages checked and tscodecref01, for all int64 arguments. -/
namespace Go.Proofs.Ythcboomdkpiflaa.Chk
open Go.ChangeShapes Go.WideShapes Go.ChangeAt Go.RowKit
set_option linter.unusedVariables false
set_option linter.unusedSimpArgs false
theorem radd_any (a b : Int) (ha : I64 a) (hb : I64 b) (w : World) :
    Calls Try.prog 45 #[.int .i64 a, .int .i64 b] w fun e w' => e = .returned (.tuple #[.int .i64 (orZ (rng (a + b)) (a + b)), .bool (rng (a + b))]) ∧ w = w' := by
  obtain ⟨a1, a2⟩ := ha; obtain ⟨b1, b2⟩ := hb
  by_cases c3 : 9223372036854775807 < a + b
  · have hw := wrap64_pos_over _ c3 (by omega)
    have t1 : decide (a < 0) = false := dF (by omega)
    have t2 : decide (0 < a) = true := dT (by omega)
    have t8 : decide (0 ≤ a) = true := dT (by omega)
    have t3 : decide (b < 0) = false := dF (by omega)
    have t4 : decide (0 < b) = true := dT (by omega)
    have t7 : decide (0 ≤ b) = true := dT (by omega)
    have t5 : decide (wrap64 (a + b) < 0) = true := dT hw
    have t6 : decide (wrap64 (a + b) ≤ 0) = true := dT (by omega)
    have t9 : decide (0 ≤ wrap64 (a + b)) = false := dF (by omega)
    clear hw
    go_enter Try.func45, Try.ntmps45
    go_wp2
    go_ret2
    exact ⟨no_ib rfl rfl (fun h => by have := h.2; omega), rfl⟩
  by_cases c4 : a + b < -9223372036854775808
  · have hw := wrap64_neg_over _ c4 (by omega)
    have t1 : decide (a < 0) = true := dT (by omega)
    have t2 : decide (0 < a) = false := dF (by omega)
    have t8 : decide (0 ≤ a) = false := dF (by omega)
    have t3 : decide (b < 0) = true := dT (by omega)
    have t4 : decide (0 < b) = false := dF (by omega)
    have t7 : decide (0 ≤ b) = false := dF (by omega)
    have t5 : decide (wrap64 (a + b) < 0) = false := dF (by omega)
    have t6 : decide (0 ≤ wrap64 (a + b)) = true := dT hw
    have t9 : decide (wrap64 (a + b) < 0) = false := dF (by omega)
    clear hw
    go_enter Try.func45, Try.ntmps45
    go_wp2
    go_ret2
    exact ⟨no_ib rfl rfl (fun h => by have := h.1; omega), rfl⟩
  have d1 : a + b ≤ 9223372036854775807 := by omega
  have d2 : -9223372036854775808 ≤ a + b := by omega
  clear c3 c4
  by_cases c1 : a < 0 <;> by_cases c2 : b < 0
  all_goals
    by_cases c3 : a + b < 0
    all_goals
      by_cases c4 : 0 < a <;> by_cases c5 : 0 < b
      all_goals
        first
        | (exfalso; omega)
        | (go_enter Try.func45, Try.ntmps45
           go_wp2
           all_goals (go_ret2; exact ⟨yes_ib rfl rfl ⟨by omega, by omega⟩, rfl⟩))
end Go.Proofs.Ythcboomdkpiflaa.Chk

/- MadeW: The tape's Wide, and the walk among calls of a tape's methods. -/
namespace Go.Proofs.Ythcboomdkpiflaa
open Go.ChangeShapes Go.WideShapes Go.ChangeAt Go.RowKit
set_option linter.unusedVariables false
set_option linter.unusedSimpArgs false
theorem grown_drew {a w : World} {row : Option Nat} (h : a.grownBy w row) : a.grownBy w.drew row := ⟨h.os, h.tape, h.output, h.size, h.block⟩
theorem TapeOk.setc {B Bm : Nat} {w : World} {b : Nat} {p : Addr} {v : Value} (hp : B ≤ p.block) (h : TapeOk B Bm w b) : TapeOk B Bm (w.setCell p v) b := h.below ((Below.refl B w).setCell hp v)
/-- What is known while the tape's Wide runs: the tape, the blocks of the result and of the variable. -/
def AWs (B Bm b q : Nat) (w W : World) : Prop := TapeOk B Bm W b ∧ w.grownBy W (some b) ∧ HB W q #[.bool false, .int .u64 0, .int .u64 0, .int .u64 0, .int .u64 0] ∧ ∃ (n : Bool) (c0 c1 c2 c3 : Int), U64 c0 ∧ U64 c1 ∧ U64 c2 ∧ U64 c3 ∧ HB W (q + 1) #[.bool n, .int .u64 c0, .int .u64 c1, .int .u64 c2, .int .u64 c3]
theorem AWs.tape {B Bm b q : Nat} {w W : World} (h : AWs B Bm b q w W) : TapeOk B Bm W b := h.1
theorem AWs.drew {B Bm b q : Nat} {w W : World} (h : AWs B Bm b q w W) : AWs B Bm b q w W.drew := by
  obtain ⟨ht, hG, B1, n, c0, c1, c2, c3, u0, u1, u2, u3, B2⟩ := h
  exact ⟨ht.drew, grown_drew hG, B1.drew, n, c0, c1, c2, c3, u0, u1, u2, u3, B2.drew⟩
theorem AWs.alloc {B Bm b q : Nat} {w W : World} (h : AWs B Bm b q w W) (o : Obj) : AWs B Bm b q w (W.alloc o) := by
  obtain ⟨ht, hG, B1, n, c0, c1, c2, c3, u0, u1, u2, u3, B2⟩ := h
  exact ⟨ht.alloc _, grown_alloc hG _, B1.old B1.lt, n, c0, c1, c2, c3, u0, u1, u2, u3, B2.old B2.lt⟩
theorem AWs.store {B Bm b q : Nat} {w W : World} {j : Nat} {u : Int} (hu : U64 u) (hj : 1 ≤ j ∧ j ≤ 4) (hq : w.heap.size ≤ q) (hB : B ≤ q) (h : AWs B Bm b q w W) : AWs B Bm b q w (W.setCell ⟨q + 1, j, none⟩ (.int .u64 u)) := by
  obtain ⟨ht, hG, B1, n, c0, c1, c2, c3, u0, u1, u2, u3, B2⟩ := h
  have t := ht.setc (p := ⟨q + 1, j, none⟩) (v := .int .u64 u) (by show B ≤ q + 1; omega)
  have g := grown_setCell hG (p := ⟨q + 1, j, none⟩) (.inr (by show w.heap.size ≤ q + 1; omega)) (.int .u64 u)
  have b1 := B1.setne (a := ⟨q + 1, j, none⟩) (v := .int .u64 u) (by show q ≠ q + 1; omega)
  obtain rfl | rfl | rfl | rfl : j = 1 ∨ j = 2 ∨ j = 3 ∨ j = 4 := by omega
  · exact ⟨t, g, b1, n, u, c1, c2, c3, hu, u1, u2, u3, B2.set rfl⟩
  · exact ⟨t, g, b1, n, c0, u, c2, c3, u0, hu, u2, u3, B2.set rfl⟩
  · exact ⟨t, g, b1, n, c0, c1, u, c3, u0, u1, hu, u3, B2.set rfl⟩
  · exact ⟨t, g, b1, n, c0, c1, c2, u, u0, u1, u2, hu, B2.set rfl⟩
theorem AWs.at {B Bm b q m : Nat} {w W : World} (h : AWs B Bm b q w W) (hm : m ≤ 3) : ∃ c, W.cell? ⟨q + 1, 1 + m, none⟩ = some (.int .u64 c) ∧ W.frozen? ⟨q + 1, 1 + m, none⟩ = false ∧ q + 1 < W.heap.size ∧ B ≤ W.heap.size := by
  obtain ⟨ht, hG, B1, n, c0, c1, c2, c3, u0, u1, u2, u3, B2⟩ := h
  obtain ⟨B2, B2c, B2f, B2l⟩ := Bx.of B2
  obtain rfl | rfl | rfl | rfl : m = 0 ∨ m = 1 ∨ m = 2 ∨ m = 3 := by omega
  all_goals exact ⟨_, B2c _, B2f _, B2l, ht.leB⟩
theorem AWs.over {B Bm b q : Nat} {w W : World} {n' : Bool} {d0 d1 d2 d3 : Int} (v0 : U64 d0) (v1 : U64 d1) (v2 : U64 d2) (v3 : U64 d3) (hq : w.heap.size ≤ q) (hB : B ≤ q) (h : AWs B Bm b q w W) :
    AWs B Bm b q w (((((W.setCell ⟨q + 1, 0, none⟩ (.bool n')).setCell ⟨q + 1, 1, none⟩ (.int .u64 d0)).setCell ⟨q + 1, 2, none⟩ (.int .u64 d1)).setCell ⟨q + 1, 3, none⟩ (.int .u64 d2)).setCell ⟨q + 1, 4, none⟩ (.int .u64 d3)) := by
  obtain ⟨ht, hG, B1, n, c0, c1, c2, c3, u0, u1, u2, u3, B2⟩ := h
  have hp : ∀ (j : Nat), w.heap.size ≤ (⟨q + 1, j, none⟩ : Addr).block := fun j => by show w.heap.size ≤ q + 1; omega
  have hp' : ∀ (j : Nat), B ≤ (⟨q + 1, j, none⟩ : Addr).block := fun j => by show B ≤ q + 1; omega
  have hn : ∀ (j : Nat), q ≠ (⟨q + 1, j, none⟩ : Addr).block := fun j => by show q ≠ q + 1; omega
  exact ⟨((((ht.setc (hp' _)).setc (hp' _)).setc (hp' _)).setc (hp' _)).setc (hp' _),
    grown_setCell (grown_setCell (grown_setCell (grown_setCell (grown_setCell hG (.inr (hp _)) _) (.inr (hp _)) _) (.inr (hp _)) _) (.inr (hp _)) _) (.inr (hp _)) _,
    ((((B1.setne (hn _)).setne (hn _)).setne (hn _)).setne (hn _)).setne (hn _), n', d0, d1, d2, d3, v0, v1, v2, v3, HB.over5 (HN.of5 B2)⟩
end Go.Proofs.Ythcboomdkpiflaa

/- LawT: A law's frame where a tape comes behind boxed arguments. -/
namespace Go.Proofs.Ythcboomdkpiflaa
open Go.ChangeShapes Go.WideShapes Go.ChangeAt Go.RowKit
set_option linter.unusedVariables false
set_option linter.unusedSimpArgs false
theorem SlZ.below {W W' : World} {k : IntKind} {v : Value} {zs : List Int} (h : SlZ W k v zs) (hb : Below W.heap.size W W') : SlZ W' k v zs := by
  obtain ⟨a, len, cap, rfl, h1, h2, h3, h4, h5⟩ := h
  refine ⟨a, len, cap, rfl, h1, h2, h3, h4, fun hl => ?_⟩
  obtain ⟨b, off, rfl, hlt, hc⟩ := h5 hl
  exact ⟨b, off, rfl, Nat.lt_of_lt_of_le hlt hb.size, fun i hi => (hb.cell hlt).trans (hc i hi)⟩
theorem next_in {B Bm : Nat} (b : Nat) (n : Int) (h1 : 1 ≤ n) (h2 : n ≤ 1000000) (w : World) (ht : TapeOk B Bm w b) :
    Calls Try.prog 14 #[.pointer (some ⟨b, 0, none⟩), .int .i64 n] w (TPost B Bm .i64 b w fun r => 0 ≤ r ∧ r < n) :=
  (next_any b n ⟨by omega, by omega⟩ w ht).mono fun e w' ⟨r, ⟨r1, r2, r3⟩, he, h⟩ => ⟨r, ⟨r1, r2 h1⟩, he, h⟩
end Go.Proofs.Ythcboomdkpiflaa

/- LtA: tscodeclaw25: known, alike. -/
namespace Go.Proofs.Ythcboomdkpiflaa
open Go.ChangeShapes Go.WideShapes Go.ChangeAt Go.RowKit
set_option linter.unusedVariables false
set_option linter.unusedSimpArgs false
def five : Smps := [(0, 0), (1, 5), (2, 0), (3, 1), (4, 0)]
theorem five_sel3 : ixe five 3 = 0 ∧ (sel five 3).length = 3 ∧ ((sel five 3).getD 1 (0, 0)).2 = 5 := by decide +kernel
theorem five_sel2 : ixe five 2 = 2 := by decide +kernel
set_option maxRecDepth 100000 in
theorem five_in : ∀ s ∈ five, I64 s.1 ∧ I64 s.2 := by unfold five I64; decide
theorem five3_any (W : World) (v : Value) (hs : SlS W v five) : Calls Try.prog 31 #[v, .int .i64 3] W fun e w' => ∃ g o cap, e = .returned (.tuple #[.slice (some ⟨g, o, none⟩) 3 cap, .int .i64 0]) ∧ w'.cell? ⟨g, o + 3, none⟩ = some (.int .i64 5) ∧ g < w'.heap.size ∧ Below W.heap.size W w' := by
  obtain ⟨h1, h2, h3⟩ := five_sel3
  refine (select_any 3 ⟨by decide, by decide⟩ W hs (by decide)).mono fun e w' ⟨v', he, hS, hb⟩ => ?_
  obtain ⟨a, cap, rfl, -, -, -, hc⟩ := hS
  rw [h2] at hc he
  rw [h1] at he
  obtain ⟨b, off, rfl, hlb, hcs⟩ := hc (by decide)
  have := (hcs 1 (by decide)).2
  rw [h3] at this
  exact ⟨b, off, cap, he, this, hlb, hb⟩
theorem five2_any (W : World) (v : Value) (hs : SlS W v five) : Calls Try.prog 31 #[v, .int .i64 2] W fun e w' => ∃ v', e = .returned (.tuple #[v', .int .i64 2]) ∧ Below W.heap.size W w' := by
  refine (select_any 2 ⟨by decide, by decide⟩ W hs (by decide)).mono fun e w' ⟨v', he, hS, hb⟩ => ?_
  rw [five_sel2] at he
  exact ⟨v', he, hb⟩
set_option maxHeartbeats 8000000 in
set_option maxRecDepth 100000 in
theorem known25_any (w : World) : Calls Try.prog 27 #[] w fun e w' => e = .returned (.bool true) ∧ Below w.heap.size w w' := by
  have C3 := five3_any
  have C2 := five2_any
  have hI := hid five_in
  go_enter Try.func27, Try.ntmps27
  (repeat' (first | go_values | go_skip | go_guarded | go_step | go_upon | (simp only [Int.not_lt, Int.not_le] at *; go_simp) | (go_values <;> (try go_simp)) | (go_ite <;> go_prune <;> (try go_simp)) | (split <;> (first | (rename_i hx; exact (hx _ rfl).elim) | go_prune))))
  have hs : SlS (w.alloc (.cells #[.int .i64 0, .int .i64 0, .int .i64 1, .int .i64 5, .int .i64 2, .int .i64 0, .int .i64 3, .int .i64 1, .int .i64 4, .int .i64 0] 23)) (.slice (some ⟨w.heap.size, 0, none⟩) 5 5) five := by
    obtain ⟨_, hc, _, hl⟩ := Bx.of (HB.new w #[.int .i64 0, .int .i64 0, .int .i64 1, .int .i64 5, .int .i64 2, .int .i64 0, .int .i64 3, .int .i64 1, .int .i64 4, .int .i64 0] 23 rfl)
    refine ⟨_, 5, rfl, by decide, by decide, hI.out, fun _ => ⟨w.heap.size, 0, rfl, hl, fun i hi => ?_⟩⟩
    have hi : i < 5 := hi
    match i, hi with
    | 0, _ => exact ⟨hc 0, hc 1⟩
    | 1, _ => exact ⟨hc 2, hc 3⟩
    | 2, _ => exact ⟨hc 4, hc 5⟩
    | 3, _ => exact ⟨hc 6, hc 7⟩
    | 4, _ => exact ⟨hc 8, hc 9⟩
  go_at_call 31
  refine (C3 _ _ hs).mono ?_
  rintro e w1 ⟨g, o, cap, rfl, hc, hg, hb1⟩
  have hs1 := hs.below hb1
  have hB1 : Below w.heap.size w w1 := by (repeat' (first | (with_reducible assumption) | (with_reducible exact Below.refl _ _) | (with_reducible refine Below.alloc ?_ ?_ _) | (with_reducible refine Below.setCell ?_ ?_ _) | (with_reducible refine Below.drew ?_) | (with_reducible refine below_more ?_ (by with_reducible assumption)) | go_size | omega | (with_reducible refine below_drewN ?_)))
  clear hs C3
  (repeat' (first | go_values | go_skip | go_guarded | go_step | go_upon | (simp only [Int.not_lt, Int.not_le] at *; go_simp) | (go_values <;> (try go_simp)) | (go_ite <;> go_prune <;> (try go_simp)) | (split <;> (first | (rename_i hx; exact (hx _ rfl).elim) | go_prune))))
  go_at_call 31
  refine (C2 _ _ hs1).mono ?_
  rintro e w2 ⟨v2, rfl, hb2⟩
  have hc2 := (hb2.cell (p := ⟨g, o + 3, none⟩) hg).trans hc
  have hB2 : Below w.heap.size w w2 := by (repeat' (first | (with_reducible assumption) | (with_reducible exact Below.refl _ _) | (with_reducible refine Below.alloc ?_ ?_ _) | (with_reducible refine Below.setCell ?_ ?_ _) | (with_reducible refine Below.drew ?_) | (with_reducible refine below_more ?_ (by with_reducible assumption)) | go_size | omega | (with_reducible refine below_drewN ?_)))
  clear hs1 C2 hc hb2
  (repeat' (first | go_values | go_skip | go_guarded | go_step | go_upon | (simp only [Int.not_lt, Int.not_le] at *; go_simp) | (go_values <;> (try go_simp)) | (go_ite <;> go_prune <;> (try go_simp)) | (split <;> (first | (rename_i hx; exact (hx _ rfl).elim) | go_prune))))
  go_ret
  exact ⟨rfl, hB2⟩
end Go.Proofs.Ythcboomdkpiflaa

/- LtK: Plain: what Indexes and Select give for 3 ≤ k ≤ n; all of them if there are k. -/
namespace Go.Proofs.Ythcboomdkpiflaa
open Go.ChangeShapes Go.WideShapes Go.ChangeAt Go.RowKit
set_option linter.unusedVariables false
set_option linter.unusedSimpArgs false
theorem smp_inI {ss : Smps} (h : Smp ss) : ∀ s ∈ ss, I64 s.1 ∧ I64 s.2 := fun s hs => ⟨h.1.2 s.1 (List.mem_map.2 ⟨s, hs, rfl⟩), h.2 s hs⟩
theorem smp_incr {ss : Smps} (h : Smp ss) : incr ss = true := by
  unfold incr
  refine decide_eq_true fun i hi => ?_
  have hp := List.pairwise_iff_getElem.1 h.1.1 i (i + 1) (by simp; omega) (by simp; omega) (by omega)
  have e : ∀ j, j < ss.length → (ss.getD j (0, 0)) = ss[j]! := fun j hj => by simp [List.getD_eq_getElem?_getD, List.getElem!_eq_getElem?_getD]; rfl
  rw [List.getElem_map, List.getElem_map] at hp
  rw [List.getD_eq_getElem?_getD, List.getD_eq_getElem?_getD, List.getElem?_eq_getElem (by omega), List.getElem?_eq_getElem (by omega)]
  exact hp
theorem ixe_yes {ss : Smps} {K : Nat} (h : incr ss = true) (hk : 3 ≤ K) (hn : K ≤ ss.length) (hl : ss.length ≤ 1000) : ixe ss K = 0 := by
  rcases bok_cases ss.length (K : Int) with ⟨hb, _⟩ | ⟨_, hb⟩
  · unfold ixe; rw [h, hb]; rfl
  · omega
theorem ixs_yes {ss : Smps} {K : Nat} (h : incr ss = true) (hk : 3 ≤ K) (hn : K ≤ ss.length) (hl : ss.length ≤ 1000) : ixs ss K = chs ss K (K - 2) ++ [(ss.length : Int) - 1] := by
  unfold ixs
  rw [if_pos (ixe_yes h hk hn hl), Int.toNat_natCast]
theorem ixs_lenK {ss : Smps} {K : Nat} (h : incr ss = true) (hk : 3 ≤ K) (hn : K ≤ ss.length) (hl : ss.length ≤ 1000) : (ixs ss K).length = K := by
  have := (ixs_in (K : Int) (ixe_yes h hk hn hl)).2.2.1
  omega
theorem ixs_mid {ss : Smps} {K i : Nat} (h : incr ss = true) (hk : 3 ≤ K) (hn : K ≤ ss.length) (hl : ss.length ≤ 1000) (hi : i ≤ K - 2) : (ixs ss K).getD i 0 = (chosen ss K i : Int) := by
  rw [ixs_yes h hk hn hl, List.getD_eq_getElem?_getD, List.getElem?_append_left (by rw [chs_len]; omega), ← List.getD_eq_getElem?_getD, chs_get _ _ _ _ hi]
end Go.Proofs.Ythcboomdkpiflaa

/- LtM: Plain: one bucket's greatest triangle. -/
namespace Go.Proofs.Ythcboomdkpiflaa
open Go.ChangeShapes Go.WideShapes Go.ChangeAt Go.RowKit
set_option linter.unusedVariables false
set_option linter.unusedSimpArgs false
theorem large_plain {ss : Smps} {K j : Nat} (hk : 3 ≤ K) (hn : K ≤ ss.length) (hj : j + 2 < K) :
    ∃ fr tt en at_ bi : Nat, bk ss.length K j = fr ∧ bk ss.length K (j + 1) = tt ∧ chosen ss K j = at_ ∧ chosen ss K (j + 1) = fr + bi ∧ fr < tt ∧ tt < en ∧ en ≤ ss.length ∧ at_ < ss.length ∧ 1 ≤ fr ∧ bi < tt - fr ∧ (j + 2 < K - 1 → bk ss.length K (j + 2) = en) ∧ (¬ j + 2 < K - 1 → en = ss.length ∧ tt = ss.length - 1) ∧
      (∀ T V : Int, wsum Prod.fst (cut ss tt en) (en - tt) = T → wsum Prod.snd (cut ss tt en) (en - tt) = V → ∀ t, t < tt - fr →
        area (ss.getD at_ (0, 0)) (ss.getD (fr + t) (0, 0)) T V ((en : Int) - tt) ≤ area (ss.getD at_ (0, 0)) (ss.getD (fr + bi) (0, 0)) T V ((en : Int) - tt) ∧
        (t < bi → area (ss.getD at_ (0, 0)) (ss.getD (fr + t) (0, 0)) T V ((en : Int) - tt) < area (ss.getD at_ (0, 0)) (ss.getD (fr + bi) (0, 0)) T V ((en : Int) - tt))) := by
  obtain ⟨fr, tt, en, at_, bi, efr, ett, een, eat, h3, h4, h5, h6, h7, hbi, h8, hch, h9, h10⟩ := round_plain hk hn (j := j) (by omega)
  have hch2 : chosen ss K (j + 1) = fr + bi := by
    show pickb ss K j (chosen ss K j) = _
    unfold pickb
    rw [efr, ett, een, eat, ← cut_len (ss := ss) (i := fr) (j := tt) (by omega), hbi]
  refine ⟨fr, tt, en, at_, bi, efr, ett, eat, hch2, h3, h4, h5, h6, h7, h8, h9, fun h => ⟨h10 h, by rw [← ett, show j + 1 = K - 2 by omega, bk_last hk hn]⟩, fun T V hT hV t ht => ?_⟩
  unfold best at hbi
  rw [cut_len h5, cut_len (show tt ≤ ss.length by omega), hT, hV, show ((en - tt : Nat) : Int) = (en : Int) - tt by omega] at hbi
  have hfi : ∀ t, t < tt - fr → area (ss.getD at_ (0, 0)) ((cut ss fr tt).getD t (0, 0)) T V ((en : Int) - tt) = area (ss.getD at_ (0, 0)) (ss.getD (fr + t) (0, 0)) T V ((en : Int) - tt) := fun t ht => by rw [cut_get (by omega) ht]
  rw [← hfi t ht, ← hfi bi h8]
  have hnn := fun i => area_nonneg (ss.getD at_ (0, 0)) ((cut ss fr tt).getD i (0, 0)) T V ((en : Int) - tt)
  have h1 := lg_max (fun i => area (ss.getD at_ (0, 0)) ((cut ss fr tt).getD i (0, 0)) T V ((en : Int) - tt)) (tt - fr) t ht
  have h2 := lg_first (fun i => area (ss.getD at_ (0, 0)) ((cut ss fr tt).getD i (0, 0)) T V ((en : Int) - tt)) hnn (tt - fr) t
  have h3' := (lg_lt (fun i => area (ss.getD at_ (0, 0)) ((cut ss fr tt).getD i (0, 0)) T V ((en : Int) - tt)) hnn (tt - fr) (by omega)).2
  rw [hbi] at h2 h3'
  rw [h3'] at h1 h2
  exact ⟨h1, h2⟩
end Go.Proofs.Ythcboomdkpiflaa

/- Sx: A symbolic run: what is known of slots and of boxes as plain data, and a condition of correctness that is reckoned from a small code; sound for the model's weakest preconditions. -/
namespace Go.Proofs.Ythcboomdkpiflaa
open Go Go.RowKit
set_option linter.unusedVariables false
set_option linter.unusedSimpArgs false
namespace Sx
/-- A value, or a pointer into the box k. -/
inductive SV where
  | v (x : Value)
  | p (k off : Nat)
def SV.val (A : Nat → Nat) : SV → Value
  | .v x => x
  | .p k off => .pointer (some ⟨A k, off, none⟩)
/-- The names of boxes in it are less than this. -/
def SV.nm : SV → Nat
  | .v _ => 0
  | .p k _ => k + 1
def gt {α : Type} : List (Nat × α) → Nat → Option α
  | [], _ => none
  | (k, v) :: l, j => if k = j then some v else gt l j
def pt {α : Type} : List (Nat × α) → Nat → α → List (Nat × α)
  | [], j, v => [(j, v)]
  | (k, u) :: l, j, v => if k = j then (j, v) :: l else (k, u) :: pt l j v
theorem gt_pt {α : Type} (j : Nat) (v : α) (i : Nat) : ∀ l : List (Nat × α), gt (pt l j v) i = if j = i then some v else gt l i
  | [] => rfl
  | (k, u) :: l => by
    unfold pt
    by_cases h : k = j
    · subst h
      rw [if_pos rfl]
      unfold gt
      by_cases h2 : k = i
      · simp [h2]
      · simp [h2]
    · rw [if_neg h]
      unfold gt
      rw [gt_pt j v i l]
      by_cases h2 : k = i
      · subst h2
        simp [Ne.symm h]
      · simp [h2]
/-- Only these slots. -/
def kpE {α : Type} (l : List (Nat × α)) : List Nat → List (Nat × α)
  | [] => []
  | t :: ts => kpA t (gt l t) (kpE l ts)
where kpA (t : Nat) : Option α → List (Nat × α) → List (Nat × α)
  | some v, r => (t, v) :: r
  | none, r => r
theorem gt_kpE {α : Type} {l : List (Nat × α)} {i : Nat} {v : α} : ∀ {ts : List Nat}, gt (kpE l ts) i = some v → gt l i = some v
  | [], h => by cases h
  | t :: ts, h => by
    unfold kpE at h
    cases ht : gt l t with
    | none => rw [ht] at h; exact gt_kpE h
    | some u =>
      rw [ht] at h
      unfold kpE.kpA at h
      unfold gt at h
      by_cases e : t = i
      · subst e
        rw [if_pos rfl] at h
        rw [ht, h]
      · rw [if_neg e] at h
        exact gt_kpE h
/-- The boxes that slots point into. -/
def nms : List (Nat × SV) → List Nat
  | [] => []
  | (_, .v _) :: l => nms l
  | (_, .p k _) :: l => k :: nms l
def elb (k : Nat) : List Nat → Bool
  | [] => false
  | j :: l => if j = k then true else elb k l
def kpH (ns : List Nat) : List (Nat × List Value) → List (Nat × List Value)
  | [] => []
  | (k, cs) :: l => if elb k ns then (k, cs) :: kpH ns l else kpH ns l
theorem gt_kpH {ns : List Nat} {k : Nat} {cs : List Value} : ∀ {l : List (Nat × List Value)}, gt (kpH ns l) k = some cs → gt l k = some cs
  | [], h => by cases h
  | (j, ds) :: l, h => by
    unfold kpH at h
    by_cases e : j = k
    · subst e
      by_cases hj : elb j ns = true
      · rw [if_pos hj] at h
        unfold gt at h ⊢
        rw [if_pos rfl] at h ⊢
        exact h
      · rw [if_neg hj] at h
        have no : ∀ l : List (Nat × List Value), gt (kpH ns l) j = none := fun l => by
          induction l with
          | nil => rfl
          | cons x l ih =>
            obtain ⟨i, es⟩ := x
            unfold kpH
            by_cases hi : elb i ns = true
            · rw [if_pos hi]
              unfold gt
              rw [if_neg (fun e => by subst e; exact hj hi)]
              exact ih
            · rw [if_neg hi]; exact ih
        rw [no] at h; cases h
    · by_cases hj : elb j ns = true
      · rw [if_pos hj] at h
        unfold gt at h ⊢
        rw [if_neg e] at h ⊢
        exact gt_kpH h
      · rw [if_neg hj] at h
        unfold gt
        rw [if_neg e]
        exact gt_kpH h
/-- What is known of other blocks: these blocks, and what holds of the world. -/
structure Ext where
  bs : List Nat
  ok : World → Prop
def ext0 : Ext := ⟨[], fun _ => True⟩
/-- What is known: names of boxes are less than n; slots; boxes. -/
structure St where
  n : Nat
  E : List (Nat × SV)
  H : List (Nat × List Value)
  T : Ext
structure Cx where
  P : Program
  w0 : World
  N : Nat
  fr : Option (Ext × List Nat)
/-- fr: in a region that draws its order, what known operations may lean on, and which blocks awaited calls may change. -/
abbrev cx (P : Program) (w0 : World) (N : Nat) : Cx := ⟨P, w0, N, none⟩
def St.put (S : St) (d : Option Nat) (x : SV) : St :=
  match d with
  | some t => ⟨S.n, pt S.E t x, S.H, S.T⟩
  | none => S
def St.ev (S : St) : Operand → Option SV
  | .tmp t => gt S.E t
  | .const v => some (.v v)
  | .global g => some (.v (.pointer (some ⟨g, 0, none⟩)))
  | .func f => some (.v (.func (.func f) #[] #[]))
def St.keep (S : St) : Option (List Nat) → St
  | some ts => keepB S.n (kpE S.E ts) S.H S.T
  | none => S
where keepB (n : Nat) (E : List (Nat × SV)) (H : List (Nat × List Value)) (T : Ext) : St := ⟨n, E, kpH (nms E) H, T⟩
/-- It holds on, where its blocks and the old ones stay as they are. -/
def Stab (C : Cx) (X : Ext) : Prop := ∀ W W' : World, W'.os = W.os → W'.tape = W.tape → W'.output = W.output → W.heap.size ≤ W'.heap.size →
  (∀ i, i < W.heap.size → (i ∈ X.bs ∨ i < C.w0.heap.size) → W'.heap[i]? = W.heap[i]?) → X.ok W → X.ok W'
theorem stab0 (C : Cx) : Stab C ext0 := fun _ _ _ _ _ _ _ _ => trivial
structure HpOk (C : Cx) (A : Nat → Nat) (S : St) (W : World) : Prop where
  bl : Below C.w0.heap.size C.w0 W
  hb : ∀ k cs, gt S.H k = some cs → HB W (A k) cs.toArray
  ge : ∀ k cs, gt S.H k = some cs → C.w0.heap.size ≤ A k
  kn : ∀ k cs, gt S.H k = some cs → k < S.n
  inj : ∀ k k' cs cs', gt S.H k = some cs → gt S.H k' = some cs' → A k = A k' → k = k'
  tk : S.T.ok W
  ts : Stab C S.T
  tn : ∀ k cs, gt S.H k = some cs → A k ∉ S.T.bs
  tb : ∀ b ∈ S.T.bs, C.w0.heap.size ≤ b ∧ b < W.heap.size
structure SlOk (C : Cx) (A : Nat → Nat) (S : St) (a : Act) : Prop where
  df : a.defers = []
  sz : a.tmps.size = C.N
  sl : ∀ t x, gt S.E t = some x → a.eval (.tmp t) = x.val A
  nm : ∀ t x, gt S.E t = some x → x.nm ≤ S.n
def Ok (C : Cx) (A : Nat → Nat) (S : St) (a : Act) (W : World) : Prop := SlOk C A S a ∧ HpOk C A S W
theorem SlOk.ev {C : Cx} {A : Nat → Nat} {S : St} {a : Act} (h : SlOk C A S a) {x : Operand} {v : SV} (e : S.ev x = some v) : a.eval x = v.val A := by
  cases x with
  | tmp t => exact h.sl t v e
  | const u => cases e; rfl
  | global g => cases e; rfl
  | func f => cases e; rfl
theorem SlOk.evn {C : Cx} {A : Nat → Nat} {S : St} {a : Act} (h : SlOk C A S a) {x : Operand} {v : SV} (e : S.ev x = some v) : v.nm ≤ S.n := by
  cases x with
  | tmp t => exact h.nm t v e
  | const u => cases e; exact Nat.zero_le _
  | global g => cases e; exact Nat.zero_le _
  | func f => cases e; exact Nat.zero_le _
theorem eval_put {a : Act} {d : Nat} {v : Value} (hd : d < a.tmps.size) (t : Nat) : (a.put (some d) v).eval (.tmp t) = if d = t then v else a.eval (.tmp t) := by
  show (a.tmps.setIfInBounds d v).getD t undef = if d = t then v else a.tmps.getD t undef
  by_cases h : d = t
  · subst h
    simp [hd]
  · simp [h]
theorem SlOk.put {C : Cx} {A : Nat → Nat} {S : St} {a : Act} (h : SlOk C A S a) {d : Option Nat} {x : SV} (hx : x.nm ≤ S.n) (hd : ∀ t, d = some t → t < C.N) : SlOk C A (S.put d x) (a.put d (x.val A)) := by
  cases d with
  | none => exact h
  | some d =>
    refine ⟨h.df, ?_, fun t y hy => ?_, fun t y hy => ?_⟩
    · show (a.tmps.setIfInBounds d _).size = _
      rw [Array.size_setIfInBounds]; exact h.sz
    · rw [eval_put (by rw [h.sz]; exact hd d rfl)]
      have hy' : gt (pt S.E d x) t = some y := hy
      rw [gt_pt] at hy'
      by_cases e : d = t
      · rw [if_pos e] at hy' ⊢
        cases hy'; rfl
      · rw [if_neg e] at hy' ⊢
        exact h.sl t y hy'
    · have hy' : gt (pt S.E d x) t = some y := hy
      show y.nm ≤ S.n
      rw [gt_pt] at hy'
      by_cases e : d = t
      · rw [if_pos e] at hy'
        cases hy'; exact hx
      · rw [if_neg e] at hy'
        exact h.nm t y hy'
theorem HpOk.put {C : Cx} {A : Nat → Nat} {S : St} {W : World} (h : HpOk C A S W) (d : Option Nat) (x : SV) : HpOk C A (S.put d x) W := by
  cases d <;> exact ⟨h.bl, h.hb, h.ge, h.kn, h.inj, h.tk, h.ts, h.tn, h.tb⟩
theorem SlOk.keep {C : Cx} {A : Nat → Nat} {S : St} {a : Act} (h : SlOk C A S a) (ts : Option (List Nat)) : SlOk C A (S.keep ts) a := by
  cases ts with
  | none => exact h
  | some ts => exact ⟨h.df, h.sz, fun t x hx => h.sl t x (gt_kpE hx), fun t x hx => h.nm t x (gt_kpE hx)⟩
theorem HpOk.keep {C : Cx} {A : Nat → Nat} {S : St} {W : World} (h : HpOk C A S W) (ts : Option (List Nat)) : HpOk C A (S.keep ts) W := by
  cases ts with
  | none => exact h
  | some ts => exact ⟨h.bl, fun k cs e => h.hb k cs (gt_kpH e), fun k cs e => h.ge k cs (gt_kpH e), fun k cs e => h.kn k cs (gt_kpH e), fun k k' cs cs' e e' => h.inj k k' cs cs' (gt_kpH e) (gt_kpH e'), h.tk, h.ts, fun k cs e => h.tn k cs (gt_kpH e), h.tb⟩
theorem HpOk.grow {C : Cx} {A : Nat → Nat} {S : St} {W W' : World} (h : HpOk C A S W) (g : W.grownBy W' none) : HpOk C A S W' :=
  ⟨below_more h.bl (below_gt g), fun k cs hk => (h.hb k cs hk).below (below_gt g), h.ge, h.kn, h.inj, h.ts W W' g.os g.tape g.output g.size (fun i hi _ => g.block i hi (by simp)) h.tk, h.ts, h.tn, fun b hb => ⟨(h.tb b hb).1, Nat.lt_of_lt_of_le (h.tb b hb).2 g.size⟩⟩
theorem HpOk.drew {C : Cx} {A : Nat → Nat} {S : St} {W : World} (h : HpOk C A S W) : HpOk C A S W.drew :=
  ⟨h.bl.drew, fun k cs hk => (h.hb k cs hk).drew, h.ge, h.kn, h.inj, h.ts W W.drew rfl rfl rfl (Nat.le_refl _) (fun _ _ _ => rfl) h.tk, h.ts, h.tn, h.tb⟩
/-- A new box. -/
def St.new (S : St) (d : Option Nat) (zs : List Value) : St := St.put ⟨S.n + 1, S.E, (S.n, zs) :: S.H, S.T⟩ d (.p S.n 0)
def upA (A : Nat → Nat) (n b : Nat) : Nat → Nat := fun i => if i = n then b else A i
theorem val_up {A : Nat → Nat} {n b : Nat} {x : SV} (h : x.nm ≤ n) : x.val (upA A n b) = x.val A := by
  cases x with
  | v _ => rfl
  | p k off =>
    have hk : k ≠ n := by have : k + 1 ≤ n := h; omega
    show Value.pointer (some ⟨if k = n then b else A k, off, none⟩) = _
    rw [if_neg hk]; rfl
theorem Ok.new {C : Cx} {A : Nat → Nat} {S : St} {a : Act} {W W' : World} {b : Nat} {zs : List Value} {d : Option Nat} (h : Ok C A S a W) (hd : ∀ t, d = some t → t < C.N)
    (hb : HB W' b zs.toArray) (hn : C.w0.heap.size ≤ b) (hne : ∀ k cs, gt S.H k = some cs → A k ≠ b) (hbt : b ∉ S.T.bs) (hbl : Below W.heap.size W W') :
    Ok C (upA A S.n b) (S.new d zs) (a.put d (.pointer (some ⟨b, 0, none⟩))) W' := by
  obtain ⟨h1, h2⟩ := h
  have hup : upA A S.n b S.n = b := by unfold upA; rw [if_pos rfl]
  have hlt : ∀ k, k < S.n → upA A S.n b k = A k := fun k hk => by unfold upA; rw [if_neg (by omega)]
  have hcs : ∀ k cs, gt ((S.n, zs) :: S.H) k = some cs → (k = S.n ∧ cs = zs) ∨ (k < S.n ∧ gt S.H k = some cs) := fun k cs hk => by
    unfold gt at hk
    by_cases e : S.n = k
    · rw [if_pos e] at hk; cases hk; exact .inl ⟨e.symm, rfl⟩
    · rw [if_neg e] at hk; exact .inr ⟨h2.kn k cs hk, hk⟩
  have base : SlOk C (upA A S.n b) ⟨S.n + 1, S.E, (S.n, zs) :: S.H, S.T⟩ a :=
    ⟨h1.df, h1.sz, fun t x hx => by rw [h1.sl t x hx, val_up (h1.nm t x hx)], fun t x hx => Nat.le_succ_of_le (h1.nm t x hx)⟩
  refine ⟨?_, ?_⟩
  · have := base.put (d := d) (x := .p S.n 0) (Nat.le_refl _) hd
    rw [show (SV.p S.n 0).val (upA A S.n b) = .pointer (some ⟨b, 0, none⟩) by show Value.pointer (some ⟨upA A S.n b S.n, 0, none⟩) = _; rw [hup]] at this
    exact this
  · refine HpOk.put (S := ⟨S.n + 1, S.E, (S.n, zs) :: S.H, S.T⟩) ⟨below_more h2.bl hbl, fun k cs hk => ?_, fun k cs hk => ?_, fun k cs hk => ?_, fun k k' cs cs' hk hk' e => ?_, h2.ts W W' hbl.os hbl.tape hbl.output hbl.size (fun i hi _ => hbl.block i hi) h2.tk, h2.ts, fun k cs hk => ?_, fun b hb => ⟨(h2.tb b hb).1, Nat.lt_of_lt_of_le (h2.tb b hb).2 hbl.size⟩⟩ _ _
    rotate_right
    · rcases hcs k cs hk with ⟨rfl, rfl⟩ | ⟨hl, hk⟩
      · rw [hup]; exact hbt
      · rw [hlt k hl]; exact h2.tn k cs hk
    · rcases hcs k cs hk with ⟨rfl, rfl⟩ | ⟨hl, hk⟩
      · rw [hup]; exact hb
      · rw [hlt k hl]; exact (h2.hb k cs hk).below hbl
    · rcases hcs k cs hk with ⟨rfl, rfl⟩ | ⟨hl, hk⟩
      · rw [hup]; exact hn
      · rw [hlt k hl]; exact h2.ge k cs hk
    · rcases hcs k cs hk with ⟨rfl, rfl⟩ | ⟨hl, hk⟩
      · exact Nat.lt_succ_self _
      · exact Nat.lt_succ_of_lt hl
    · rcases hcs k cs hk with ⟨rfl, rfl⟩ | ⟨hl, hk2⟩ <;> rcases hcs k' cs' hk' with ⟨rfl, rfl⟩ | ⟨hl', hk2'⟩
      · rfl
      · rw [hup, hlt k' hl'] at e
        exact absurd e.symm (hne k' cs' hk2')
      · rw [hup, hlt k hl] at e
        exact absurd e (hne k cs hk2)
      · rw [hlt k hl, hlt k' hl'] at e
        exact h2.inj k k' cs cs' hk2 hk2' e
theorem HpOk.set {C : Cx} {A : Nat → Nat} {S : St} {W : World} {k o : Nat} {cs : List Value} {v : Value} (h : HpOk C A S W) (hk : gt S.H k = some cs) :
    HpOk C A ⟨S.n, S.E, pt S.H k (cs.set o v), S.T⟩ (W.setCell ⟨A k, o, none⟩ v) := by
  have hcs : ∀ j ds, gt (pt S.H k (cs.set o v)) j = some ds → (j = k ∧ ds = cs.set o v) ∨ (j ≠ k ∧ gt S.H j = some ds) := fun j ds hj => by
    rw [gt_pt] at hj
    by_cases e : k = j
    · rw [if_pos e] at hj; cases hj; exact .inl ⟨e.symm, rfl⟩
    · rw [if_neg e] at hj; exact .inr ⟨fun e' => e e'.symm, hj⟩
  refine ⟨h.bl.setCell (h.ge k cs hk) v, fun j ds hj => ?_, fun j ds hj => ?_, fun j ds hj => ?_, fun i j ds ds' hi hj e => ?_, ?_, h.ts, fun j ds hj => ?_, fun b hb => ⟨(h.tb b hb).1, by rw [World.size_setCell]; exact (h.tb b hb).2⟩⟩
  rotate_right 2
  · refine h.ts W _ rfl rfl rfl (by rw [World.size_setCell]; exact Nat.le_refl _) (fun i hi hor => ?_) h.tk
    refine Below.heap_setCell W _ v i (fun e => ?_)
    have e' : i = A k := e
    rcases hor with hor | hor
    · exact h.tn k cs hk (e' ▸ hor)
    · have := h.ge k cs hk; omega
  · rcases hcs j ds hj with ⟨rfl, rfl⟩ | ⟨hne, hj⟩
    · exact h.tn j cs hk
    · exact h.tn j ds hj
  · rcases hcs j ds hj with ⟨rfl, rfl⟩ | ⟨hne, hj⟩
    · exact (h.hb j cs hk).set (by simp)
    · exact (h.hb j ds hj).setne (fun e => hne (h.inj j k ds cs hj hk e))
  · rcases hcs j ds hj with ⟨rfl, rfl⟩ | ⟨hne, hj⟩
    · exact h.ge j cs hk
    · exact h.ge j ds hj
  · rcases hcs j ds hj with ⟨rfl, rfl⟩ | ⟨hne, hj⟩
    · exact h.kn j cs hk
    · exact h.kn j ds hj
  · have hi' : ∃ es, gt S.H i = some es := by rcases hcs i ds hi with ⟨rfl, rfl⟩ | ⟨_, hi⟩; exact ⟨cs, hk⟩; exact ⟨ds, hi⟩
    have hj' : ∃ es, gt S.H j = some es := by rcases hcs j ds' hj with ⟨rfl, rfl⟩ | ⟨_, hj⟩; exact ⟨cs, hk⟩; exact ⟨ds', hj⟩
    obtain ⟨e1, h1⟩ := hi'
    obtain ⟨e2, h2⟩ := hj'
    exact h.inj i j e1 e2 h1 h2 e
end Sx
end Go.Proofs.Ythcboomdkpiflaa

/- SxO: A symbolic run: small operations, what they leave, and that the model's operations do that. -/
namespace Go.Proofs.Ythcboomdkpiflaa
open Go Go.RowKit
set_option linter.unusedVariables false
set_option linter.unusedSimpArgs false
namespace Sx
/-- Operations that are met by hand. -/
inductive GK where
  | bi (b : Builtin) (ts : List TypeId) (ty : TypeId) (cs : List Bool)
  | sl (t : TypeId) (lo hi mx : Bool)
  | mks (t : TypeId)
  | bsl (t : TypeId) (n : Nat) (ix : List Nat)
  | s2a (t : TypeId)
  | cvt (t u : TypeId)
  | al (t : TypeId)
  | fv
inductive M where
  | mv (x : Operand)
  | pick (c a b : Operand)
  | new (zs : List Value)
  | box (g : Bool) (m : Nat) (x : Operand)
  | ld (g : Bool) (m : Nat) (x : Operand)
  | st (g : Bool) (m : Nat) (x y : Operand)
  | fa (off : Nat) (x : Operand)
  | ia (len sz : Nat) (x i : Operand)
  | is (sz : Nat) (x i : Operand)
  | fd (g : Bool) (m off : Nat) (x : Operand)
  | ix (len : Nat) (g : Bool) (m : Nat) (x i : Operand)
  | bin (op : BinOp) (x y : Operand)
  | bq (ng : Bool) (x y : Operand)
  | eqg (ng : Bool) (t : TypeId) (x y : Operand)
  | un (op : UnOp) (x : Operand)
  | cv (k : IntKind) (x : Operand)
  | ex (x : Operand) (i : Nat)
  | len (str : Bool) (x : Operand)
  | mm (mx : Bool) (x y : Operand)
  | call (b : Bool) (f : FuncId) (args : List Operand)
  | trap
  | bd (zs : List Value) (ps : List (Nat × Nat × Operand))
  | gen (b : Bool) (k : GK) (args : List Operand)
  | nc (x : Operand)
/-- Where its result goes, what it waits for, what it does. -/
abbrev G := Option Nat × Option (Nat × Bool) × M
def szOf (P : Program) (t : TypeId) : Option Nat := (P.info? t).map (·.size)
def agOf (P : Program) (t : TypeId) : Option Bool := match P.underlying t with | some (.struct _) => some true | some (.array _ _) => some true | some _ => some false | none => none
def gmOf (P : Program) (t : TypeId) : Option (Bool × Nat) := match agOf P t, szOf P t with
  | some true, some m => some (true, m)
  | some false, some 1 => some (false, 1)
  | _, _ => none
theorem gmOf_spec {P : Program} {t : TypeId} {g : Bool} {m : Nat} (h : gmOf P t = some (g, m)) : agOf P t = some g ∧ szOf P t = some m ∧ (g = false → m = 1) := by
  unfold gmOf at h
  cases hg : agOf P t with
  | none => rw [hg] at h; cases h
  | some g' =>
    rw [hg] at h
    cases hm : szOf P t with
    | none => rw [hm] at h; cases g' <;> cases h
    | some m' =>
      rw [hm] at h
      cases g' with
      | true => cases h; exact ⟨rfl, rfl, fun e => by cases e⟩
      | false =>
        rcases m' with _ | _ | m'
        · cases h
        · cases h; exact ⟨rfl, rfl, fun _ => rfl⟩
        · cases h
def plOf (P : Program) : List Field → Option (List (Nat × Nat))
  | [] => some []
  | f :: l => match szOf P f.type, plOf P l with
    | some m, some r => some ((f.offset, m) :: r)
    | _, _ => none
def ptsOf (place : Nat → Option (Nat × Nat)) : List (Nat × Operand) → Option (List (Nat × Nat × Operand))
  | [] => some []
  | (i, x) :: l => match place i, ptsOf place l with
    | some (o, m), some r => some ((o, m, x) :: r)
    | _, _ => none
def compBd (P : Program) (t : TypeId) (parts : List (Nat × Operand)) : Option M :=
  match P.info? t with
  | some i => match i.zero with
    | some z => match P.underlying t with
      | some (.struct fs) => match plOf P fs.toList with
        | some pl => match ptsOf (pl[·]?) parts with
          | some ps => some (.bd z.cells.toList ps)
          | none => none
        | none => none
      | some (.array _ e) => match szOf P e with
        | some m => match ptsOf (fun i => some (i * m, m)) parts with
          | some ps => some (.bd z.cells.toList ps)
          | none => none
        | none => none
      | _ => none
    | none => none
  | none => none
/-- A struct that holds a slice: its variables are known as blocks, not as boxes. -/
def pubT (P : Program) (t : TypeId) : Bool := match P.underlying t with
  | some (.struct fs) => fs.toList.any fun f => match P.underlying f.type with | some (.slice _) => true | _ => false
  | _ => false
def compOp (P : Program) (b : Bool) : Op → Option M
  | .move x => some (.mv x)
  | .assign x => some (.mv x)
  | .pick c x y => some (.pick c x y)
  | .nilCheck x => some (.nc x)
  | .alloc t => if pubT P t = true then none else match P.info? t with
    | some i => match i.zero with
      | some z => some (.new z.cells.toList)
      | none => none
    | none => none
  | .box t x => match gmOf P t with
    | some (g, m) => some (.box g m x)
    | none => none
  | .load t x => match gmOf P t with
    | some (g, m) => some (.ld g m x)
    | none => none
  | .store t x y => match gmOf P t with
    | some (g, m) => some (.st g m x y)
    | none => none
  | .fieldAddr t x f => match P.underlying t with
    | some (.struct fs) => match fs[f]? with
      | some fl => match szOf P fl.type with
        | some (m + 1) => some (.fa fl.offset x)
        | _ => none
      | none => none
    | _ => none
  | .indexAddr t x i => match P.underlying t with
    | some (.array len e) => match szOf P e with | some sz => if 1 < len then some (.ia len sz x i) else none | none => none
    | some (.slice e) => match szOf P e with | some sz => some (.is sz x i) | none => none
    | _ => none
  | .build t parts => compBd P t parts.toList
  | .field t x f => match P.underlying t with
    | some (.struct fs) => match fs[f]? with
      | some fl => match gmOf P fl.type with
        | some (g, m) => some (.fd g m fl.offset x)
        | none => none
      | none => none
    | _ => none
  | .index t x i => match P.underlying t with
    | some (.array len e) => match gmOf P e with
      | some (g, sz) => some (.ix len g sz x i)
      | none => none
    | _ => none
  | .binOp .eql t x y _ => match P.underlying t with
    | some .bool => some (.bq false x y)
    | some (.int _) => some (.bin .eql x y)
    | some _ => some (.eqg false t x y)
    | none => none
  | .binOp .neq t x y _ => match P.underlying t with
    | some .bool => some (.bq true x y)
    | some (.int _) => some (.bin .neq x y)
    | some _ => some (.eqg true t x y)
    | none => none
  | .binOp op _ x y _ => some (.bin op x y)
  | .unOp op _ x => some (.un op x)
  | .convert s d x => match P.underlying s, P.underlying d with
    | some (.int _), some (.int k) => some (.cv k x)
    | _, _ => none
  | .extract x i => some (.ex x i)
  | .call ⟨.value (.func f), args, _⟩ => some (.call b f args.toList)
  | .call ⟨.builtin .len, args, ts⟩ => match args.toList, ts[0]? with
    | [x], some t => match P.underlying t with
      | some (.slice _) => some (.len false x)
      | some .string => some (.len true x)
      | _ => none
    | _, _ => none
  | .call ⟨.builtin .min, args, _⟩ => match args.toList with | [x, y] => some (.mm false x y) | _ => none
  | .call ⟨.builtin .max, args, _⟩ => match args.toList with | [x, y] => some (.mm true x y) | _ => none
  | _ => none
def isC : Operand → Bool
  | .const _ => true
  | _ => false
def compGen (b : Bool) (o : Oper) : Option M :=
  match o.op with
  | .call ⟨.builtin bb, args, ts⟩ => some (.gen b (.bi bb ts.toList o.type (args.toList.map isC)) args.toList)
  | .call ⟨.value x, args, _⟩ => some (.gen b .fv (x :: args.toList))
  | .slice t x lo hi mx => some (.gen b (.sl t lo.isSome hi.isSome mx.isSome) (x :: (lo.toList ++ (hi.toList ++ mx.toList))))
  | .makeSlice t l c => some (.gen b (.mks t) [l, c])
  | .buildSlice t n parts => some (.gen b (.bsl t n (parts.toList.map (·.1))) (parts.toList.map (·.2)))
  | .sliceToArrayPointer t x => some (.gen b (.s2a t) [x])
  | .convert t u x => some (.gen b (.cvt t u) [x])
  | .alloc t => some (.gen b (.al t) [])
  | _ => none
def one? : Bool → List Value → Option Value × List Value
  | true, v :: l => (some v, l)
  | _, l => (none, l)
def genRun : GK → List Value → Sem Next
  | .bi b ts ty cs, vs => builtin b ts.toArray ty cs.toArray vs.toArray
  | .sl t lo hi mx, x :: vs => do pure (Next.value (← Instr.sliceAt t x (one? lo vs).1 (one? hi (one? lo vs).2).1 (one? mx (one? hi (one? lo vs).2).2).1))
  | .mks t, [l, c] => do pure (Next.value (← Instr.makeSlice t l c))
  | .bsl t n ix, vs => do pure (Next.value (← Instr.buildSlice t n (ix.zip vs).toArray))
  | .s2a t, [x] => do pure (Next.value (← Instr.arrayAt t x))
  | .cvt t u, [x] => do pure (Next.value (← convert t u x))
  | .al t, [] => do pure (Next.value (← Instr.alloc t true (.tuple #[])))
  | .fv, f :: vs => do let d ← Deferred.ofValue f vs.toArray; invoke d.target d.args
  | _, _ => stuck ""
theorem gen_run {b b' : Bool} {o : Oper} {k : GK} {l : List Operand} (h : compGen b o = some (.gen b' k l)) (ρ : Operand → Value) : b' = b ∧ execOp ρ o = genRun k (l.map ρ) := by
  unfold compGen at h
  split at h
  · rename_i bb args ts ho
    cases h
    refine ⟨rfl, ?_⟩
    unfold execOp
    rw [ho]
    show (do let d ← resolve ρ ⟨.builtin bb, args, ts⟩ o.type; invoke d.target d.args) = builtin bb ts.toList.toArray o.type (args.toList.map isC).toArray (args.toList.map ρ).toArray
    have e1 : ts.toList.toArray = ts := by simp
    have e2 : (args.toList.map ρ).toArray = args.map ρ := by cases args; simp
    have e3 : (args.toList.map isC).toArray = args.map (fun | .const _ => true | _ => false) := by
      cases args with | mk l => (simp [isC]; try (intro x _; cases x <;> rfl))
    rw [e1, e2, e3]
    rfl
  · rename_i x args ts ho
    cases h
    refine ⟨rfl, ?_⟩
    unfold execOp
    rw [ho]
    show (do let d ← Deferred.ofValue (ρ x) (args.map ρ); invoke d.target d.args) = (do let d ← Deferred.ofValue (ρ x) (args.toList.map ρ).toArray; invoke d.target d.args)
    have e2 : (args.toList.map ρ).toArray = args.map ρ := by cases args; simp
    rw [e2]
  · rename_i t x lo hi mx ho
    cases h
    refine ⟨rfl, ?_⟩
    unfold execOp
    rw [ho]
    cases lo <;> cases hi <;> cases mx <;> rfl
  · rename_i t p c ho
    cases h
    refine ⟨rfl, ?_⟩
    unfold execOp
    rw [ho]
    rfl
  · rename_i t n parts ho
    cases h
    refine ⟨rfl, ?_⟩
    unfold execOp
    rw [ho]
    show (do pure (Next.value (← Instr.buildSlice t n (parts.map fun (i, x) => (i, ρ x))))) = (do pure (Next.value (← Instr.buildSlice t n ((parts.toList.map (·.1)).zip ((parts.toList.map (·.2)).map ρ)).toArray)))
    have e : ((parts.toList.map (·.1)).zip ((parts.toList.map (·.2)).map ρ)).toArray = parts.map fun (x : Nat × Operand) => (x.1, ρ x.2) := by
      clear ho
      cases parts with | mk l =>
      simp only [List.map_toArray]
      congr 1
      induction l with
      | nil => rfl
      | cons y l ih => simpa using ih
    rw [e]
  · rename_i t x ho
    cases h
    refine ⟨rfl, ?_⟩
    unfold execOp
    rw [ho]
    rfl
  · rename_i t u x ho
    cases h
    refine ⟨rfl, ?_⟩
    unfold execOp
    rw [ho]
    rfl
  · rename_i t ho
    cases h
    refine ⟨rfl, ?_⟩
    unfold execOp
    rw [ho]
    rfl
  · cases h
def sub : List Value → Nat → Nat → Option (List Value)
  | _, 0, 0 => some []
  | [], _, _ => none
  | v :: l, 0, m + 1 => subc v (sub l 0 m)
  | _ :: l, o + 1, m => sub l o m
where subc (v : Value) : Option (List Value) → Option (List Value)
  | some l => some (v :: l)
  | none => none
theorem sub_get : ∀ {cs : List Value} {o m : Nat} {l : List Value}, sub cs o m = some l → l.length = m ∧ ∀ j, j < m → l[j]? = cs[o + j]?
  | cs, 0, 0, l, h => by
    have : l = [] := by cases cs <;> (unfold sub at h; cases h; rfl)
    subst this
    exact ⟨rfl, fun j hj => absurd hj (Nat.not_lt_zero _)⟩
  | [], 0, m + 1, l, h => by unfold sub at h; cases h
  | [], o + 1, m, l, h => by unfold sub at h; cases h
  | v :: cs, 0, m + 1, l, h => by
    unfold sub at h
    cases hs : sub cs 0 m with
    | none => rw [hs] at h; cases h
    | some l' =>
      rw [hs] at h
      cases h
      obtain ⟨h1, h2⟩ := sub_get hs
      refine ⟨by simp [h1], fun j hj => ?_⟩
      rcases j with _ | j
      · simp
      · have := h2 j (by omega)
        simp only [List.getElem?_cons_succ, Nat.zero_add] at this ⊢
        exact this
  | v :: cs, o + 1, m, l, h => by
    unfold sub at h
    obtain ⟨h1, h2⟩ := sub_get h
    refine ⟨h1, fun j hj => ?_⟩
    rw [h2 j hj, show o + 1 + j = (o + j) + 1 by omega, List.getElem?_cons_succ]
def mk : Bool → List Value → Value
  | true, l => .agg l.toArray
  | false, [v] => v
  | false, _ => undef
/-- The value of one cell. -/
def one : Value → Bool
  | .agg _ => false
  | .tuple _ => false
  | _ => true
def all1 : List Value → Bool
  | [] => true
  | v :: l => one v && all1 l
def cellsO : Bool → Option SV → Option (List Value)
  | true, some (.v (.agg cs)) => some cs.toList
  | false, some (.v x) => if one x then some [x] else none
  | _, _ => none
def binV (op : BinOp) (k : IntKind) (x y : Int) : Option (Prop × Value) :=
  match op with
  | .add => some (True, .int k (k.wrap (x + y)))
  | .sub => some (True, .int k (k.wrap (x - y)))
  | .mul => some (True, .int k (k.wrap (x * y)))
  | .quo => some (y ≠ 0, .int k (k.wrap (x.tdiv y)))
  | .rem => some (y ≠ 0, .int k (x.tmod y))
  | .and => some (True, .int k (k.wrap (BitVec.ofInt k.bits x &&& BitVec.ofInt k.bits y).toNat))
  | .or => some (True, .int k (k.wrap (BitVec.ofInt k.bits x ||| BitVec.ofInt k.bits y).toNat))
  | .xor => some (True, .int k (k.wrap (BitVec.ofInt k.bits x ^^^ BitVec.ofInt k.bits y).toNat))
  | .eql => some (True, .bool (x == y))
  | .neq => some (True, .bool (x != y))
  | .lss => some (True, .bool (decide (x < y)))
  | .leq => some (True, .bool (decide (x ≤ y)))
  | .gtr => some (True, .bool (decide (y < x)))
  | .geq => some (True, .bool (decide (y ≤ x)))
  | _ => none
def shV (op : BinOp) (k : IntKind) (x y : Int) : Option (Prop × Value) :=
  match op with
  | .shl => some (¬ y < 0, .int k (k.wrap (x * 2 ^ (min y.toNat k.bits))))
  | .shr => some (¬ y < 0, .int k (x.fdiv (2 ^ (min y.toNat k.bits))))
  | _ => none
def binS (op : BinOp) : Option SV → Option SV → Option (Prop × Value)
  | some (.v (.int k x)), some (.v (.int k' y)) => match op with
    | .shl => shV .shl k x y
    | .shr => shV .shr k x y
    | op => if k = k' then binV op k x y else none
  | some (.v (.string x)), some (.v (.string y)) => match op with
    | .add => some (¬ ((x.size + y.size : Nat) : Int) > IntKind.i64.max, .string (x ++ y))
    | .eql => some (True, .bool (x.toList == y.toList))
    | _ => none
  | _, _ => none
def bqS (ng : Bool) : Option SV → Option SV → Option (Prop × Value)
  | some (.v (.bool x)), some (.v (.bool y)) => match ng with
    | false => some (True, .bool (x == y))
    | true => some (True, .bool (!(x == y)))
  | _, _ => none
def unS (op : UnOp) : Option SV → Option (Prop × Value)
  | some (.v (.bool x)) => match op with | .not => some (True, .bool (!x)) | _ => none
  | some (.v (.int k x)) => match op with | .neg => some (True, .int k (k.wrap (0 - x))) | _ => none
  | _ => none
def cvS (k : IntKind) : Option SV → Option (Prop × Value)
  | some (.v (.int _ n)) => some (True, .int k (k.wrap n))
  | _ => none
def nth : List Value → Nat → Option Value
  | [], _ => none
  | v :: _, 0 => some v
  | _ :: l, i + 1 => nth l i
theorem nth_eq : ∀ (l : List Value) (i : Nat), nth l i = l[i]?
  | [], i => by simp [nth]
  | v :: l, 0 => by simp [nth]
  | v :: l, i + 1 => by simp [nth, nth_eq l i]
def tr : Option Value → Option (Prop × Value)
  | some v => some (True, v)
  | none => none
def exS (i : Nat) : Option SV → Option (Prop × Value)
  | some (.v (.tuple vs)) => tr (nth vs.toList i)
  | _ => none
def lenS : Bool → Option SV → Option (Prop × Value)
  | false, some (.v (.slice _ l _)) => some (True, .int .i64 l)
  | true, some (.v (.string s)) => some (True, .int .i64 s.size)
  | _, _ => none
def mmS (mx : Bool) : Option SV → Option SV → Option (Prop × Value)
  | some (.v (.int k x)), some (.v (.int _ y)) => match mx with
    | false => some (True, .int k (if y < x then y else x))
    | true => some (True, .int k (if x < y then y else x))
  | _, _ => none
def fdS (g : Bool) (m off : Nat) : Option SV → Option (Prop × Value)
  | some (.v (.agg cs)) => tr ((sub cs.toList off m).map (mk g))
  | _ => none
def ixC (len : Nat) (i : Int) : Option (List Value) → Bool → Option (Prop × Value)
  | some l, g => some (0 ≤ i ∧ i < len, mk g l)
  | none, _ => none
def ixS (len : Nat) (g : Bool) (m : Nat) : Option SV → Option SV → Option (Prop × Value)
  | some (.v (.agg cs)), some (.v (.int _ i)) => ixC len i (sub cs.toList (i.toNat * m) m) g
  | _, _ => none
def val1 : Option (Prop × Value) → Option (Prop × SV)
  | some (c, v) => some (c, .v v)
  | none => none
def sv1 : Option SV → Option (Prop × SV)
  | some x => some (True, x)
  | none => none
def pickS (a b : Option SV) : Option SV → Option (Prop × SV)
  | some (.v (.bool true)) => sv1 a
  | some (.v (.bool false)) => sv1 b
  | _ => none
def faS (off : Nat) : Option SV → Option (Prop × SV)
  | some (.p k o) => some (True, .p k (o + off))
  | some (.v (.pointer (some ⟨b, o, none⟩))) => some (True, .v (.pointer (some ⟨b, o + off, none⟩)))
  | _ => none
def ncS : Option SV → Option (Prop × SV)
  | some (.p k o) => some (True, .p k o)
  | some (.v (.pointer (some a))) => some (True, .v (.pointer (some a)))
  | _ => none
def iaS (len sz : Nat) : Option SV → Option SV → Option (Prop × SV)
  | some (.p k o), some (.v (.int _ i)) => some (0 ≤ i ∧ i < len, .p k (o + i.toNat * sz))
  | _, _ => none
def isS (sz : Nat) : Option SV → Option SV → Option (Prop × SV)
  | some (.v (.slice (some ⟨b, o, none⟩) l _)), some (.v (.int _ i)) => some (0 ≤ i ∧ i < l, .v (.pointer (some ⟨b, o + i.toNat * sz, none⟩)))
  | _, _ => none
def ovc (v : Value) : Option (List Value) → Option (List Value)
  | some l => some (v :: l)
  | none => none
def ovrO : List Value → Nat → List Value → Option (List Value)
  | cs, 0, [] => some cs
  | c :: cs, 0, v :: vs => ovc v (ovrO cs 0 vs)
  | c :: cs, o + 1, vs => ovc c (ovrO cs o vs)
  | [], _, _ => none
def lenB : List Value → Nat → Bool
  | [], 0 => true
  | _ :: l, m + 1 => lenB l m
  | _, _ => false
theorem ovrO_nil : ∀ {cs : List Value} {o : Nat} {cs' : List Value}, ovrO cs o [] = some cs' → cs' = cs
  | cs, 0, cs', h => by cases cs <;> (unfold ovrO at h; cases h; rfl)
  | [], o + 1, cs', h => by unfold ovrO at h; cases h
  | c :: cs, o + 1, cs', h => by
    unfold ovrO at h
    cases hr : ovrO cs o [] with
    | none => rw [hr] at h; cases h
    | some r => rw [hr] at h; cases h; rw [ovrO_nil hr]
theorem ovrO_cons : ∀ {cs : List Value} {o : Nat} {v : Value} {vs cs' : List Value}, ovrO cs o (v :: vs) = some cs' → o < cs.length ∧ ovrO (cs.set o v) (o + 1) vs = some cs'
  | [], o, v, vs, cs', h => by cases o <;> (unfold ovrO at h; cases h)
  | c :: cs, 0, v, vs, cs', h => by
    unfold ovrO at h
    refine ⟨Nat.zero_lt_succ _, ?_⟩
    cases hr : ovrO cs 0 vs with
    | none => rw [hr] at h; cases h
    | some r =>
      rw [hr] at h; cases h
      show ovrO (v :: cs) (0 + 1) vs = _
      unfold ovrO
      rw [hr]; rfl
  | c :: cs, o + 1, v, vs, cs', h => by
    unfold ovrO at h
    cases hr : ovrO cs o (v :: vs) with
    | none => rw [hr] at h; cases h
    | some r =>
      rw [hr] at h; cases h
      obtain ⟨h1, h2⟩ := ovrO_cons hr
      refine ⟨Nat.succ_lt_succ h1, ?_⟩
      show ovrO (c :: cs.set o v) ((o + 1) + 1) vs = _
      unfold ovrO
      rw [h2]; rfl
theorem lenB_eq : ∀ {l : List Value} {m : Nat}, lenB l m = true → l.length = m
  | [], 0, _ => rfl
  | [], m + 1, h => by cases h
  | v :: l, 0, h => by cases h
  | v :: l, m + 1, h => by rw [List.length_cons, lenB_eq (l := l) (m := m) h]
def cellsV : Option SV → Option (List Value)
  | some (.v x) => some x.cells.toList
  | _ => none
def bd2 (r : Bool) (o : Nat) (cs vs : List Value) (K : List Value → Option (List Value)) : Option (List Value) :=
  match r, ovrO cs o vs with
  | true, some cs' => K cs'
  | _, _ => none
def bd1 (m o : Nat) (cs : List Value) (K : List Value → Option (List Value)) : Option (List Value) → Option (List Value)
  | some vs => bd2 (lenB vs m) o cs vs K
  | none => none
def bdS (S : St) : List (Nat × Nat × Operand) → List Value → Option (List Value)
  | [], cs => some cs
  | (o, m, x) :: r, cs => bd1 m o cs (bdS S r) (cellsV (S.ev x))
def bdR : Option (List Value) → Option (Prop × Value)
  | some cs => some (True, .agg cs.toArray)
  | none => none
/-- What an operation that reads no memory leaves, and on what condition. -/
def pv (S : St) : M → Option (Prop × SV)
  | .mv x => sv1 (S.ev x)
  | .pick c a b => pickS (S.ev a) (S.ev b) (S.ev c)
  | .fa off x => faS off (S.ev x)
  | .nc x => ncS (S.ev x)
  | .ia len sz x i => iaS len sz (S.ev x) (S.ev i)
  | .is sz x i => isS sz (S.ev x) (S.ev i)
  | .fd g m off x => val1 (fdS g m off (S.ev x))
  | .ix len g m x i => val1 (ixS len g m (S.ev x) (S.ev i))
  | .bin op x y => val1 (binS op (S.ev x) (S.ev y))
  | .bq ng x y => val1 (bqS ng (S.ev x) (S.ev y))
  | .un op x => val1 (unS op (S.ev x))
  | .cv k x => val1 (cvS k (S.ev x))
  | .ex x i => val1 (exS i (S.ev x))
  | .len b x => val1 (lenS b (S.ev x))
  | .mm mx x y => val1 (mmS mx (S.ev x) (S.ev y))
  | .bd zs ps => val1 (bdR (bdS S ps zs))
  | _ => none
theorem run_bind_ok {α β : Type} {P : Program} {s : Sem α} {f : α → Sem β} {W W' : World} {v : α} (h : s.run P W = .ok v W') : (s >>= f).run P W = (f v).run P W' := by
  simp [go_sem, h]
theorem run_agOf {P : Program} {t : TypeId} {g : Bool} (h : agOf P t = some g) (W : World) : (isAgg t).run P W = .ok g W := by
  unfold agOf at h
  unfold isAgg underlying
  cases hu : P.underlying t with
  | none => rw [hu] at h; cases h
  | some d => rw [hu] at h; cases d <;> cases h <;> simp [go_sem, hu]
theorem run_szOf {P : Program} {t : TypeId} {m : Nat} (h : szOf P t = some m) (W : World) : (sizeOf t).run P W = .ok m W := by
  unfold szOf at h
  unfold sizeOf typeInfo
  cases hu : P.info? t with
  | none => rw [hu] at h; cases h
  | some i => rw [hu] at h; cases h; simp [go_sem, hu]
theorem run_part {P : Program} {t : TypeId} {g : Bool} {m off : Nat} {cs : Array Value} {l : List Value} (hgm : gmOf P t = some (g, m)) (h : sub cs.toList off m = some l) (W : World) :
    (part t cs off).run P W = .ok (mk g l) W := by
  obtain ⟨h1, h2⟩ := sub_get h
  obtain ⟨hg, hm, hg1⟩ := gmOf_spec hgm
  unfold part
  rw [run_bind_ok (run_agOf hg W)]
  cases g with
  | true =>
    simp only [if_true]
    rw [run_bind_ok (run_szOf hm W)]
    show Result.ok (Value.agg _) W = Result.ok (mk true l) W
    unfold mk
    congr 2
    refine Array.ext_getElem? fun i => ?_
    rw [Array.getElem?_extract]
    by_cases hi : i < m
    · have := h2 i hi
      have e : l.toArray[i]? = l[i]? := List.getElem?_toArray
      have e2 : cs.toList[off + i]? = cs[off + i]? := Array.getElem?_toList
      rw [e, this, e2]
      by_cases hc : off + i < cs.size
      · rw [if_pos (by omega)]
      · rw [if_neg (by omega), Array.getElem?_eq_none (by omega)]
    · have e : l.toArray[i]? = l[i]? := List.getElem?_toArray
      rw [if_neg (by omega), e, List.getElem?_eq_none (by omega)]
  | false =>
    have hm1 := hg1 rfl
    subst hm1
    have h0 := h2 0 (by omega)
    simp only [Bool.false_eq_true, if_false, Nat.add_zero] at h0 ⊢
    rcases l with _ | ⟨v, l⟩
    · simp at h1
    · have : l = [] := by simpa using h1
      subst this
      have h3 : cs[off]? = some v := by simpa using h0.symm
      rw [h3]
      rfl
end Sx
end Go.Proofs.Ythcboomdkpiflaa

/- SxR: A symbolic run: the model's operations without memory leave what is reckoned. -/
namespace Go.Proofs.Ythcboomdkpiflaa
open Go Go.RowKit
set_option linter.unusedVariables false
set_option linter.unusedSimpArgs false
namespace Sx
theorem run_v {P : Program} {s : Sem Value} {v : Value} {W W' : World} (h : s.run P W = .ok v W') : ((do pure (Next.value (← s))) : Sem Next).run P W = .ok (.value v) W' := run_bind_ok h
theorem run_u {P : Program} {s : Sem Unit} {W W' : World} (h : s.run P W = .ok () W') : ((do s; pure Next.skip) : Sem Next).run P W = .ok .skip W' := run_bind_ok h
theorem run_under {P : Program} {t : TypeId} {d : TypeDesc} (h : P.underlying t = some d) (W : World) : (underlying t).run P W = .ok d W := by
  unfold underlying
  simp [go_sem, h]
theorem guard_int (op : BinOp) (t : TypeId) (xo yo : Operand) (k k' : IntKind) (x y : Int) (P : Program) (W : World) : (eqGuard op t xo yo (.int k x) (.int k' y)).run P W = .ok () W := by
  unfold eqGuard
  cases op <;> rfl
theorem guard_bool (op : BinOp) (t : TypeId) (xo yo : Operand) (x y : Bool) (P : Program) (W : World) : (eqGuard op t xo yo (.bool x) (.bool y)).run P W = .ok () W := by
  unfold eqGuard
  cases op <;> rfl
theorem run_binV {op : BinOp} {k : IntKind} {x y : Int} {c : Prop} {v : Value} (h : binV op k x y = some (c, v)) (hc : c) (t : TypeId) (P : Program) (W : World) (hsh : op ≠ .shl ∧ op ≠ .shr) : (binOp op t (.int k x) (.int k y)).run P W = .ok v W := by
  unfold binV at h
  cases op
  case shl => exact absurd rfl hsh.1
  case shr => exact absurd rfl hsh.2
  case andNot => cases h
  case quo =>
    cases h
    have e : (binOp .quo t (.int k x) (.int k y)) = Op.intDiv .quo k x y := by unfold binOp; simp
    rw [e]
    unfold Op.intDiv
    rw [if_neg hc]; rfl
  case rem =>
    cases h
    have e : (binOp .rem t (.int k x) (.int k y)) = Op.intDiv .rem k x y := by unfold binOp; simp
    rw [e]
    unfold Op.intDiv
    rw [if_neg hc]; rfl
  all_goals
    cases h
    unfold binOp
    simp [Op.intArith, Op.intBits, Op.intCmp, go_sem]
theorem run_shV {op : BinOp} {k k' : IntKind} {x y : Int} {c : Prop} {v : Value} (h : shV op k x y = some (c, v)) (hc : c) (t : TypeId) (P : Program) (W : World) : (binOp op t (.int k x) (.int k' y)).run P W = .ok v W := by
  unfold shV at h
  cases op
  case shl =>
    cases h
    have e : (binOp .shl t (.int k x) (.int k' y)) = Op.shift .shl k x k' y := by unfold binOp; rfl
    rw [e]
    unfold Op.shift
    rw [if_neg hc]; rfl
  case shr =>
    cases h
    have e : (binOp .shr t (.int k x) (.int k' y)) = Op.shift .shr k x k' y := by unfold binOp; rfl
    rw [e]
    unfold Op.shift
    rw [if_neg hc]; rfl
  all_goals cases h
theorem run_binS {op : BinOp} {a b : Option SV} {c : Prop} {v : Value} (h : binS op a b = some (c, v)) (hc : c) (t : TypeId) (xo yo : Operand) (P : Program) (W : World) (A : Nat → Nat) :
    ∃ x y, a = some (.v x) ∧ b = some (.v y) ∧ ((do eqGuard op t xo yo x y; binOp op t x y) : Sem Value).run P W = .ok v W := by
  unfold binS at h
  split at h
  · rename_i k x k' y
    refine ⟨_, _, rfl, rfl, ?_⟩
    rw [run_bind_ok (guard_int op t xo yo k k' x y P W)]
    split at h
    · exact run_shV h hc t P W
    · exact run_shV h hc t P W
    · rename_i op h1 h2
      split at h
      · rename_i e
        subst e
        exact run_binV h hc t P W ⟨fun e => h1 e, fun e => h2 e⟩
      · cases h
  · rename_i x y
    refine ⟨_, _, rfl, rfl, ?_⟩
    split at h
    · cases h
      have g : (eqGuard .add t xo yo (.string x) (.string y)).run P W = .ok () W := by unfold eqGuard; rfl
      have e : binOp .add t (.string x) (.string y) = Op.stringOp .add x y := by unfold binOp; rfl
      rw [run_bind_ok g, e]
      unfold Op.stringOp
      dsimp only
      rw [if_neg hc]; rfl
    · cases h
      have g : (eqGuard .eql t xo yo (.string x) (.string y)).run P W = .ok () W := by unfold eqGuard; rfl
      have e : binOp .eql t (.string x) (.string y) = Op.stringOp .eql x y := by unfold binOp; rfl
      rw [run_bind_ok g, e]
      rfl
    · cases h
  · cases h
theorem run_bqS {ng : Bool} {a b : Option SV} {c : Prop} {v : Value} (h : bqS ng a b = some (c, v)) (t : TypeId) (xo yo : Operand) (P : Program) (W : World) (hu : P.underlying t = some .bool) :
    ∃ x y, a = some (.v x) ∧ b = some (.v y) ∧ ((do eqGuard (if ng then .neq else .eql) t xo yo x y; binOp (if ng then .neq else .eql) t x y) : Sem Value).run P W = .ok v W := by
  unfold bqS at h
  split at h
  · rename_i x y
    refine ⟨_, _, rfl, rfl, ?_⟩
    rw [run_bind_ok (guard_bool _ t xo yo x y P W)]
    have e : (Op.equal t (.bool x) (.bool y)).run P W = .ok (x == y) W := by
      unfold Op.equal Op.maxDepth
      show (Op.equalIn (9999 + 1) t _ _).run P W = _
      unfold Op.equalIn
      rw [run_bind_ok (run_under hu W)]
      rfl
    cases ng with
    | false =>
      cases h
      unfold binOp
      exact run_bind_ok e
    | true =>
      cases h
      unfold binOp
      exact run_bind_ok e
  · cases h
variable {C : Cx} {A : Nat → Nat} {S : St} {a : Act}
/-- What a value is good for. -/
def Lands (C : Cx) (A : Nat → Nat) (S : St) (a : Act) (o : Oper) (x : SV) : Prop := x.nm ≤ S.n ∧ ∀ W, (execOp a.eval o).run C.P W = .ok (.value (x.val A)) W
theorem lands_v {o : Oper} {s : Sem Value} {v : Value} (he : execOp a.eval o = (do pure (Next.value (← s)))) (h : ∀ W, s.run C.P W = .ok v W) : Lands C A S a o (.v v) :=
  ⟨Nat.zero_le _, fun W => by rw [he]; exact run_v (h W)⟩
theorem val1_some {r : Option (Prop × Value)} {c : Prop} {x : SV} (h : val1 r = some (c, x)) : ∃ v, r = some (c, v) ∧ x = .v v := by
  unfold val1 at h
  split at h
  · cases h; exact ⟨_, rfl, rfl⟩
  · cases h
theorem sv1_some {r : Option SV} {c : Prop} {x : SV} (h : sv1 r = some (c, x)) : r = some x := by
  unfold sv1 at h
  split at h
  · cases h; rfl
  · cases h
theorem tr_some {r : Option Value} {c : Prop} {v : Value} (h : tr r = some (c, v)) : r = some v := by
  unfold tr at h
  split at h
  · cases h; rfl
  · cases h
theorem lands_mv (hs : SlOk C A S a) {o : Oper} {x : Operand} {y : SV} (ho : o.op = .move x ∨ o.op = .assign x) (h : S.ev x = some y) : Lands C A S a o y := by
  refine ⟨hs.evn h, fun W => ?_⟩
  unfold execOp
  rcases ho with ho | ho <;> rw [ho] <;> (show Result.ok (Next.value (a.eval x)) W = _; rw [hs.ev h])
theorem lands_pick (hs : SlOk C A S a) {o : Oper} {c p q : Operand} {b : Bool} {y : SV} (ho : o.op = .pick c p q) (hc : S.ev c = some (.v (.bool b))) (h : S.ev (if b then p else q) = some y) : Lands C A S a o y := by
  refine ⟨hs.evn h, fun W => ?_⟩
  have e1 := hs.ev hc
  unfold execOp
  rw [ho]
  show Sem.run C.P (do pure (Next.value (if ← asBool (a.eval c) then a.eval p else a.eval q))) W = _
  rw [e1]
  rw [← hs.ev h]
  cases b <;> rfl
theorem lands_bin (hs : SlOk C A S a) {o : Oper} {op : BinOp} {t yt : TypeId} {x y : Operand} {c : Prop} {v : Value} (ho : o.op = .binOp op t x y yt) (h : binS op (S.ev x) (S.ev y) = some (c, v)) (hc : c) : Lands C A S a o (.v v) := by
  refine lands_v (s := do eqGuard op t x y (a.eval x) (a.eval y); binOp op t (a.eval x) (a.eval y)) (by unfold execOp; rw [ho]) fun W => ?_
  obtain ⟨p, q, h1, h2, h3⟩ := run_binS h hc t x y C.P W A
  rw [hs.ev h1, hs.ev h2]
  exact h3
theorem lands_bq (hs : SlOk C A S a) {o : Oper} {ng : Bool} {t yt : TypeId} {x y : Operand} {c : Prop} {v : Value} (ho : o.op = .binOp (if ng then .neq else .eql) t x y yt) (hu : C.P.underlying t = some .bool) (h : bqS ng (S.ev x) (S.ev y) = some (c, v)) : Lands C A S a o (.v v) := by
  refine lands_v (s := do eqGuard (if ng then .neq else .eql) t x y (a.eval x) (a.eval y); binOp (if ng then .neq else .eql) t (a.eval x) (a.eval y)) (by unfold execOp; rw [ho]) fun W => ?_
  obtain ⟨p, q, h1, h2, h3⟩ := run_bqS h t x y C.P W hu
  rw [hs.ev h1, hs.ev h2]
  exact h3
theorem lands_un (hs : SlOk C A S a) {o : Oper} {op : UnOp} {t : TypeId} {x : Operand} {c : Prop} {v : Value} (ho : o.op = .unOp op t x) (h : unS op (S.ev x) = some (c, v)) : Lands C A S a o (.v v) := by
  refine lands_v (s := Op.unary op (a.eval x)) (by unfold execOp; rw [ho]) fun W => ?_
  unfold unS at h
  split at h
  · rename_i b hb
    rw [hs.ev hb]
    split at h
    · cases h; rfl
    · cases h
  · rename_i k n hb
    rw [hs.ev hb]
    split at h
    · cases h; rfl
    · cases h
  · cases h
theorem lands_cv (hs : SlOk C A S a) {o : Oper} {s d : TypeId} {x : Operand} {k j : IntKind} {c : Prop} {v : Value} (ho : o.op = .convert s d x) (h1 : C.P.underlying s = some (.int j)) (h2 : C.P.underlying d = some (.int k)) (h : cvS k (S.ev x) = some (c, v)) : Lands C A S a o (.v v) := by
  refine lands_v (s := convert s d (a.eval x)) (by unfold execOp; rw [ho]) fun W => ?_
  unfold cvS at h
  split at h
  · rename_i k' n hb
    cases h
    rw [hs.ev hb]
    unfold convert
    rw [run_bind_ok (run_under h1 W), run_bind_ok (run_under h2 W)]
    rfl
  · cases h
theorem lands_ex (hs : SlOk C A S a) {o : Oper} {x : Operand} {i : Nat} {c : Prop} {v : Value} (ho : o.op = .extract x i) (h : exS i (S.ev x) = some (c, v)) : Lands C A S a o (.v v) := by
  refine lands_v (s := Instr.extract (a.eval x) i) (by unfold execOp; rw [ho]) fun W => ?_
  unfold exS at h
  split at h
  · rename_i vs hb
    have h1 := tr_some h
    rw [nth_eq] at h1
    rw [hs.ev hb]
    show (Instr.extract (.tuple vs) i).run C.P W = _
    unfold Instr.extract
    have h2 : vs[i]? = some v := by rw [← Array.getElem?_toList]; exact h1
    simp only [h2]
    rfl
  · cases h
theorem lands_nc (hs : SlOk C A S a) {o : Oper} {x : Operand} {c : Prop} {y : SV} (ho : o.op = .nilCheck x) (h : ncS (S.ev x) = some (c, y)) : Lands C A S a o y := by
  unfold ncS at h
  split at h
  · rename_i k o' hb
    cases h
    refine ⟨show k + 1 ≤ S.n from hs.evn hb, fun W => ?_⟩
    have e := hs.ev hb
    unfold execOp
    rw [ho]
    simp only [e]
    rfl
  · rename_i q hb
    cases h
    refine ⟨Nat.zero_le _, fun W => ?_⟩
    have e := hs.ev hb
    unfold execOp
    rw [ho]
    simp only [e]
    rfl
  · cases h
theorem lands_fa (hs : SlOk C A S a) {o : Oper} {x : Operand} {t : TypeId} {f m : Nat} {fs : Array Field} {fl : Field} {c : Prop} {y : SV} (ho : o.op = .fieldAddr t x f) (hu : C.P.underlying t = some (.struct fs)) (hf : fs[f]? = some fl) (hm : szOf C.P fl.type = some (m + 1))
    (h : faS fl.offset (S.ev x) = some (c, y)) : Lands C A S a o y := by
  have key : ∀ (b k : Nat) W, (Instr.fieldAt t (.pointer (some ⟨b, k, none⟩)) f).run C.P W = .ok (.pointer (some ⟨b, k + fl.offset, none⟩)) W := fun b k W => by
    unfold Instr.fieldAt
    rw [run_bind_ok (run_under hu W)]
    simp only [hf]
    show Sem.run C.P (do pure (Value.pointer (some (← fieldPlace ⟨b, k, none⟩ fl)))) W = _
    have h1 : (fieldPlace ⟨b, k, none⟩ fl).run C.P W = .ok ⟨b, k + fl.offset, none⟩ W := by
      unfold fieldPlace
      rw [run_bind_ok (run_szOf hm W), if_neg (by omega), Addr.add_lit]
      rfl
    rw [run_bind_ok h1]
    rfl
  unfold faS at h
  split at h
  · rename_i k o' hb
    cases h
    refine ⟨show k + 1 ≤ S.n from hs.evn hb, fun W => ?_⟩
    have e := hs.ev hb
    unfold execOp
    rw [ho]
    refine run_v ?_
    rw [e]
    exact key _ _ W
  · rename_i b o' hb
    cases h
    refine ⟨Nat.zero_le _, fun W => ?_⟩
    have e := hs.ev hb
    unfold execOp
    rw [ho]
    refine run_v ?_
    rw [e]
    exact key _ _ W
  · cases h
theorem lands_ia (hs : SlOk C A S a) {o : Oper} {x i : Operand} {t e : TypeId} {len sz : Nat} {c : Prop} {y : SV} (ho : o.op = .indexAddr t x i) (hu : C.P.underlying t = some (.array len e)) (hm : szOf C.P e = some sz) (hl : 1 < len)
    (h : iaS len sz (S.ev x) (S.ev i) = some (c, y)) (hc : c) : Lands C A S a o y := by
  unfold iaS at h
  split at h
  · rename_i k o' kk n hb hi
    cases h
    refine ⟨show k + 1 ≤ S.n from hs.evn hb, fun W => ?_⟩
    have e1 := hs.ev hb
    have e2 := hs.ev hi
    unfold execOp
    rw [ho]
    refine run_v ?_
    rw [e1, e2]
    show (Instr.indexAt t (.pointer (some ⟨A k, o', none⟩)) (.int kk n)).run C.P W = .ok (.pointer (some ⟨A k, o' + n.toNat * sz, none⟩)) W
    unfold Instr.indexAt
    simp [go_sem, run_under hu, run_szOf hm, hu, hc, asIntOf, Instr.sureAddr]
  · cases h
theorem lands_is (hs : SlOk C A S a) {o : Oper} {x i : Operand} {t e : TypeId} {sz : Nat} {c : Prop} {y : SV} (ho : o.op = .indexAddr t x i) (hu : C.P.underlying t = some (.slice e)) (hm : szOf C.P e = some sz)
    (h : isS sz (S.ev x) (S.ev i) = some (c, y)) (hc : c) : Lands C A S a o y := by
  unfold isS at h
  split at h
  · rename_i b o' l _ kk n hb hi
    cases h
    refine ⟨Nat.zero_le _, fun W => ?_⟩
    have e1 := hs.ev hb
    have e2 := hs.ev hi
    unfold execOp
    rw [ho]
    refine run_v ?_
    rw [e1, e2]
    show (Instr.indexAt t (.slice (some ⟨b, o', none⟩) l _) (.int kk n)).run C.P W = .ok (.pointer (some ⟨b, o' + n.toNat * sz, none⟩)) W
    unfold Instr.indexAt
    simp [go_sem, run_under hu, run_szOf hm, hu, hc, asIntOf, Instr.sureAddr]
  · cases h
theorem lands_fd (hs : SlOk C A S a) {o : Oper} {x : Operand} {t : TypeId} {f m : Nat} {g : Bool} {fs : Array Field} {fl : Field} {c : Prop} {v : Value} (ho : o.op = .field t x f) (hu : C.P.underlying t = some (.struct fs)) (hf : fs[f]? = some fl) (hm : gmOf C.P fl.type = some (g, m))
    (h : fdS g m fl.offset (S.ev x) = some (c, v)) : Lands C A S a o (.v v) := by
  refine lands_v (s := Instr.field t (a.eval x) f) (by unfold execOp; rw [ho]) fun W => ?_
  unfold fdS at h
  split at h
  · rename_i cs hb
    have h1 := tr_some h
    rw [hs.ev hb]
    show (Instr.field t (.agg cs) f).run C.P W = _
    unfold Instr.field
    rw [run_bind_ok (run_under hu W)]
    simp only [hf]
    cases hl : sub cs.toList fl.offset m with
    | none => rw [hl] at h1; cases h1
    | some l =>
      rw [hl] at h1
      cases h1
      exact (run_bind_ok (s := asAgg (.agg cs)) (v := cs) rfl).trans (run_part hm hl W)
  · cases h
theorem lands_ix (hs : SlOk C A S a) {o : Oper} {x i : Operand} {t e : TypeId} {len m : Nat} {g : Bool} {c : Prop} {v : Value} (ho : o.op = .index t x i) (hu : C.P.underlying t = some (.array len e)) (hm : gmOf C.P e = some (g, m))
    (h : ixS len g m (S.ev x) (S.ev i) = some (c, v)) (hc : c) : Lands C A S a o (.v v) := by
  refine lands_v (s := Instr.index t (a.eval x) (a.eval i)) (by unfold execOp; rw [ho]) fun W => ?_
  unfold ixS at h
  split at h
  · rename_i cs kk n hb hi
    unfold ixC at h
    split at h
    · rename_i l _ hl
      cases h
      rw [hs.ev hb, hs.ev hi]
      show (Instr.index t (.agg cs) (.int kk n)).run C.P W = _
      unfold Instr.index
      rw [run_bind_ok (s := asIntOf (.int kk n)) (v := (kk, n)) rfl]
      simp only
      rw [run_bind_ok (run_under hu W)]
      simp only [hc, and_self, if_true]
      rw [run_bind_ok (run_szOf (gmOf_spec hm).2.1 W)]
      exact run_part hm hl W
    · cases h
  · cases h
theorem run_resolve_builtin (ρ : Operand → Value) (b : Builtin) (ags : Array Operand) (ts : Array TypeId) (ty : TypeId) (P : Program) : ∃ cs, ∀ W, (resolve ρ ⟨.builtin b, ags, ts⟩ ty).run P W = .ok { target := .builtin b ts ty cs, args := ags.map ρ } W := ⟨_, fun _ => rfl⟩
theorem lands_len (hs : SlOk C A S a) {o : Oper} {x : Operand} {ts : Array TypeId} {ags : Array Operand} {t : TypeId} {b : Bool} {c : Prop} {v : Value} (ho : o.op = .call ⟨.builtin .len, ags, ts⟩) (ha : ags.toList = [x]) (ht : ts[0]? = some t)
    (hu : if b then C.P.underlying t = some .string else ∃ e, C.P.underlying t = some (.slice e)) (h : lenS b (S.ev x) = some (c, v)) : Lands C A S a o (.v v) := by
  have e : ags = #[x] := by
    cases ags with | mk l => simp only at ha; subst ha; rfl
  subst e
  refine ⟨Nat.zero_le _, fun W => ?_⟩
  have key : ∀ y, a.eval x = y → (Builtin.len_ ts o.type #[y]).run C.P W = .ok v W → (execOp a.eval o).run C.P W = .ok (.value v) W := fun y hy hl => by
    unfold execOp
    rw [ho]
    obtain ⟨cs, hr⟩ := run_resolve_builtin a.eval .len #[x] ts o.type C.P
    refine (run_bind_ok (hr W)).trans ?_
    have hm : (#[x] : Array Operand).map a.eval = #[y] := by rw [← hy]; simp
    simp only [hm]
    exact run_v hl
  unfold lenS at h
  split at h
  · rename_i p l k hb
    cases h
    obtain ⟨e, hu⟩ := hu
    refine key _ (hs.ev hb) ?_
    unfold Builtin.len_
    simp only [ht]
    show Sem.run C.P (underlying t >>= _) W = _
    rw [run_bind_ok (run_under hu W)]
    rfl
  · rename_i s hb
    cases h
    refine key _ (hs.ev hb) ?_
    unfold Builtin.len_
    simp only [ht]
    show Sem.run C.P (underlying t >>= _) W = _
    rw [run_bind_ok (run_under hu W)]
    rfl
  · cases h
theorem lands_mm (hs : SlOk C A S a) {o : Oper} {x y : Operand} {ts : Array TypeId} {ags : Array Operand} {mx : Bool} {c : Prop} {v : Value} (ho : o.op = .call ⟨.builtin (if mx then .max else .min), ags, ts⟩) (ha : ags.toList = [x, y])
    (h : mmS mx (S.ev x) (S.ev y) = some (c, v)) : Lands C A S a o (.v v) := by
  have e : ags = #[x, y] := by
    cases ags with | mk l => simp only at ha; subst ha; rfl
  subst e
  refine ⟨Nat.zero_le _, fun W => ?_⟩
  unfold execOp
  rw [ho]
  obtain ⟨cs, hr⟩ := run_resolve_builtin a.eval (if mx then .max else .min) #[x, y] ts o.type C.P
  refine (run_bind_ok (hr W)).trans ?_
  unfold mmS at h
  split at h
  · rename_i k n k' n' hb hb'
    have hm : (#[x, y] : Array Operand).map a.eval = #[.int k n, .int k' n'] := by
      have e1 := hs.ev hb
      have e2 := hs.ev hb'
      simp only [List.map_toArray, List.map_cons, List.map_nil, e1, e2]
      rfl
    simp only [hm]
    cases mx <;> cases h
    · exact run_v (s := Builtin.min_ ts o.type #[.int k n, .int k' n']) rfl
    · exact run_v (s := Builtin.max_ ts o.type #[.int k n, .int k' n']) rfl
  · cases h
theorem fold_ovr (off : Nat) : ∀ (l : List Value) (j : Nat) (cs cs' : List Value), ovrO cs (off + j) l = some cs' → (l.zipIdx j).foldl (fun (cs : Array Value) (x : Value × Nat) => cs.setIfInBounds (off + x.2) x.1) cs.toArray = cs'.toArray
  | [], j, cs, cs', h => by rw [ovrO_nil h]; rfl
  | v :: l, j, cs, cs', h => by
    obtain ⟨h1, h2⟩ := ovrO_cons h
    rw [List.zipIdx_cons, List.foldl_cons]
    show List.foldl _ (cs.toArray.setIfInBounds (off + j) v) _ = _
    rw [List.setIfInBounds_toArray]
    exact fold_ovr off l (j + 1) _ cs' h2
theorem ovrO_le : ∀ {cs : List Value} {o : Nat} {vs cs' : List Value}, ovrO cs o vs = some cs' → o + vs.length ≤ cs.length
  | cs, 0, [], _, _ => Nat.zero_le _
  | [], 0, v :: vs, _, h => by unfold ovrO at h; cases h
  | [], o + 1, vs, _, h => by unfold ovrO at h; cases h
  | c :: cs, 0, v :: vs, cs', h => by
    unfold ovrO at h
    cases hr : ovrO cs 0 vs with
    | none => rw [hr] at h; cases h
    | some r =>
      have := ovrO_le hr
      simp only [List.length_cons] at this ⊢
      omega
  | c :: cs, o + 1, vs, cs', h => by
    unfold ovrO at h
    cases hr : ovrO cs o vs with
    | none => rw [hr] at h; cases h
    | some r =>
      have := ovrO_le hr
      simp only [List.length_cons] at this ⊢
      omega
theorem fill_eq (hs : SlOk C A S a) {place : Nat → Option (Nat × Nat)} : ∀ {parts : List (Nat × Operand)} {ps : List (Nat × Nat × Operand)} {cs cs' : List Value}, ptsOf place parts = some ps → bdS S ps cs = some cs' →
    Instr.fill place cs.toArray (parts.map fun x => (x.1, a.eval x.2)) = some cs'.toArray
  | [], ps, cs, cs', h, h2 => by cases h; cases h2; rfl
  | (i, x) :: parts, ps, cs, cs', h, h2 => by
    unfold ptsOf at h
    split at h
    · rename_i o m r hp hr
      cases h
      have h3 : bd1 m o cs (bdS S r) (cellsV (S.ev x)) = some cs' := h2
      unfold cellsV at h3
      split at h3
      · rename_i v hv
        have h4 : bd2 (lenB v.cells.toList m) o cs v.cells.toList (bdS S r) = some cs' := h3
        unfold bd2 at h4
        split at h4
        · rename_i cs2 hl hov
          have hsz := lenB_eq hl
          have hle := ovrO_le hov
          have he : a.eval x = v := hs.ev hv
          rw [List.map_cons]
          show Instr.fill place cs.toArray ((i, a.eval x) :: _) = _
          unfold Instr.fill
          rw [hp, he]
          simp only
          rw [if_neg (by
            have e1 : v.cells.size = m := by simpa using hsz
            have e2 : o + v.cells.size ≤ cs.length := by simpa using hle
            simp only [List.size_toArray, e1, ne_eq, not_true_eq_false, decide_false, Bool.false_or, decide_eq_true_eq]
            omega)]
          have hf : v.cells.zipIdx.foldl (fun cs (x : Value × Nat) => cs.setIfInBounds (o + x.2) x.1) cs.toArray = cs2.toArray := by
            rw [← Array.foldl_toList, Array.toList_zipIdx]
            exact fold_ovr o v.cells.toList 0 cs cs2 hov
          have hf2 : Instr.fill place (v.cells.zipIdx.foldl (fun cs (x : Value × Nat) => cs.setIfInBounds (o + x.2) x.1) cs.toArray) (parts.map fun x => (x.1, a.eval x.2)) = some cs'.toArray := by
            rw [hf]
            exact fill_eq hs hr h4
          exact hf2
        · cases h4
      · cases h3
    · cases h
theorem plOf_run {P : Program} {W : World} : ∀ {fs : List Field} {pl : List (Nat × Nat)}, plOf P fs = some pl → (fs.mapM fun (f : Field) => (do pure (f.offset, ← sizeOf f.type) : Sem (Nat × Nat))).run P W = .ok pl W
  | [], pl, h => by cases h; rfl
  | f :: fs, pl, h => by
    unfold plOf at h
    split at h
    · rename_i m r h1 h2
      cases h
      have e : Sem.run P (do pure (f.offset, ← sizeOf f.type) : Sem (Nat × Nat)) W = .ok (f.offset, m) W := by rw [run_bind_ok (run_szOf h1 W)]; rfl
      rw [List.mapM_cons, run_bind_ok e, run_bind_ok (plOf_run h2)]
      rfl
    · cases h
theorem lands_bd (hs : SlOk C A S a) {o : Oper} {t : TypeId} {parts : Array (Nat × Operand)} {zs : List Value} {ps : List (Nat × Nat × Operand)} {c : Prop} {v : Value} (ho : o.op = .build t parts) (hc : compBd C.P t parts.toList = some (.bd zs ps)) (h : bdR (bdS S ps zs) = some (c, v)) : Lands C A S a o (.v v) := by
  refine lands_v (s := Instr.build t (parts.map fun (i, x) => (i, a.eval x))) (by unfold execOp; rw [ho]) fun W => ?_
  cases hb : bdS S ps zs with
  | none => rw [hb] at h; cases h
  | some cs =>
    rw [hb] at h
    cases h
    have hparts : (parts.map fun (x : Nat × Operand) => (x.1, a.eval x.2)).toList = parts.toList.map fun x => (x.1, a.eval x.2) := by simp
    unfold compBd at hc
    split at hc
    · rename_i i hi
      split at hc
      · rename_i z hz
        have hzero : (zeroValue t).run C.P W = .ok z W := by
          unfold zeroValue typeInfo
          simp [go_sem, hi, hz]
        split at hc
        · rename_i fs hu
          split at hc
          · rename_i pl hpl
            split at hc
            · rename_i ps' hps
              cases hc
              unfold Instr.build
              rw [run_bind_ok hzero, run_bind_ok (run_under hu W)]
              have hm : (fs.mapM fun (f : Field) => (do pure (f.offset, ← sizeOf f.type) : Sem (Nat × Nat))).run C.P W = .ok pl.toArray W := by
                rw [Array.mapM_eq_mapM_toList]
                show Sem.run C.P (_ >>= _) W = _
                rw [run_bind_ok (plOf_run hpl)]
                rfl
              simp only
              rw [run_bind_ok hm]
              have hfl := fill_eq hs (place := fun i => pl.toArray[i]?) (by
                have : (fun i => pl.toArray[i]?) = (fun i => pl[i]?) := funext fun i => List.getElem?_toArray
                rw [this]; exact hps) hb
              have e : z.cells.toList.toArray = z.cells := by simp
              rw [e] at hfl
              simp only [hparts, hfl]
              rfl
            · cases hc
          · cases hc
        · rename_i len el hu
          split at hc
          · rename_i m hm
            split at hc
            · rename_i ps' hps
              cases hc
              unfold Instr.build
              rw [run_bind_ok hzero, run_bind_ok (run_under hu W)]
              simp only
              rw [run_bind_ok (run_szOf hm W)]
              have hfl := fill_eq hs hps hb
              have e : z.cells.toList.toArray = z.cells := by simp
              rw [e] at hfl
              simp only [hparts, hfl]
              rfl
            · cases hc
          · cases hc
        · cases hc
      · cases hc
    · cases hc
end Sx
end Go.Proofs.Ythcboomdkpiflaa

/- SxP: A symbolic run: the condition of correctness of a list of operations, and that it is sound, one after the other. -/
namespace Go.Proofs.Ythcboomdkpiflaa
open Go Go.RowKit
set_option linter.unusedVariables false
set_option linter.unusedSimpArgs false
namespace Sx
/-- In the world W a call of f gives what meets R, and changes nothing that existed. -/
structure Gives (P : Program) (f : FuncId) (l : List Value) (W : World) (R : Value → Prop) : Prop where
  out : stepIs P (fun u w' => R u ∧ W.grownBy w' none) ((callFunc f l.toArray).run P W)
def evc : Option SV → Option (List Value) → Option (List Value)
  | some (.v x), some l => some (x :: l)
  | _, _ => none
def evs (S : St) : List Operand → Option (List Value)
  | [] => some []
  | x :: l => evc (S.ev x) (evs S l)
/-- What known operations lean on. -/
def Cx.kn (C : Cx) (S : St) : St := match C.fr with
  | none => S
  | some (F, _) => ⟨S.n, S.E, S.H, F⟩
/-- The blocks that calls may change. -/
def Cx.mv (C : Cx) (S : St) : List Nat := match C.fr with
  | none => S.T.bs
  | some (_, r) => r
theorem kn_none {C : Cx} (h : C.fr = none) (S : St) : C.kn S = S := by unfold Cx.kn; rw [h]
theorem mv_none {C : Cx} (h : C.fr = none) (S : St) : C.mv S = S.T.bs := by unfold Cx.mv; rw [h]
theorem kn_H (C : Cx) (S : St) : (C.kn S).H = S.H := by
  unfold Cx.kn
  cases C.fr with
  | none => rfl
  | some x => cases x; rfl
/-- A call whose value is known. -/
def knownV (C : Cx) (f : FuncId) (l : List Value) (d : Option Nat) (K : St → Prop) (S : St) : Prop :=
  ∃ v, (∀ A W, HpOk C A (C.kn S) W → Gives C.P f l W (· = v)) ∧ K (S.put d (.v v))
/-- A call of whose value R is known. -/
def Moves (bs : List Nat) (W W' : World) : Prop :=
  W'.os = W.os ∧ W'.tape = W.tape ∧ W'.output = W.output ∧ W.heap.size ≤ W'.heap.size ∧ ∀ i, i < W.heap.size → i ∉ bs → W'.heap[i]? = W.heap[i]?
/-- What is left: the value v, and of other blocks X. -/
def Left (C : Cx) (S : St) (W : World) (v : Value) (X : Ext) (u : Value) (W' : World) : Prop :=
  u = v ∧ Moves (C.mv S) W W' ∧ X.ok W' ∧ Stab C X ∧ ∀ b ∈ X.bs, (b ∈ S.T.bs ∨ W.heap.size ≤ b) ∧ b < W'.heap.size
structure GivesT (C : Cx) (S : St) (f : FuncId) (l : List Value) (W : World) (ι : Type) (v : ι → Value) (X : ι → Ext) : Prop where
  out : stepIs C.P (fun u W' => ∃ i, Left C S W (v i) (X i) u W') ((callFunc f l.toArray).run C.P W)
def asks (C : Cx) (f : FuncId) (l : List Value) (d : Option Nat) (K : St → Prop) (S : St) : Prop :=
  ∃ (ι : Type) (v : ι → Value) (X : ι → Ext), (∀ A W, HpOk C A S W → GivesT C S f l W ι v X) ∧ ∀ i, K (St.put ⟨S.n, S.E, S.H, X i⟩ d (.v (v i)))
/-- An operation that is met by hand: its value is the same in all worlds. -/
def genK (C : Cx) (k : GK) (l : List Value) (d : Option Nat) (K : St → Prop) (S : St) : Prop :=
  ∃ v, (∀ W, (genRun k l).run C.P W = .ok (.value v) W) ∧ K (S.put d (.v v))
structure GivesG (C : Cx) (S : St) (k : GK) (l : List Value) (W : World) (ι : Type) (v : ι → Value) (X : ι → Ext) : Prop where
  out : stepIs C.P (fun u W' => ∃ i, Left C S W (v i) (X i) u W') ((genRun k l).run C.P W)
def genA (C : Cx) (k : GK) (l : List Value) (d : Option Nat) (K : St → Prop) (S : St) : Prop :=
  ∃ (ι : Type) (v : ι → Value) (X : ι → Ext), (∀ A W, HpOk C A S W → GivesG C S k l W ι v X) ∧ ∀ i, K (St.put ⟨S.n, S.E, S.H, X i⟩ d (.v (v i)))
def genX (C : Cx) (b : Bool) (k : GK) (l : Option (List Value)) (d : Option Nat) (K : St → Prop) (S : St) : Prop :=
  match b, l with
  | true, some l => genK C k l d K S
  | false, some l => genA C k l d K S
  | _, none => False
/-- A cell of another block is overwritten. -/
def stP (C : Cx) (p : Addr) (v : Value) (K : St → Prop) (S : St) : Prop :=
  ∃ X : Ext, (∀ A W, HpOk C A S W → p.block ∈ S.T.bs ∧ (∃ x, W.cell? p = some x) ∧ W.frozen? p = false ∧ X.ok (W.setCell p v)) ∧ Stab C X ∧ (∀ b ∈ X.bs, b ∈ S.T.bs) ∧ one v = true ∧ K ⟨S.n, S.E, S.H, X⟩
abbrev callX (C : Cx) (b : Bool) (f : FuncId) (l : Option (List Value)) (d : Option Nat) (K : St → Prop) (S : St) : Prop :=
  match b, l with
  | true, some l => knownV C f l d K S
  | false, some l => asks C f l d K S
  | _, none => False
def ldP (C : Cx) (g : Bool) (m : Nat) (p : Addr) (d : Option Nat) (K : St → Prop) (S : St) : Prop :=
  ∃ cs : List Value, cs.length = m ∧ (∀ A W, HpOk C A (C.kn S) W → ∀ j v, cs[j]? = some v → W.cell? (p.add j) = some v) ∧ K (S.put d (.v (mk g cs)))
def ldS (g : Bool) (l : Option (List Value)) (d : Option Nat) (K : St → Prop) (S : St) : Prop :=
  match l with
  | some l => K (S.put d (.v (mk g l)))
  | none => False
def ldH (g : Bool) (m o : Nat) (cs : Option (List Value)) (d : Option Nat) (K : St → Prop) (S : St) : Prop :=
  match cs with
  | some cs => ldS g (sub cs o m) d K S
  | none => False
def ldX (C : Cx) (g : Bool) (m : Nat) (x : Option SV) (d : Option Nat) (K : St → Prop) (S : St) : Prop :=
  match x with
  | some (.p k o) => ldH g m o (gt S.H k) d K S
  | some (.v (.pointer (some p))) => ldP C g m p d K S
  | _ => False
def stF (ok : Bool) (k : Nat) (r : Option (List Value)) (K : St → Prop) (S : St) : Prop :=
  match ok, r with
  | true, some cs => K ⟨S.n, S.E, pt S.H k cs, S.T⟩
  | _, _ => False
def stH (m k o : Nat) (cs vs : Option (List Value)) (K : St → Prop) (S : St) : Prop :=
  match cs, vs with
  | some cs, some vs => stF (lenB vs m && all1 vs) k (ovrO cs o vs) K S
  | _, _ => False
/-- Cells of another block are overwritten. -/
def stL (C : Cx) (p : Addr) (vs : List Value) (K : St → Prop) (S : St) : Prop :=
  ∃ X : Ext, (∀ A W, HpOk C A S W → p.block ∈ S.T.bs ∧ ∃ W', (storeCells p vs 0).run C.P W = .ok () W' ∧ Moves [p.block] W W' ∧ X.ok W') ∧ Stab C X ∧ (∀ b ∈ X.bs, b ∈ S.T.bs) ∧ K ⟨S.n, S.E, S.H, X⟩
def stX (C : Cx) (m : Nat) (x : Option SV) (vs : Option (List Value)) (K : St → Prop) (S : St) : Prop :=
  match x with
  | some (.p k o) => stH m k o (gt S.H k) vs K S
  | some (.v (.pointer (some p))) => match m, vs with
    | 1, some [v] => stP C p v K S
    | m + 2, some vs => lenB vs (m + 2) = true ∧ stL C p vs K S
    | _, _ => False
  | _ => False
def eqC (C : Cx) (ng : Bool) (t : TypeId) (x y : Operand) (p q : Value) (d : Option Nat) (K : St → Prop) (S : St) : Prop :=
  ∃ b, (∀ W, ((do eqGuard (if ng then .neq else .eql) t x y p q; binOp (if ng then .neq else .eql) t p q) : Sem Value).run C.P W = .ok (.bool b) W) ∧ K (S.put d (.v (.bool b)))
def eqX (C : Cx) (ng : Bool) (t : TypeId) (x y : Operand) (p q : Option SV) (d : Option Nat) (K : St → Prop) (S : St) : Prop :=
  match p, q with
  | some (.v p), some (.v q) => eqC C ng t x y p q d K S
  | _, _ => False
def boxX (cs : Option (List Value)) (d : Option Nat) (K : St → Prop) (S : St) : Prop :=
  match cs with
  | some cs => K (S.new d cs)
  | none => False
def pX (r : Option (Prop × SV)) (d : Option Nat) (K : St → Prop) (S : St) : Prop :=
  match r with
  | some (c, x) => c ∧ K (S.put d x)
  | none => False
/-- One operation. -/
def run1 (C : Cx) (m : M) (d : Option Nat) (K : St → Prop) (S : St) : Prop :=
  match m with
  | .new zs => K (S.new d zs)
  | .box g _ x => boxX (cellsO g (S.ev x)) d K S
  | .ld g m x => ldX C g m (S.ev x) d K S
  | .st g m x y => stX C m (S.ev x) (cellsO g (S.ev y)) K S
  | .gen b k l => genX C b k (evs S l) d K S
  | .call b f l => callX C b f (evs S l) d K S
  | .eqg ng t x y => eqX C ng t x y (S.ev x) (S.ev y) d K S
  | m => pX (pv S m) d K S
def gdT (t w : Bool) (C : Cx) (m : M) (d : Option Nat) (K : St → Prop) (S : St) : Prop :=
  if t = w then run1 C m d K S else K (S.put d (.v undef))
def gdS (x : Option SV) (w : Bool) (C : Cx) (m : M) (d : Option Nat) (K : St → Prop) (S : St) : Prop :=
  match x with
  | some (.v (.bool t)) => gdT t w C m d K S
  | some (.v (.tuple _)) => K (S.put d (.v undef))
  | _ => False
def gdX (g : Option (Nat × Bool)) (C : Cx) (m : M) (d : Option Nat) (K : St → Prop) (S : St) : Prop :=
  match g with
  | none => run1 C m d K S
  | some (t, w) => gdS (gt S.E t) w C m d K S
def ops (C : Cx) : List G → (St → Prop) → St → Prop
  | [], p, S => p S
  | (d, g, m) :: r, p, S => gdX g C m d (ops C r p) S
theorem HpOk.left {C : Cx} {A : Nat → Nat} {S : St} {W W' : World} {v u : Value} {X : Ext} (h : HpOk C A S W) (l : Left C S W v X u W') (hmv : ∀ b ∈ C.mv S, C.w0.heap.size ≤ b ∧ ∀ k cs, gt S.H k = some cs → A k ≠ b) : HpOk C A ⟨S.n, S.E, S.H, X⟩ W' := by
  obtain ⟨-, ⟨m1, m2, m3, m4, m5⟩, h2, h3, h4⟩ := l
  refine ⟨⟨m1.trans h.bl.os, m2.trans h.bl.tape, m3.trans h.bl.output, Nat.le_trans h.bl.size m4, fun i hi => (m5 i (Nat.lt_of_lt_of_le hi h.bl.size) fun hb => by have := (hmv i hb).1; omega).trans (h.bl.block i hi)⟩,
    fun k cs e => ?_, h.ge, h.kn, h.inj, h2, h3, fun k cs e hb => ?_, fun b hb => ?_⟩
  · have hB := h.hb k cs e
    have hlt := hB.lt
    obtain ⟨T, hT⟩ := hB
    exact ⟨T, (m5 _ hlt (fun hb => (hmv _ hb).2 k cs e rfl)).trans hT⟩
  · rcases (h4 _ hb).1 with hh | hh
    · exact h.tn k cs e hh
    · have := (h.hb k cs e).lt; omega
  · refine ⟨?_, (h4 b hb).2⟩
    rcases (h4 b hb).1 with hh | hh
    · exact (h.tb b hh).1
    · exact Nat.le_trans h.bl.size hh
theorem mv_ok {C : Cx} {A : Nat → Nat} {S : St} {W : World} (hC : C.fr = none) (h : HpOk C A S W) : ∀ b ∈ C.mv S, C.w0.heap.size ≤ b ∧ ∀ k cs, gt S.H k = some cs → A k ≠ b := fun b hb => by
  rw [mv_none hC] at hb
  exact ⟨(h.tb b hb).1, fun k cs e e' => h.tn k cs e (e' ▸ hb)⟩
variable {C : Cx} {A : Nat → Nat} {S : St} {a : Act} {W : World}
theorem stepIs_upon {P : Program} {R : Value → World → Prop} {r : Result Next} {o : Oper} {a : Act} {next : Act → World → Prop} {Q : Exit → Act → World → Prop} (h : stepIs P R r) (hn : ∀ v w', R v w' → next (a.put o.dst v) w') : o.upon P a next Q r := by
  cases r with
  | ok n w' =>
    cases n <;> simp only [stepIs, Oper.upon] at h ⊢
    case value u => exact hn _ _ h
    case skip => exact hn _ _ h
    case enter f l => exact Calls.mono h fun e w'' ⟨u, he, hu⟩ => by subst he; exact hn _ _ hu
  | halt x w' => cases h
theorem stepIs_mono {P : Program} {R R' : Value → World → Prop} {r : Result Next} (h : stepIs P R r) (hm : ∀ v w', R v w' → R' v w') : stepIs P R' r := by
  cases r with
  | ok n w' =>
    cases n <;> simp only [stepIs] at h ⊢
    case value u => exact hm _ _ h
    case skip => exact hm _ _ h
    case enter f l => exact Calls.mono h fun e w'' ⟨u, he, hu⟩ => ⟨u, he, hm _ _ hu⟩
  | halt x w' => cases h
theorem pv_lands (hs : SlOk C A S a) {b : Bool} {o : Oper} {m : M} (hc : compOp C.P b o.op = some m) {c : Prop} {x : SV} (h : pv S m = some (c, x)) (hcc : c) : Lands C A S a o x := by
  cases ho : o.op <;> rw [ho] at hc
  case move y => cases hc; exact lands_mv hs (.inl ho) (sv1_some h)
  case assign y => cases hc; exact lands_mv hs (.inr ho) (sv1_some h)
  case pick p q r =>
    cases hc
    replace h : pickS (S.ev q) (S.ev r) (S.ev p) = some (c, x) := h
    unfold pickS at h
    split at h
    · rename_i e; exact lands_pick hs ho e (sv1_some h)
    · rename_i e; exact lands_pick hs ho e (sv1_some h)
    · cases h
  case binOp op t y z yt =>
    cases op
    case eql =>
      unfold compOp at hc
      simp only at hc
      split at hc
      · rename_i hu
        cases hc
        obtain ⟨v, h1, rfl⟩ := val1_some h
        exact lands_bq hs (ng := false) ho hu h1
      · cases hc
        obtain ⟨v, h1, rfl⟩ := val1_some h
        exact lands_bin hs ho h1 hcc
      · cases hc; cases h
      · cases hc
    case neq =>
      unfold compOp at hc
      simp only at hc
      split at hc
      · rename_i hu
        cases hc
        obtain ⟨v, h1, rfl⟩ := val1_some h
        exact lands_bq hs (ng := true) ho hu h1
      · cases hc
        obtain ⟨v, h1, rfl⟩ := val1_some h
        exact lands_bin hs ho h1 hcc
      · cases hc; cases h
      · cases hc
    all_goals
      cases hc
      obtain ⟨v, h1, rfl⟩ := val1_some h
      exact lands_bin hs ho h1 hcc
  case unOp op t y =>
    cases hc
    obtain ⟨v, h1, rfl⟩ := val1_some h
    exact lands_un hs ho h1
  case convert s d y =>
    unfold compOp at hc
    simp only at hc
    split at hc
    · rename_i h1 h2
      cases hc
      obtain ⟨v, h3, rfl⟩ := val1_some h
      exact lands_cv hs ho h1 h2 h3
    · cases hc
  case build t parts =>
    have hc' : compBd C.P t parts.toList = some m := hc
    have hm : ∃ zs ps, m = .bd zs ps := by
      have hc2 := hc'
      unfold compBd at hc2
      repeat' (split at hc2)
      all_goals first | (cases hc2; exact ⟨_, _, rfl⟩) | cases hc2
    obtain ⟨zs, ps, rfl⟩ := hm
    obtain ⟨v, h1, rfl⟩ := val1_some h
    exact lands_bd hs ho hc' h1
  case extract y i =>
    cases hc
    obtain ⟨v, h1, rfl⟩ := val1_some h
    exact lands_ex hs ho h1
  case fieldAddr t y f =>
    unfold compOp at hc
    simp only at hc
    split at hc
    · rename_i fs hu
      split at hc
      · rename_i fl hf
        split at hc
        · rename_i mm hm
          cases hc
          have e : c = True := by
            have h' : faS fl.offset (S.ev y) = some (c, x) := h
            unfold faS at h'
            split at h' <;> first | (cases h'; rfl) | cases h'
          exact lands_fa hs ho hu hf hm h
        · cases hc
      · cases hc
    · cases hc
  case nilCheck y =>
    cases hc
    have h' : ncS (S.ev y) = some (c, x) := h
    exact lands_nc hs ho h'
  case indexAddr t y i =>
    unfold compOp at hc
    simp only at hc
    split at hc
    · rename_i len e hu
      split at hc
      · rename_i sz hm
        split at hc
        · rename_i hl
          cases hc
          exact lands_ia hs ho hu hm hl h hcc
        · cases hc
      · cases hc
    · rename_i e hu
      split at hc
      · rename_i sz hm
        cases hc
        exact lands_is hs ho hu hm h hcc
      · cases hc
    · cases hc
  case field t y f =>
    unfold compOp at hc
    simp only at hc
    split at hc
    · rename_i fs hu
      split at hc
      · rename_i fl hf
        split at hc
        · rename_i g m hm
          cases hc
          obtain ⟨v, h1, rfl⟩ := val1_some h
          exact lands_fd hs ho hu hf hm h1
        · cases hc
      · cases hc
    · cases hc
  case index t y i =>
    unfold compOp at hc
    simp only at hc
    split at hc
    · rename_i len e hu
      split at hc
      · rename_i g m hm
        cases hc
        obtain ⟨v, h1, rfl⟩ := val1_some h
        exact lands_ix hs ho hu hm h1 hcc
      · cases hc
    · cases hc
  case call cl =>
    obtain ⟨ce, ags, ts⟩ := cl
    unfold compOp at hc
    split at hc <;> first | (cases hc; done) | skip
    all_goals (rename_i heq; cases heq)
    · cases hc; cases h
    · split at hc
      · rename_i y t ha ht
        split at hc
        · rename_i hu
          cases hc
          obtain ⟨v, h1, rfl⟩ := val1_some h
          exact lands_len hs (b := false) ho ha ht ⟨_, hu⟩ h1
        · rename_i hu
          cases hc
          obtain ⟨v, h1, rfl⟩ := val1_some h
          exact lands_len hs (b := true) ho ha ht hu h1
        · cases hc
      · cases hc
    · split at hc
      · rename_i y z ha
        cases hc
        obtain ⟨v, h1, rfl⟩ := val1_some h
        exact lands_mm hs (mx := false) ho ha h1
      · cases hc
    · split at hc
      · rename_i y z ha
        cases hc
        obtain ⟨v, h1, rfl⟩ := val1_some h
        exact lands_mm hs (mx := true) ho ha h1
      · cases hc
  case alloc t =>
    unfold compOp at hc
    simp only at hc
    split at hc
    · cases hc
    split at hc
    · split at hc
      · cases hc; cases h
      · cases hc
    · cases hc
  all_goals (unfold compOp at hc; first | (cases hc; done) | (simp only at hc; repeat' (split at hc); all_goals first | (cases hc; done) | (cases hc; cases h)))
end Sx
end Go.Proofs.Ythcboomdkpiflaa

/- SxQ: A symbolic run: operations that read and write memory, and calls. -/
namespace Go.Proofs.Ythcboomdkpiflaa
open Go Go.RowKit
set_option linter.unusedVariables false
set_option linter.unusedSimpArgs false
namespace Sx
variable {C : Cx} {A : Nat → Nat} {S : St} {a : Act} {W : World}
theorem run_ld {P : Program} {t : TypeId} {g : Bool} {m : Nat} {p : Addr} {cs : List Value} {W : World} (hgm : gmOf P t = some (g, m)) (hl : cs.length = m) (h : ∀ j v, cs[j]? = some v → W.cell? (p.add j) = some v) :
    (Instr.loadAt t (.pointer (some p))).run P W = .ok (mk g cs) W := by
  obtain ⟨hg, hm, h1⟩ := gmOf_spec hgm
  show Sem.run P (loadVar t p) W = _
  unfold loadVar
  rw [run_bind_ok (run_agOf hg W)]
  cases g with
  | true =>
    simp only [if_true]
    rw [run_bind_ok (run_szOf hm W)]
    subst hl
    rw [run_bind_ok (run_loadCells_list W p cs h)]
    rfl
  | false =>
    have h2 := h1 rfl
    subst h2
    rcases cs with _ | ⟨v, cs⟩
    · simp at hl
    · have e : cs = [] := by simpa using hl
      subst e
      have h3 := h 0 v (by simp)
      rw [Addr.add_zero'] at h3
      simp only [Bool.false_eq_true, if_false]
      show Sem.run P (load p) W = _
      simp [go_sem, h3, mk]
theorem cell_of {W : World} {b : Nat} {cs : List Value} {o m : Nat} {l : List Value} (h : HB W b cs.toArray) (hs : sub cs o m = some l) : ∀ j v, l[j]? = some v → W.cell? ((⟨b, o, none⟩ : Addr).add j) = some v := fun j v hv => by
  obtain ⟨h1, h2⟩ := sub_get hs
  have hj : j < m := by
    rcases Nat.lt_or_ge j l.length with h | h
    · omega
    · rw [List.getElem?_eq_none h] at hv; cases hv
  rw [Addr.add_lit, (Bx.of h).2.1, List.getElem?_toArray, ← h2 j hj, hv]
/-- What the head of a region that draws its order may hold. -/
def head : M → Bool
  | .new _ => false
  | .box _ _ _ => false
  | .st _ _ _ _ => false
  | .call b _ _ => b
  | .gen b _ _ => b
  | _ => true
/-- An operation that waits for no memory. -/
def late : M → Bool
  | .new _ => false
  | .box _ _ _ => false
  | .st _ _ _ _ => false
  | .call _ _ _ => false
  | .ld _ _ _ => false
  | .eqg _ _ _ _ => false
  | .gen _ _ _ => false
  | _ => true
theorem run1_pv {m : M} {d : Option Nat} {K : St → Prop} (hm : late m = true) (h : run1 C m d K S) : ∃ c x, pv S m = some (c, x) ∧ c ∧ K (S.put d x) := by
  have key : ∀ r, pX r d K S → ∃ c x, r = some (c, x) ∧ c ∧ K (S.put d x) := fun r h => by
    unfold pX at h
    split at h
    · exact ⟨_, _, rfl, h.1, h.2⟩
    · exact h.elim
  cases m <;> first | (cases hm; done) | exact key _ h
theorem evs_map {l : List Operand} {vs : List Value} (hs : SlOk C A S a) (h : evs S l = some vs) : l.map a.eval = vs := by
  induction l generalizing vs with
  | nil => cases h; rfl
  | cons x l ih =>
    unfold evs at h
    cases hx : S.ev x with
    | none => rw [hx] at h; cases h
    | some y =>
      cases y with
      | p k o => rw [hx] at h; cases h
      | v y =>
        cases hl : evs S l with
        | none => rw [hx, hl] at h; cases h
        | some us =>
          rw [hx, hl] at h
          cases h
          rw [List.map_cons, ih hl, hs.ev hx]
          rfl
theorem exec_call {ρ : Operand → Value} {o : Oper} {f : FuncId} {ags : Array Operand} {ts : Array TypeId} (ho : o.op = .call ⟨.value (.func f), ags, ts⟩) (hf : ρ (.func f) = .func (.func f) #[] #[]) : execOp ρ o = callFunc f (ags.map ρ) := by
  unfold execOp
  rw [ho]
  show (do let d ← resolve ρ ⟨.value (.func f), ags, ts⟩ o.type; invoke d.target d.args) = _
  show (do let d ← Deferred.ofValue (ρ (.func f)) (ags.map ρ); invoke d.target d.args) = _
  rw [hf]
  show callFunc f ((#[] ++ ags.map ρ) ++ #[]) = _
  rw [Array.empty_append, Array.append_empty]
theorem evs_arr {ags : Array Operand} {vs : List Value} (hs : SlOk C A S a) (h : evs S ags.toList = some vs) : ags.map a.eval = vs.toArray := by
  have := evs_map hs h
  cases ags with | mk l => rw [← this, List.map_toArray]
theorem run1_head {b : Bool} {o : Oper} {m : M} {d : Option Nat} {K : St → Prop} (hs : SlOk C A S a) (hc : compOp C.P b o.op = some m) (hm : head m = true) (h : run1 C m d K S) :
    ∃ x, x.nm ≤ S.n ∧ K (S.put d x) ∧ (∀ A' a', SlOk C A' S a' → ∀ W, HpOk C A' (C.kn S) W → stepIs C.P (fun u w' => u = x.val A' ∧ W.grownBy w' none) ((execOp a'.eval o).run C.P W)) ∧
      (late m = true → ∀ A' a', SlOk C A' S a' → ∀ W, (execOp a'.eval o).run C.P W = .ok (.value (x.val A')) W) := by
  by_cases hl : late m = true
  · obtain ⟨c, x, h1, h2, h3⟩ := run1_pv hl h
    refine ⟨x, (pv_lands hs hc h1 h2).1, h3, fun A' a' hs' W _ => ?_, fun _ A' a' hs' W => (pv_lands hs' hc h1 h2).2 W⟩
    rw [(pv_lands hs' hc h1 h2).2 W]
    exact ⟨rfl, gt_refl _ _⟩
  cases m with
  | new _ => cases hm
  | box _ _ _ => cases hm
  | st _ _ _ _ => cases hm
  | call b' f l =>
    have hb : b' = true := hm
    subst hb
    have h' : callX C true f (evs S l) d K S := h
    unfold callX at h'
    cases he : evs S l with
    | none => rw [he] at h'; exact h'.elim
    | some vs =>
      rw [he] at h'
      obtain ⟨v, h1, h2⟩ := h'
      refine ⟨.v v, Nat.zero_le _, h2, fun A' a' hs' W hw => ?_, fun e => (hl e).elim⟩
      have ho : ∃ ags ts, o.op = .call ⟨.value (.func f), ags, ts⟩ ∧ ags.toList = l := by
        cases hoo : o.op <;> rw [hoo] at hc
        case call cl =>
          obtain ⟨ce, ags, ts⟩ := cl
          unfold compOp at hc
          split at hc <;> first | (cases hc; done) | skip
          all_goals (rename_i heq; cases heq)
          · cases hc; exact ⟨_, _, rfl, rfl⟩
          all_goals (repeat' (split at hc)); all_goals (cases hc)
        case binOp op t y z yt =>
          cases op <;> unfold compOp at hc <;> (simp only at hc; repeat' (split at hc)) <;> cases hc
        all_goals (unfold compOp at hc; (try unfold compBd at hc); (try simp only at hc); (repeat' (split at hc)); all_goals (cases hc))
      obtain ⟨ags, ts, ho, hal⟩ := ho
      rw [exec_call ho (hs'.ev (x := .func f) (v := .v _) rfl), evs_arr hs' (by rw [hal]; exact he)]
      exact (h1 A' W hw).out
  | ld g m x =>
    have h' : ldX C g m (S.ev x) d K S := h
    have ho : ∃ t, o.op = .load t x ∧ gmOf C.P t = some (g, m) := by
      cases hoo : o.op <;> rw [hoo] at hc
      case load t y =>
        unfold compOp at hc
        simp only at hc
        split at hc
        · rename_i g' m' hgm
          cases hc
          exact ⟨t, rfl, hgm⟩
        · cases hc
      case binOp op t y z yt =>
        cases op <;> unfold compOp at hc <;> (simp only at hc; repeat' (split at hc)) <;> cases hc
      case call cl =>
        obtain ⟨ce, ags, ts⟩ := cl
        unfold compOp at hc
        split at hc <;> first | (cases hc; done) | skip
        all_goals (rename_i heq; cases heq)
        all_goals (repeat' (split at hc)); all_goals (cases hc)
      all_goals (unfold compOp at hc; (try unfold compBd at hc); (try simp only at hc); (repeat' (split at hc)); all_goals (cases hc))
    obtain ⟨t, ho, hgm⟩ := ho
    have hex : ∀ (a' : Act) p W cs, a'.eval x = .pointer (some p) → cs.length = m → (∀ j v, cs[j]? = some v → W.cell? (p.add j) = some v) → (execOp a'.eval o).run C.P W = .ok (.value (mk g cs)) W := fun a' p W cs he hlen hcell => by
      unfold execOp
      rw [ho]
      simp only [he]
      exact run_v (run_ld hgm hlen hcell)
    unfold ldX at h'
    split at h'
    · rename_i k o' hb
      unfold ldH at h'
      split at h'
      · rename_i cs hcs
        unfold ldS at h'
        split at h'
        · rename_i l hsub
          refine ⟨.v (mk g l), Nat.zero_le _, h', fun A' a' hs' W hw => ?_, fun e => (hl e).elim⟩
          rw [hex a' ⟨A' k, o', none⟩ W l (hs'.ev hb) (sub_get hsub).1 (cell_of (hw.hb k cs (by rw [kn_H]; exact hcs)) hsub)]
          exact ⟨rfl, gt_refl _ _⟩
        · exact h'.elim
      · exact h'.elim
    · rename_i p hb
      obtain ⟨cs, h1, h2, h3⟩ := h'
      refine ⟨.v (mk g cs), Nat.zero_le _, h3, fun A' a' hs' W hw => ?_, fun e => (hl e).elim⟩
      rw [hex a' p W cs (hs'.ev hb) h1 (h2 A' W hw)]
      exact ⟨rfl, gt_refl _ _⟩
    · exact h'.elim
  | eqg ng t x y =>
    have h' : eqX C ng t x y (S.ev x) (S.ev y) d K S := h
    have ho : ∃ yt, o.op = .binOp (if ng then .neq else .eql) t x y yt := by
      cases hoo : o.op <;> rw [hoo] at hc
      case binOp op t y z yt =>
        cases op <;> unfold compOp at hc <;> (simp only at hc; repeat' (split at hc)) <;> first | (cases hc; done) | (cases hc; exact ⟨_, rfl⟩)
      case call cl =>
        obtain ⟨ce, ags, ts⟩ := cl
        unfold compOp at hc
        split at hc <;> first | (cases hc; done) | skip
        all_goals (rename_i heq; cases heq)
        all_goals (repeat' (split at hc)); all_goals (cases hc)
      all_goals (unfold compOp at hc; (try unfold compBd at hc); (try simp only at hc); (repeat' (split at hc)); all_goals (cases hc))
    obtain ⟨yt, ho⟩ := ho
    unfold eqX at h'
    split at h'
    · rename_i p q hp hq
      obtain ⟨r, h1, h2⟩ := h'
      refine ⟨.v (.bool r), Nat.zero_le _, h2, fun A' a' hs' W hw => ?_, fun e => (hl e).elim⟩
      have e : (execOp a'.eval o).run C.P W = .ok (.value (.bool r)) W := by
        have e1 := hs'.ev hp
        have e2 := hs'.ev hq
        unfold execOp
        rw [ho]
        refine run_v ?_
        rw [e1, e2]
        exact h1 W
      rw [e]
      exact ⟨rfl, gt_refl _ _⟩
    · exact h'.elim
  | gen b' k l =>
    exfalso
    cases hoo : o.op <;> rw [hoo] at hc
    case binOp op t y z yt =>
      cases op <;> unfold compOp at hc <;> (simp only at hc; repeat' (split at hc)) <;> cases hc
    case call cl =>
      obtain ⟨ce, ags, ts⟩ := cl
      unfold compOp at hc
      split at hc <;> first | (cases hc; done) | skip
      all_goals (rename_i heq; cases heq)
      all_goals (repeat' (split at hc)); all_goals (cases hc)
    all_goals (unfold compOp at hc; (try unfold compBd at hc); (try simp only at hc); (repeat' (split at hc)); all_goals (cases hc))
  | _ => exact absurd rfl hl
theorem run1_headG {b : Bool} {o : Oper} {k : GK} {l : List Operand} {b' : Bool} {d : Option Nat} {K : St → Prop} (hs : SlOk C A S a) (hc : compGen b o = some (.gen b' k l)) (hm : head (.gen b' k l) = true) (h : run1 C (.gen b' k l) d K S) :
    ∃ x, x.nm ≤ S.n ∧ K (S.put d x) ∧ ∀ A' a', SlOk C A' S a' → ∀ W, (execOp a'.eval o).run C.P W = .ok (.value (x.val A')) W := by
  obtain ⟨e1, -⟩ := gen_run hc a.eval
  have hb : b' = true := hm
  subst hb
  have h' : genX C true k (evs S l) d K S := h
  unfold genX at h'
  cases he : evs S l with
  | none => rw [he] at h'; exact h'.elim
  | some vs =>
    rw [he] at h'
    obtain ⟨v, h1, h2⟩ := h'
    refine ⟨.v v, Nat.zero_le _, h2, fun A' a' hs' W => ?_⟩
    rw [(gen_run hc a'.eval).2, evs_map hs' he]
    exact h1 W
end Sx
end Go.Proofs.Ythcboomdkpiflaa

/- SxW: A symbolic run: lists of operations in order are sound. -/
namespace Go.Proofs.Ythcboomdkpiflaa
open Go Go.RowKit
set_option linter.unusedVariables false
set_option linter.unusedSimpArgs false
namespace Sx
variable {C : Cx} {A : Nat → Nat} {S : St} {a : Act} {W : World}
theorem HpOk.ext {S' : St} (h : HpOk C A S W) (hn : S.n = S'.n) (hH : ∀ k, gt S'.H k = gt S.H k) (hT : S'.T = S.T) : HpOk C A S' W :=
  ⟨h.bl, fun k cs e => h.hb k cs (by rw [← hH k]; exact e), fun k cs e => h.ge k cs (by rw [← hH k]; exact e), fun k cs e => hn ▸ h.kn k cs (by rw [← hH k]; exact e),
    fun k k' cs cs' e e' => h.inj k k' cs cs' (by rw [← hH k]; exact e) (by rw [← hH k']; exact e'), by rw [hT]; exact h.tk, by rw [hT]; exact h.ts, fun k cs e => (by rw [hT]; exact h.tn k cs (by rw [← hH k]; exact e)), by rw [hT]; exact h.tb⟩
theorem run_store1 {P : Program} {p : Addr} {v x : Value} (hv : one v = true) (hc : W.cell? p = some x) (hf : W.frozen? p = false) : (store p v).run P W = .ok () (W.setCell p v) := by
  cases v <;> first | (cases hv; done) | simp [go_sem, store, Sem.run, hc, hf]
theorem run_storeCells {P : Program} {b o0 k : Nat} : ∀ {vs cs cs' : List Value} {i : Nat} {S : St} {W : World}, HpOk C A S W → gt S.H k = some cs → b = A k → ovrO cs (o0 + i) vs = some cs' → all1 vs = true →
    ∃ W', (storeCells ⟨b, o0, none⟩ vs i).run P W = .ok () W' ∧ HpOk C A ⟨S.n, S.E, pt S.H k cs', S.T⟩ W'
  | [], cs, cs', i, S, W, h, hk, hb, ho, h1 => by
    refine ⟨W, by unfold storeCells; rfl, h.ext rfl (fun j => ?_) rfl⟩
    show gt (pt S.H k cs') j = _
    rw [gt_pt]
    by_cases e : k = j
    · subst e; rw [if_pos rfl, hk, ovrO_nil ho]
    · rw [if_neg e]
  | v :: vs, cs, cs', i, S, W, h, hk, hb, ho, h1 => by
    subst hb
    unfold all1 at h1
    rw [Bool.and_eq_true] at h1
    obtain ⟨o1, o2⟩ := ovrO_cons ho
    have hB := Bx.of (h.hb k cs hk)
    have hc : W.cell? ⟨A k, o0 + i, none⟩ = some cs[o0 + i] := by
      rw [hB.2.1, List.getElem?_toArray, List.getElem?_eq_getElem o1]
    have hs := h.set (o := o0 + i) (v := v) hk
    have hk2 : gt (pt S.H k (cs.set (o0 + i) v)) k = some (cs.set (o0 + i) v) := by rw [gt_pt, if_pos rfl]
    obtain ⟨W', e, hp⟩ := run_storeCells (P := P) (b := A k) (o0 := o0) (k := k) (i := i + 1) hs hk2 rfl o2 h1.2
    refine ⟨W', ?_, ?_⟩
    · unfold storeCells
      rw [Addr.add_lit]
      exact (run_bind_ok (run_store1 h1.1 hc (hB.2.2.1 _))).trans e
    · refine hp.ext rfl (fun j => ?_) rfl
      show gt (pt S.H k cs') j = gt (pt (pt S.H k (cs.set (o0 + i) v)) k cs') j
      rw [gt_pt, gt_pt, gt_pt]
      by_cases e : k = j
      · rw [if_pos e, if_pos e]
      · rw [if_neg e, if_neg e, if_neg e]
theorem cellsO_some {g : Bool} {x : Option SV} {cs : List Value} (h : cellsO g x = some cs) : ∃ v, x = some (.v v) ∧ v.cells.toList = cs := by
  unfold cellsO at h
  split at h
  · cases h; exact ⟨_, rfl, rfl⟩
  · rename_i v
    split at h
    · rename_i h1
      cases h
      refine ⟨_, rfl, ?_⟩
      cases v <;> first | (cases h1; done) | rfl
    · cases h
  · cases h
theorem new_ok (hok : Ok C A S a W) {d : Option Nat} (hd : ∀ t, d = some t → t < C.N) (cs : Array Value) (t : TypeId) : Ok C (upA A S.n W.heap.size) (S.new d cs.toList) (a.put d (.pointer (some ⟨W.heap.size, 0, none⟩))) (W.alloc (.cells cs t (0, 0))) :=
  hok.new hd (HB.new W _ t rfl) hok.2.bl.size (fun k ds hk e => by have := (hok.2.hb k ds hk).lt; omega) (fun hb => by have := (hok.2.tb _ hb).2; omega) ((Below.refl _ _).alloc (Nat.le_refl _) _)
theorem run1_step {b : Bool} {o : Oper} {m : M} {K : St → Prop} (hC : C.fr = none) (hok : Ok C A S a W) (hc : compOp C.P b o.op = some m) (hd : ∀ t, o.dst = some t → t < C.N) (hst : ∀ g m' x y, m = .st g m' x y → o.dst = none) (h : run1 C m o.dst K S) :
    stepIs C.P (fun u W' => ∃ A' S', Ok C A' S' (a.put o.dst u) W' ∧ K S') ((execOp a.eval o).run C.P W) := by
  by_cases hm : head m = true
  · obtain ⟨x, h1, h2, h3, -⟩ := run1_head hok.1 hc hm h
    refine stepIs_mono (h3 A a hok.1 W (by rw [kn_none hC]; exact hok.2)) fun u W' ⟨hu, hg⟩ => ?_
    subst hu
    exact ⟨A, _, ⟨hok.1.put h1 hd, (hok.2.grow hg).put _ _⟩, h2⟩
  cases m with
  | new zs =>
    have ho : ∃ t i z, o.op = .alloc t ∧ C.P.info? t = some i ∧ i.zero = some z ∧ zs = z.cells.toList := by
      cases hoo : o.op <;> rw [hoo] at hc
      case alloc t =>
        unfold compOp at hc
        simp only at hc
        split at hc
        · cases hc
        split at hc
        · rename_i i hi
          split at hc
          · rename_i z hz
            cases hc
            exact ⟨t, i, z, rfl, hi, hz, rfl⟩
          · cases hc
        · cases hc
      case binOp op t y z yt =>
        cases op <;> unfold compOp at hc <;> (simp only at hc; repeat' (split at hc)) <;> cases hc
      case call cl =>
        obtain ⟨ce, ags, ts⟩ := cl
        unfold compOp at hc
        split at hc <;> first | (cases hc; done) | skip
        all_goals (rename_i heq; cases heq)
        all_goals (repeat' (split at hc)); all_goals (cases hc)
      all_goals (unfold compOp at hc; (try unfold compBd at hc); (try simp only at hc); (repeat' (split at hc)); all_goals (cases hc))
    obtain ⟨t, i, z, ho, hi, hz, rfl⟩ := ho
    have e : (execOp a.eval o).run C.P W = .ok (.value (.pointer (some ⟨W.heap.size, 0, none⟩))) (W.alloc (.cells z.cells t (0, 0))) := by
      unfold execOp
      rw [ho]
      refine run_v ?_
      unfold Instr.alloc
      have h1 : (zeroValue t).run C.P W = .ok z W := by
        unfold zeroValue typeInfo
        simp [go_sem, hi, hz]
      rw [run_bind_ok h1]
      rfl
    rw [e]
    exact ⟨_, _, new_ok hok hd z.cells t, h⟩
  | box g m' x =>
    have ho : ∃ t, o.op = .box t x := by
      cases hoo : o.op <;> rw [hoo] at hc
      case box t y =>
        unfold compOp at hc
        simp only at hc
        split at hc
        · cases hc; exact ⟨t, rfl⟩
        · cases hc
      case binOp op t y z yt =>
        cases op <;> unfold compOp at hc <;> (simp only at hc; repeat' (split at hc)) <;> cases hc
      case call cl =>
        obtain ⟨ce, ags, ts⟩ := cl
        unfold compOp at hc
        split at hc <;> first | (cases hc; done) | skip
        all_goals (rename_i heq; cases heq)
        all_goals (repeat' (split at hc)); all_goals (cases hc)
      all_goals (unfold compOp at hc; (try unfold compBd at hc); (try simp only at hc); (repeat' (split at hc)); all_goals (cases hc))
    obtain ⟨t, ho⟩ := ho
    have h' : boxX (cellsO g (S.ev x)) o.dst K S := h
    unfold boxX at h'
    split at h'
    · rename_i cs hcs
      obtain ⟨v, hv, rfl⟩ := cellsO_some hcs
      have e : (execOp a.eval o).run C.P W = .ok (.value (.pointer (some ⟨W.heap.size, 0, none⟩))) (W.alloc (.cells v.cells t (0, 0))) := by
        have e1 := hok.1.ev hv
        unfold execOp
        rw [ho]
        refine run_v ?_
        rw [e1]
        rfl
      rw [e]
      exact ⟨_, _, new_ok hok hd v.cells t, h'⟩
    · exact h'.elim
  | st g m' x y =>
    have hdn := hst g m' x y rfl
    have ho : ∃ t, o.op = .store t x y ∧ gmOf C.P t = some (g, m') := by
      cases hoo : o.op <;> rw [hoo] at hc
      case store t y z =>
        unfold compOp at hc
        simp only at hc
        split at hc
        · rename_i g'' m'' hgm
          cases hc; exact ⟨t, rfl, hgm⟩
        · cases hc
      case binOp op t y z yt =>
        cases op <;> unfold compOp at hc <;> (simp only at hc; repeat' (split at hc)) <;> cases hc
      case call cl =>
        obtain ⟨ce, ags, ts⟩ := cl
        unfold compOp at hc
        split at hc <;> first | (cases hc; done) | skip
        all_goals (rename_i heq; cases heq)
        all_goals (repeat' (split at hc)); all_goals (cases hc)
      all_goals (unfold compOp at hc; (try unfold compBd at hc); (try simp only at hc); (repeat' (split at hc)); all_goals (cases hc))
    obtain ⟨t, ho, hgm⟩ := ho
    have h' : stX C m' (S.ev x) (cellsO g (S.ev y)) K S := h
    unfold stX at h'
    split at h'
    · rename_i k o' hx
      unfold stH at h'
      split at h'
      · rename_i cs vs hcs hvs
        unfold stF at h'
        split at h'
        · rename_i cs' hl hov
          rw [Bool.and_eq_true] at hl
          obtain ⟨v, hv, rfl⟩ := cellsO_some hvs
          obtain ⟨W', e, hp⟩ := run_storeCells (P := C.P) (b := A k) (o0 := o') (k := k) (i := 0) hok.2 hcs rfl hov hl.2
          have e2 : (execOp a.eval o).run C.P W = .ok .skip W' := by
            have e1 := hok.1.ev hx
            have e3 := hok.1.ev hv
            unfold execOp
            rw [ho]
            refine run_u ?_
            rw [e1, e3]
            show Sem.run C.P (storeVar t ⟨A k, o', none⟩ v) W = _
            unfold storeVar
            rw [run_bind_ok (run_szOf (gmOf_spec hgm).2.1 W)]
            have hsz : v.cells.size = m' := by rw [← lenB_eq hl.1]; simp
            simp only [hsz, ne_eq, not_true_eq_false, if_false]
            exact e
          rw [e2]
          refine ⟨A, ⟨S.n, S.E, pt S.H k cs', S.T⟩, ⟨?_, hp⟩, h'⟩
          rw [hdn]
          exact ⟨hok.1.df, hok.1.sz, hok.1.sl, hok.1.nm⟩
        · exact h'.elim
      · exact h'.elim
    · rename_i p hx
      split at h'
      · rename_i v hvs
        obtain ⟨X, h1, h2, h3, h4, h5⟩ := h'
        obtain ⟨u, hu, huc⟩ := cellsO_some hvs
        obtain ⟨q1, ⟨q, q2⟩, q3, q4⟩ := h1 A W hok.2
        have e2 : (execOp a.eval o).run C.P W = .ok .skip (W.setCell p v) := by
          have e1 := hok.1.ev hx
          have e3 := hok.1.ev hu
          unfold execOp
          rw [ho]
          refine run_u ?_
          rw [e1, e3]
          show Sem.run C.P (storeVar t p u) W = _
          unfold storeVar
          rw [run_bind_ok (run_szOf (gmOf_spec hgm).2.1 W)]
          have hsz : u.cells.size = 1 := by
            have := congrArg List.length huc
            simpa using this
          simp only [hsz, ne_eq, not_true_eq_false, if_false]
          rw [huc]
          unfold storeCells
          rw [Addr.add_zero']
          exact run_bind_ok (run_store1 h4 q2 q3)
        rw [e2]
        refine ⟨A, ⟨S.n, S.E, S.H, X⟩, ⟨?_, ?_⟩, h5⟩
        · rw [hdn]
          exact ⟨hok.1.df, hok.1.sz, hok.1.sl, hok.1.nm⟩
        · refine HpOk.left hok.2 (v := undef) (u := undef) (hmv := mv_ok hC hok.2) ⟨rfl, ⟨rfl, rfl, rfl, by rw [World.size_setCell]; exact Nat.le_refl _, fun i hi hb => Below.heap_setCell W p v i fun e => hb (by rw [mv_none hC, e]; exact q1)⟩, q4, h2, fun b hb => ⟨.inl (h3 b hb), by rw [World.size_setCell]; exact (hok.2.tb b (h3 b hb)).2⟩⟩
      · rename_i mm vs' hvs
        obtain ⟨hl, X, h1, h2, h3, h5⟩ := h'
        obtain ⟨u, hu, huc⟩ := cellsO_some hvs
        obtain ⟨q1, W', e, hmv, q4⟩ := h1 A W hok.2
        have e2 : (execOp a.eval o).run C.P W = .ok .skip W' := by
          have e1 := hok.1.ev hx
          have e3 := hok.1.ev hu
          unfold execOp
          rw [ho]
          refine run_u ?_
          rw [e1, e3]
          show Sem.run C.P (storeVar t p u) W = _
          unfold storeVar
          rw [run_bind_ok (run_szOf (gmOf_spec hgm).2.1 W)]
          have hsz : u.cells.size = mm + 2 := by
            have := congrArg List.length huc
            rw [lenB_eq hl] at this
            simpa using this
          simp only [hsz, ne_eq, not_true_eq_false, if_false]
          rw [huc]
          exact e
        rw [e2]
        refine ⟨A, ⟨S.n, S.E, S.H, X⟩, ⟨?_, ?_⟩, h5⟩
        · rw [hdn]
          exact ⟨hok.1.df, hok.1.sz, hok.1.sl, hok.1.nm⟩
        · obtain ⟨m1, m2, m3, m4, m5⟩ := hmv
          refine HpOk.left hok.2 (v := undef) (u := undef) (hmv := mv_ok hC hok.2) ⟨rfl, ⟨m1, m2, m3, m4, fun i hi hb => m5 i hi fun e => hb (by rw [mv_none hC, List.mem_singleton.1 e]; exact q1)⟩, q4, h2, fun b hb => ⟨.inl (h3 b hb), Nat.lt_of_lt_of_le (hok.2.tb b (h3 b hb)).2 m4⟩⟩
      · exact h'.elim
    · exact h'.elim
  | call b' f l =>
    have hb : b' = false := by cases b' with | false => rfl | true => exact absurd rfl hm
    subst hb
    have ho : ∃ ags ts, o.op = .call ⟨.value (.func f), ags, ts⟩ ∧ ags.toList = l := by
      cases hoo : o.op <;> rw [hoo] at hc
      case call cl =>
        obtain ⟨ce, ags, ts⟩ := cl
        unfold compOp at hc
        split at hc <;> first | (cases hc; done) | skip
        all_goals (rename_i heq; cases heq)
        · cases hc; exact ⟨_, _, rfl, rfl⟩
        all_goals (repeat' (split at hc)); all_goals (cases hc)
      case binOp op t y z yt =>
        cases op <;> unfold compOp at hc <;> (simp only at hc; repeat' (split at hc)) <;> cases hc
      all_goals (unfold compOp at hc; (try unfold compBd at hc); (try simp only at hc); (repeat' (split at hc)); all_goals (cases hc))
    obtain ⟨ags, ts, ho, hal⟩ := ho
    have h' : callX C false f (evs S l) o.dst K S := h
    unfold callX at h'
    cases he : evs S l with
    | none => rw [he] at h'; exact h'.elim
    | some vs =>
      rw [he] at h'
      obtain ⟨ι, v, X, h1, h2⟩ := h'
      rw [exec_call ho (hok.1.ev (x := .func f) (v := .v _) rfl), evs_arr hok.1 (by rw [hal]; exact he)]
      refine stepIs_mono (h1 A W hok.2).out fun u W' ⟨i, hl⟩ => ?_
      have hu := hl.1
      subst hu
      have hs2 : SlOk C A ⟨S.n, S.E, S.H, X i⟩ a := ⟨hok.1.df, hok.1.sz, hok.1.sl, hok.1.nm⟩
      exact ⟨A, _, ⟨hs2.put (x := .v (v i)) (Nat.zero_le _) hd, (hok.2.left hl (mv_ok hC hok.2)).put _ _⟩, h2 i⟩
  | gen b' k l =>
    exfalso
    cases hoo : o.op <;> rw [hoo] at hc
    case binOp op t y z yt =>
      cases op <;> unfold compOp at hc <;> (simp only at hc; repeat' (split at hc)) <;> cases hc
    case call cl =>
      obtain ⟨ce, ags, ts⟩ := cl
      unfold compOp at hc
      split at hc <;> first | (cases hc; done) | skip
      all_goals (rename_i heq; cases heq)
      all_goals (repeat' (split at hc)); all_goals (cases hc)
    all_goals (unfold compOp at hc; (try unfold compBd at hc); (try simp only at hc); (repeat' (split at hc)); all_goals (cases hc))
  | _ => exact absurd rfl hm
theorem run1_stepG {b b' : Bool} {o : Oper} {k : GK} {l : List Operand} {K : St → Prop} (hC : C.fr = none) (hok : Ok C A S a W) (hc : compGen b o = some (.gen b' k l)) (hd : ∀ t, o.dst = some t → t < C.N) (h : run1 C (.gen b' k l) o.dst K S) :
    stepIs C.P (fun u W' => ∃ A' S', Ok C A' S' (a.put o.dst u) W' ∧ K S') ((execOp a.eval o).run C.P W) := by
  cases b' with
  | true =>
    obtain ⟨x, x1, x2, x3⟩ := run1_headG hok.1 hc rfl h
    rw [x3 A a hok.1 W]
    exact ⟨A, _, ⟨hok.1.put x1 hd, hok.2.put _ _⟩, x2⟩
  | false =>
    have h' : genX C false k (evs S l) o.dst K S := h
    unfold genX at h'
    cases he : evs S l with
    | none => rw [he] at h'; exact h'.elim
    | some vs =>
      rw [he] at h'
      obtain ⟨ι, v, X, h1, h2⟩ := h'
      rw [(gen_run hc a.eval).2, evs_map hok.1 he]
      refine stepIs_mono (h1 A W hok.2).out fun u W' ⟨i, hl⟩ => ?_
      have hu := hl.1
      subst hu
      have hs2 : SlOk C A ⟨S.n, S.E, S.H, X i⟩ a := ⟨hok.1.df, hok.1.sz, hok.1.sl, hok.1.nm⟩
      exact ⟨A, _, ⟨hs2.put (x := .v (v i)) (Nat.zero_le _) hd, (hok.2.left hl (mv_ok hC hok.2)).put _ _⟩, h2 i⟩
def compGd (ops : Array Oper) : Option (Nat × Bool) → Option (Option (Nat × Bool))
  | none => some none
  | some (j, w) => match (ops[j]?).bind (·.dst) with
    | some t => some (some (t, w))
    | none => none
def dstOk (N : Nat) (m : M) (d : Option Nat) : Bool :=
  (match d with | some t => decide (t < N) | none => true) && (match m with | .st _ _ _ _ => d.isNone | _ => true)
def compG (P : Program) (b : Bool) (ops : Array Oper) (N : Nat) (o : Oper) : Option G :=
  match compOp P b o.op, compGen b o, compGd ops o.guard with
  | some m, _, some g => if dstOk N m o.dst then some (o.dst, g, m) else none
  | none, some m, some g => if dstOk N m o.dst then some (o.dst, g, m) else none
  | none, none, some g => if dstOk N .trap o.dst then some (o.dst, g, .trap) else none
  | _, _, none => none
theorem dstOk_spec {N : Nat} {m : M} {d : Option Nat} (h3 : dstOk N m d = true) : (∀ t, d = some t → t < N) ∧ (∀ g' m' x y, m = .st g' m' x y → d = none) := by
  unfold dstOk at h3
  rw [Bool.and_eq_true] at h3
  refine ⟨fun t e => ?_, fun g' m'' x y e => ?_⟩
  · have := h3.1
    rw [e] at this
    simpa using this
  · have := h3.2
    subst e
    simpa using this
theorem compG_spec {P : Program} {b : Bool} {ops : Array Oper} {N : Nat} {o : Oper} {d : Option Nat} {g : Option (Nat × Bool)} {m : M} (h : compG P b ops N o = some (d, g, m)) :
    o.dst = d ∧ (compOp P b o.op = some m ∨ m = .trap ∨ compGen b o = some m) ∧ compGd ops o.guard = some g ∧ (∀ t, d = some t → t < N) ∧ (∀ g' m' x y, m = .st g' m' x y → d = none) := by
  unfold compG at h
  split at h
  · rename_i m' _ g' h1 h2
    split at h
    · rename_i h3
      cases h
      exact ⟨rfl, .inl h1, h2, (dstOk_spec h3).1, (dstOk_spec h3).2⟩
    · cases h
  · rename_i m' g' h1 h0 h2
    split at h
    · rename_i h3
      cases h
      exact ⟨rfl, .inr (.inr h0), h2, (dstOk_spec h3).1, (dstOk_spec h3).2⟩
    · cases h
  · rename_i g' h1 h0 h2
    split at h
    · rename_i h3
      cases h
      exact ⟨rfl, .inr (.inl rfl), h2, (dstOk_spec h3).1, (dstOk_spec h3).2⟩
    · cases h
  · cases h
theorem compGen_gen {b : Bool} {o : Oper} {m : M} (h : compGen b o = some m) : ∃ k l, m = .gen b k l := by
  unfold compGen at h
  split at h <;> first | (cases h; exact ⟨_, _, rfl⟩) | cases h
theorem run1_trap {d : Option Nat} {K : St → Prop} (h : run1 C .trap d K S) : False := h
def compL (P : Program) (ops : Array Oper) (N : Nat) : List Oper → Option (List G)
  | [] => some []
  | o :: l => match compG P false ops N o, compL P ops N l with
    | some g, some r => some (g :: r)
    | _, _ => none
theorem yielded_of {ops : Array Oper} {j t : Nat} {w b : Bool} (hs : SlOk C A S a) (hj : (ops[j]?).bind (·.dst) = some t) (ht : gt S.E t = some (.v (.bool b))) : yielded ops a.tmps j = some b := by
  unfold yielded
  rw [hj]
  have h := hs.sl t _ ht
  have h2 : a.tmps.getD t undef = .bool b := h
  cases hx : a.tmps[t]? with
  | none => simp [hx, undef] at h2
  | some x =>
    have : x = .bool b := by simpa [hx] using h2
    subst this
    simp [hx]
theorem yielded_tup {ops : Array Oper} {j t : Nat} {vs : Array Value} (hs : SlOk C A S a) (hj : (ops[j]?).bind (·.dst) = some t) (ht : gt S.E t = some (.v (.tuple vs))) : yielded ops a.tmps j = none := by
  unfold yielded
  rw [hj]
  have h := hs.sl t _ ht
  have h2 : a.tmps.getD t undef = .tuple vs := h
  cases hx : a.tmps[t]? with
  | none => simp [hx]
  | some x =>
    have : x = .tuple vs := by simpa [hx] using h2
    subst this
    simp [hx]
theorem gdS_spec {ops : Array Oper} {j t : Nat} {w : Bool} {m : M} {d : Option Nat} {K : St → Prop} (hs : SlOk C A S a) (hj : (ops[j]?).bind (·.dst) = some t) (h : gdS (gt S.E t) w C m d K S) :
    (yielded ops a.tmps j = some w ∧ run1 C m d K S) ∨ (yielded ops a.tmps j ≠ some w ∧ K (S.put d (.v undef))) := by
  unfold gdS at h
  split at h
  · rename_i b hb
    have hy := yielded_of (w := w) hs hj hb
    unfold gdT at h
    by_cases hbw : b = w
    · rw [if_pos hbw] at h
      exact .inl ⟨by rw [hy, hbw], h⟩
    · rw [if_neg hbw] at h
      exact .inr ⟨by rw [hy]; simpa using hbw, h⟩
  · rename_i vs hb
    exact .inr ⟨by rw [yielded_tup hs hj hb]; simp, h⟩
  · exact h.elim
theorem ops_sound {ops : Array Oper} {Q : Exit → Act → World → Prop} {p : St → Prop} (hC : C.fr = none) (hp : ∀ A S a W, Ok C A S a W → p S → Q .normal a W) :
    ∀ {l : List Oper} {gl : List G} {A : Nat → Nat} {S : St} {a : Act} {W : World}, compL C.P ops C.N l = some gl → Sx.ops C gl p S → Ok C A S a W → wpList C.P ops Q l a W
  | [], gl, A, S, a, W, hc, h, hok => by
    cases hc
    exact wpList_nil (hp A S a W hok h)
  | o :: l, gl, A, S, a, W, hc, h, hok => by
    unfold compL at hc
    split at hc
    · rename_i g r h1 h2
      cases hc
      obtain ⟨d, gd, m⟩ := g
      obtain ⟨e1, e2, e3, e4, e5⟩ := compG_spec h1
      subst e1
      have step : Region.wanted o (yielded ops a.tmps) = true → run1 C m o.dst (Sx.ops C r p) S → wpList C.P ops Q (o :: l) a W := fun hw h => by
        rcases e2 with e2 | e2 | e2
        rotate_left
        · subst e2; exact (run1_trap h).elim
        · obtain ⟨k, l', rfl⟩ := compGen_gen e2
          unfold wpList
          rw [if_pos hw]
          refine .inl ?_
          unfold Oper.wp
          exact stepIs_upon (run1_stepG hC hok e2 e4 h) fun v W' ⟨A', S', hok', hK⟩ => ops_sound hC hp h2 hK hok'
        unfold wpList
        rw [if_pos hw]
        refine .inl ?_
        unfold Oper.wp
        exact stepIs_upon (run1_step hC hok e2 e4 e5 h) fun v W' ⟨A', S', hok', hK⟩ => ops_sound hC hp h2 hK hok'
      have h' : gdX gd C m o.dst (Sx.ops C r p) S := h
      unfold gdX at h'
      split at h'
      · refine step ?_ h'
        unfold compGd at e3
        split at e3
        · rename_i hg; unfold Region.wanted; rw [hg]
        · split at e3 <;> cases e3
      · rename_i t w
        unfold compGd at e3
        split at e3
        · cases e3
        · rename_i j w' hg
          split at e3
          · rename_i t' hj
            cases e3
            rcases gdS_spec hok.1 hj h' with ⟨hy, h'⟩ | ⟨hy, h'⟩
            · exact step (by unfold Region.wanted; rw [hg]; simp [hy]) h'
            ·   have hno : Region.wanted o (yielded ops a.tmps) = false := by unfold Region.wanted; rw [hg]; simpa using hy
                unfold wpList
                rw [if_neg (by rw [hno]; decide)]
                exact ops_sound hC hp h2 h' ⟨hok.1.put (x := .v undef) (Nat.zero_le _) e4, hok.2.put _ _⟩
          · cases e3
    · cases hc
end Sx
end Go.Proofs.Ythcboomdkpiflaa

/- DriftM: As the drift law, but a call that is awaited alone may change the blocks 'rows'. -/
namespace Go.Proofs.Ythcboomdkpiflaa
open Go Go.RowKit
set_option linter.unusedVariables false
set_option linter.unusedSimpArgs false
namespace Dm
/-- Only the blocks bs have changed, and new ones been made. -/
def Mvs (bs : List Nat) (W W' : World) : Prop :=
  W'.os = W.os ∧ W'.tape = W.tape ∧ W'.output = W.output ∧ W.heap.size ≤ W'.heap.size ∧ ∀ i, i < W.heap.size → i ∉ bs → W'.heap[i]? = W.heap[i]?
theorem mv_gt {bs : List Nat} {W W' : World} (g : W.grownBy W' none) : Mvs bs W W' := ⟨g.os, g.tape, g.output, g.size, fun i hi _ => g.block i hi (by simp)⟩
theorem Mvs.size {bs : List Nat} {W W' : World} (g : Mvs bs W W') : W.heap.size ≤ W'.heap.size := g.2.2.2.1
theorem _root_.Go.Proofs.Ythcboomdkpiflaa.HB.mv {bs : List Nat} {w w' : World} {b n0 : Nat} {cs : Array Value} (h : HB w b cs) (g : Mvs bs w w') (hb : n0 ≤ b) (hrow : ∀ r ∈ bs, r < n0) : HB w' b cs := by
  have hl := h.lt
  obtain ⟨T, h⟩ := h
  exact ⟨T, (g.2.2.2.2 b hl (fun e => by have := hrow _ e; omega)).trans h⟩
theorem _root_.Go.Proofs.Ythcboomdkpiflaa.Fit.mv {rows : List Nat} {n0 b : Nat} {bs : List (Nat × Array Value)} {w w' : World} {zs : Array Value} (h : Fit n0 bs w b zs) (g : Mvs rows w w') (hrow : ∀ r ∈ rows, r < n0) : Fit n0 bs w' b zs := ⟨h.1, h.2.1, h.2.2.mv g h.1 hrow⟩
section
variable {P : Program} {ops : Array Oper} {Q : Exit → Act → World → Prop} {S : World → Prop} {rows : List Nat}
def wpDr (P : Program) (ops : Array Oper) (Q : Exit → Act → World → Prop) (S : World → Prop) (rows : List Nat) (n n0 g : Nat) (bx : Boxes) (L : Array Bool → Act → List (Nat × Array Value) → World → Prop) : Nat → Array Bool → Act → List (Nat × Array Value) → World → Prop
  | 0, listed, a, bs, w => ∀ w1, S w1 → w.grownBy w1 none → L listed a bs w1
  | f + 1, listed, a, bs, w => ∀ w1, S w1 → w.grownBy w1 none → Region.ready .any ops listed ≠ [] ∧
      ∀ i ∈ Region.ready .any ops listed, (n ≤ i → wpOp P ops Q i (wpAny P .any ops Q (f + g) (listed.setIfInBounds i true)) a w1) ∧
        (i < n → (∃ x ∈ bx, x.1 = i) → ∀ x ∈ bx, x.1 = i → ∀ b, Fit n0 bs w1 b x.2.2 → wpDr P ops Q S rows n n0 g bx L f (listed.setIfInBounds i true) (a.put (some x.2.1) (.pointer (some ⟨b, 0, none⟩))) ((b, x.2.2) :: bs) w1) ∧
        (i < n → (¬∃ x ∈ bx, x.1 = i) → wpOp P ops Q i (fun a' w' => Mvs rows w1 w' ∧ wpDr P ops Q S rows n n0 g bx L f (listed.setIfInBounds i true) a' bs w') a w1)
theorem wpDr_drift {n n0 g : Nat} {bx : Boxes} {L : Array Bool → Act → List (Nat × Array Value) → World → Prop} : ∀ {f : Nat} {listed : Array Bool} {a : Act} {bs : List (Nat × Array Value)} {w w' : World}, wpDr P ops Q S rows n n0 g bx L f listed a bs w → w.grownBy w' none → wpDr P ops Q S rows n n0 g bx L f listed a bs w'
  | 0, _, _, _, _, _, h, g => fun w1 hs h1 => h w1 hs (gt_trans g h1)
  | _ + 1, _, _, _, _, _, h, g => fun w1 hs h1 => h w1 hs (gt_trans g h1)
theorem wpAny_of_dr {n n0 g : Nat} {bx : Boxes} {L : Array Bool → Act → List (Nat × Array Value) → World → Prop} (hk : ∀ w w', S w → Mvs rows w w' → S w') (hn0 : ∀ w, S w → n0 ≤ w.heap.size) (hrow : ∀ r ∈ rows, r < n0)
    (hbx : ∀ x ∈ bx, ∃ o, ops[x.1]? = some o ∧ Makes P o x.2.1 x.2.2) (hL : ∀ listed a bs w, L listed a bs w → wpAny P .any ops Q g listed a w) :
    ∀ (f : Nat) (listed : Array Bool) (a : Act) (bs : List (Nat × Array Value)) (w : World), S w → (∀ p ∈ bs, p.1 < w.heap.size) → wpDr P ops Q S rows n n0 g bx L f listed a bs w → wpAny P .any ops Q (f + g) listed a w
  | 0, listed, a, bs, w, hs, hlt, h => by rw [Nat.zero_add]; exact hL _ _ _ _ (h w hs (gt_refl _ _))
  | f + 1, listed, a, bs, w, hs, hlt, h => by
    rw [show f + 1 + g = (f + g) + 1 by omega]
    have h' := h w hs (gt_refl _ _)
    refine ⟨fun h0 => absurd h0 h'.1, fun i hi => ?_⟩
    rcases Nat.lt_or_ge i n with hin | hin
    rotate_left
    · exact (h'.2 i hi).1 hin
    by_cases hx : ∃ x ∈ bx, x.1 = i
    · obtain ⟨x, hxm, rfl⟩ := hx
      obtain ⟨o, ho, hd, hg, haf, hrun⟩ := hbx x hxm
      obtain ⟨T, hrunT⟩ := hrun a.eval w
      unfold wpOp
      simp only [ho]
      have hw : Region.wanted o (yielded ops a.tmps) = true := by unfold Region.wanted; rw [hg]
      simp only [hw, if_true]
      refine .inl ?_
      unfold Oper.wp
      rw [hrunT]
      simp only [Oper.upon]
      have hs2 : S (w.alloc (.cells x.2.2 T (0, 0))) := hk _ _ hs (mv_gt (gt_alloc _ _ _))
      have hfit : Fit n0 bs (w.alloc (.cells x.2.2 T (0, 0))) w.heap.size x.2.2 := ⟨hn0 _ hs, fun p hp e => by have := hlt p hp; omega, HB.new _ _ _ rfl⟩
      have H := ((h _ hs2 (gt_alloc _ _ _)).2 x.1 hi).2.1 hin ⟨x, hxm, rfl⟩ x hxm rfl _ hfit
      rw [hd]
      refine wpAny_of_dr hk hn0 hrow hbx hL f _ _ _ _ hs2 (fun p hp => ?_) H
      rcases List.mem_cons.1 hp with rfl | hp
      · simp
      · have := hlt p hp; simp; omega
    · refine wpOp_mono (fun a' w' ⟨hg, hd⟩ => ?_) ((h'.2 i hi).2.2 hin hx)
      exact wpAny_of_dr hk hn0 hrow hbx hL f _ a' bs w' (hk _ _ hs hg) (fun p hp => Nat.lt_of_lt_of_le (hlt p hp) hg.size) hd
theorem wpDr_first {n n0 g i : Nat} {lp : List Nat} {bx : Boxes} {oi : Oper} {v : Value} {L : Array Bool → Act → List (Nat × Array Value) → World → Prop} (hi : ops[i]? = some oi) (hsel : ∀ (j : Nat) (o : Oper) cs b, ops[j]? = some o → o.op ≠ .select cs b)
    (htl : Region.tailB ops n lp = true) (hin : i < n) (hilp : i ∉ lp) (hibx : ¬∃ x ∈ bx, x.1 = i) (hQ : ∀ c (a : Act) d v w, Q (.panic c) (a.put d v) w → Q (.panic c) a w) (hk : ∀ w w', S w → Mvs rows w w' → S w') (hrow : ∀ r ∈ rows, r < n0)
    (hbx : ∀ x ∈ bx, ∃ o, ops[x.1]? = some o ∧ Makes P o x.2.1 x.2.2)
    (hdone : ∀ listed a bs w, L listed a bs w → ∀ j ∈ Region.ready .any ops listed, n ≤ j) :
    ∀ (f : Nat) (listed : Array Bool) (a : Act) (bs : List (Nat × Array Value)) (w : World), HeadInv .any ops n listed →
      (∀ j oj, ops[j]? = some oj → j ≠ i → listed.getD j true = false → (∀ e ∈ oj.after, Region.binds .any e = true → e.on ≠ i) → oi.apart ops oj = true) →
      i ∈ Region.ready .any ops listed → YieldsD P ops S none oi v a →
      wpDr P ops Q S rows n n0 g bx L f (listed.setIfInBounds i true) (a.put oi.dst v) bs w → wpDr P ops Q S rows n n0 g bx L (f + 1) listed a bs w := by
  intro f
  induction f with
  | zero =>
    intro listed a bs w inv _ hr hy H w1 hs1 ht1
    have hun := (mem_ready.1 hr).1
    refine ⟨fun h => (by rw [h] at hr; cases hr), fun j hj => ?_⟩
    have hjn : j < n := tailB_spec htl inv hin hilp hun j hj
    by_cases hji : j = i
    · subst hji; exact ⟨fun h => absurd h (by omega), fun _ h => absurd h hibx, fun _ _ => hy.wpOp hi hs1 fun w' hg => ⟨mv_gt hg, wpDr_drift H (gt_trans ht1 hg)⟩⟩
    · have := hdone _ _ _ _ (H w1 hs1 ht1) j (ready_mono hj hji)
      omega
  | succ f ih =>
    intro listed a bs w inv hfree hr hy H w1 hs1 ht1
    have hun := (mem_ready.1 hr).1
    refine ⟨fun h => (by rw [h] at hr; cases hr), fun j hj => ?_⟩
    have hjn : j < n := tailB_spec htl inv hin hilp hun j hj
    by_cases hji : j = i
    · subst hji; exact ⟨fun h => absurd h (by omega), fun _ h => absurd h hibx, fun _ _ => hy.wpOp hi hs1 fun w' hg => ⟨mv_gt hg, wpDr_drift H (gt_trans ht1 hg)⟩⟩
    · obtain ⟨_, hA, hB⟩ := (H w1 hs1 ht1).2 j (ready_mono hj hji)
      obtain ⟨hjun, oj, hoj, hall⟩ := mem_ready.1 hj
      have hnot : ∀ e ∈ oj.after, Region.binds .any e = true → e.on ≠ i := fun e he hb heq => by
        have h1 := hall e he hb
        rw [heq, getD_both hun] at h1
        cases h1
      have hap := hfree j oj hoj hji hjun hnot
      have hfree' : ∀ k ok, ops[k]? = some ok → k ≠ i → (listed.setIfInBounds j true).getD k true = false →
          (∀ e ∈ ok.after, Region.binds .any e = true → e.on ≠ i) → oi.apart ops ok = true := fun k ok hk hki hun hno => by
        refine hfree k ok hk hki ?_ hno
        by_cases hjk : j = k
        · subst hjk; exact hjun
        · rw [getD_set_ne true hjk] at hun; exact hun
      refine ⟨fun h => absurd h (by omega), fun _ hx x hxm hxj b hfit => ?_, fun _ hx => ?_⟩
      · have h1 := hA hjn hx x hxm hxj b hfit
        obtain ⟨o, ho, hmk⟩ := hbx x hxm
        rw [hxj] at ho
        obtain rfl : oj = o := Option.some.inj (hoj.symm.trans ho)
        obtain ⟨a1, a2, a3⟩ := Oper.apart_spec hap
        have hd := hmk.1
        refine ih (listed.setIfInBounds j true) _ _ w1 (inv.set hj hjn) hfree' (ready_mono hr (Ne.symm hji)) (hy.of_same (execOp_put oi (fun cs b => hsel i oi cs b hi) a _ _ (fun d e => a3 d (by rw [hd]; exact e))) (wanted_put oi a _ _ (fun d e => a3 d (by rw [hd]; exact e)))) ?_
        rw [Array.setIfInBounds_comm _ _ hji, ← Act.put_comm a v _ (fun d e e' => a2 d e (by rw [hd]; exact e'))]
        exact h1
      · have h2 := wpOp_putD hoj hap (fun cs b => hsel i oi cs b hi) (fun cs b => hsel j oj cs b hoj) hQ hy (hB hjn hx)
        refine wpOp_mono (fun a' w' h3 => ⟨h3.2.1, ih (listed.setIfInBounds j true) a' bs w' (inv.set hj hjn) hfree' (ready_mono hr (Ne.symm hji)) h3.1 ?_⟩) h2
        rw [Array.setIfInBounds_comm _ _ hji]
        exact h3.2.2
theorem wpDr_late {n n0 g i : Nat} {bx : Boxes} {oi : Oper} {v : Value} {L : Array Bool → Act → List (Nat × Array Value) → World → Prop} (hi : ops[i]? = some oi) (hsel : ∀ (j : Nat) (o : Oper) cs b, ops[j]? = some o → o.op ≠ .select cs b)
    (hin : i < n) (hibx : ¬∃ x ∈ bx, x.1 = i) (hQ : ∀ c (a : Act) d v w, Q (.panic c) (a.put d v) w → Q (.panic c) a w) (hk : ∀ w w', S w → Mvs rows w w' → S w')
    (hbx : ∀ x ∈ bx, ∃ o, ops[x.1]? = some o ∧ Makes P o x.2.1 x.2.2)
    (hdone : ∀ listed a bs w, L listed a bs w → ∀ j ∈ Region.ready .any ops listed, n ≤ j) (hLA : ∀ listed a bs w, L listed a bs w → wpAny P .any ops Q g listed a w) :
    ∀ (f : Nat) (listed : Array Bool) (a : Act) (bs : List (Nat × Array Value)) (w : World), HeadInv .any ops n listed →
      (∀ j oj, ops[j]? = some oj → j ≠ i → listed.getD j true = false → (∀ e ∈ oj.after, Region.binds .any e = true → e.on ≠ i) → oi.apart ops oj = true) →
      i ∈ Region.ready .any ops listed → Yields P ops oi v a →
      wpDr P ops Q S rows n n0 g bx L f (listed.setIfInBounds i true) (a.put oi.dst v) bs w → wpDr P ops Q S rows n n0 g bx L (f + 1) listed a bs w := by
  have hQ' : ∀ c (a : Act) w, Q (.panic c) (a.put oi.dst v) w → Q (.panic c) a w := fun c a w h => hQ c a _ _ w h
  intro f
  induction f with
  | zero =>
    intro listed a bs w inv hfree hr hy H w1 hs1 ht1
    have hun := (mem_ready.1 hr).1
    refine ⟨fun h => (by rw [h] at hr; cases hr), fun j hj => ?_⟩
    by_cases hji : j = i
    · subst hji; exact ⟨fun h => absurd h (by omega), fun _ h => absurd h hibx, fun _ _ => (yields_d (S := S) (row := none) hy).wpOp hi hs1 fun w' hg => ⟨mv_gt hg, wpDr_drift H (gt_trans ht1 hg)⟩⟩
    have hj2 := ready_mono hj hji
    have hnj := hdone _ _ _ _ (H w1 hs1 ht1) j hj2
    refine ⟨fun _ => ?_, fun h => absurd h (by omega), fun h => absurd h (by omega)⟩
    have HA := hLA _ _ _ _ (H w1 hs1 ht1)
    obtain ⟨hjun, oj, hoj, hall⟩ := mem_ready.1 hj
    have hnot : ∀ e ∈ oj.after, Region.binds .any e = true → e.on ≠ i := fun e he hb heq => by
      have h1 := hall e he hb
      rw [heq, getD_both hun] at h1
      cases h1
    have hfree' : ∀ k ok, ops[k]? = some ok → k ≠ i → (listed.setIfInBounds j true).getD k true = false →
        (∀ e ∈ ok.after, Region.binds .any e = true → e.on ≠ i) → oi.apart ops ok = true := fun k ok hk hki hun hno => by
      refine hfree k ok hk hki ?_ hno
      by_cases hjk : j = k
      · subst hjk; exact hjun
      · rw [getD_set_ne true hjk] at hun; exact hun
    cases g with
    | zero => rw [HA.1] at hj2; cases hj2
    | succ g =>
      have h2 := wpOp_put hoj (hfree j oj hoj hji hjun hnot) (fun cs b => hsel i oi cs b hi) (fun cs b => hsel j oj cs b hoj) hQ' hy (HA.2 j hj2)
      rw [Nat.zero_add]
      refine wpOp_mono (fun a' w' h3 => wpAny_first hi hsel hQ' g _ a' w' hfree' (ready_mono hr (Ne.symm hji)) h3.1 ?_) h2
      rw [Array.setIfInBounds_comm _ _ hji]
      exact h3.2
  | succ f ih =>
    intro listed a bs w inv hfree hr hy H w1 hs1 ht1
    have hun := (mem_ready.1 hr).1
    refine ⟨fun h => (by rw [h] at hr; cases hr), fun j hj => ?_⟩
    by_cases hji : j = i
    · subst hji; exact ⟨fun h => absurd h (by omega), fun _ h => absurd h hibx, fun _ _ => (yields_d (S := S) (row := none) hy).wpOp hi hs1 fun w' hg => ⟨mv_gt hg, wpDr_drift H (gt_trans ht1 hg)⟩⟩
    obtain ⟨hC, hA, hB⟩ := (H w1 hs1 ht1).2 j (ready_mono hj hji)
    obtain ⟨hjun, oj, hoj, hall⟩ := mem_ready.1 hj
    have hnot : ∀ e ∈ oj.after, Region.binds .any e = true → e.on ≠ i := fun e he hb heq => by
      have h1 := hall e he hb
      rw [heq, getD_both hun] at h1
      cases h1
    have hap := hfree j oj hoj hji hjun hnot
    have hfree' : ∀ k ok, ops[k]? = some ok → k ≠ i → (listed.setIfInBounds j true).getD k true = false →
        (∀ e ∈ ok.after, Region.binds .any e = true → e.on ≠ i) → oi.apart ops ok = true := fun k ok hk hki hun hno => by
      refine hfree k ok hk hki ?_ hno
      by_cases hjk : j = k
      · subst hjk; exact hjun
      · rw [getD_set_ne true hjk] at hun; exact hun
    refine ⟨fun hnj => ?_, fun hjn hx x hxm hxj b hfit => ?_, fun hjn hx => ?_⟩
    · have h2 := wpOp_put hoj hap (fun cs b => hsel i oi cs b hi) (fun cs b => hsel j oj cs b hoj) hQ' hy (hC hnj)
      refine wpOp_mono (fun a' w' h3 => ?_) h2
      rw [show f + 1 + g = (f + g) + 1 by omega]
      refine wpAny_first hi hsel hQ' _ _ a' w' hfree' (ready_mono hr (Ne.symm hji)) h3.1 ?_
      rw [Array.setIfInBounds_comm _ _ hji]
      exact h3.2
    · have h1 := hA hjn hx x hxm hxj b hfit
      obtain ⟨o, ho, hmk⟩ := hbx x hxm
      rw [hxj] at ho
      obtain rfl : oj = o := Option.some.inj (hoj.symm.trans ho)
      obtain ⟨a1, a2, a3⟩ := Oper.apart_spec hap
      have hd := hmk.1
      refine ih (listed.setIfInBounds j true) _ _ w1 (inv.set hj hjn) hfree' (ready_mono hr (Ne.symm hji)) (hy.of_same (execOp_put oi (fun cs b => hsel i oi cs b hi) a _ _ (fun d e => a3 d (by rw [hd]; exact e))) (wanted_put oi a _ _ (fun d e => a3 d (by rw [hd]; exact e)))) ?_
      rw [Array.setIfInBounds_comm _ _ hji, ← Act.put_comm a v _ (fun d e e' => a2 d e (by rw [hd]; exact e'))]
      exact h1
    · have h2 := wpOp_put hoj hap (fun cs b => hsel i oi cs b hi) (fun cs b => hsel j oj cs b hoj) hQ' hy (hB hjn hx)
      refine wpOp_mono (fun a' w' h3 => ⟨h3.2.1, ih (listed.setIfInBounds j true) a' bs w' (inv.set hj hjn) hfree' (ready_mono hr (Ne.symm hji)) h3.1 ?_⟩) h2
      rw [Array.setIfInBounds_comm _ _ hji]
      exact h3.2.2
def Aft (rows : List Nat) (w : World) (K : Act → World → Prop) : Exit → Act → World → Prop
  | .normal, a, w' => Mvs rows w w' ∧ K a w'
  | _, _, _ => False
theorem not_letsOut_aft {w : World} {K : Act → World → Prop} : ¬LetsOut (Aft rows w K) := fun ⟨_, _, h⟩ => h
theorem wpOp_of_aft {i : Nat} {o : Oper} (ho : ops[i]? = some o) (hs : ∀ cs b, o.op ≠ .select cs b) {d : Tmp} {u : Value} (h1 : d ∉ o.looksAt ops) (h2 : o.dst ≠ some d) {K : Act → World → Prop} {a : Act} {w w0 : World} (h : wpList P ops (Aft rows w0 K) [o] a w) :
    wpList P ops (Aft rows w0 fun a' w' => ∃ a'', a' = a''.put (some d) u ∧ K a'' w') [o] (a.put (some d) u) w := by
  have e1 : execOp (a.put (some d) u).eval o = execOp a.eval o := execOp_put o hs a (some d) u (fun d' e => by cases e; exact h1)
  have e2 : Region.wanted o (yielded ops (a.put (some d) u).tmps) = Region.wanted o (yielded ops a.tmps) := wanted_put o a (some d) u (fun d' e => by cases e; exact h1)
  have e3 : ∀ v, (a.put (some d) u).put o.dst v = (a.put o.dst v).put (some d) u := fun v => Act.put_comm a u v (fun d' e => by cases e; exact h2)
  unfold wpList at *
  rw [e2]
  split
  · rename_i hw
    rw [if_pos hw] at h
    rcases h with h | ⟨_, h⟩
    case inr => exact absurd h not_letsOut_aft
    refine .inl ?_
    unfold Oper.wp at *
    rw [e1]
    generalize (execOp a.eval o).run P w = r at *
    cases r with
    | ok n w' =>
      cases n <;> simp only [Oper.upon] at h ⊢
      case value v => exact ⟨h.1, _, e3 v, h.2⟩
      case skip => exact ⟨h.1, _, e3 _, h.2⟩
      case defer dd => exact ⟨h.1, _, Act.put_comm (x := some d) (y := o.dst) ({ a with defers := dd :: a.defers } : Act) u undef (fun d' e => by cases e; exact h2), h.2⟩
      case enter f args =>
        refine Calls.mono h fun e w'' he => ?_
        cases e with
        | returned v => exact ⟨he.1, _, e3 v, he.2⟩
        | panicked c => exact he
        | outgrown => exact absurd he not_letsOut_aft
      case row rr args => exact Rows.mono h fun v w'' he => ⟨he.1, _, e3 v, he.2⟩
    | halt x w' => cases x <;> simp only [Oper.upon] at h ⊢ <;> exact h
  · rename_i hw
    rw [if_neg hw] at h
    exact ⟨h.1, _, e3 _, h.2⟩
theorem wpOp_aft {i : Nat} {o : Oper} (ho : ops[i]? = some o) {K : Act → World → Prop} {a : Act} {w w0 : World} (h : wpList P ops (Aft rows w0 K) [o] a w) : wpOp P ops Q i (fun a' w' => Mvs rows w0 w' ∧ K a' w') a w := by
  unfold wpOp
  simp only [ho]
  unfold wpList at h
  split
  · rename_i hw
    rw [if_pos hw] at h
    rcases h with h | ⟨_, h⟩
    case inr => exact absurd h not_letsOut_aft
    refine .inl ?_
    unfold Oper.wp at *
    generalize (execOp a.eval o).run P w = r at *
    cases r with
    | ok n w' =>
      cases n <;> simp only [Oper.upon] at h ⊢ <;> first
        | exact h
        | exact Calls.mono h (fun e w'' he => by cases e <;> first | exact he | exact (he : False).elim | exact absurd he not_letsOut_aft)
        | exact Rows.mono h (fun _ _ he => he)
    | halt x w' => cases x <;> simp only [Oper.upon] at h ⊢ <;> first | exact h | exact (h : False).elim
  · rename_i hw
    rw [if_neg hw] at h
    exact h
theorem wpList_aft_mono {o : Oper} {K K' : Act → World → Prop} {a : Act} {w w0 : World} (hm : ∀ a w', Mvs rows w0 w' → K a w' → K' a w') (h : wpList P ops (Aft rows w0 K) [o] a w) : wpList P ops (Aft rows w0 K') [o] a w := by
  unfold wpList at *
  split
  · rename_i hw
    rw [if_pos hw] at h
    rcases h with h | ⟨_, h⟩
    case inr => exact absurd h not_letsOut_aft
    refine .inl ?_
    unfold Oper.wp at *
    generalize (execOp a.eval o).run P w = r at *
    cases r with
    | ok n w' =>
      cases n <;> simp only [Oper.upon] at h ⊢ <;> first
        | exact ⟨h.1, hm _ _ h.1 h.2⟩
        | exact Calls.mono h (fun e w'' he => by cases e <;> first | exact ⟨he.1, hm _ _ he.1 he.2⟩ | exact (he : False).elim | exact absurd he not_letsOut_aft)
        | exact Rows.mono h (fun _ _ he => ⟨he.1, hm _ _ he.1 he.2⟩)
    | halt x w' => cases x <;> simp only [Oper.upon] at h ⊢ <;> exact h
  · rename_i hw
    rw [if_neg hw] at h
    exact ⟨h.1, hm _ _ h.1 h.2⟩
theorem wpDr_call {n n0 g i : Nat} {lp : List Nat} {bx : Boxes} {oi : Oper} {L : Array Bool → Act → List (Nat × Array Value) → World → Prop} (hi : ops[i]? = some oi) (hsel : ∀ cs b, oi.op ≠ .select cs b)
    (htl : Region.tailB ops n lp = true) (hin : i < n) (hilp : i ∉ lp) (hibx : ¬∃ x ∈ bx, x.1 = i) (hk : ∀ w w', S w → Mvs rows w w' → S w') (hrow : ∀ r ∈ rows, r < n0)
    (hbx : ∀ x ∈ bx, x.2.1 ∉ oi.looksAt ops ∧ oi.dst ≠ some x.2.1) :
    ∀ (f : Nat) (rem : Boxes) (listed : Array Bool) (a : Act) (bs : List (Nat × Array Value)) (w : World), HeadInv .any ops n listed → i ∈ Region.ready .any ops listed →
      (∀ x ∈ bx, listed.getD x.1 true = false → x ∈ rem) → rem.length ≤ f →
      (∀ listed', MoreBoxes bx listed listed' → listed'.size = listed.size → ∀ k ∈ Region.ready .any ops listed', k = i ∨ ∃ x ∈ bx, x.1 = k) →
      (∀ w1, S w1 → w.grownBy w1 none → wpList P ops (Aft rows w1 fun a' w' => wpDr P ops Q S rows n n0 g bx L f (listed.setIfInBounds i true) a' bs w') [oi] a w1) →
      wpDr P ops Q S rows n n0 g bx L (f + 1) listed a bs w := by
  intro f
  induction f with
  | zero =>
    intro rem listed a bs w inv hr hrem hlen hone H w1 hs1 ht1
    have hun := (mem_ready.1 hr).1
    refine ⟨fun h => (by rw [h] at hr; cases hr), fun j hj => ?_⟩
    have hjn : j < n := tailB_spec htl inv hin hilp hun j hj
    refine ⟨fun h => absurd h (by omega), fun _ _ y hym hyj b hfit => ?_, fun _ hx => ?_⟩
    · have h1 := hrem y hym (by rw [hyj]; exact (mem_ready.1 hj).1)
      rw [List.length_eq_zero_iff.1 (Nat.le_zero.1 hlen)] at h1
      cases h1
    · rcases hone listed ⟨fun _ h => h, fun _ h => .inl h⟩ rfl j hj with rfl | h
      · exact wpOp_aft hi (H w1 hs1 ht1)
      · exact absurd h hx
  | succ f ih =>
    intro rem listed a bs w inv hr hrem hlen hone H w1 hs1 ht1
    have hun := (mem_ready.1 hr).1
    refine ⟨fun h => (by rw [h] at hr; cases hr), fun j hj => ?_⟩
    have hjn : j < n := tailB_spec htl inv hin hilp hun j hj
    refine ⟨fun h => absurd h (by omega), fun _ _ y hym hyj b hfit => ?_, fun _ hx => ?_⟩
    · have hjun := (mem_ready.1 hj).1
      have hji : j ≠ i := fun e => hibx ⟨y, hym, hyj.trans e⟩
      have hjs : j < listed.size := by
        rcases Nat.lt_or_ge j listed.size with h | h
        · exact h
        · simp [Array.getElem?_eq_none h] at hjun
      have hmore : ∀ listed', MoreBoxes bx (listed.setIfInBounds j true) listed' → MoreBoxes bx listed listed' := fun listed' ⟨m1, m2⟩ =>
        ⟨fun t ht => m1 t (getD_set_true ht), fun t ht => by
          rcases m2 t ht with h | h
          · by_cases hjt : j = t
            · exact .inr ⟨y, hym, hyj.trans hjt⟩
            · rw [getD_set_ne false hjt] at h; exact .inl h
          · exact .inr h⟩
      refine ih (rem.filter fun z => z.1 != j) _ _ _ w1 (inv.set hj hjn) (ready_mono hr (Ne.symm hji)) (fun x hxm hxl => ?_) ?_ (fun listed' hm hsz => hone listed' (hmore listed' hm) (by rw [hsz]; simp)) ?_
      · have hne : j ≠ x.1 := fun e => by
          subst e; simp [hjs] at hxl
        rw [getD_set_ne true hne] at hxl
        exact List.mem_filter.2 ⟨hrem x hxm hxl, by simpa using fun e => hne e.symm⟩
      · have h1 := hrem y hym (by rw [hyj]; exact hjun)
        have : (rem.filter fun z => z.1 != j).length < rem.length := by
          rcases Nat.lt_or_ge (rem.filter fun z => z.1 != j).length rem.length with h | h
          · exact h
          · have := (List.length_filter_eq_length_iff.1 (Nat.le_antisymm (List.length_filter_le _ _) h)) y h1
            simp [hyj] at this
        omega
      · intro w2 hs2 ht2
        have h1 := wpOp_of_aft (i := i) (d := y.2.1) (u := .pointer (some ⟨b, 0, none⟩)) hi hsel (hbx y hym).1 (hbx y hym).2 (H w2 hs2 (gt_trans ht1 ht2))
        refine wpList_aft_mono (fun a' w' hg ⟨a'', e, hd⟩ => ?_) h1
        subst e
        have hj2 : j ∈ Region.ready .any ops (listed.setIfInBounds i true) := ready_mono hj hji
        have h2 := ((hd w' (hk _ _ hs2 hg) (gt_refl _ _)).2 j hj2).2.1 hjn ⟨y, hym, hyj⟩ y hym hyj b ((hfit.gt ht2 (fun _ e => by cases e)).mv hg hrow)
        rw [Array.setIfInBounds_comm _ _ hji]
        exact h2
    · rcases hone listed ⟨fun _ h => h, fun _ h => .inl h⟩ rfl j hj with rfl | h
      · exact wpOp_aft hi (H w1 hs1 ht1)
      · exact absurd h hx
theorem wpDr_boxes {S' : World → Prop} {n n0 g : Nat} {lp : List Nat} {bx : Boxes} {L : Array Bool → Act → List (Nat × Array Value) → World → Prop} {K : Act → World → Prop} (htl : Region.tailB ops n lp = true) (hblp : ∀ x ∈ bx, x.1 ∉ lp) (hrow : ∀ r ∈ rows, r < n0)
    (hbd : (bx.map (·.2.1)).Nodup) (hbi : (bx.map (·.1)).Nodup) (hbo : ∀ x ∈ bx, x.1 < n ∧ ∃ o, ops[x.1]? = some o ∧ o.after = #[])
    (hL : ∀ listed a bs w, HeadInv .any ops n listed → (∀ i, i < n → listed.getD i true = true) → K a w → L listed a bs w) :
    ∀ (k : Nat) (rem : Boxes) (listed : Array Bool) (a : Act) (bs : List (Nat × Array Value)) (w : World), rem.length = k → HeadInv .any ops n listed → rem.Sublist bx →
      (∀ x ∈ rem, listed.getD x.1 true = false) → (∀ i, i < n → listed.getD i true = false → ∃ x ∈ rem, x.1 = i) →
      (∀ p ∈ bs, n0 ≤ p.1 ∧ HB w p.1 p.2) → (∀ w1, S w1 → w.grownBy w1 none → S' w1) → fa S' n0 K rem bs a → wpDr P ops Q S rows n n0 g bx L k listed a bs w := by
  intro k
  induction k with
  | zero =>
    intro rem listed a bs w hlen inv hsub hrem hall hbs hS' h w1 hs1 ht1
    obtain rfl : rem = [] := List.length_eq_zero_iff.1 hlen
    refine hL _ _ _ _ inv (fun i hi => ?_) (h w1 (hS' w1 hs1 ht1) fun p hp => (hbs p hp).2.gt ht1 (hbs p hp).1 (fun _ e => by cases e))
    cases e : listed.getD i true with
    | true => rfl
    | false => obtain ⟨x, hx, _⟩ := hall i hi e; cases hx
  | succ k ih =>
    intro rem listed a bs w hlen inv hsub hrem hall hbs hS' h w1 hs1 ht1
    have hready : ∀ x ∈ rem, x.1 ∈ Region.ready .any ops listed := fun x hx => by
      obtain ⟨_, o, ho, h0⟩ := hbo x (hsub.subset hx)
      refine mem_ready.2 ⟨hrem x hx, o, ho, fun e he => ?_⟩
      rw [h0] at he; simp at he
    have hne : ∃ x0, x0 ∈ rem := by
      cases rem with
      | nil => simp at hlen
      | cons x0 _ => exact ⟨x0, List.mem_cons_self⟩
    obtain ⟨x0, hx0⟩ := hne
    refine ⟨fun e => (by have := hready x0 hx0; rw [e] at this; cases this), fun i hi => ?_⟩
    have hun := (mem_ready.1 hi).1
    have hin : i < n := tailB_spec htl inv (hbo x0 (hsub.subset hx0)).1 (hblp x0 (hsub.subset hx0)) (hrem x0 hx0) i hi
    obtain ⟨x, hx, rfl⟩ := hall i hin hun
    refine ⟨fun h => absurd h (by omega), fun _ _ y hym hyj b hfit => ?_, fun _ hno => absurd ⟨x, hsub.subset hx, rfl⟩ hno⟩
    have hyx : y = x := by
      exact map_inj_of_nodup hbi hym (hsub.subset hx) hyj
    subst hyx
    obtain ⟨pre, post, hpp⟩ := List.append_of_mem hx
    have hnd := (hsub.map (·.2.1)).nodup hbd
    have hni := (hsub.map (·.1)).nodup hbi
    have hfr : fa S' n0 K (y :: (pre ++ post)) bs a := by
      refine fa_front (fun z hz => ?_) (by rw [← hpp]; exact h)
      rw [hpp] at hnd
      simp only [List.map_append, List.map_cons] at hnd
      exact (List.nodup_append.1 hnd).2.2 _ (List.mem_map_of_mem hz) _ List.mem_cons_self
    have hyne : ∀ z ∈ pre ++ post, z.1 ≠ y.1 := fun z hz => by
      rw [hpp] at hni
      simp only [List.map_append, List.map_cons] at hni
      have h1 := List.nodup_append.1 hni
      rcases List.mem_append.1 hz with hz | hz
      · exact h1.2.2 _ (List.mem_map_of_mem hz) _ List.mem_cons_self
      · exact fun e => (List.nodup_cons.1 h1.2.1).1 (by rw [← e]; exact List.mem_map_of_mem hz)
    have hperm : ∀ z, z ∈ pre ++ post → z ∈ rem := fun z hz => by
      rw [hpp]
      rcases List.mem_append.1 hz with hz | hz
      · exact List.mem_append_left _ hz
      · exact List.mem_append_right _ (List.mem_cons_of_mem _ hz)
    refine ih (pre ++ post) _ _ _ _ (by have := congrArg List.length hpp; simp at this hlen ⊢; omega) (inv.set hi hin) (((hpp ▸ (List.sublist_cons_self y post).append_left pre : (pre ++ post).Sublist rem)).trans hsub) (fun z hz => ?_) (fun j hj hjl => ?_) (fun p hp => ?_) (fun w2 hs2 ht2 => hS' w2 hs2 (gt_trans ht1 ht2)) ?_
    · rw [getD_set_ne true (Ne.symm (hyne z hz))]; exact hrem z (hperm z hz)
    · have hjne : y.1 ≠ j := fun e => by
        subst e
        have hlt : y.1 < listed.size := by
          rcases Nat.lt_or_ge y.1 listed.size with h | h
          · exact h
          · simp [Array.getElem?_eq_none h] at hun
        simp [hlt] at hjl
      rw [getD_set_ne true hjne] at hjl
      obtain ⟨z, hz, rfl⟩ := hall j hj hjl
      rw [hpp] at hz
      rcases List.mem_append.1 hz with hz | hz
      · exact ⟨z, List.mem_append_left _ hz, rfl⟩
      · rcases List.mem_cons.1 hz with rfl | hz
        · exact absurd rfl hjne
        · exact ⟨z, List.mem_append_right _ hz, rfl⟩
    · rcases List.mem_cons.1 hp with rfl | hp
      · exact ⟨hfit.1, hfit.2.2⟩
      · exact ⟨(hbs p hp).1, (hbs p hp).2.gt ht1 (hbs p hp).1 (fun _ e => by cases e)⟩
    · exact hfr _ hfit.1 hfit.2.1
def dqL (P : Program) (ops : Array Oper) (S : World → Prop) (rows : List Nat) (K : Act → World → Prop) : List (Nat × Nat) → Act → World → Prop
  | [], a, w => K a w
  | (i, 0) :: l, a, w => ∃ o v, ops[i]? = some o ∧ YieldsD P ops S none o v a ∧ dqL P ops S rows K l (a.put o.dst v) w
  | (i, 1) :: l, a, w => ∃ o, ops[i]? = some o ∧ ∀ w1, S w1 → w.grownBy w1 none → wpList P ops (Aft rows w1 fun a' w' => dqL P ops S rows K l a' w') [o] a w1
  | (i, _ + 2) :: l, a, w => ∃ o v, ops[i]? = some o ∧ Yields P ops o v a ∧ dqL P ops S rows K l (a.put o.dst v) w
theorem wpDr_sched {n n0 g : Nat} {lp : List Nat} {bx : Boxes} {L : Array Bool → Act → List (Nat × Array Value) → World → Prop} {K : Act → World → Prop} (hsel : Region.noSelect ops = true) (htl : Region.tailB ops n lp = true) (hblp : ∀ x ∈ bx, x.1 ∉ lp) (hQ : ∀ c (a : Act) d v w, Q (.panic c) (a.put d v) w → Q (.panic c) a w)
    (hk : ∀ w w', S w → Mvs rows w w' → S w') (hrow : ∀ r ∈ rows, r < n0)
    (hbd : (bx.map (·.2.1)).Nodup) (hbi : (bx.map (·.1)).Nodup) (hbo : ∀ x ∈ bx, x.1 < n ∧ ∃ o, ops[x.1]? = some o ∧ Makes P o x.2.1 x.2.2)
    (hdone : ∀ listed a bs w, L listed a bs w → ∀ j ∈ Region.ready .any ops listed, n ≤ j) (hLA : ∀ listed a bs w, L listed a bs w → wpAny P .any ops Q g listed a w)
    (hL : ∀ listed a bs w, HeadInv .any ops n listed → (∀ i, i < n → listed.getD i true = true) → K a w → L listed a bs w) :
    ∀ (sch : List (Nat × Nat)) (listed : Array Bool) (a : Act) (w : World), HeadInv .any ops n listed → Region.dqB ops n lp bx sch listed = true →
      ((∀ x ∈ bx, (Region.dqSet sch listed).getD x.1 true = false) ∧ (∀ i, i < n → (Region.dqSet sch listed).getD i true = false → ∃ x ∈ bx, x.1 = i)) →
      dqL P ops S rows (fun a w => fa (fun w1 => S w1 ∧ w.grownBy w1 none) n0 K bx [] a) sch a w → wpDr P ops Q S rows n n0 g bx L (sch.length + bx.length) listed a [] w
  | [], listed, a, w, inv, hB, hall, h => by
    rw [List.length_nil, Nat.zero_add]
    refine wpDr_boxes htl hblp hrow hbd hbi (fun x hx => ⟨(hbo x hx).1, ?_⟩) hL bx.length bx listed a [] w rfl inv (List.Sublist.refl _) hall.1 hall.2 (by simp) (fun w1 hs1 ht1 => ⟨hs1, ht1⟩) h
    obtain ⟨_, o, ho, hm⟩ := hbo x hx
    exact ⟨o, ho, hm.2.2.1⟩
  | (i, k) :: l, listed, a, w, inv, hB, hall, h => by
    simp only [Region.dqB, Bool.and_eq_true, decide_eq_true_eq, Bool.not_eq_true', beq_iff_eq] at hB
    obtain ⟨hin, hlpk, hnb, hr, hf, hB⟩ := hB
    have hr' : i ∈ Region.ready .any ops listed := by simpa using hr
    have hnb' : ¬∃ x ∈ bx, x.1 = i := fun ⟨x, hx, e⟩ => by
      have : (bx.map (·.1)).contains i = true := by rw [List.contains_iff_mem]; exact e ▸ List.mem_map_of_mem hx
      rw [hnb] at this; cases this
    have hnlp : k < 2 → i ∉ lp := fun hk2 h => by
      have h1 : lp.contains i = true := List.contains_iff_mem.2 h
      rw [h1] at hlpk
      have := of_decide_eq_true hlpk.symm
      omega
    rw [List.length_cons, show l.length + 1 + bx.length = (l.length + bx.length) + 1 by omega]
    match k, h, hf, hnlp with
    | 0, h, hf, hnlp =>
      obtain ⟨o, v, ho, hy, h⟩ := h
      exact wpDr_first ho (Region.noSelect_spec hsel) htl hin (hnlp (by decide)) hnb' hQ hk hrow (fun x hx => (hbo x hx).2) hdone _ listed a [] w inv (Region.free_spec ho (by simpa using hf)) hr' hy
        (wpDr_sched hsel htl hblp hQ hk hrow hbd hbi hbo hdone hLA hL l _ _ w (inv.set hr' hin) hB hall h)
    | 1, h, hf, hnlp =>
      obtain ⟨o, ho, h⟩ := h
      simp only [ne_eq, not_true_eq_false, if_false, Bool.and_eq_true, ho] at hf
      obtain ⟨hone, hap⟩ := hf
      refine wpDr_call ho (fun cs b => Region.noSelect_spec hsel i o cs b ho) htl hin (hnlp (by decide)) hnb' hk hrow (fun x hx => ?_) (l.length + bx.length) bx listed a [] w inv hr' (fun x hx _ => hx) (by omega) (dq_one hone) (fun w1 hs1 ht1 => ?_)
      · have := List.all_eq_true.1 hap x hx
        simp only [Bool.and_eq_true, Bool.not_eq_true', bne_iff_ne, ne_eq] at this
        refine ⟨fun hc => ?_, this.2⟩
        have h2 : (o.looksAt ops).contains x.2.1 = true := by rw [List.contains_iff_mem]; exact hc
        rw [this.1] at h2; cases h2
      · refine wpList_aft_mono (fun a' w' hg hd => ?_) (h w1 hs1 ht1)
        exact wpDr_sched hsel htl hblp hQ hk hrow hbd hbi hbo hdone hLA hL l _ _ w' (inv.set hr' hin) hB hall hd
    | k + 2, h, hf, hnlp =>
      obtain ⟨o, v, ho, hy, h⟩ := h
      exact wpDr_late ho (Region.noSelect_spec hsel) hin hnb' hQ hk (fun x hx => (hbo x hx).2) hdone hLA _ listed a [] w inv (Region.free_spec ho (by simpa using hf)) hr' hy
        (wpDr_sched hsel htl hblp hQ hk hrow hbd hbi hbo hdone hLA hL l _ _ w (inv.set hr' hin) hB hall h)
theorem wp_region_dq {id : Nat} {a : Act} {w : World} {l : List Oper} {n0 : Nat} (n : Nat) (lp : List Nat) (sch : List (Nat × Nat)) (bx : Boxes) (hm : P.follows .mixedOrders = true) (hB : Region.dqOk l.toArray n lp sch bx = true)
    (hQ : ∀ c (a : Act) d v w, Q (.panic c) (a.put d v) w → Q (.panic c) a w) (hS : S w.drew) (hk : ∀ w w', S w → Mvs rows w w' → S w') (hn0 : ∀ w, S w → n0 ≤ w.heap.size) (hrow : ∀ r ∈ rows, r < n0)
    (hmk : ∀ x ∈ bx, ∃ o, l[x.1]? = some o ∧ Makes P o x.2.1 x.2.2)
    (h : dqL P l.toArray S rows (fun a w => fa (fun w1 => S w1 ∧ w.grownBy w1 none) n0 (fun a w => wpList P l.toArray Q (l.drop n) a w) bx [] a) sch a w.drew) : (Code.region id l.toArray true).wp P Q a w := by
  simp only [Region.dqOk, Bool.and_eq_true, decide_eq_true_eq] at hB
  obtain ⟨hsel, htl, hblp, hnl, hdq, hlen, hbd, hbi, hbn, hseq, hb1, hb2⟩ := hB
  have hnl' : n ≤ l.length := by simpa using hnl
  have inv0 : HeadInv .any l.toArray n (Array.replicate l.toArray.size false) :=
    ⟨by simp, fun j oj _ hl => (by rw [getD_replicate_false] at hl; cases hl), fun t _ ht => getD_in (by simpa using ht) (getD_replicate_false _ _)⟩
  have hcanon : ∀ listed : Array Bool, HeadInv .any l.toArray n listed → (∀ i, i < n → listed.getD i true = true) → listed = Array.replicate n true ++ Array.replicate (l.toArray.size - n) false := fun listed inv hl => by
    refine Array.ext (by rw [inv.size]; simp; omega) fun i h1 h2 => ?_
    rw [Array.getElem_append]
    split
    · rename_i h3
      have := hl i (by simpa using h3)
      simp [h1] at this
      simp [this]
    · rename_i h3
      have := inv.tail i (by simpa using h3) (by rw [← inv.size]; exact h1)
      simp [h1] at this
      simp [this]
  have hbo : ∀ x ∈ bx, x.1 < n ∧ ∃ o, l.toArray[x.1]? = some o ∧ Makes P o x.2.1 x.2.2 := fun x hx => by
    obtain ⟨o, ho, hmo⟩ := hmk x hx
    exact ⟨by simpa using List.all_eq_true.1 hbn x hx, o, by simpa using ho, hmo⟩
  refine wp_region_any hm ?_
  have hblp' : ∀ x ∈ bx, x.1 ∉ lp := fun x hx hl => by
    have h1 := List.all_eq_true.1 hblp x hx
    have h2 : lp.contains x.1 = true := List.contains_iff_mem.2 hl
    rw [h2] at h1; cases h1
  have hLA : ∀ (listed : Array Bool) (a : Act) (bs : List (Nat × Array Value)) (w : World), (Region.seqB .any l.toArray (l.toArray.size - n) n listed = true ∧ wpList P l.toArray Q (l.drop n) a w) → wpAny P .any l.toArray Q (l.toArray.size - n) listed a w := fun listed a bs w hL => by
    have := wpAny_of_seq (md := .any) (Q' := Q) (l.drop n) n listed a w (fun j => by simp [List.getElem?_drop]) (by rw [show (l.drop n).length = l.toArray.size - n by simp]; exact hL.1) hL.2
    rwa [show (l.drop n).length = l.toArray.size - n by simp] at this
  have H := wpDr_sched (P := P) (g := l.toArray.size - n) (Q := Q) (S := S) (rows := rows) (n := n) (n0 := n0) (bx := bx) (K := fun a w => wpList P l.toArray Q (l.drop n) a w) (L := fun listed a bs w => Region.seqB .any l.toArray (l.toArray.size - n) n listed = true ∧ wpList P l.toArray Q (l.drop n) a w)
    hsel htl hblp' hQ hk hrow hbd hbi hbo (fun listed a bs w hL => seqB_ready hL.1) hLA (fun listed a bs w inv hl hK => ⟨by rw [hcanon listed inv hl]; exact hseq, hK⟩) sch _ a w.drew inv0 hdq
    ⟨fun x hx => by simpa using List.all_eq_true.1 hb1 x hx, fun i hi hl => by
      have := List.all_eq_true.1 hb2 i (List.mem_range.2 hi)
      simp only [Bool.or_eq_true, List.contains_iff_mem] at this
      rcases this with h | h
      · rw [hl] at h; cases h
      · obtain ⟨x, hx, e⟩ := List.mem_map.1 h
        exact ⟨x, hx, e⟩⟩ h
  rw [hlen] at H
  have A := wpAny_of_dr (g := l.toArray.size - n) hk hn0 hrow (fun x hx => (hbo x hx).2) hLA n _ a [] w.drew hS (by simp) H
  rw [show n + (l.toArray.size - n) = l.toArray.size by simp; omega] at A
  exact A
end
end Dm
end Go.Proofs.Ythcboomdkpiflaa

/- SxD: A symbolic run: regions that draw their order. -/
namespace Go.Proofs.Ythcboomdkpiflaa
open Go Go.RowKit
set_option linter.unusedVariables false
set_option linter.unusedSimpArgs false
namespace Sx
variable {C : Cx} {A : Nat → Nat} {S : St} {a : Act} {W : World}
def compI (P : Program) (ops : Array Oper) (N : Nat) : List (Nat × Nat) → Option (List G)
  | [] => some []
  | (i, k) :: l => match ops[i]? with
    | some o => match compG P true ops N o, compI P ops N l with
      | some (d, g, m), some r => if (k == 0 && head m) || (k == 2 && late m) then some ((d, g, m) :: r) else none
      | _, _ => none
    | none => none
theorem late_head {m : M} (h : late m = true) : head m = true := by cases m <;> first | rfl | cases h
theorem heads_sound {ops : Array Oper} {S0 : St} {n0 : Nat} {K : Act → World → Prop} {p : St → Prop} (hC : C.fr = none) (hp : ∀ S a, SlOk C A S a → S.H = S0.H → S.n = S0.n → S.T = S0.T → p S → ∀ w, K a w) :
    ∀ {sch : List (Nat × Nat)} {gl : List G} {S : St} {a : Act}, compI C.P ops C.N sch = some gl → Sx.ops C gl p S → SlOk C A S a → S.H = S0.H → S.n = S0.n → S.T = S0.T → ∀ w, dqL C.P ops (fun W => HpOk C A S0 W ∧ n0 ≤ W.heap.size) none K sch a w
  | [], gl, S, a, hc, h, hs, hH, hn, hT, w => by
    cases hc
    exact hp S a hs hH hn hT h w
  | (i, k) :: l, gl, S, a, hc, h, hs, hH, hn, hT, w => by
    unfold compI at hc
    split at hc
    · rename_i o ho
      split at hc
      · rename_i d g m r h1 h2
        split at hc
        · rename_i hk
          cases hc
          obtain ⟨e1, e2, e3, e4, e5⟩ := compG_spec h1
          subst e1
          have hext : ∀ W, HpOk C A S0 W → HpOk C A S W := fun W hw => hw.ext hn.symm (fun k => by rw [hH]) hT
          have step : ∀ (yes : Region.wanted o (yielded ops a.tmps) = true), run1 C m o.dst (Sx.ops C r p) S → dqL C.P ops (fun W => HpOk C A S0 W ∧ n0 ≤ W.heap.size) none K ((i, k) :: l) a w := fun hw h => by
            rcases e2 with e2 | e2 | e2
            rotate_left
            · subst e2; exact (run1_trap h).elim
            · obtain ⟨kk, l', rfl⟩ := compGen_gen e2
              obtain ⟨x, x1, x2, x3⟩ := run1_headG hs e2 rfl h
              have next : dqL C.P ops (fun W => HpOk C A S0 W ∧ n0 ≤ W.heap.size) none K l (a.put o.dst (x.val A)) w := by
                refine heads_sound hC hp h2 x2 (hs.put x1 e4) ?_ ?_ ?_ w
                · rw [← hH]; cases o.dst <;> rfl
                · rw [← hn]; cases o.dst <;> rfl
                · rw [← hT]; cases o.dst <;> rfl
              rw [Bool.or_eq_true, Bool.and_eq_true, Bool.and_eq_true] at hk
              rcases hk with ⟨hk, -⟩ | ⟨hk, hl⟩
              · have : k = 0 := by simpa using hk
                subst this
                exact ⟨o, x.val A, ho, .inl ⟨hw, fun W hW => by rw [x3 A a hs W]; exact ⟨rfl, gt_refl _ _⟩⟩, next⟩
              · cases hl
            have hm : head m = true := by
              rw [Bool.or_eq_true, Bool.and_eq_true, Bool.and_eq_true] at hk
              rcases hk with hk | hk
              · exact hk.2
              · exact late_head hk.2
            obtain ⟨x, x1, x2, x3, x4⟩ := run1_head hs e2 hm h
            have next : dqL C.P ops (fun W => HpOk C A S0 W ∧ n0 ≤ W.heap.size) none K l (a.put o.dst (x.val A)) w := by
              refine heads_sound hC hp h2 x2 (hs.put x1 e4) ?_ ?_ ?_ w
              · rw [← hH]; cases o.dst <;> rfl
              · rw [← hn]; cases o.dst <;> rfl
              · rw [← hT]; cases o.dst <;> rfl
            rw [Bool.or_eq_true, Bool.and_eq_true, Bool.and_eq_true] at hk
            rcases hk with ⟨hk, -⟩ | ⟨hk, hl⟩
            · have : k = 0 := by simpa using hk
              subst this
              exact ⟨o, x.val A, ho, .inl ⟨hw, fun W hW => x3 A a hs W (by rw [kn_none hC]; exact hext W hW.1)⟩, next⟩
            · have : k = 2 := by simpa using hk
              subst this
              exact ⟨o, x.val A, ho, .inl ⟨hw, x4 hl A a hs⟩, next⟩
          have h' : gdX g C m o.dst (Sx.ops C r p) S := h
          unfold gdX at h'
          split at h'
          · refine step ?_ h'
            unfold compGd at e3
            split at e3
            · rename_i hg; unfold Region.wanted; rw [hg]
            · split at e3 <;> cases e3
          · rename_i t wt
            unfold compGd at e3
            split at e3
            · cases e3
            · rename_i j w' hg
              split at e3
              · rename_i t' hj
                cases e3
                rcases gdS_spec hs hj h' with ⟨hy, h'⟩ | ⟨hy, h'⟩
                · exact step (by unfold Region.wanted; rw [hg]; simp [hy]) h'
                ·   have hno : Region.wanted o (yielded ops a.tmps) = false := by unfold Region.wanted; rw [hg]; simpa using hy
                    have next : dqL C.P ops (fun W => HpOk C A S0 W ∧ n0 ≤ W.heap.size) none K l (a.put o.dst undef) w := by
                      refine heads_sound hC hp h2 h' (hs.put (x := .v undef) (Nat.zero_le _) e4) ?_ ?_ ?_ w
                      · rw [← hH]; cases o.dst <;> rfl
                      · rw [← hn]; cases o.dst <;> rfl
                      · rw [← hT]; cases o.dst <;> rfl
                    rw [Bool.or_eq_true, Bool.and_eq_true, Bool.and_eq_true] at hk
                    rcases hk with ⟨hk, -⟩ | ⟨hk, -⟩
                    · have : k = 0 := by simpa using hk
                      subst this
                      exact ⟨o, undef, ho, .inr ⟨hno, rfl⟩, next⟩
                    · have : k = 2 := by simpa using hk
                      subst this
                      exact ⟨o, undef, ho, .inr ⟨hno, rfl⟩, next⟩
              · cases e3
        · cases hc
      · cases hc
    · cases hc
def boxG : Boxes → List G → List G
  | [], tl => tl
  | (_, d, zs) :: r, tl => (some d, none, .new zs.toList) :: boxG r tl
def compB1 (P : Program) (N i : Nat) (o : Oper) : Option (Nat × Tmp × Array Value) :=
  match o.op, o.dst, o.guard, o.after.size with
  | .alloc t, some d, none, 0 => match P.info? t with
    | some inf => match inf.zero with
      | some z => if d < N then some (i, d, z.cells) else none
      | none => none
    | none => none
  | _, _, _, _ => none
def compB (P : Program) (ops : Array Oper) (N : Nat) : List Nat → Option Boxes
  | [] => some []
  | i :: l => match ops[i]? with
    | some o => match compB1 P N i o, compB P ops N l with
      | some b, some r => some (b :: r)
      | _, _ => none
    | none => none
theorem compB1_spec {P : Program} {N i : Nat} {o : Oper} {b : Nat × Tmp × Array Value} (h : compB1 P N i o = some b) : b.1 = i ∧ b.2.1 < N ∧ Makes P o b.2.1 b.2.2 := by
  unfold compB1 at h
  split at h
  · rename_i t d ho hd hg ha
    split at h
    · rename_i inf hi
      split at h
      · rename_i z hz
        split at h
        · rename_i hN
          cases h
          refine ⟨rfl, hN, hd, hg, Array.eq_empty_of_size_eq_zero ha, fun ρ w => ⟨t, ?_⟩⟩
          unfold execOp
          rw [ho]
          refine run_v ?_
          unfold Instr.alloc
          have h1 : (zeroValue t).run P w = .ok z w := by
            unfold zeroValue typeInfo
            simp [go_sem, hi, hz]
          rw [run_bind_ok h1]
          rfl
        · cases h
      · cases h
    · cases h
  · cases h
theorem compB_spec {P : Program} {ops : Array Oper} {N : Nat} : ∀ {l : List Nat} {bx : Boxes}, compB P ops N l = some bx → ∀ x ∈ bx, x.2.1 < N ∧ ∃ o, ops[x.1]? = some o ∧ Makes P o x.2.1 x.2.2
  | [], bx, h, x, hx => by cases h; cases hx
  | i :: l, bx, h, x, hx => by
    unfold compB at h
    split at h
    · rename_i o ho
      split at h
      · rename_i b r h1 h2
        cases h
        rcases List.mem_cons.1 hx with rfl | hx
        · obtain ⟨e1, e2, e3⟩ := compB1_spec h1
          exact ⟨e2, o, by rw [e1]; exact ho, e3⟩
        · exact compB_spec h2 x hx
      · cases h
    · cases h
theorem fa_sound {SW : World → Prop} {n0 : Nat} {K : Act → World → Prop} {p : St → Prop} {tl : List G} (hp : ∀ A S a w, Ok C A S a w → Sx.ops C tl p S → K a w) (hw0 : C.w0.heap.size ≤ n0) :
    ∀ {bx : Boxes} {bs : List (Nat × Array Value)} {A : Nat → Nat} {S : St} {a : Act}, (∀ w, SW w → (∀ q ∈ bs, HB w q.1 q.2) → Ok C A S a w) → (∀ k cs, gt S.H k = some cs → A k < n0 ∨ ∃ q ∈ bs, q.1 = A k) → (bx ≠ [] → ∀ b ∈ S.T.bs, b < n0) → (∀ x ∈ bx, x.2.1 < C.N) →
      Sx.ops C (boxG bx tl) p S → fa SW n0 K bx bs a
  | [], bs, A, S, a, inv, hb, ht, hd, h => fun w hw hbs => hp A S a w (inv w hw hbs) h
  | (i, d, zs) :: r, bs, A, S, a, inv, hb, ht, hd, h => fun b hn hne => by
    have h' : Sx.ops C (boxG r tl) p (S.new (some d) zs.toList) := h
    refine fa_sound hp hw0 (A := upA A S.n b) (S := S.new (some d) zs.toList) (fun w hw hbs => ?_) (fun k cs hk => ?_) (fun _ => ht (by simp)) (fun x hx => hd x (List.mem_cons_of_mem _ hx)) h'
    · have hok := inv w hw fun q hq => hbs q (List.mem_cons_of_mem _ hq)
      refine hok.new (fun t e => by cases e; exact hd _ List.mem_cons_self) (by have := hbs (b, zs) List.mem_cons_self; simpa using this) (Nat.le_trans hw0 hn) (fun k cs hk e => ?_) (fun hbb => by have := ht (by simp) b hbb; omega) (Below.refl _ _)
      rcases hb k cs hk with hl | ⟨q, hq, e2⟩
      · omega
      · exact hne q hq (e2.trans e)
    · have hk' : gt ((S.n, zs.toList) :: S.H) k = some cs := hk
      unfold gt at hk'
      by_cases e : S.n = k
      · right
        exact ⟨(b, zs), List.mem_cons_self, by unfold upA; rw [if_pos e.symm]⟩
      · rw [if_neg e] at hk'
        have hu : upA A S.n b k = A k := by unfold upA; rw [if_neg (Ne.symm e)]
        rw [hu]
        rcases hb k cs hk' with hl | ⟨q, hq, e2⟩
        · exact .inl hl
        · exact .inr ⟨q, List.mem_cons_of_mem _ hq, e2⟩
def compD (P : Program) (l : List Oper) (N n : Nat) (lp : List Nat) (sch : List (Nat × Nat)) (bi : List Nat) : Option (List G × List G) :=
  match compI P l.toArray N sch, compB P l.toArray N bi, compL P l.toArray N (l.drop n) with
  | some hs, some bx, some tl => if Region.dqOk l.toArray n lp sch bx && P.follows .mixedOrders then some (hs, boxG bx tl) else none
  | _, _, _ => none
theorem dreg_sound {id n : Nat} {l : List Oper} {lp bi : List Nat} {sch : List (Nat × Nat)} {hs tl : List G} {p : St → Prop} {Q : Exit → Act → World → Prop} (hC : C.fr = none) (hc : compD C.P l C.N n lp sch bi = some (hs, tl)) (h : Sx.ops C hs (Sx.ops C tl p) S) (hok : Ok C A S a W)
    (hp : ∀ A S a W, Ok C A S a W → p S → Q .normal a W) (hQ : ∀ c (a : Act) d v w, Q (.panic c) (a.put d v) w → Q (.panic c) a w) : (Code.region id l.toArray true).wp C.P Q a W := by
  unfold compD at hc
  split at hc
  · rename_i hs' bx tl' h1 h2 h3
    split at hc
    · rename_i h4
      cases hc
      rw [Bool.and_eq_true] at h4
      have hspec := compB_spec h2
      refine wp_region_dq (row := none) (S := fun w => HpOk C A S w ∧ W.heap.size ≤ w.heap.size) (n0 := W.heap.size) n lp sch bx h4.2 h4.1 hQ ⟨hok.2.drew, Nat.le_refl _⟩ (fun w w' ⟨hw, hn⟩ g => ⟨hw.grow g, Nat.le_trans hn g.size⟩) (fun w hw => hw.2) (fun r e => by cases e)
        (fun x hx => by
          obtain ⟨_, o, ho, hm⟩ := hspec x hx
          exact ⟨o, by simpa using ho, hm⟩) ?_
      refine heads_sound (S0 := S) hC (fun S' a' hs2 hH hn hT hp' w => ?_) h1 h hok.1 rfl rfl rfl _
      refine fa_sound (SW := _) (C := C) (tl := tl') (p := p) (fun A S a w hok' h' => ops_sound hC hp h3 h' hok') hok.2.bl.size (A := A) (S := S') (fun w1 hw _ => ⟨hs2, hw.1.1.ext hn.symm (fun k => by rw [hH]) hT⟩) (fun k cs hk => .inl ?_) (fun _ b hb => (hok.2.tb b (hT ▸ hb)).2) (fun x hx => (hspec x hx).1) hp'
      rw [hH] at hk
      exact (hok.2.hb k cs hk).lt
    · cases hc
  · cases hc
def awaited : M → Bool
  | .call false _ _ => true
  | .gen false _ _ => true
  | _ => false
def compH (P : Program) (ops : Array Oper) (N : Nat) : List (Nat × Nat) → Option (List G)
  | [] => some []
  | (i, k) :: l => match ops[i]? with
    | some o => match compG P (k != 1) ops N o, compH P ops N l with
      | some (d, g, m), some r => if ((k == 0 && head m) || (k == 2 && late m)) || (k == 1 && awaited m) then some ((d, g, m) :: r) else none
      | _, _ => none
    | none => none
theorem HpOk.fr {C' : Cx} (h0 : C'.w0 = C.w0) (h : HpOk C A S W) : HpOk C' A S W :=
  ⟨h0 ▸ h.bl, h.hb, fun k cs e => h0 ▸ h.ge k cs e, h.kn, h.inj, h.tk, fun W W' a b c d e f => h.ts W W' a b c d (fun i hi ho => e i hi (by rw [h0]; exact ho)) f, h.tn, fun b hb => h0 ▸ h.tb b hb⟩
theorem SlOk.fr {C' : Cx} (h0 : C'.N = C.N) (h : SlOk C A S a) : SlOk C' A S a := ⟨h.df, h.sz.trans h0.symm, h.sl, h.nm⟩
theorem headsC_sound {ops : Array Oper} {S0 : St} {F : Ext} {rows : List Nat} {n0 : Nat} {K : Act → World → Prop} {p : St → Prop} (hC : C.fr = some (F, rows))
    (hp : ∀ S a w, SlOk C A S a → HpOk C A S w → S.H = S0.H → S.n = S0.n → p S → K a w) (hrow : ∀ b ∈ rows, C.w0.heap.size ≤ b ∧ ∀ k cs, gt S0.H k = some cs → A k ≠ b) :
    ∀ {sch : List (Nat × Nat)} {gl : List G} {S : St} {a : Act}, compH C.P ops C.N sch = some gl → Sx.ops C gl p S → SlOk C A S a → S.H = S0.H → S.n = S0.n → ∀ w, HpOk C A S w →
      Dm.dqL C.P ops (fun W => HpOk C A ⟨S0.n, S0.E, S0.H, F⟩ W ∧ n0 ≤ W.heap.size) rows K sch a w
  | [], gl, S, a, hc, h, hs, hH, hn, w, hw => by
    cases hc
    exact hp S a w hs hw hH hn h
  | (i, k) :: l, gl, S, a, hc, h, hs, hH, hn, w, hw => by
    unfold compH at hc
    split at hc
    · rename_i o ho
      split at hc
      · rename_i d g m r h1 h2
        split at hc
        · rename_i hk
          cases hc
          obtain ⟨e1, e2, e3, e4, e5⟩ := compG_spec h1
          subst e1
          have hkn : C.kn S = ⟨S.n, S.E, S.H, F⟩ := by unfold Cx.kn; rw [hC]
          have hmv : C.mv S = rows := by unfold Cx.mv; rw [hC]
          have hext : ∀ W, HpOk C A ⟨S0.n, S0.E, S0.H, F⟩ W → HpOk C A (C.kn S) W := fun W hw => by
            rw [hkn]; exact hw.ext (S' := ⟨S.n, S.E, S.H, F⟩) hn.symm (fun k => by rw [hH]) rfl
          have putH : ∀ x : SV, (S.put o.dst x).H = S0.H := fun x => by rw [← hH]; cases o.dst <;> rfl
          have putn : ∀ x : SV, (S.put o.dst x).n = S0.n := fun x => by rw [← hn]; cases o.dst <;> rfl
          rw [Bool.or_eq_true] at hk
          rcases hk with hk | hk
          · have hk1 : k ≠ 1 := fun e => by subst e; simp at hk
            have hkb : (k != 1) = true := by simpa using hk1
            rw [hkb] at h1 e2
            have step : ∀ (yes : Region.wanted o (yielded ops a.tmps) = true), run1 C m o.dst (Sx.ops C r p) S → Dm.dqL C.P ops (fun W => HpOk C A ⟨S0.n, S0.E, S0.H, F⟩ W ∧ n0 ≤ W.heap.size) rows K ((i, k) :: l) a w := fun hwt h => by
              rcases e2 with e2 | e2 | e2
              rotate_left
              · subst e2; exact (run1_trap h).elim
              · obtain ⟨kk, l', rfl⟩ := compGen_gen e2
                obtain ⟨x, x1, x2, x3⟩ := run1_headG hs e2 rfl h
                have next := headsC_sound hC hp hrow (n0 := n0) h2 x2 (hs.put x1 e4) (putH x) (putn x) w (hw.put o.dst x)
                rw [Bool.or_eq_true, Bool.and_eq_true, Bool.and_eq_true] at hk
                rcases hk with ⟨hk, -⟩ | ⟨hk, hl⟩
                · have : k = 0 := by simpa using hk
                  subst this
                  exact ⟨o, x.val A, ho, .inl ⟨hwt, fun W hW => by rw [x3 A a hs W]; exact ⟨rfl, gt_refl _ _⟩⟩, next⟩
                · cases hl
              have hm : head m = true := by
                rw [Bool.or_eq_true, Bool.and_eq_true, Bool.and_eq_true] at hk
                rcases hk with hk | hk
                · exact hk.2
                · exact late_head hk.2
              obtain ⟨x, x1, x2, x3, x4⟩ := run1_head hs e2 hm h
              have next := headsC_sound hC hp hrow (n0 := n0) h2 x2 (hs.put x1 e4) (putH x) (putn x) w (hw.put o.dst x)
              rw [Bool.or_eq_true, Bool.and_eq_true, Bool.and_eq_true] at hk
              rcases hk with ⟨hk, -⟩ | ⟨hk, hl⟩
              · have : k = 0 := by simpa using hk
                subst this
                exact ⟨o, x.val A, ho, .inl ⟨hwt, fun W hW => x3 A a hs W (hext W hW.1)⟩, next⟩
              · have : k = 2 := by simpa using hk
                subst this
                exact ⟨o, x.val A, ho, .inl ⟨hwt, x4 hl A a hs⟩, next⟩
            have h' : gdX g C m o.dst (Sx.ops C r p) S := h
            unfold gdX at h'
            split at h'
            · refine step ?_ h'
              unfold compGd at e3
              split at e3
              · rename_i hg; unfold Region.wanted; rw [hg]
              · split at e3 <;> cases e3
            · rename_i t wt
              unfold compGd at e3
              split at e3
              · cases e3
              · rename_i j w' hg
                split at e3
                · rename_i t' hj
                  cases e3
                  rcases gdS_spec hs hj h' with ⟨hy, h'⟩ | ⟨hy, h'⟩
                  · exact step (by unfold Region.wanted; rw [hg]; simp [hy]) h'
                  ·   have hno : Region.wanted o (yielded ops a.tmps) = false := by unfold Region.wanted; rw [hg]; simpa using hy
                      have next := headsC_sound hC hp hrow (n0 := n0) h2 h' (hs.put (x := .v undef) (Nat.zero_le _) e4) (putH _) (putn _) w (hw.put o.dst _)
                      rw [Bool.or_eq_true, Bool.and_eq_true, Bool.and_eq_true] at hk
                      rcases hk with ⟨hk, -⟩ | ⟨hk, -⟩
                      · have : k = 0 := by simpa using hk
                        subst this
                        exact ⟨o, undef, ho, .inr ⟨hno, rfl⟩, next⟩
                      · have : k = 2 := by simpa using hk
                        subst this
                        exact ⟨o, undef, ho, .inr ⟨hno, rfl⟩, next⟩
                · cases e3
          · rw [Bool.and_eq_true] at hk
            obtain ⟨hk, ha⟩ := hk
            have : k = 1 := by simpa using hk
            subst this
            refine ⟨o, ho, fun w1 hw1 hg1 => ?_⟩
            have hw' : HpOk C A S w1 := hw.grow hg1
            have hmv' : ∀ b ∈ C.mv S, C.w0.heap.size ≤ b ∧ ∀ k cs, gt S.H k = some cs → A k ≠ b := by rw [hmv, hH]; exact hrow
            have after : ∀ {ι : Type} {v : ι → Value} {X : ι → Ext} {q : Result Next}, stepIs C.P (fun u W' => ∃ i, Left C S w1 (v i) (X i) u W') q → (∀ i, Sx.ops C r p (St.put ⟨S.n, S.E, S.H, X i⟩ o.dst (.v (v i)))) →
                stepIs C.P (fun u W' => Dm.Mvs rows w1 W' ∧ Dm.dqL C.P ops (fun W => HpOk C A ⟨S0.n, S0.E, S0.H, F⟩ W ∧ n0 ≤ W.heap.size) rows K l (a.put o.dst u) W') q := by
              intro ι v X q h3 h4
              refine stepIs_mono h3 fun u W' ⟨i, hl⟩ => ?_
              have hu := hl.1
              subst hu
              refine ⟨by have := hl.2.1; rw [hmv] at this; exact this, ?_⟩
              have hs2 : SlOk C A ⟨S.n, S.E, S.H, X i⟩ a := ⟨hs.df, hs.sz, hs.sl, hs.nm⟩
              exact headsC_sound hC hp hrow (n0 := n0) h2 (h4 i) (hs2.put (x := .v _) (Nat.zero_le _) e4) (by rw [← hH]; cases o.dst <;> rfl) (by rw [← hn]; cases o.dst <;> rfl) W' ((hw'.left hl hmv').put _ _)
            have step : ∀ (yes : Region.wanted o (yielded ops a.tmps) = true), run1 C m o.dst (Sx.ops C r p) S → wpList C.P ops (Dm.Aft rows w1 fun a' w' => Dm.dqL C.P ops (fun W => HpOk C A ⟨S0.n, S0.E, S0.H, F⟩ W ∧ n0 ≤ W.heap.size) rows K l a' w') [o] a w1 := fun hwt h => by
              unfold wpList
              rw [if_pos hwt]
              refine .inl ?_
              unfold Oper.wp
              cases m with
              | call b' f l1 =>
                have hb : b' = false := by cases b' with | false => rfl | true => cases ha
                subst hb
                have hcc : compOp C.P false o.op = some (.call false f l1) := by
                  rcases e2 with e2 | e2 | e2
                  · exact e2
                  · cases e2
                  · obtain ⟨_, _, e⟩ := compGen_gen e2; cases e
                have ho : ∃ ags ts, o.op = .call ⟨.value (.func f), ags, ts⟩ ∧ ags.toList = l1 := by
                  cases hoo : o.op <;> rw [hoo] at hcc
                  case call cl =>
                    obtain ⟨ce, ags, ts⟩ := cl
                    unfold compOp at hcc
                    split at hcc <;> first | (cases hcc; done) | skip
                    all_goals (rename_i heq; cases heq)
                    · cases hcc; exact ⟨_, _, rfl, rfl⟩
                    all_goals (repeat' (split at hcc)); all_goals (cases hcc)
                  case binOp op t y z yt =>
                    cases op <;> unfold compOp at hcc <;> (simp only at hcc; repeat' (split at hcc)) <;> cases hcc
                  all_goals (unfold compOp at hcc; (try unfold compBd at hcc); (try simp only at hcc); (repeat' (split at hcc)); all_goals (cases hcc))
                obtain ⟨ags, ts, ho, hal⟩ := ho
                have h' : callX C false f (evs S l1) o.dst (Sx.ops C r p) S := h
                unfold callX at h'
                cases he : evs S l1 with
                | none => rw [he] at h'; exact h'.elim
                | some vs =>
                  rw [he] at h'
                  obtain ⟨ι, v, X, h3, h4⟩ := h'
                  rw [exec_call ho (hs.ev (x := .func f) (v := .v _) rfl), evs_arr hs (by rw [hal]; exact he)]
                  exact stepIs_upon (after (h3 A w1 hw').out h4) fun v w' hh => wpList_nil hh
              | gen b' q l1 =>
                have hb : b' = false := by cases b' with | false => rfl | true => cases ha
                subst hb
                have hcc : compGen false o = some (.gen false q l1) := by
                  rcases e2 with e2 | e2 | e2
                  · exfalso
                    cases hoo : o.op <;> rw [hoo] at e2
                    case binOp op t y z yt =>
                      cases op <;> unfold compOp at e2 <;> (simp only at e2; repeat' (split at e2)) <;> cases e2
                    case call cl =>
                      obtain ⟨ce, ags, ts⟩ := cl
                      unfold compOp at e2
                      split at e2 <;> first | (cases e2; done) | skip
                      all_goals (rename_i heq; cases heq)
                      all_goals (repeat' (split at e2)); all_goals (cases e2)
                    all_goals (unfold compOp at e2; (try unfold compBd at e2); (try simp only at e2); (repeat' (split at e2)); all_goals (cases e2))
                  · cases e2
                  · exact e2
                have h' : genX C false q (evs S l1) o.dst (Sx.ops C r p) S := h
                unfold genX at h'
                cases he : evs S l1 with
                | none => rw [he] at h'; exact h'.elim
                | some vs =>
                  rw [he] at h'
                  obtain ⟨ι, v, X, h3, h4⟩ := h'
                  rw [(gen_run hcc a.eval).2, evs_map hs he]
                  exact stepIs_upon (after (h3 A w1 hw').out h4) fun v w' hh => wpList_nil hh
              | _ => cases ha
            have h' : gdX g C m o.dst (Sx.ops C r p) S := h
            unfold gdX at h'
            split at h'
            · refine step ?_ h'
              unfold compGd at e3
              split at e3
              · rename_i hg; unfold Region.wanted; rw [hg]
              · split at e3 <;> cases e3
            · rename_i t wt
              unfold compGd at e3
              split at e3
              · cases e3
              · rename_i j w' hg
                split at e3
                · rename_i t' hj
                  cases e3
                  rcases gdS_spec hs hj h' with ⟨hy, h'⟩ | ⟨hy, h'⟩
                  · exact step (by unfold Region.wanted; rw [hg]; simp [hy]) h'
                  ·   have hno : Region.wanted o (yielded ops a.tmps) = false := by unfold Region.wanted; rw [hg]; simpa using hy
                      unfold wpList
                      rw [if_neg (by rw [hno]; decide)]
                      refine wpList_nil ⟨Dm.mv_gt (gt_refl _ _), ?_⟩
                      exact headsC_sound hC hp hrow (n0 := n0) h2 h' (hs.put (x := .v undef) (Nat.zero_le _) e4) (putH _) (putn _) w1 (hw'.put o.dst _)
                · cases e3
        · cases hc
      · cases hc
    · cases hc
/-- The blocks that new boxes must not meet are the old ones. -/
def chk (nb : Bool) (bs : List Nat) (p : St → Prop) (S : St) : Prop :=
  match nb with
  | true => (∀ b ∈ S.T.bs, b ∈ bs) ∧ p S
  | false => p S
/-- m: awaited calls change none of the blocks that are known; otherwise they may change all of them, and known operations lean on none. -/
abbrev Cx.dr (C : Cx) (m : Bool) (T : Ext) : Cx :=
  match m with
  | true => ⟨C.P, C.w0, C.N, some (T, [])⟩
  | false => ⟨C.P, C.w0, C.N, some (ext0, T.bs)⟩
/-- What known operations may lean on (F), while awaited calls may change the blocks rows. -/
def FrOk (C : Cx) (T F : Ext) (rows : List Nat) : Prop := (∀ b ∈ rows, b ∈ T.bs) ∧ (∀ W, T.ok W → F.ok W) ∧ Stab C F ∧ ∀ b ∈ F.bs, b ∈ T.bs ∧ b ∉ rows
abbrev Cx.fo (C : Cx) (F : Ext) (rows : List Nat) : Cx := ⟨C.P, C.w0, C.N, some (F, rows)⟩
def cregX (C : Cx) (m nb : Bool) (hs tl : List G) (p : St → Prop) (S : St) : Prop :=
  match m with
  | true => Sx.ops (C.fo S.T []) hs (chk nb S.T.bs (Sx.ops C tl p)) S
  | false => ∃ F rows, FrOk C S.T F rows ∧ Sx.ops (C.fo F rows) hs (chk nb S.T.bs (Sx.ops C tl p)) S
theorem cregF {C : Cx} {nb : Bool} {hs tl : List G} {p : St → Prop} {S : St} (h : Sx.ops (C.dr false S.T) hs (chk nb S.T.bs (Sx.ops C tl p)) S) : cregX C false nb hs tl p S :=
  ⟨ext0, S.T.bs, ⟨fun _ h => h, fun _ _ => trivial, stab0 C, fun b hb => (by cases hb)⟩, h⟩
theorem cregX_fr {C : Cx} {m nb : Bool} {hs tl : List G} {p : St → Prop} {S : St} (ts : Stab C S.T) (h : cregX C m nb hs tl p S) : ∃ F rows, FrOk C S.T F rows ∧ Sx.ops (C.fo F rows) hs (chk nb S.T.bs (Sx.ops C tl p)) S := by
  cases m with
  | true => exact ⟨S.T, [], ⟨fun b hb => (by cases hb), fun _ h => h, ts, fun b hb => ⟨hb, fun h => (by cases h)⟩⟩, h⟩
  | false => exact h
def compCr (P : Program) (l : List Oper) (N n : Nat) (lp : List Nat) (sch : List (Nat × Nat)) (bi : List Nat) : Option (Bool × List G × List G) :=
  match compH P l.toArray N sch, compB P l.toArray N bi, compL P l.toArray N (l.drop n) with
  | some hs, some bx, some tl => if Region.dqOk l.toArray n lp sch bx && P.follows .mixedOrders then some (!bx.isEmpty, hs, boxG bx tl) else none
  | _, _, _ => none
theorem creg_sound {id n : Nat} {l : List Oper} {lp bi : List Nat} {sch : List (Nat × Nat)} {m nb : Bool} {hs tl : List G} {p : St → Prop} {Q : Exit → Act → World → Prop} (hC : C.fr = none) (hc : compCr C.P l C.N n lp sch bi = some (nb, hs, tl)) (h : cregX C m nb hs tl p S) (hok : Ok C A S a W)
    (hp : ∀ A S a W, Ok C A S a W → p S → Q .normal a W) (hQ : ∀ c (a : Act) d v w, Q (.panic c) (a.put d v) w → Q (.panic c) a w) : (Code.region id l.toArray true).wp C.P Q a W := by
  unfold compCr at hc
  split at hc
  · rename_i hs' bx tl' h1 h2 h3
    split at hc
    · rename_i h4
      cases hc
      rw [Bool.and_eq_true] at h4
      have hspec := compB_spec h2
      obtain ⟨F, rows, ⟨q1, q2, q3, q4⟩, h'⟩ := cregX_fr hok.2.ts h
      have hfr : (C.fo F rows).fr = some (F, rows) := rfl
      have hP : (C.fo F rows).P = C.P := rfl
      have hw0 : (C.fo F rows).w0 = C.w0 := rfl
      have hN : (C.fo F rows).N = C.N := rfl
      have hrow : ∀ b ∈ rows, (C.w0.heap.size ≤ b ∧ ∀ k cs, gt S.H k = some cs → A k ≠ b) ∧ b < W.heap.size := fun b hb => ⟨⟨(hok.2.tb b (q1 b hb)).1, fun k cs e e' => hok.2.tn k cs e (e' ▸ q1 b hb)⟩, (hok.2.tb b (q1 b hb)).2⟩
      have hF1 : HpOk C A ⟨S.n, S.E, S.H, F⟩ W := ⟨hok.2.bl, hok.2.hb, hok.2.ge, hok.2.kn, hok.2.inj, q2 W hok.2.tk, q3, fun k cs e hb => hok.2.tn k cs e (q4 _ hb).1, fun b hb => hok.2.tb b (q4 b hb).1⟩
      have hF2 : ∀ w w', HpOk C A ⟨S.n, S.E, S.H, F⟩ w → Dm.Mvs rows w w' → HpOk C A ⟨S.n, S.E, S.H, F⟩ w' := fun w w' hw ⟨m1, m2, m3, m4, m5⟩ => by
        refine ⟨⟨m1.trans hw.bl.os, m2.trans hw.bl.tape, m3.trans hw.bl.output, Nat.le_trans hw.bl.size m4, fun i hi => (m5 i (Nat.lt_of_lt_of_le hi hw.bl.size) fun hb => by have := (hrow i hb).1.1; omega).trans (hw.bl.block i hi)⟩,
          fun k cs e => ?_, hw.ge, hw.kn, hw.inj, q3 w w' m1 m2 m3 m4 (fun i hi hor => m5 i hi fun hr => ?_) hw.tk, q3, hw.tn, fun b hb => ⟨(hw.tb b hb).1, Nat.lt_of_lt_of_le (hw.tb b hb).2 m4⟩⟩
        · have hB := hw.hb k cs e
          have hlt := hB.lt
          obtain ⟨T, hT⟩ := hB
          exact ⟨T, (m5 _ hlt fun hb => (hrow _ hb).1.2 k cs e rfl).trans hT⟩
        · rcases hor with hor | hor
          · exact (q4 i hor).2 hr
          · have := (hrow i hr).1.1
            omega
      have h' : Sx.ops (C.fo F rows) hs (chk (!bx.isEmpty) S.T.bs (Sx.ops C (boxG bx tl') p)) S := h'
      have hdq := headsC_sound (C := C.fo F rows) (A := A) (S0 := S) (n0 := W.heap.size) (ops := l.toArray) (K := fun a w => fa (fun w1 => (HpOk (C.fo F rows) A ⟨S.n, S.E, S.H, F⟩ w1 ∧ W.heap.size ≤ w1.heap.size) ∧ w.grownBy w1 none) W.heap.size (fun a w => wpList C.P l.toArray Q (l.drop n) a w) bx [] a)
        hfr (fun S' a' w hs2 hw2 hH hn hp' => ?_) (fun b hb => ⟨hw0 ▸ (hrow b hb).1.1, (hrow b hb).1.2⟩) (by rw [hP, hN]; exact h1) h' (hok.1.fr hN) rfl rfl W.drew (hok.2.drew.fr hw0)
      rotate_left
      · refine fa_sound (SW := fun w1 => (HpOk (C.fo F rows) A ⟨S.n, S.E, S.H, F⟩ w1 ∧ W.heap.size ≤ w1.heap.size) ∧ w.grownBy w1 none) (C := C) (tl := tl') (p := p) (fun A S a w hok' h' => ops_sound hC hp h3 h' hok') hok.2.bl.size (A := A) (S := S') (fun w1 hw _ => ⟨hs2.fr hN.symm, (hw2.grow hw.2).fr hw0.symm⟩) (fun k cs hk => .inl ?_) (fun hb b hbb => ?_) (fun x hx => (hspec x hx).1) ?_
        · rw [hH] at hk
          exact (hok.2.hb k cs hk).lt
        · have hne : (!bx.isEmpty) = true := by cases bx with | nil => exact absurd rfl hb | cons _ _ => rfl
          rw [hne] at hp'
          exact (hok.2.tb b (hp'.1 b hbb)).2
        · cases hne : (!bx.isEmpty) <;> rw [hne] at hp'
          · exact hp'
          · exact hp'.2
      rw [hP] at hdq
      refine Dm.wp_region_dq (rows := rows) (S := fun w => HpOk (C.fo F rows) A ⟨S.n, S.E, S.H, F⟩ w ∧ W.heap.size ≤ w.heap.size) (n0 := W.heap.size) n lp sch bx h4.2 h4.1 hQ ⟨hF1.drew.fr hw0, Nat.le_refl _⟩ (fun w w' ⟨hw, hn⟩ g => ⟨(hF2 w w' (hw.fr hw0.symm) g).fr hw0, Nat.le_trans hn g.size⟩) (fun w hw => hw.2) (fun r hr => (hrow r hr).2)
        (fun x hx => by
          obtain ⟨_, o, ho, hm⟩ := hspec x hx
          exact ⟨o, by simpa using ho, hm⟩) hdq
    · cases hc
  · cases hc
end Sx
end Go.Proofs.Ythcboomdkpiflaa
