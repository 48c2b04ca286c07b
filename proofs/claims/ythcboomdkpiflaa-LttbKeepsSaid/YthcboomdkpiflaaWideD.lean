/- wide and its reference: differences. -/
import Derived.Test.YthcboomdkpiflaaRows
import Derived.Test.YthcboomdkpiflaaRefC
import Derived.WalkKit
import Derived.ProofKit
import Derived.WalkLawsBesides
import Derived.WalkSpells
import Derived.RegionTactic
import Derived.ChangeAlike
import Derived.BigRegion
import Derived.Outline
import Derived.Handy
namespace Go.Proofs.Ythcboomdkpiflaa
open Go.ChangeShapes Go.WideShapes Go.ChangeAt Go.RowKit
set_option linter.unusedVariables false
set_option linter.unusedSimpArgs false

/-- The value v is a Wide that counts as z. -/
def IsW (v : Value) (z : Int) : Prop := ∃ n a b c d, v = WV n a b c d ∧ z = wv n a b c d ∧ U64 a ∧ U64 b ∧ U64 c ∧ U64 d
theorem IsW.raw {n : Bool} {a b c d : Int} (ha : U64 a) (hb : U64 b) (hc : U64 c) (hd : U64 d) : IsW (WV n a b c d) (wv n a b c d) := ⟨n, a, b, c, d, rfl, rfl, ha, hb, hc, hd⟩
theorem IsW.we {z : Int} (h : Fits z) : IsW (WE z) z := ⟨_, _, _, _, _, rfl, (wv_we h).symm, lb0_in _, lb1_in _, lb2_in _, lb3_in _⟩
theorem add_w {v v' : Value} {z z' : Int} (h : IsW v z) (h' : IsW v' z') (w : World) : Calls Try.prog 76 #[v, v'] w fun e w' => e = .returned (.tuple #[WE (cl (z + z')), .bool (fb (z + z'))]) ∧ Below w.heap.size w w' := by
  obtain ⟨n, a, b, c, d, rfl, rfl, ha, hb, hc, hd⟩ := h
  obtain ⟨n', a', b', c', d', rfl, rfl, ha', hb', hc', hd'⟩ := h'
  exact add_any n a b c d n' a' b' c' d' ha hb hc hd ha' hb' hc' hd' w
theorem mul_w {v v' : Value} {z z' : Int} (h : IsW v z) (h' : IsW v' z') (w : World) : Calls Try.prog 63 #[v, v'] w fun e w' => e = .returned (.tuple #[WE (cl (z * z')), .bool (fb (z * z'))]) ∧ Below w.heap.size w w' := by
  obtain ⟨n, a, b, c, d, rfl, rfl, ha, hb, hc, hd⟩ := h
  obtain ⟨n', a', b', c', d', rfl, rfl, ha', hb', hc', hd'⟩ := h'
  exact mul_any n a b c d n' a' b' c' d' ha hb hc hd ha' hb' hc' hd' w
theorem neg_w {v : Value} {z : Int} (h : IsW v z) (w : World) : Calls Try.prog 77 #[v] w fun e w' => e = .returned (WE (-z)) ∧ Below w.heap.size w w' := by
  obtain ⟨n, a, b, c, d, rfl, rfl, ha, hb, hc, hd⟩ := h
  exact neg_any n a b c d ha hb hc hd w
theorem radd_w {v v' : Value} {z z' : Int} (h : IsW v z) (h' : IsW v' z') (w : World) : Calls Try.prog 24 #[v, v'] w fun e w' => e = .returned (.tuple #[WE (cl (z + z')), .bool (fb (z + z'))]) ∧ Below w.heap.size w w' := by
  obtain ⟨n, a, b, c, d, rfl, rfl, ha, hb, hc, hd⟩ := h
  obtain ⟨n', a', b', c', d', rfl, rfl, ha', hb', hc', hd'⟩ := h'
  exact radd2_any n a b c d n' a' b' c' d' ha hb hc hd ha' hb' hc' hd' w
theorem rmul_w {v v' : Value} {z z' : Int} (h : IsW v z) (h' : IsW v' z') (w : World) : Calls Try.prog 23 #[v, v'] w fun e w' => e = .returned (.tuple #[WE (cl (z * z')), .bool (fb (z * z'))]) ∧ Below w.heap.size w w' := by
  obtain ⟨n, a, b, c, d, rfl, rfl, ha, hb, hc, hd⟩ := h
  obtain ⟨n', a', b', c', d', rfl, rfl, ha', hb', hc', hd'⟩ := h'
  exact rmul2_any n a b c d n' a' b' c' d' ha hb hc hd ha' hb' hc' hd' w
theorem rneg_w {v : Value} {z : Int} (h : IsW v z) (w : World) : Calls Try.prog 37 #[v] w fun e w' => e = .returned (WE (-z)) ∧ Below w.heap.size w w' := by
  obtain ⟨n, a, b, c, d, rfl, rfl, ha, hb, hc, hd⟩ := h
  exact rneg_any n a b c d ha hb hc hd w
theorem fits_wv_neg {n : Bool} {a b c d : Int} (ha : U64 a) (hb : U64 b) (hc : U64 c) (hd : U64 d) : Fits (-wv n a b c d) := by
  have m1 := mv_nonneg ha hb hc hd
  have e1 : sv (!n) (MV a b c d) = -wv n a b c d := by unfold sv wv; cases n <;> simp
  rw [← e1]; exact (fits_sv m1).2 (mv_up4 ha hb hc hd)



set_option maxRecDepth 100000 in
theorem sub_w {v v' : Value} {z z' : Int} (h : IsW v z) (h' : IsW v' z') (w : World) : Calls Try.prog 62 #[v, v'] w fun e w' => e = .returned (.tuple #[WE (cl (z - z')), .bool (fb (z - z'))]) ∧ Below w.heap.size w w' := by
  obtain ⟨n, a, b, c, d, rfl, hz, ha, hb, hc, hd⟩ := h
  obtain ⟨n', a', b', c', d', rfl, hz', ha', hb', hc', hd'⟩ := h'
  have f1 : Fits (-z') := hz' ▸ fits_wv_neg ha' hb' hc' hd'
  have CN := fun W => neg_w (hz' ▸ IsW.raw (n := n') ha' hb' hc' hd' : IsW (WV n' a' b' c' d') z') W
  have CA := fun W => add_w (hz ▸ IsW.raw (n := n) ha hb hc hd : IsW (WV n a b c d) z) (IsW.we f1) W
  rw [← Int.sub_eq_add_neg] at CA
  clear f1 hz hz' ha hb hc hd ha' hb' hc' hd'
  generalize -z' = zn at *
  generalize z - z' = zd at *
  generalize hR : Value.tuple #[WE (cl zd), .bool (fb zd)] = R
  have HR := hid hR
  clear hR
  go_enter Try.func62, Try.ntmps62
  go_wp2_with fail
  
  
  (refine wp_region_dq (row := none) (S := (fun Wz => Below w.heap.size w Wz ∧ w.heap.size + 3 ≤ Wz.heap.size ∧ Bx Wz (w.heap.size) (#[.bool n, .int .u64 a, .int .u64 b, .int .u64 c, .int .u64 d]) ∧ Bx Wz (w.heap.size + 1) (#[.bool n', .int .u64 a', .int .u64 b', .int .u64 c', .int .u64 d']) ∧ Bx Wz (w.heap.size + 1 + 1) (#[.bool false, .int .u64 0, .int .u64 0, .int .u64 0, .int .u64 0]))) (n0 := w.heap.size + 3) 6 [] [(0, 0), (1, 0), (2, 0), (3, 0), (4, 0), (5, 0)] [] (by kernel_rfl) (by kernel_rfl) (fun _ _ d _ _ h => by cases d <;> exact h) ⟨by (repeat' (first | (with_reducible assumption) | (with_reducible exact Below.refl _ _) | (with_reducible refine Below.alloc ?_ ?_ _) | (with_reducible refine Below.setCell ?_ ?_ _) | (with_reducible refine Below.drew ?_) | (with_reducible refine below_more ?_ (by with_reducible assumption)) | go_size | omega | (with_reducible refine below_drewN ?_))), (by first | go_size | omega), Bx.of (by (repeat' (first | (with_reducible assumption) | ((with_reducible refine HB.new _ _ _ ?_) <;> (go_size; done)) | (with_reducible refine HB.old (by go_size) ?_) | (with_reducible refine HB.drew ?_) | (with_reducible refine HB.over5 ?_) | (with_reducible refine HB.over4 ?_) | (with_reducible refine HB.setne (by first | go_size | (dsimp only; omega)) ?_) | (with_reducible refine HN.set ?_) | (with_reducible refine HN.setne (by first | go_size | (dsimp only; omega)) ?_) | (with_reducible refine HN.drew ?_) | (with_reducible refine HN.old (by go_size) ?_) | (with_reducible exact HN.of5 (by assumption)) | (with_reducible exact HN.new5 _ _ (by go_size)) | (with_reducible exact HN.of4 (by assumption)) | (with_reducible exact HN.new4 _ _ (by go_size))))), Bx.of (by (repeat' (first | (with_reducible assumption) | ((with_reducible refine HB.new _ _ _ ?_) <;> (go_size; done)) | (with_reducible refine HB.old (by go_size) ?_) | (with_reducible refine HB.drew ?_) | (with_reducible refine HB.over5 ?_) | (with_reducible refine HB.over4 ?_) | (with_reducible refine HB.setne (by first | go_size | (dsimp only; omega)) ?_) | (with_reducible refine HN.set ?_) | (with_reducible refine HN.setne (by first | go_size | (dsimp only; omega)) ?_) | (with_reducible refine HN.drew ?_) | (with_reducible refine HN.old (by go_size) ?_) | (with_reducible exact HN.of5 (by assumption)) | (with_reducible exact HN.new5 _ _ (by go_size)) | (with_reducible exact HN.of4 (by assumption)) | (with_reducible exact HN.new4 _ _ (by go_size))))), Bx.of (by (repeat' (first | (with_reducible assumption) | ((with_reducible refine HB.new _ _ _ ?_) <;> (go_size; done)) | (with_reducible refine HB.old (by go_size) ?_) | (with_reducible refine HB.drew ?_) | (with_reducible refine HB.over5 ?_) | (with_reducible refine HB.over4 ?_) | (with_reducible refine HB.setne (by first | go_size | (dsimp only; omega)) ?_) | (with_reducible refine HN.set ?_) | (with_reducible refine HN.setne (by first | go_size | (dsimp only; omega)) ?_) | (with_reducible refine HN.drew ?_) | (with_reducible refine HN.old (by go_size) ?_) | (with_reducible exact HN.of5 (by assumption)) | (with_reducible exact HN.new5 _ _ (by go_size)) | (with_reducible exact HN.of4 (by assumption)) | (with_reducible exact HN.new4 _ _ (by go_size)))))⟩ (fun _ _ h g => keep3 h (below_gt g) rfl) (fun _ h => h.2.1) (fun _ h => by cases h) (by simp) ?_)
  refine' dq_pure (by rfl) (by rfl) ?hv1 ?rest1
  case hv1 => (intro w hw; (try dsimp only at hw); go_split_ands; go_simp; try with_reducible rfl)
  case' rest1 => try simp only [Act.put, List.setIfInBounds_toArray, List.set_cons_zero, List.set_cons_succ]
  refine' dq_pure (by rfl) (by rfl) ?hv2 ?rest2
  case hv2 => (intro w hw; (try dsimp only at hw); go_split_ands; go_simp; try with_reducible rfl)
  case' rest2 => try simp only [Act.put, List.setIfInBounds_toArray, List.set_cons_zero, List.set_cons_succ]
  refine' dq_call (by rfl) (by rfl) ?hv3 ?hc3 ?rest3
  case hv3 => (intro w; go_simp; exact ⟨rfl, rfl⟩)
  case hc3 => exact (fun w hw => calls_gt (CN _))
  case' rest3 => try simp only [Act.put, List.setIfInBounds_toArray, List.set_cons_zero, List.set_cons_succ]
  refine' dq_call (by rfl) (by rfl) ?hv4 ?hc4 ?rest4
  case hv4 => (intro w; go_simp; exact ⟨rfl, rfl⟩)
  case hc4 => exact (fun w hw => calls_gt (CA _))
  case' rest4 => try simp only [Act.put, List.setIfInBounds_toArray, List.set_cons_zero, List.set_cons_succ]
  refine' dq_pure (by rfl) (by rfl) ?hv5 ?rest5
  case hv5 => (intro w hw; (try dsimp only at hw); go_split_ands; go_simp; try with_reducible rfl)
  case' rest5 => try simp only [Act.put, List.setIfInBounds_toArray, List.set_cons_zero, List.set_cons_succ]
  refine' dq_pure (by rfl) (by rfl) ?hv6 ?rest6
  case hv6 => (intro w hw; (try dsimp only at hw); go_split_ands; go_simp; try with_reducible rfl)
  case' rest6 => try simp only [Act.put, List.setIfInBounds_toArray, List.set_cons_zero, List.set_cons_succ]
  refine dq_nil ?_
  simp only [fa, List.drop_succ_cons, List.drop_zero]
  rintro W ⟨⟨hb0, hn0, ⟨B1, B1c, B1f, B1l⟩, ⟨B2, B2c, B2f, B2l⟩, ⟨B3, B3c, B3f, B3l⟩⟩, hgl⟩ hbs
  clear hbs hgl
  (repeat' (first | go_values | go_skip | go_guarded | go_step | go_upon | (simp only [Int.not_lt, Int.not_le] at *; go_simp) | (go_values <;> (try go_simp)) | (go_ite <;> go_prune <;> (try go_simp)) | (split <;> (first | (rename_i hx; exact (hx _ rfl).elim) | go_prune))))
  refine bodyPost_ret (v := .tuple #[WE (cl zd), .bool (fb zd)]) ?_ rfl ⟨congrArg Ending.returned HR.out, by (repeat' (first | (with_reducible assumption) | (with_reducible exact Below.refl _ _) | (with_reducible refine Below.alloc ?_ ?_ _) | (with_reducible refine Below.setCell ?_ ?_ _) | (with_reducible refine Below.drew ?_) | (with_reducible refine below_more ?_ (by with_reducible assumption)) | go_size | omega | (with_reducible refine below_drewN ?_)))⟩
  simp [results, Try.results62, go_sem, B3c, B3f, B3l]

set_option maxRecDepth 100000 in
theorem rsub_w {v v' : Value} {z z' : Int} (h : IsW v z) (h' : IsW v' z') (w : World) : Calls Try.prog 25 #[v, v'] w fun e w' => e = .returned (.tuple #[WE (cl (z - z')), .bool (fb (z - z'))]) ∧ Below w.heap.size w w' := by
  obtain ⟨n, a, b, c, d, rfl, hz, ha, hb, hc, hd⟩ := h
  obtain ⟨n', a', b', c', d', rfl, hz', ha', hb', hc', hd'⟩ := h'
  have f1 : Fits (-z') := hz' ▸ fits_wv_neg ha' hb' hc' hd'
  have CN := fun W => rneg_w (hz' ▸ IsW.raw (n := n') ha' hb' hc' hd' : IsW (WV n' a' b' c' d') z') W
  have CA := fun W => radd_w (hz ▸ IsW.raw (n := n) ha hb hc hd : IsW (WV n a b c d) z) (IsW.we f1) W
  rw [← Int.sub_eq_add_neg] at CA
  clear f1 hz hz' ha hb hc hd ha' hb' hc' hd'
  generalize -z' = zn at *
  generalize z - z' = zd at *
  generalize hR : Value.tuple #[WE (cl zd), .bool (fb zd)] = R
  have HR := hid hR
  clear hR
  go_enter Try.func25, Try.ntmps25
  go_wp2_with fail
  
  
  (refine wp_region_dq (row := none) (S := (fun Wz => Below w.heap.size w Wz ∧ w.heap.size + 3 ≤ Wz.heap.size ∧ Bx Wz (w.heap.size) (#[.bool n, .int .u64 a, .int .u64 b, .int .u64 c, .int .u64 d]) ∧ Bx Wz (w.heap.size + 1) (#[.bool n', .int .u64 a', .int .u64 b', .int .u64 c', .int .u64 d']) ∧ Bx Wz (w.heap.size + 1 + 1) (#[.bool false, .int .u64 0, .int .u64 0, .int .u64 0, .int .u64 0]))) (n0 := w.heap.size + 3) 6 [] [(0, 0), (1, 0), (2, 0), (3, 0), (4, 0), (5, 0)] [] (by kernel_rfl) (by kernel_rfl) (fun _ _ d _ _ h => by cases d <;> exact h) ⟨by (repeat' (first | (with_reducible assumption) | (with_reducible exact Below.refl _ _) | (with_reducible refine Below.alloc ?_ ?_ _) | (with_reducible refine Below.setCell ?_ ?_ _) | (with_reducible refine Below.drew ?_) | (with_reducible refine below_more ?_ (by with_reducible assumption)) | go_size | omega | (with_reducible refine below_drewN ?_))), (by first | go_size | omega), Bx.of (by (repeat' (first | (with_reducible assumption) | ((with_reducible refine HB.new _ _ _ ?_) <;> (go_size; done)) | (with_reducible refine HB.old (by go_size) ?_) | (with_reducible refine HB.drew ?_) | (with_reducible refine HB.over5 ?_) | (with_reducible refine HB.over4 ?_) | (with_reducible refine HB.setne (by first | go_size | (dsimp only; omega)) ?_) | (with_reducible refine HN.set ?_) | (with_reducible refine HN.setne (by first | go_size | (dsimp only; omega)) ?_) | (with_reducible refine HN.drew ?_) | (with_reducible refine HN.old (by go_size) ?_) | (with_reducible exact HN.of5 (by assumption)) | (with_reducible exact HN.new5 _ _ (by go_size)) | (with_reducible exact HN.of4 (by assumption)) | (with_reducible exact HN.new4 _ _ (by go_size))))), Bx.of (by (repeat' (first | (with_reducible assumption) | ((with_reducible refine HB.new _ _ _ ?_) <;> (go_size; done)) | (with_reducible refine HB.old (by go_size) ?_) | (with_reducible refine HB.drew ?_) | (with_reducible refine HB.over5 ?_) | (with_reducible refine HB.over4 ?_) | (with_reducible refine HB.setne (by first | go_size | (dsimp only; omega)) ?_) | (with_reducible refine HN.set ?_) | (with_reducible refine HN.setne (by first | go_size | (dsimp only; omega)) ?_) | (with_reducible refine HN.drew ?_) | (with_reducible refine HN.old (by go_size) ?_) | (with_reducible exact HN.of5 (by assumption)) | (with_reducible exact HN.new5 _ _ (by go_size)) | (with_reducible exact HN.of4 (by assumption)) | (with_reducible exact HN.new4 _ _ (by go_size))))), Bx.of (by (repeat' (first | (with_reducible assumption) | ((with_reducible refine HB.new _ _ _ ?_) <;> (go_size; done)) | (with_reducible refine HB.old (by go_size) ?_) | (with_reducible refine HB.drew ?_) | (with_reducible refine HB.over5 ?_) | (with_reducible refine HB.over4 ?_) | (with_reducible refine HB.setne (by first | go_size | (dsimp only; omega)) ?_) | (with_reducible refine HN.set ?_) | (with_reducible refine HN.setne (by first | go_size | (dsimp only; omega)) ?_) | (with_reducible refine HN.drew ?_) | (with_reducible refine HN.old (by go_size) ?_) | (with_reducible exact HN.of5 (by assumption)) | (with_reducible exact HN.new5 _ _ (by go_size)) | (with_reducible exact HN.of4 (by assumption)) | (with_reducible exact HN.new4 _ _ (by go_size)))))⟩ (fun _ _ h g => keep3 h (below_gt g) rfl) (fun _ h => h.2.1) (fun _ h => by cases h) (by simp) ?_)
  refine' dq_pure (by rfl) (by rfl) ?hv7 ?rest7
  case hv7 => (intro w hw; (try dsimp only at hw); go_split_ands; go_simp; try with_reducible rfl)
  case' rest7 => try simp only [Act.put, List.setIfInBounds_toArray, List.set_cons_zero, List.set_cons_succ]
  refine' dq_pure (by rfl) (by rfl) ?hv8 ?rest8
  case hv8 => (intro w hw; (try dsimp only at hw); go_split_ands; go_simp; try with_reducible rfl)
  case' rest8 => try simp only [Act.put, List.setIfInBounds_toArray, List.set_cons_zero, List.set_cons_succ]
  refine' dq_call (by rfl) (by rfl) ?hv9 ?hc9 ?rest9
  case hv9 => (intro w; go_simp; exact ⟨rfl, rfl⟩)
  case hc9 => exact (fun w hw => calls_gt (CN _))
  case' rest9 => try simp only [Act.put, List.setIfInBounds_toArray, List.set_cons_zero, List.set_cons_succ]
  refine' dq_call (by rfl) (by rfl) ?hv10 ?hc10 ?rest10
  case hv10 => (intro w; go_simp; exact ⟨rfl, rfl⟩)
  case hc10 => exact (fun w hw => calls_gt (CA _))
  case' rest10 => try simp only [Act.put, List.setIfInBounds_toArray, List.set_cons_zero, List.set_cons_succ]
  refine' dq_pure (by rfl) (by rfl) ?hv11 ?rest11
  case hv11 => (intro w hw; (try dsimp only at hw); go_split_ands; go_simp; try with_reducible rfl)
  case' rest11 => try simp only [Act.put, List.setIfInBounds_toArray, List.set_cons_zero, List.set_cons_succ]
  refine' dq_pure (by rfl) (by rfl) ?hv12 ?rest12
  case hv12 => (intro w hw; (try dsimp only at hw); go_split_ands; go_simp; try with_reducible rfl)
  case' rest12 => try simp only [Act.put, List.setIfInBounds_toArray, List.set_cons_zero, List.set_cons_succ]
  refine dq_nil ?_
  simp only [fa, List.drop_succ_cons, List.drop_zero]
  rintro W ⟨⟨hb0, hn0, ⟨B1, B1c, B1f, B1l⟩, ⟨B2, B2c, B2f, B2l⟩, ⟨B3, B3c, B3f, B3l⟩⟩, hgl⟩ hbs
  clear hbs hgl
  (repeat' (first | go_values | go_skip | go_guarded | go_step | go_upon | (simp only [Int.not_lt, Int.not_le] at *; go_simp) | (go_values <;> (try go_simp)) | (go_ite <;> go_prune <;> (try go_simp)) | (split <;> (first | (rename_i hx; exact (hx _ rfl).elim) | go_prune))))
  refine bodyPost_ret (v := .tuple #[WE (cl zd), .bool (fb zd)]) ?_ rfl ⟨congrArg Ending.returned HR.out, by (repeat' (first | (with_reducible assumption) | (with_reducible exact Below.refl _ _) | (with_reducible refine Below.alloc ?_ ?_ _) | (with_reducible refine Below.setCell ?_ ?_ _) | (with_reducible refine Below.drew ?_) | (with_reducible refine below_more ?_ (by with_reducible assumption)) | go_size | omega | (with_reducible refine below_drewN ?_)))⟩
  simp [results, Try.results25, go_sem, B3c, B3f, B3l]
end Go.Proofs.Ythcboomdkpiflaa
