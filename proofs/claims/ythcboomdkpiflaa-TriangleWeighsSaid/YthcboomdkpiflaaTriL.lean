/- The helpers of tscodeclaw23: known, point, shifted; and what the plain areas obey. -/
import Derived.Test.YthcboomdkpiflaaRows
import Derived.Test.YthcboomdkpiflaaTriA
import Derived.Test.YthcboomdkpiflaaMadeW
import Derived.Test.YthcboomdkpiflaaChk
import Derived.WalkKit
import Derived.ProofKit
import Derived.WalkLawsBesides
import Derived.WalkSpells
import Derived.RegionTactic
import Derived.ChangeAlike
import Derived.BigRegion
import Derived.Outline
import Derived.Handy
namespace Go.Proofs.Ythcboomdkpiflaa
open Go.ChangeShapes Go.WideShapes Go.ChangeAt Go.RowKit
set_option linter.unusedVariables false
set_option linter.unusedSimpArgs false

/-- Equal Wides are equal. -/
theorem eq_self (n : Bool) (a b c d : Int) (w : World) : (Op.equalIn 10000 27 (.agg #[.bool n, .int .u64 a, .int .u64 b, .int .u64 c, .int .u64 d]) (.agg #[.bool n, .int .u64 a, .int .u64 b, .int .u64 c, .int .u64 d])).run Try.prog w = .ok true w := by
  have h := eq_wide n a b c d n a b c d 9997 w
  have e : weq n a b c d n a b c d = true := by unfold weq meq; simp
  rw [e] at h
  exact h
/-- What a law's walk keeps. -/
theorem below_tape {w W : World} {b : Nat} (h : w.grownBy W (some b)) (hb : w.heap.size ≤ b) : Below w.heap.size w W := (Below.refl _ w).grown h (Nat.le_refl _) (fun k e => by have := Option.some.inj e; omega)

set_option maxHeartbeats 2000000 in
set_option maxRecDepth 100000 in
theorem known23_any (w : World) : Calls Try.prog 15 #[] w fun e w' => e = .returned (.bool true) ∧ Below w.heap.size w w' := by
  obtain ⟨z6, h6⟩ : ∃ z : Int, z = 6 := ⟨_, rfl⟩
  obtain ⟨z0, h0⟩ : ∃ z : Int, z = 0 := ⟨_, rfl⟩
  obtain ⟨z12, h12⟩ : ∃ z : Int, z = 12 := ⟨_, rfl⟩
  have D : ∀ W, Calls Try.prog 16 #[.agg #[.int .i64 0, .int .i64 0], .agg #[.int .i64 2, .int .i64 0], .agg #[.int .i64 0, .int .i64 3]] W fun e w' => e = .returned (WE z6) ∧ Below W.heap.size W w' := fun W => by
    rw [h6]
    have := doubled_any (ta := 0) (va := 0) (tb := 2) (vb := 0) (tc := 0) (vc := 3) ⟨by decide, by decide⟩ ⟨by decide, by decide⟩ ⟨by decide, by decide⟩ ⟨by decide, by decide⟩ ⟨by decide, by decide⟩ ⟨by decide, by decide⟩ W
    rwa [show ab (ar 0 0 2 0 0 3 1) = 6 by decide] at this
  have D2 : ∀ W, Calls Try.prog 18 #[.agg #[.int .i64 0, .int .i64 0], .agg #[.int .i64 2, .int .i64 0], WE z0, WE z6, .int .i64 2] W fun e w' => e = .returned (WE z12) ∧ Below W.heap.size W w' := fun W => by
    rw [h0, h6, h12]
    have := weighted_we (ta := 0) (va := 0) (tb := 2) (vb := 0) (T := 0) (V := 6) (m := 2) ⟨by decide, by decide⟩ ⟨by decide, by decide⟩ ⟨by decide, by decide⟩ ⟨by decide, by decide⟩ (sm_i64 ⟨by decide, by decide⟩) (sm_i64 ⟨by decide, by decide⟩) ⟨by decide, by decide⟩ W
    rwa [show ab (ar 0 0 2 0 0 6 2) = 12 by decide] at this
  have O1 := fun W => rOf_any 6 ⟨by decide, by decide⟩ W
  have O2 := fun W => rOf_any 0 ⟨by decide, by decide⟩ W
  have O3 := fun W => rOf_any 12 ⟨by decide, by decide⟩ W
  rw [show WE 6 = WE z6 by rw [h6]] at O1
  rw [show WE 0 = WE z0 by rw [h0]] at O2
  rw [show WE 12 = WE z12 by rw [h12]] at O3
  clear h6 h0 h12
  have E := eq_self
  go_enter Try.func15, Try.ntmps15
  (repeat' (first | go_values | go_skip | go_guarded | go_step | go_upon | (simp only [Int.not_lt, Int.not_le] at *; go_simp) | (go_values <;> (try go_simp)) | (go_ite <;> go_prune <;> (try go_simp)) | (split <;> (first | (rename_i hx; exact (hx _ rfl).elim) | go_prune))))
  
  
  
  (refine wp_region_dq (row := none) (S := (fun Wz => Below w.heap.size w Wz ∧ w.heap.size ≤ Wz.heap.size ∧ Bx Wz (w.heap.size) (#[.int .i64 0, .int .i64 0]) ∧ Bx Wz (w.heap.size + 1) (#[.int .i64 2, .int .i64 0]))) (n0 := w.heap.size) 15 [] [(0, 0), (1, 0), (2, 0), (3, 0), (4, 0), (5, 0), (6, 0), (7, 0), (8, 0), (9, 0), (10, 0), (11, 0), (12, 0), (13, 0), (14, 0)] [] (by kernel_rfl) (by kernel_rfl) (fun _ _ d _ _ h => by cases d <;> exact h) ⟨by (repeat' (first | (with_reducible assumption) | (with_reducible exact Below.refl _ _) | (with_reducible refine Below.alloc ?_ ?_ _) | (with_reducible refine Below.setCell ?_ ?_ _) | (with_reducible refine Below.drew ?_) | (with_reducible refine below_more ?_ (by with_reducible assumption)) | go_size | omega | (with_reducible refine below_drewN ?_))), (by first | go_size | omega), Bx.of (by (repeat' (first | (with_reducible assumption) | ((with_reducible refine HB.new _ _ _ ?_) <;> (go_size; done)) | (with_reducible refine HB.old (by go_size) ?_) | (with_reducible refine HB.drew ?_) | (with_reducible refine HB.over5 ?_) | (with_reducible refine HB.over4 ?_) | (with_reducible refine HB.setne (by first | go_size | (dsimp only; omega)) ?_) | (with_reducible refine HN.set ?_) | (with_reducible refine HN.setne (by first | go_size | (dsimp only; omega)) ?_) | (with_reducible refine HN.drew ?_) | (with_reducible refine HN.old (by go_size) ?_) | (with_reducible exact HN.of5 (by assumption)) | (with_reducible exact HN.new5 _ _ (by go_size)) | (with_reducible exact HN.of4 (by assumption)) | (with_reducible exact HN.new4 _ _ (by go_size))))), Bx.of (by (repeat' (first | (with_reducible assumption) | ((with_reducible refine HB.new _ _ _ ?_) <;> (go_size; done)) | (with_reducible refine HB.old (by go_size) ?_) | (with_reducible refine HB.drew ?_) | (with_reducible refine HB.over5 ?_) | (with_reducible refine HB.over4 ?_) | (with_reducible refine HB.setne (by first | go_size | (dsimp only; omega)) ?_) | (with_reducible refine HN.set ?_) | (with_reducible refine HN.setne (by first | go_size | (dsimp only; omega)) ?_) | (with_reducible refine HN.drew ?_) | (with_reducible refine HN.old (by go_size) ?_) | (with_reducible exact HN.of5 (by assumption)) | (with_reducible exact HN.new5 _ _ (by go_size)) | (with_reducible exact HN.of4 (by assumption)) | (with_reducible exact HN.new4 _ _ (by go_size)))))⟩ (fun _ _ h g => keep2 h (below_gt g) rfl) (fun _ h => h.2.1) (fun _ h => by cases h) (by simp) ?_)
  refine' dq_pure (by rfl) (by rfl) ?hv1 ?rest1
  case hv1 => (intro w hw; (try dsimp only at hw); go_split_ands; go_simp; try with_reducible rfl)
  case' rest1 => try simp only [Act.put, List.setIfInBounds_toArray, List.set_cons_zero, List.set_cons_succ]
  refine' dq_pure (by rfl) (by rfl) ?hv2 ?rest2
  case hv2 => (intro w hw; (try dsimp only at hw); go_split_ands; go_simp; try with_reducible rfl)
  case' rest2 => try simp only [Act.put, List.setIfInBounds_toArray, List.set_cons_zero, List.set_cons_succ]
  refine' dq_pure (by rfl) (by rfl) ?hv3 ?rest3
  case hv3 => (intro w hw; (try dsimp only at hw); go_split_ands; go_simp; try with_reducible rfl)
  case' rest3 => try simp only [Act.put, List.setIfInBounds_toArray, List.set_cons_zero, List.set_cons_succ]
  refine' dq_call (by rfl) (by rfl) ?hv4 ?hc4 ?rest4
  case hv4 => (intro w; go_simp; exact ⟨rfl, rfl⟩)
  case hc4 => exact (fun w hw => calls_gt (D _))
  case' rest4 => try simp only [Act.put, List.setIfInBounds_toArray, List.set_cons_zero, List.set_cons_succ]
  refine' dq_call (by rfl) (by rfl) ?hv5 ?hc5 ?rest5
  case hv5 => (intro w; go_simp; exact ⟨rfl, rfl⟩)
  case hc5 => exact (fun w hw => by first | (with_reducible exact calls_gt (O1 _)) | (with_reducible exact calls_gt (O2 _)) | (with_reducible exact calls_gt (O3 _)))
  case' rest5 => try simp only [Act.put, List.setIfInBounds_toArray, List.set_cons_zero, List.set_cons_succ]
  refine' dq_pure (by rfl) (by rfl) ?hv6 ?rest6
  case hv6 => (intro w hw; (try dsimp only at hw); go_split_ands; go_simp; try with_reducible rfl)
  case' rest6 => try simp only [Act.put, List.setIfInBounds_toArray, List.set_cons_zero, List.set_cons_succ]
  refine' dq_pure (by rfl) (by rfl) ?hv7 ?rest7
  case hv7 => (intro w hw; (try dsimp only at hw); go_split_ands; go_simp; try with_reducible rfl)
  case' rest7 => try simp only [Act.put, List.setIfInBounds_toArray, List.set_cons_zero, List.set_cons_succ]
  refine' dq_pure (by rfl) (by kernel_rfl) ?hv8 ?rest8
  case hv8 => (intro w hw; (try dsimp only at hw); go_split_ands; go_simp; try with_reducible rfl)
  case' rest8 => try simp only [Act.put, List.setIfInBounds_toArray, List.set_cons_zero, List.set_cons_succ]
  refine' dq_pure (by rfl) (by kernel_rfl) ?hv9 ?rest9
  case hv9 => (intro w hw; (try dsimp only at hw); go_split_ands; go_simp; try with_reducible rfl)
  case' rest9 => try simp only [Act.put, List.setIfInBounds_toArray, List.set_cons_zero, List.set_cons_succ]
  refine' dq_call (by rfl) (by kernel_rfl) ?hv10 ?hc10 ?rest10
  case hv10 => (intro w; go_simp; exact ⟨rfl, rfl⟩)
  case hc10 => exact (fun w hw => by first | (with_reducible exact calls_gt (O1 _)) | (with_reducible exact calls_gt (O2 _)) | (with_reducible exact calls_gt (O3 _)))
  case' rest10 => try simp only [Act.put, List.setIfInBounds_toArray, List.set_cons_zero, List.set_cons_succ]
  refine' dq_call (by rfl) (by kernel_rfl) ?hv11 ?hc11 ?rest11
  case hv11 => (intro w; go_simp; exact ⟨rfl, rfl⟩)
  case hc11 => exact (fun w hw => by first | (with_reducible exact calls_gt (O1 _)) | (with_reducible exact calls_gt (O2 _)) | (with_reducible exact calls_gt (O3 _)))
  case' rest11 => try simp only [Act.put, List.setIfInBounds_toArray, List.set_cons_zero, List.set_cons_succ]
  refine' dq_call (by rfl) (by kernel_rfl) ?hv12 ?hc12 ?rest12
  case hv12 => (intro w; go_simp; exact ⟨rfl, rfl⟩)
  case hc12 => exact (fun w hw => calls_gt (D2 _))
  case' rest12 => try simp only [Act.put, List.setIfInBounds_toArray, List.set_cons_zero, List.set_cons_succ]
  refine' dq_call (by rfl) (by kernel_rfl) ?hv13 ?hc13 ?rest13
  case hv13 => (intro w; go_simp; exact ⟨rfl, rfl⟩)
  case hc13 => exact (fun w hw => by first | (with_reducible exact calls_gt (O1 _)) | (with_reducible exact calls_gt (O2 _)) | (with_reducible exact calls_gt (O3 _)))
  case' rest13 => try simp only [Act.put, List.setIfInBounds_toArray, List.set_cons_zero, List.set_cons_succ]
  refine' dq_pure (by rfl) (by kernel_rfl) ?hv14 ?rest14
  case hv14 => (intro w hw; (try dsimp only at hw); go_split_ands; go_simp; try with_reducible rfl)
  case' rest14 => try simp only [Act.put, List.setIfInBounds_toArray, List.set_cons_zero, List.set_cons_succ]
  refine' dq_pure (by rfl) (by rfl) ?hv15 ?rest15
  case hv15 => (intro w hw; (try dsimp only at hw); go_split_ands; go_simp; try with_reducible rfl)
  case' rest15 => try simp only [Act.put, List.setIfInBounds_toArray, List.set_cons_zero, List.set_cons_succ]
  refine dq_nil ?_
  simp only [fa, List.drop_succ_cons, List.drop_zero]
  rintro W ⟨⟨hb0, hn0, ⟨B1, B1c, B1f, B1l⟩, ⟨B2, B2c, B2f, B2l⟩⟩, hgl⟩ hbs
  clear hbs hgl
  (repeat' (first | go_values | go_skip | go_guarded | go_step | go_upon | (simp only [Int.not_lt, Int.not_le] at *; go_simp) | (go_values <;> (try go_simp)) | (go_ite <;> go_prune <;> (try go_simp)) | (split <;> (first | (rename_i hx; exact (hx _ rfl).elim) | go_prune))))
  refine bodyPost_ret (v := .bool true) ?_ rfl ⟨rfl, by (repeat' (first | (with_reducible assumption) | (with_reducible exact Below.refl _ _) | (with_reducible refine Below.alloc ?_ ?_ _) | (with_reducible refine Below.setCell ?_ ?_ _) | (with_reducible refine Below.drew ?_) | (with_reducible refine below_more ?_ (by with_reducible assumption)) | go_size | omega | (with_reducible refine below_drewN ?_)))⟩
  simp [results, Try.results15, go_sem]

def PPost (B : Nat) (b : Nat) (w : World) (e : Ending) (w' : World) : Prop := ∃ x y, I64 x ∧ I64 y ∧ e = .returned (.agg #[.int .i64 x, .int .i64 y]) ∧ TapeOk B w' b ∧ w.grownBy w' (some b)
set_option maxHeartbeats 2000000 in
set_option maxRecDepth 100000 in
theorem point_any {B : Nat} (b : Nat) (w : World) (ht : TapeOk B w b) : Calls Try.prog 12 #[.pointer (some ⟨b, 0, none⟩)] w (PPost B b w) := by
  have hG := grown_refl w (some b)
  have hBl := ht.ltB
  have hBs := ht.leB
  go_enter Try.func12, Try.ntmps12
  (repeat' (first | (go_big_may; (first | (go_at_call 34; refine (int_any (B := B) b _ (by (repeat' (first | (with_reducible exact ht) | (with_reducible refine TapeOk.alloc ?_ _) | (with_reducible refine TapeOk.drew ?_) | (with_reducible refine TapeOk.setc (by first | go_size | (dsimp only; omega)) ?_))))).mono ?_; rintro e w' ⟨z, hz, rfl, ht', hg⟩; have N1 := Bx.of (HB.gne (b := w.heap.size) (cs := #[.int .i64 0, .int .i64 0]) (by (repeat' (first | (with_reducible assumption) | ((with_reducible refine HB.new _ _ _ ?_) <;> (go_size; done)) | (with_reducible refine HB.old (by go_size) ?_) | (with_reducible refine HB.drew ?_) | (with_reducible refine HB.over5 ?_) | (with_reducible refine HB.over4 ?_) | (with_reducible refine HB.setne (by first | go_size | (dsimp only; omega)) ?_) | (with_reducible refine HN.set ?_) | (with_reducible refine HN.setne (by first | go_size | (dsimp only; omega)) ?_) | (with_reducible refine HN.drew ?_) | (with_reducible refine HN.old (by go_size) ?_) | (with_reducible exact HN.of5 (by assumption)) | (with_reducible exact HN.new5 _ _ (by go_size)) | (with_reducible exact HN.of4 (by assumption)) | (with_reducible exact HN.new4 _ _ (by go_size))))) hg (by first | omega | (go_size; done))); have hG' : w.grownBy w' (some (b)) := grown_trans (by (repeat' (first | (with_reducible exact hG) | (with_reducible refine grown_alloc ?_ _) | (with_reducible refine grown_drew ?_) | (with_reducible refine grown_setCell ?_ (.inr (by first | go_size | (dsimp only; omega))) _)))) hg; have hsz := hg.size; clear ht hG; have ht := ht'; have hG := hG'; clear ht' hG'; (try simp only [World.size_alloc, World.size_setCell, World.size_drew] at hsz); clear hg; (try clear B1 B1c B1f B1l); obtain ⟨B1, B1c, B1f, B1l⟩ := N1))) | go_values | go_skip | go_guarded | go_step | go_upon | (simp only [Int.not_lt, Int.not_le] at *; go_simp) | (go_values <;> (try go_simp)) | (go_ite <;> go_prune <;> (try go_simp)) | (split <;> (first | (rename_i hx; exact (hx _ rfl).elim) | go_prune))))
  rename_i w1 z1 hz1 hs1
  refine bodyPost_ret (v := .agg #[.int .i64 z1, .int .i64 z]) ?_ rfl ⟨_, _, hz1, hz, rfl, by (repeat' (first | (with_reducible exact ht) | (with_reducible refine TapeOk.alloc ?_ _) | (with_reducible refine TapeOk.drew ?_) | (with_reducible refine TapeOk.setc (by first | go_size | (dsimp only; omega)) ?_))), by (repeat' (first | (with_reducible exact hG) | (with_reducible refine grown_alloc ?_ _) | (with_reducible refine grown_drew ?_) | (with_reducible refine grown_setCell ?_ (.inr (by first | go_size | (dsimp only; omega))) _)))⟩
  simp [results, Try.results12, go_sem, B1c, B1f, B1l]

set_option maxHeartbeats 2000000 in
set_option maxRecDepth 100000 in
theorem shifted_any {a b c d : Int} (ha : I64 a) (hb : I64 b) (hc : I64 c) (hd : I64 d) (w : World) : Calls Try.prog 21 #[.agg #[.int .i64 a, .int .i64 b], .agg #[.int .i64 c, .int .i64 d]] w fun e w' => e = .returned (.tuple #[.agg #[.int .i64 (orZ (rng (a + c)) (a + c)), .int .i64 (orZ (rng (b + d)) (b + d))], .bool (rng (a + c) && rng (b + d))]) ∧ Below w.heap.size w w' := by
  have C1 := fun W => Chk.radd_any a c ha hc W
  have C2 := fun W => Chk.radd_any b d hb hd W
  clear ha hb hc hd
  generalize rng (a + c) = r1 at *
  generalize rng (b + d) = r2 at *
  generalize orZ r1 (a + c) = x at *
  generalize orZ r2 (b + d) = y at *
  go_enter Try.func21, Try.ntmps21
  cases r1 <;> cases r2
  all_goals
    (repeat' (first | (go_big_may; (first | (go_at_call 45; (first | (with_reducible refine (Calls.mono (C1 _) ?_)) | (with_reducible refine (Calls.mono (C2 _) ?_))); rintro e w' ⟨rfl, rfl⟩))) | go_values | go_skip | go_guarded | go_step | go_upon | (simp only [Int.not_lt, Int.not_le] at *; go_simp) | (go_values <;> (try go_simp)) | (go_ite <;> go_prune <;> (try go_simp)) | (split <;> (first | (rename_i hx; exact (hx _ rfl).elim) | go_prune))))
    refine bodyPost_ret (v := .tuple #[.agg #[.int .i64 x, .int .i64 y], .bool _]) ?_ rfl ⟨rfl, by (repeat' (first | (with_reducible assumption) | (with_reducible exact Below.refl _ _) | (with_reducible refine Below.alloc ?_ ?_ _) | (with_reducible refine Below.setCell ?_ ?_ _) | (with_reducible refine Below.drew ?_) | (with_reducible refine below_more ?_ (by with_reducible assumption)) | go_size | omega | (with_reducible refine below_drewN ?_)))⟩
    simp [results, Try.results21, go_sem]
end Go.Proofs.Ythcboomdkpiflaa
