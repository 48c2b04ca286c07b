/- The sums of times and values, in the program and in the reference. -/
import Derived.Test.YthcboomdkpiflaaRows
import Derived.Test.YthcboomdkpiflaaLtP
import Derived.Test.YthcboomdkpiflaaWideD
import Derived.WalkKit
import Derived.ProofKit
import Derived.WalkLawsBesides
import Derived.WalkSpells
import Derived.RegionTactic
import Derived.ChangeAlike
import Derived.BigRegion
import Derived.Outline
import Derived.Handy
namespace Go.Proofs.Ythcboomdkpiflaa
open Go.ChangeShapes Go.WideShapes Go.ChangeAt Go.RowKit
set_option linter.unusedVariables false
set_option linter.unusedSimpArgs false

/-- A slice of samples as the world holds it. -/
def SlS (W : World) (v : Value) (ss : Smps) : Prop := ∃ (a : Option Addr) (cap : Nat), v = .slice a ss.length cap ∧ ss.length ≤ cap ∧ cap ≤ maxLen ∧ (∀ s ∈ ss, I64 s.1 ∧ I64 s.2) ∧
  (0 < ss.length → ∃ b off, a = some ⟨b, off, none⟩ ∧ b < W.heap.size ∧ ∀ i, i < ss.length → W.cell? ⟨b, off + i * 2, none⟩ = some (.int .i64 (ss.getD i (0, 0)).1) ∧ W.cell? ⟨b, off + i * 2 + 1, none⟩ = some (.int .i64 (ss.getD i (0, 0)).2))
theorem SlS.below {W W' : World} {v : Value} {ss : Smps} (h : SlS W v ss) (hb : Below W.heap.size W W') : SlS W' v ss := by
  obtain ⟨a, cap, rfl, h1, h2, h3, hc⟩ := h
  refine ⟨a, cap, rfl, h1, h2, h3, fun hl => ?_⟩
  obtain ⟨b, off, rfl, hb', hcs⟩ := hc hl
  exact ⟨b, off, rfl, Nat.lt_of_lt_of_le hb' hb.size, fun i hi => ⟨(hb.cell (p := ⟨b, off + i * 2, none⟩) hb').trans (hcs i hi).1, (hb.cell (p := ⟨b, off + i * 2 + 1, none⟩) hb').trans (hcs i hi).2⟩⟩
theorem smp_i64 {ss : Smps} (h : ∀ s ∈ ss, I64 s.1 ∧ I64 s.2) (k : Nat) : I64 (ss.getD k (0, 0)).1 ∧ I64 (ss.getD k (0, 0)).2 := by
  rw [List.getD_eq_getElem?_getD]
  rcases hk : ss[k]? with _ | x
  · exact ⟨⟨by decide, by decide⟩, ⟨by decide, by decide⟩⟩
  · exact h x (List.mem_of_getElem? hk)



set_option maxHeartbeats 4000000 in
set_option maxRecDepth 100000 in
theorem sums_any {v : Value} {ss : Smps} (w : World) (hs : SlS w v ss) : Calls Try.prog 73 #[v] w fun e w' => e = .returned (.tuple #[WE (wsum Prod.fst ss ss.length), WE (wsum Prod.snd ss ss.length)]) ∧ Below w.heap.size w w' := by
  obtain ⟨a, cap, rfl, hlc, hcm, hin, hcell⟩ := hs
  have HC := hid hcell
  have HI := hid hin
  have hcm2 : ss.length ≤ 9223372036854775807 := by
    have : cap ≤ 9223372036854775807 := by simpa [maxLen] using hcm
    omega
  clear hcell hin hcm
  go_enter Try.func73, Try.ntmps73
  (repeat' (first | go_values | go_skip | go_guarded | go_step | go_upon | (simp only [Int.not_lt, Int.not_le] at *; go_simp) | (go_values <;> (try go_simp)) | (go_ite <;> go_prune <;> (try go_simp)) | (split <;> (first | (rename_i hx; exact (hx _ rfl).elim) | go_prune))))
  go_loopw [8] (fun i wr => ∃ k : Nat, i = .int .i64 k ∧ k ≤ ss.length ∧ HB wr w.heap.size #[.bool (sg (wsum Prod.fst ss k)), .int .u64 (lb0 (ab (wsum Prod.fst ss k))), .int .u64 (lb1 (ab (wsum Prod.fst ss k))), .int .u64 (lb2 (ab (wsum Prod.fst ss k))), .int .u64 (lb3 (ab (wsum Prod.fst ss k)))] ∧ HB wr (w.heap.size + 1) #[.bool (sg (wsum Prod.snd ss k)), .int .u64 (lb0 (ab (wsum Prod.snd ss k))), .int .u64 (lb1 (ab (wsum Prod.snd ss k))), .int .u64 (lb2 (ab (wsum Prod.snd ss k))), .int .u64 (lb3 (ab (wsum Prod.snd ss k)))] ∧ Below w.heap.size w wr) (fun i _ => ss.length - (intOf i).toNat)
  case atStart =>
    exact ⟨0, rfl, Nat.zero_le _, by show HB _ _ #[.bool false, .int .u64 0, .int .u64 0, .int .u64 0, .int .u64 0]; (repeat' (first | (with_reducible assumption) | ((with_reducible refine HB.new _ _ _ ?_) <;> (go_size; done)) | (with_reducible refine HB.old (by go_size) ?_) | (with_reducible refine HB.drew ?_) | (with_reducible refine HB.over5 ?_) | (with_reducible refine HB.over4 ?_) | (with_reducible refine HB.setne (by first | go_size | (dsimp only; omega)) ?_) | (with_reducible refine HN.set ?_) | (with_reducible refine HN.setne (by first | go_size | (dsimp only; omega)) ?_) | (with_reducible refine HN.drew ?_) | (with_reducible refine HN.old (by go_size) ?_) | (with_reducible exact HN.of5 (by assumption)) | (with_reducible exact HN.new5 _ _ (by go_size)) | (with_reducible exact HN.of4 (by assumption)) | (with_reducible exact HN.new4 _ _ (by go_size)))), by show HB _ _ #[.bool false, .int .u64 0, .int .u64 0, .int .u64 0, .int .u64 0]; (repeat' (first | (with_reducible assumption) | ((with_reducible refine HB.new _ _ _ ?_) <;> (go_size; done)) | (with_reducible refine HB.old (by go_size) ?_) | (with_reducible refine HB.drew ?_) | (with_reducible refine HB.over5 ?_) | (with_reducible refine HB.over4 ?_) | (with_reducible refine HB.setne (by first | go_size | (dsimp only; omega)) ?_) | (with_reducible refine HN.set ?_) | (with_reducible refine HN.setne (by first | go_size | (dsimp only; omega)) ?_) | (with_reducible refine HN.drew ?_) | (with_reducible refine HN.old (by go_size) ?_) | (with_reducible exact HN.of5 (by assumption)) | (with_reducible exact HN.new5 _ _ (by go_size)) | (with_reducible exact HN.of4 (by assumption)) | (with_reducible exact HN.new4 _ _ (by go_size)))), by (repeat' (first | (with_reducible assumption) | (with_reducible exact Below.refl _ _) | (with_reducible refine Below.alloc ?_ ?_ _) | (with_reducible refine Below.setCell ?_ ?_ _) | (with_reducible refine Below.drew ?_) | (with_reducible refine below_more ?_ (by with_reducible assumption)) | go_size | omega | (with_reducible refine below_drewN ?_)))⟩
  case round =>
    obtain ⟨k, rfl, hk, hT, hV, hB⟩ := hrel
    have hsz := hV.lt
    by_cases hlt : k < ss.length
    · obtain ⟨b, off, rfl, hb, hcs⟩ := HC.out (by omega)
      obtain ⟨p1, p2⟩ := hcs k hlt
      obtain ⟨hi, hi2⟩ := smp_i64 HI.out k
      have e1 : wsum Prod.fst ss (k + 1) = cl (wsum Prod.fst ss k + (ss.getD k (0, 0)).1) := rfl
      have e2 : wsum Prod.snd ss (k + 1) = cl (wsum Prod.snd ss k + (ss.getD k (0, 0)).2) := rfl
      have FT := fits_wsum Prod.fst ss k
      have FV := fits_wsum Prod.snd ss k
      obtain ⟨T, hT0⟩ : ∃ T, wsum Prod.fst ss k = T := ⟨_, rfl⟩
      obtain ⟨V, hV0⟩ : ∃ V, wsum Prod.snd ss k = V := ⟨_, rfl⟩
      obtain ⟨xy, hx⟩ : ∃ xy, ss.getD k (0, 0) = xy := ⟨_, rfl⟩
      rw [hT0] at e1 FT hT
      rw [hV0] at e2 FV hV
      rw [hx] at e1 e2 hi hi2 p1 p2
      obtain ⟨x, y⟩ := xy
      dsimp only at e1 e2 hi hi2 p1 p2
      have f1 := (hB.cell (p := ⟨b, off + k * 2, none⟩) hb).trans p1
      have f2 := (hB.cell (p := ⟨b, off + k * 2 + 1, none⟩) hb).trans p2
      have E1 := hid e1
      have E2 := hid e2
      have HADD := hid (fun W => add_w (IsW.we FT) (IsW.we (fits_i64 hi)) W)
      have HADD2 := hid (fun W => add_w (IsW.we FV) (IsW.we (fits_i64 hi2)) W)
      clear e1 e2 FT FV hT0 hV0 hx p1 p2 hcs
      (repeat' (first | go_values | go_skip | go_guarded | go_step | go_upon | (simp only [Int.not_lt, Int.not_le] at *; go_simp) | (go_values <;> (try go_simp)) | (go_ite <;> go_prune <;> (try go_simp)) | (split <;> (first | (rename_i hx; exact (hx _ rfl).elim) | go_prune))))
      (refine wp_region_dq (row := none) (S := (fun Wz => Below w.heap.size w Wz ∧ wr.heap.size + 1 ≤ Wz.heap.size ∧ Bx Wz (w.heap.size) (#[.bool (sg (T)), .int .u64 (lb0 (ab (T))), .int .u64 (lb1 (ab (T))), .int .u64 (lb2 (ab (T))), .int .u64 (lb3 (ab (T)))]) ∧ Bx Wz (w.heap.size + 1) (#[.bool (sg (V)), .int .u64 (lb0 (ab (V))), .int .u64 (lb1 (ab (V))), .int .u64 (lb2 (ab (V))), .int .u64 (lb3 (ab (V)))]) ∧ Bx Wz (wr.heap.size) (#[.int .i64 x, .int .i64 y]))) (n0 := wr.heap.size + 1) 8 [7] [(0, 0), (1, 0), (2, 0), (3, 0), (4, 0), (5, 0), (6, 0), (7, 2)] [] (by kernel_rfl) (by kernel_rfl) (fun _ _ d _ _ h => by cases d <;> exact h) ⟨by (repeat' (first | (with_reducible assumption) | (with_reducible exact Below.refl _ _) | (with_reducible refine Below.alloc ?_ ?_ _) | (with_reducible refine Below.setCell ?_ ?_ _) | (with_reducible refine Below.drew ?_) | (with_reducible refine below_more ?_ (by with_reducible assumption)) | go_size | omega | (with_reducible refine below_drewN ?_))), (by first | go_size | omega), Bx.of (by (repeat' (first | (with_reducible assumption) | ((with_reducible refine HB.new _ _ _ ?_) <;> (go_size; done)) | (with_reducible refine HB.old (by go_size) ?_) | (with_reducible refine HB.drew ?_) | (with_reducible refine HB.over5 ?_) | (with_reducible refine HB.over4 ?_) | (with_reducible refine HB.setne (by first | go_size | (dsimp only; omega)) ?_) | (with_reducible refine HN.set ?_) | (with_reducible refine HN.setne (by first | go_size | (dsimp only; omega)) ?_) | (with_reducible refine HN.drew ?_) | (with_reducible refine HN.old (by go_size) ?_) | (with_reducible exact HN.of5 (by assumption)) | (with_reducible exact HN.new5 _ _ (by go_size)) | (with_reducible exact HN.of4 (by assumption)) | (with_reducible exact HN.new4 _ _ (by go_size))))), Bx.of (by (repeat' (first | (with_reducible assumption) | ((with_reducible refine HB.new _ _ _ ?_) <;> (go_size; done)) | (with_reducible refine HB.old (by go_size) ?_) | (with_reducible refine HB.drew ?_) | (with_reducible refine HB.over5 ?_) | (with_reducible refine HB.over4 ?_) | (with_reducible refine HB.setne (by first | go_size | (dsimp only; omega)) ?_) | (with_reducible refine HN.set ?_) | (with_reducible refine HN.setne (by first | go_size | (dsimp only; omega)) ?_) | (with_reducible refine HN.drew ?_) | (with_reducible refine HN.old (by go_size) ?_) | (with_reducible exact HN.of5 (by assumption)) | (with_reducible exact HN.new5 _ _ (by go_size)) | (with_reducible exact HN.of4 (by assumption)) | (with_reducible exact HN.new4 _ _ (by go_size))))), Bx.of (by (repeat' (first | (with_reducible assumption) | ((with_reducible refine HB.new _ _ _ ?_) <;> (go_size; done)) | (with_reducible refine HB.old (by go_size) ?_) | (with_reducible refine HB.drew ?_) | (with_reducible refine HB.over5 ?_) | (with_reducible refine HB.over4 ?_) | (with_reducible refine HB.setne (by first | go_size | (dsimp only; omega)) ?_) | (with_reducible refine HN.set ?_) | (with_reducible refine HN.setne (by first | go_size | (dsimp only; omega)) ?_) | (with_reducible refine HN.drew ?_) | (with_reducible refine HN.old (by go_size) ?_) | (with_reducible exact HN.of5 (by assumption)) | (with_reducible exact HN.new5 _ _ (by go_size)) | (with_reducible exact HN.of4 (by assumption)) | (with_reducible exact HN.new4 _ _ (by go_size)))))⟩ (fun _ _ h g => keep3 h (below_gt g) rfl) (fun _ h => h.2.1) (fun _ h => by cases h) (by simp) ?_)
      refine' dq_pure (by rfl) (by rfl) ?hv1 ?rest1
      case hv1 => (intro w hw; (try dsimp only at hw); go_split_ands; go_simp; try with_reducible rfl)
      case' rest1 => try simp only [Act.put, List.setIfInBounds_toArray, List.set_cons_zero, List.set_cons_succ]
      refine' dq_pure (by rfl) (by rfl) ?hv2 ?rest2
      case hv2 => (intro w hw; (try dsimp only at hw); go_split_ands; go_simp; try with_reducible rfl)
      case' rest2 => try simp only [Act.put, List.setIfInBounds_toArray, List.set_cons_zero, List.set_cons_succ]
      refine' dq_pure (by rfl) (by rfl) ?hv3 ?rest3
      case hv3 => (intro w hw; (try dsimp only at hw); go_split_ands; go_simp; try with_reducible rfl)
      case' rest3 => try simp only [Act.put, List.setIfInBounds_toArray, List.set_cons_zero, List.set_cons_succ]
      refine' dq_call (by rfl) (by rfl) ?hv4 ?hc4 ?rest4
      case hv4 => (intro w; go_simp; exact ⟨rfl, rfl⟩)
      case hc4 => exact (fun w hw => calls_gt (of_any _ hi _))
      case' rest4 => try simp only [Act.put, List.setIfInBounds_toArray, List.set_cons_zero, List.set_cons_succ]
      refine' dq_call (by rfl) (by rfl) ?hv5 ?hc5 ?rest5
      case hv5 => (intro w; go_simp; exact ⟨rfl, rfl⟩)
      case hc5 => exact (fun w hw => calls_gt (HADD.out _))
      case' rest5 => try simp only [Act.put, List.setIfInBounds_toArray, List.set_cons_zero, List.set_cons_succ]
      refine' dq_pure (by rfl) (by rfl) ?hv6 ?rest6
      case hv6 => (intro w hw; (try dsimp only at hw); go_split_ands; go_simp; try with_reducible rfl)
      case' rest6 => try simp only [Act.put, List.setIfInBounds_toArray, List.set_cons_zero, List.set_cons_succ]
      refine' dq_pure (by rfl) (by rfl) ?hv7 ?rest7
      case hv7 => (intro w hw; (try dsimp only at hw); go_split_ands; go_simp; try with_reducible rfl)
      case' rest7 => try simp only [Act.put, List.setIfInBounds_toArray, List.set_cons_zero, List.set_cons_succ]
      refine' dq_late (by rfl) (by rfl) ?hv8 ?rest8
      case hv8 => (intro w; go_simp; try with_reducible rfl)
      case' rest8 => try simp only [Act.put, List.setIfInBounds_toArray, List.set_cons_zero, List.set_cons_succ]
      refine dq_nil ?_
      simp only [fa, List.drop_succ_cons, List.drop_zero]
      rintro W ⟨⟨hb0, hn0, ⟨B1, B1c, B1f, B1l⟩, ⟨B2, B2c, B2f, B2l⟩, ⟨B3, B3c, B3f, B3l⟩⟩, hgl⟩ hbs
      clear hbs hgl
      (repeat' (first | go_values | go_skip | go_guarded | go_step | go_upon | (simp only [Int.not_lt, Int.not_le] at *; go_simp) | (go_values <;> (try go_simp)) | (go_ite <;> go_prune <;> (try go_simp)) | (split <;> (first | (rename_i hx; exact (hx _ rfl).elim) | go_prune))))
      
      
      (refine wp_region_dq (row := none) (S := (fun Wz => Below w.heap.size w Wz ∧ wr.heap.size + 1 ≤ Wz.heap.size ∧ Bx Wz (w.heap.size) (#[.bool (sg (cl (T + x))), .int .u64 (lb0 (ab (cl (T + x)))), .int .u64 (lb1 (ab (cl (T + x)))), .int .u64 (lb2 (ab (cl (T + x)))), .int .u64 (lb3 (ab (cl (T + x))))]) ∧ Bx Wz (w.heap.size + 1) (#[.bool (sg (V)), .int .u64 (lb0 (ab (V))), .int .u64 (lb1 (ab (V))), .int .u64 (lb2 (ab (V))), .int .u64 (lb3 (ab (V)))]) ∧ Bx Wz (wr.heap.size) (#[.int .i64 x, .int .i64 y]))) (n0 := wr.heap.size + 1) 8 [7] [(0, 0), (1, 0), (2, 0), (3, 0), (4, 0), (5, 0), (6, 0), (7, 2)] [] (by kernel_rfl) (by kernel_rfl) (fun _ _ d _ _ h => by cases d <;> exact h) ⟨by (repeat' (first | (with_reducible assumption) | (with_reducible exact Below.refl _ _) | (with_reducible refine Below.alloc ?_ ?_ _) | (with_reducible refine Below.setCell ?_ ?_ _) | (with_reducible refine Below.drew ?_) | (with_reducible refine below_more ?_ (by with_reducible assumption)) | go_size | omega | (with_reducible refine below_drewN ?_))), (by first | go_size | omega), Bx.of (by (repeat' (first | (with_reducible assumption) | ((with_reducible refine HB.new _ _ _ ?_) <;> (go_size; done)) | (with_reducible refine HB.old (by go_size) ?_) | (with_reducible refine HB.drew ?_) | (with_reducible refine HB.over5 ?_) | (with_reducible refine HB.over4 ?_) | (with_reducible refine HB.setne (by first | go_size | (dsimp only; omega)) ?_) | (with_reducible refine HN.set ?_) | (with_reducible refine HN.setne (by first | go_size | (dsimp only; omega)) ?_) | (with_reducible refine HN.drew ?_) | (with_reducible refine HN.old (by go_size) ?_) | (with_reducible exact HN.of5 (by assumption)) | (with_reducible exact HN.new5 _ _ (by go_size)) | (with_reducible exact HN.of4 (by assumption)) | (with_reducible exact HN.new4 _ _ (by go_size))))), Bx.of (by (repeat' (first | (with_reducible assumption) | ((with_reducible refine HB.new _ _ _ ?_) <;> (go_size; done)) | (with_reducible refine HB.old (by go_size) ?_) | (with_reducible refine HB.drew ?_) | (with_reducible refine HB.over5 ?_) | (with_reducible refine HB.over4 ?_) | (with_reducible refine HB.setne (by first | go_size | (dsimp only; omega)) ?_) | (with_reducible refine HN.set ?_) | (with_reducible refine HN.setne (by first | go_size | (dsimp only; omega)) ?_) | (with_reducible refine HN.drew ?_) | (with_reducible refine HN.old (by go_size) ?_) | (with_reducible exact HN.of5 (by assumption)) | (with_reducible exact HN.new5 _ _ (by go_size)) | (with_reducible exact HN.of4 (by assumption)) | (with_reducible exact HN.new4 _ _ (by go_size))))), Bx.of (by (repeat' (first | (with_reducible assumption) | ((with_reducible refine HB.new _ _ _ ?_) <;> (go_size; done)) | (with_reducible refine HB.old (by go_size) ?_) | (with_reducible refine HB.drew ?_) | (with_reducible refine HB.over5 ?_) | (with_reducible refine HB.over4 ?_) | (with_reducible refine HB.setne (by first | go_size | (dsimp only; omega)) ?_) | (with_reducible refine HN.set ?_) | (with_reducible refine HN.setne (by first | go_size | (dsimp only; omega)) ?_) | (with_reducible refine HN.drew ?_) | (with_reducible refine HN.old (by go_size) ?_) | (with_reducible exact HN.of5 (by assumption)) | (with_reducible exact HN.new5 _ _ (by go_size)) | (with_reducible exact HN.of4 (by assumption)) | (with_reducible exact HN.new4 _ _ (by go_size)))))⟩ (fun _ _ h g => keep3 h (below_gt g) rfl) (fun _ h => h.2.1) (fun _ h => by cases h) (by simp) ?_)
      refine' dq_pure (by rfl) (by rfl) ?hv9 ?rest9
      case hv9 => (intro w hw; (try dsimp only at hw); go_split_ands; go_simp; try with_reducible rfl)
      case' rest9 => try simp only [Act.put, List.setIfInBounds_toArray, List.set_cons_zero, List.set_cons_succ]
      refine' dq_pure (by rfl) (by rfl) ?hv10 ?rest10
      case hv10 => (intro w hw; (try dsimp only at hw); go_split_ands; go_simp; try with_reducible rfl)
      case' rest10 => try simp only [Act.put, List.setIfInBounds_toArray, List.set_cons_zero, List.set_cons_succ]
      refine' dq_pure (by rfl) (by rfl) ?hv11 ?rest11
      case hv11 => (intro w hw; (try dsimp only at hw); go_split_ands; go_simp; try with_reducible rfl)
      case' rest11 => try simp only [Act.put, List.setIfInBounds_toArray, List.set_cons_zero, List.set_cons_succ]
      refine' dq_call (by rfl) (by rfl) ?hv12 ?hc12 ?rest12
      case hv12 => (intro w; go_simp; exact ⟨rfl, rfl⟩)
      case hc12 => exact (fun w hw => calls_gt (of_any _ hi2 _))
      case' rest12 => try simp only [Act.put, List.setIfInBounds_toArray, List.set_cons_zero, List.set_cons_succ]
      refine' dq_call (by rfl) (by rfl) ?hv13 ?hc13 ?rest13
      case hv13 => (intro w; go_simp; exact ⟨rfl, rfl⟩)
      case hc13 => exact (fun w hw => calls_gt (HADD2.out _))
      case' rest13 => try simp only [Act.put, List.setIfInBounds_toArray, List.set_cons_zero, List.set_cons_succ]
      refine' dq_pure (by rfl) (by rfl) ?hv14 ?rest14
      case hv14 => (intro w hw; (try dsimp only at hw); go_split_ands; go_simp; try with_reducible rfl)
      case' rest14 => try simp only [Act.put, List.setIfInBounds_toArray, List.set_cons_zero, List.set_cons_succ]
      refine' dq_pure (by rfl) (by rfl) ?hv15 ?rest15
      case hv15 => (intro w hw; (try dsimp only at hw); go_split_ands; go_simp; try with_reducible rfl)
      case' rest15 => try simp only [Act.put, List.setIfInBounds_toArray, List.set_cons_zero, List.set_cons_succ]
      refine' dq_late (by rfl) (by rfl) ?hv16 ?rest16
      case hv16 => (intro w; go_simp; try with_reducible rfl)
      case' rest16 => try simp only [Act.put, List.setIfInBounds_toArray, List.set_cons_zero, List.set_cons_succ]
      refine dq_nil ?_
      simp only [fa, List.drop_succ_cons, List.drop_zero]
      rintro W ⟨⟨hb0, hn0, ⟨B1, B1c, B1f, B1l⟩, ⟨B2, B2c, B2f, B2l⟩, ⟨B3, B3c, B3f, B3l⟩⟩, hgl⟩ hbs
      clear hbs hgl
      (repeat' (first | go_values | go_skip | go_guarded | go_step | go_upon | (simp only [Int.not_lt, Int.not_le] at *; go_simp) | (go_values <;> (try go_simp)) | (go_ite <;> go_prune <;> (try go_simp)) | (split <;> (first | (rename_i hx; exact (hx _ rfl).elim) | go_prune))))
      go_roundw
      case rel => exact ⟨k + 1, by simp, by omega, by rw [E1.out]; (repeat' (first | (with_reducible assumption) | ((with_reducible refine HB.new _ _ _ ?_) <;> (go_size; done)) | (with_reducible refine HB.old (by go_size) ?_) | (with_reducible refine HB.drew ?_) | (with_reducible refine HB.over5 ?_) | (with_reducible refine HB.over4 ?_) | (with_reducible refine HB.setne (by first | go_size | (dsimp only; omega)) ?_) | (with_reducible refine HN.set ?_) | (with_reducible refine HN.setne (by first | go_size | (dsimp only; omega)) ?_) | (with_reducible refine HN.drew ?_) | (with_reducible refine HN.old (by go_size) ?_) | (with_reducible exact HN.of5 (by assumption)) | (with_reducible exact HN.new5 _ _ (by go_size)) | (with_reducible exact HN.of4 (by assumption)) | (with_reducible exact HN.new4 _ _ (by go_size)))), by rw [E2.out]; (repeat' (first | (with_reducible assumption) | ((with_reducible refine HB.new _ _ _ ?_) <;> (go_size; done)) | (with_reducible refine HB.old (by go_size) ?_) | (with_reducible refine HB.drew ?_) | (with_reducible refine HB.over5 ?_) | (with_reducible refine HB.over4 ?_) | (with_reducible refine HB.setne (by first | go_size | (dsimp only; omega)) ?_) | (with_reducible refine HN.set ?_) | (with_reducible refine HN.setne (by first | go_size | (dsimp only; omega)) ?_) | (with_reducible refine HN.drew ?_) | (with_reducible refine HN.old (by go_size) ?_) | (with_reducible exact HN.of5 (by assumption)) | (with_reducible exact HN.new5 _ _ (by go_size)) | (with_reducible exact HN.of4 (by assumption)) | (with_reducible exact HN.new4 _ _ (by go_size)))), by (repeat' (first | (with_reducible assumption) | (with_reducible exact Below.refl _ _) | (with_reducible refine Below.alloc ?_ ?_ _) | (with_reducible refine Below.setCell ?_ ?_ _) | (with_reducible refine Below.drew ?_) | (with_reducible refine below_more ?_ (by with_reducible assumption)) | go_size | omega | (with_reducible refine below_drewN ?_)))⟩
      case measure => simp [intOf]; omega
    · obtain rfl : k = ss.length := by omega
      obtain ⟨T, hT0⟩ : ∃ T, wsum Prod.fst ss ss.length = T := ⟨_, rfl⟩
      obtain ⟨V, hV0⟩ : ∃ V, wsum Prod.snd ss ss.length = V := ⟨_, rfl⟩
      rw [hT0] at hT
      rw [hV0] at hV
      have HT := hid hT0
      have HV := hid hV0
      clear hT0 hV0
      obtain ⟨B1, B1c, B1f, B1l⟩ := Bx.of hT
      obtain ⟨B2, B2c, B2f, B2l⟩ := Bx.of hV
      have hmx : Try.prog.follows .mixedOrders = true := by kernel_rfl
      (repeat' (first | go_values | go_skip | go_guarded | go_step | go_upon | (simp only [Int.not_lt, Int.not_le] at *; go_simp) | (go_values <;> (try go_simp)) | (go_ite <;> go_prune <;> (try go_simp)) | (split <;> (first | (rename_i hx; exact (hx _ rfl).elim) | go_prune))))
      go_region
      all_goals (repeat' (first | go_values | go_skip | go_guarded | go_step | go_upon | (simp only [Int.not_lt, Int.not_le] at *; go_simp) | (go_values <;> (try go_simp)) | (go_ite <;> go_prune <;> (try go_simp)) | (split <;> (first | (rename_i hx; exact (hx _ rfl).elim) | go_prune))))
      refine bodyPost_ret (v := .tuple #[WE T, WE V]) ?_ rfl ⟨by rw [HT.out, HV.out], by (repeat' (first | (with_reducible assumption) | (with_reducible exact Below.refl _ _) | (with_reducible refine Below.alloc ?_ ?_ _) | (with_reducible refine Below.setCell ?_ ?_ _) | (with_reducible refine Below.drew ?_) | (with_reducible refine below_more ?_ (by with_reducible assumption)) | go_size | omega | (with_reducible refine below_drewN ?_)))⟩
      simp [results, Try.results73, go_sem, B1c, B1f, B1l, B2c, B2f, B2l]



set_option maxHeartbeats 4000000 in
set_option maxRecDepth 100000 in
theorem rsums_any {v : Value} {ss : Smps} (w : World) (hs : SlS w v ss) : Calls Try.prog 70 #[v] w fun e w' => e = .returned (.tuple #[WE (wsum Prod.fst ss ss.length), WE (wsum Prod.snd ss ss.length)]) ∧ Below w.heap.size w w' := by
  obtain ⟨a, cap, rfl, hlc, hcm, hin, hcell⟩ := hs
  have HC := hid hcell
  have HI := hid hin
  have hcm2 : ss.length ≤ 9223372036854775807 := by
    have : cap ≤ 9223372036854775807 := by simpa [maxLen] using hcm
    omega
  clear hcell hin hcm
  go_enter Try.func70, Try.ntmps70
  (repeat' (first | go_values | go_skip | go_guarded | go_step | go_upon | (simp only [Int.not_lt, Int.not_le] at *; go_simp) | (go_values <;> (try go_simp)) | (go_ite <;> go_prune <;> (try go_simp)) | (split <;> (first | (rename_i hx; exact (hx _ rfl).elim) | go_prune))))
  go_loopw [6] (fun i wr => ∃ k : Nat, i = .int .i64 k ∧ k ≤ ss.length ∧ HB wr w.heap.size #[.bool false, .int .u64 0, .int .u64 0, .int .u64 0, .int .u64 0] ∧ HB wr (w.heap.size + 1) #[.bool false, .int .u64 0, .int .u64 0, .int .u64 0, .int .u64 0] ∧ HB wr (w.heap.size + 2) #[.bool (sg (wsum Prod.fst ss k)), .int .u64 (lb0 (ab (wsum Prod.fst ss k))), .int .u64 (lb1 (ab (wsum Prod.fst ss k))), .int .u64 (lb2 (ab (wsum Prod.fst ss k))), .int .u64 (lb3 (ab (wsum Prod.fst ss k)))] ∧ HB wr (w.heap.size + 3) #[.bool (sg (wsum Prod.snd ss k)), .int .u64 (lb0 (ab (wsum Prod.snd ss k))), .int .u64 (lb1 (ab (wsum Prod.snd ss k))), .int .u64 (lb2 (ab (wsum Prod.snd ss k))), .int .u64 (lb3 (ab (wsum Prod.snd ss k)))] ∧ Below w.heap.size w wr) (fun i _ => ss.length - (intOf i).toNat)
  case atStart =>
    exact ⟨0, rfl, Nat.zero_le _, by (repeat' (first | (with_reducible assumption) | ((with_reducible refine HB.new _ _ _ ?_) <;> (go_size; done)) | (with_reducible refine HB.old (by go_size) ?_) | (with_reducible refine HB.drew ?_) | (with_reducible refine HB.over5 ?_) | (with_reducible refine HB.over4 ?_) | (with_reducible refine HB.setne (by first | go_size | (dsimp only; omega)) ?_) | (with_reducible refine HN.set ?_) | (with_reducible refine HN.setne (by first | go_size | (dsimp only; omega)) ?_) | (with_reducible refine HN.drew ?_) | (with_reducible refine HN.old (by go_size) ?_) | (with_reducible exact HN.of5 (by assumption)) | (with_reducible exact HN.new5 _ _ (by go_size)) | (with_reducible exact HN.of4 (by assumption)) | (with_reducible exact HN.new4 _ _ (by go_size)))), by (repeat' (first | (with_reducible assumption) | ((with_reducible refine HB.new _ _ _ ?_) <;> (go_size; done)) | (with_reducible refine HB.old (by go_size) ?_) | (with_reducible refine HB.drew ?_) | (with_reducible refine HB.over5 ?_) | (with_reducible refine HB.over4 ?_) | (with_reducible refine HB.setne (by first | go_size | (dsimp only; omega)) ?_) | (with_reducible refine HN.set ?_) | (with_reducible refine HN.setne (by first | go_size | (dsimp only; omega)) ?_) | (with_reducible refine HN.drew ?_) | (with_reducible refine HN.old (by go_size) ?_) | (with_reducible exact HN.of5 (by assumption)) | (with_reducible exact HN.new5 _ _ (by go_size)) | (with_reducible exact HN.of4 (by assumption)) | (with_reducible exact HN.new4 _ _ (by go_size)))), by show HB _ _ #[.bool false, .int .u64 0, .int .u64 0, .int .u64 0, .int .u64 0]; (repeat' (first | (with_reducible assumption) | ((with_reducible refine HB.new _ _ _ ?_) <;> (go_size; done)) | (with_reducible refine HB.old (by go_size) ?_) | (with_reducible refine HB.drew ?_) | (with_reducible refine HB.over5 ?_) | (with_reducible refine HB.over4 ?_) | (with_reducible refine HB.setne (by first | go_size | (dsimp only; omega)) ?_) | (with_reducible refine HN.set ?_) | (with_reducible refine HN.setne (by first | go_size | (dsimp only; omega)) ?_) | (with_reducible refine HN.drew ?_) | (with_reducible refine HN.old (by go_size) ?_) | (with_reducible exact HN.of5 (by assumption)) | (with_reducible exact HN.new5 _ _ (by go_size)) | (with_reducible exact HN.of4 (by assumption)) | (with_reducible exact HN.new4 _ _ (by go_size)))), by show HB _ _ #[.bool false, .int .u64 0, .int .u64 0, .int .u64 0, .int .u64 0]; (repeat' (first | (with_reducible assumption) | ((with_reducible refine HB.new _ _ _ ?_) <;> (go_size; done)) | (with_reducible refine HB.old (by go_size) ?_) | (with_reducible refine HB.drew ?_) | (with_reducible refine HB.over5 ?_) | (with_reducible refine HB.over4 ?_) | (with_reducible refine HB.setne (by first | go_size | (dsimp only; omega)) ?_) | (with_reducible refine HN.set ?_) | (with_reducible refine HN.setne (by first | go_size | (dsimp only; omega)) ?_) | (with_reducible refine HN.drew ?_) | (with_reducible refine HN.old (by go_size) ?_) | (with_reducible exact HN.of5 (by assumption)) | (with_reducible exact HN.new5 _ _ (by go_size)) | (with_reducible exact HN.of4 (by assumption)) | (with_reducible exact HN.new4 _ _ (by go_size)))), by (repeat' (first | (with_reducible assumption) | (with_reducible exact Below.refl _ _) | (with_reducible refine Below.alloc ?_ ?_ _) | (with_reducible refine Below.setCell ?_ ?_ _) | (with_reducible refine Below.drew ?_) | (with_reducible refine below_more ?_ (by with_reducible assumption)) | go_size | omega | (with_reducible refine below_drewN ?_)))⟩
  case round =>
    obtain ⟨k, rfl, hk, hT0, hV0, hT, hV, hB⟩ := hrel
    have hsz := hV.lt
    by_cases hlt : k < ss.length
    · obtain ⟨b, off, rfl, hb, hcs⟩ := HC.out (by omega)
      obtain ⟨p1, p2⟩ := hcs k hlt
      obtain ⟨hi, hi2⟩ := smp_i64 HI.out k
      have e1 : wsum Prod.fst ss (k + 1) = cl (wsum Prod.fst ss k + (ss.getD k (0, 0)).1) := rfl
      have e2 : wsum Prod.snd ss (k + 1) = cl (wsum Prod.snd ss k + (ss.getD k (0, 0)).2) := rfl
      have FT := fits_wsum Prod.fst ss k
      have FV := fits_wsum Prod.snd ss k
      obtain ⟨T, hT0⟩ : ∃ T, wsum Prod.fst ss k = T := ⟨_, rfl⟩
      obtain ⟨V, hV0⟩ : ∃ V, wsum Prod.snd ss k = V := ⟨_, rfl⟩
      obtain ⟨xy, hx⟩ : ∃ xy, ss.getD k (0, 0) = xy := ⟨_, rfl⟩
      rw [hT0] at e1 FT hT
      rw [hV0] at e2 FV hV
      rw [hx] at e1 e2 hi hi2 p1 p2
      obtain ⟨x, y⟩ := xy
      dsimp only at e1 e2 hi hi2 p1 p2
      have f1 : ∀ Wz : World, Below w.heap.size w Wz → Wz.cell? ⟨b, off + k * 2, none⟩ = some (.int .i64 x) := fun Wz hz => (hz.cell (p := ⟨b, off + k * 2, none⟩) hb).trans p1
      have f2 : ∀ Wz : World, Below w.heap.size w Wz → Wz.cell? ⟨b, off + k * 2 + 1, none⟩ = some (.int .i64 y) := fun Wz hz => (hz.cell (p := ⟨b, off + k * 2 + 1, none⟩) hb).trans p2
      have E1 := hid e1
      have E2 := hid e2
      have HADD := hid (fun W => radd_w (IsW.we FT) (IsW.we (fits_i64 hi)) W)
      have HADD2 := hid (fun W => radd_w (IsW.we FV) (IsW.we (fits_i64 hi2)) W)
      clear e1 e2 FT FV hT0 hV0 hx p1 p2 hcs
      (repeat' (first | go_values | go_skip | go_guarded | go_step | go_upon | (simp only [Int.not_lt, Int.not_le] at *; go_simp) | (go_values <;> (try go_simp)) | (go_ite <;> go_prune <;> (try go_simp)) | (split <;> (first | (rename_i hx; exact (hx _ rfl).elim) | go_prune))))
      (refine wp_region_dq (row := none) (S := (fun Wz => Below w.heap.size w Wz ∧ wr.heap.size ≤ Wz.heap.size ∧ Bx Wz (w.heap.size) (#[.bool false, .int .u64 0, .int .u64 0, .int .u64 0, .int .u64 0]) ∧ Bx Wz (w.heap.size + 1) (#[.bool false, .int .u64 0, .int .u64 0, .int .u64 0, .int .u64 0]) ∧ Bx Wz (w.heap.size + 2) (#[.bool (sg (T)), .int .u64 (lb0 (ab (T))), .int .u64 (lb1 (ab (T))), .int .u64 (lb2 (ab (T))), .int .u64 (lb3 (ab (T)))]) ∧ Bx Wz (w.heap.size + 3) (#[.bool (sg (V)), .int .u64 (lb0 (ab (V))), .int .u64 (lb1 (ab (V))), .int .u64 (lb2 (ab (V))), .int .u64 (lb3 (ab (V)))]))) (n0 := wr.heap.size) 11 [10] [(0, 0), (1, 0), (2, 0), (3, 0), (4, 0), (5, 0), (6, 0), (7, 0), (8, 0), (9, 0), (10, 2)] [] (by kernel_rfl) (by kernel_rfl) (fun _ _ d _ _ h => by cases d <;> exact h) ⟨by (repeat' (first | (with_reducible assumption) | (with_reducible exact Below.refl _ _) | (with_reducible refine Below.alloc ?_ ?_ _) | (with_reducible refine Below.setCell ?_ ?_ _) | (with_reducible refine Below.drew ?_) | (with_reducible refine below_more ?_ (by with_reducible assumption)) | go_size | omega | (with_reducible refine below_drewN ?_))), (by first | go_size | omega), Bx.of (by (repeat' (first | (with_reducible assumption) | ((with_reducible refine HB.new _ _ _ ?_) <;> (go_size; done)) | (with_reducible refine HB.old (by go_size) ?_) | (with_reducible refine HB.drew ?_) | (with_reducible refine HB.over5 ?_) | (with_reducible refine HB.over4 ?_) | (with_reducible refine HB.setne (by first | go_size | (dsimp only; omega)) ?_) | (with_reducible refine HN.set ?_) | (with_reducible refine HN.setne (by first | go_size | (dsimp only; omega)) ?_) | (with_reducible refine HN.drew ?_) | (with_reducible refine HN.old (by go_size) ?_) | (with_reducible exact HN.of5 (by assumption)) | (with_reducible exact HN.new5 _ _ (by go_size)) | (with_reducible exact HN.of4 (by assumption)) | (with_reducible exact HN.new4 _ _ (by go_size))))), Bx.of (by (repeat' (first | (with_reducible assumption) | ((with_reducible refine HB.new _ _ _ ?_) <;> (go_size; done)) | (with_reducible refine HB.old (by go_size) ?_) | (with_reducible refine HB.drew ?_) | (with_reducible refine HB.over5 ?_) | (with_reducible refine HB.over4 ?_) | (with_reducible refine HB.setne (by first | go_size | (dsimp only; omega)) ?_) | (with_reducible refine HN.set ?_) | (with_reducible refine HN.setne (by first | go_size | (dsimp only; omega)) ?_) | (with_reducible refine HN.drew ?_) | (with_reducible refine HN.old (by go_size) ?_) | (with_reducible exact HN.of5 (by assumption)) | (with_reducible exact HN.new5 _ _ (by go_size)) | (with_reducible exact HN.of4 (by assumption)) | (with_reducible exact HN.new4 _ _ (by go_size))))), Bx.of (by (repeat' (first | (with_reducible assumption) | ((with_reducible refine HB.new _ _ _ ?_) <;> (go_size; done)) | (with_reducible refine HB.old (by go_size) ?_) | (with_reducible refine HB.drew ?_) | (with_reducible refine HB.over5 ?_) | (with_reducible refine HB.over4 ?_) | (with_reducible refine HB.setne (by first | go_size | (dsimp only; omega)) ?_) | (with_reducible refine HN.set ?_) | (with_reducible refine HN.setne (by first | go_size | (dsimp only; omega)) ?_) | (with_reducible refine HN.drew ?_) | (with_reducible refine HN.old (by go_size) ?_) | (with_reducible exact HN.of5 (by assumption)) | (with_reducible exact HN.new5 _ _ (by go_size)) | (with_reducible exact HN.of4 (by assumption)) | (with_reducible exact HN.new4 _ _ (by go_size))))), Bx.of (by (repeat' (first | (with_reducible assumption) | ((with_reducible refine HB.new _ _ _ ?_) <;> (go_size; done)) | (with_reducible refine HB.old (by go_size) ?_) | (with_reducible refine HB.drew ?_) | (with_reducible refine HB.over5 ?_) | (with_reducible refine HB.over4 ?_) | (with_reducible refine HB.setne (by first | go_size | (dsimp only; omega)) ?_) | (with_reducible refine HN.set ?_) | (with_reducible refine HN.setne (by first | go_size | (dsimp only; omega)) ?_) | (with_reducible refine HN.drew ?_) | (with_reducible refine HN.old (by go_size) ?_) | (with_reducible exact HN.of5 (by assumption)) | (with_reducible exact HN.new5 _ _ (by go_size)) | (with_reducible exact HN.of4 (by assumption)) | (with_reducible exact HN.new4 _ _ (by go_size)))))⟩ (fun _ _ h g => keep4 h (below_gt g) rfl) (fun _ h => h.2.1) (fun _ h => by cases h) (by simp) ?_)
      refine' dq_pure (by rfl) (by rfl) ?hv17 ?rest17
      case hv17 => (intro w hw; (try dsimp only at hw); go_split_ands; go_simp; try with_reducible rfl)
      case' rest17 => try simp only [Act.put, List.setIfInBounds_toArray, List.set_cons_zero, List.set_cons_succ]
      refine' dq_pure (by rfl) (by rfl) ?hv18 ?rest18
      case hv18 => (intro w hw; (try dsimp only at hw); go_split_ands; go_simp; try with_reducible rfl)
      case' rest18 => try simp only [Act.put, List.setIfInBounds_toArray, List.set_cons_zero, List.set_cons_succ]
      refine' dq_pure (by rfl) (by rfl) ?hv19 ?rest19
      case hv19 => (intro w hw; (try dsimp only at hw); go_split_ands; go_simp; try with_reducible rfl)
      case' rest19 => try simp only [Act.put, List.setIfInBounds_toArray, List.set_cons_zero, List.set_cons_succ]
      refine' dq_pure (by rfl) (by rfl) ?hv20 ?rest20
      case hv20 => (intro w hw; (try dsimp only at hw); go_split_ands; go_simp; try with_reducible rfl)
      case' rest20 => try simp only [Act.put, List.setIfInBounds_toArray, List.set_cons_zero, List.set_cons_succ]
      refine' dq_pure (by rfl) (by rfl) ?hv21 ?rest21
      case hv21 => (intro w hw; (try dsimp only at hw); go_split_ands; go_simp; try with_reducible rfl)
      case' rest21 => try simp only [Act.put, List.setIfInBounds_toArray, List.set_cons_zero, List.set_cons_succ]
      refine' dq_pure (by rfl) (by rfl) ?hv22 ?rest22
      case hv22 => (intro w hw; (try dsimp only at hw); go_split_ands; go_simp; try with_reducible rfl)
      case' rest22 => try simp only [Act.put, List.setIfInBounds_toArray, List.set_cons_zero, List.set_cons_succ]
      refine' dq_call (by rfl) (by rfl) ?hv23 ?hc23 ?rest23
      case hv23 => (intro w; go_simp; exact ⟨rfl, rfl⟩)
      case hc23 => exact (fun w hw => calls_gt (rOf_any _ hi _))
      case' rest23 => try simp only [Act.put, List.setIfInBounds_toArray, List.set_cons_zero, List.set_cons_succ]
      refine' dq_call (by rfl) (by rfl) ?hv24 ?hc24 ?rest24
      case hv24 => (intro w; go_simp; exact ⟨rfl, rfl⟩)
      case hc24 => exact (fun w hw => calls_gt (HADD.out _))
      case' rest24 => try simp only [Act.put, List.setIfInBounds_toArray, List.set_cons_zero, List.set_cons_succ]
      refine' dq_pure (by rfl) (by rfl) ?hv25 ?rest25
      case hv25 => (intro w hw; (try dsimp only at hw); go_split_ands; go_simp; try with_reducible rfl)
      case' rest25 => try simp only [Act.put, List.setIfInBounds_toArray, List.set_cons_zero, List.set_cons_succ]
      refine' dq_pure (by rfl) (by rfl) ?hv26 ?rest26
      case hv26 => (intro w hw; (try dsimp only at hw); go_split_ands; go_simp; try with_reducible rfl)
      case' rest26 => try simp only [Act.put, List.setIfInBounds_toArray, List.set_cons_zero, List.set_cons_succ]
      refine' dq_late (by rfl) (by rfl) ?hv27 ?rest27
      case hv27 => (intro w; go_simp; try with_reducible rfl)
      case' rest27 => try simp only [Act.put, List.setIfInBounds_toArray, List.set_cons_zero, List.set_cons_succ]
      refine dq_nil ?_
      simp only [fa, List.drop_succ_cons, List.drop_zero]
      rintro W ⟨⟨hb0, hn0, ⟨B1, B1c, B1f, B1l⟩, ⟨B2, B2c, B2f, B2l⟩, ⟨B3, B3c, B3f, B3l⟩, ⟨B4, B4c, B4f, B4l⟩⟩, hgl⟩ hbs
      clear hbs hgl
      (repeat' (first | go_values | go_skip | go_guarded | go_step | go_upon | (simp only [Int.not_lt, Int.not_le] at *; go_simp) | (go_values <;> (try go_simp)) | (go_ite <;> go_prune <;> (try go_simp)) | (split <;> (first | (rename_i hx; exact (hx _ rfl).elim) | go_prune))))
      
      
      (refine wp_region_dq (row := none) (S := (fun Wz => Below w.heap.size w Wz ∧ wr.heap.size ≤ Wz.heap.size ∧ Bx Wz (w.heap.size) (#[.bool false, .int .u64 0, .int .u64 0, .int .u64 0, .int .u64 0]) ∧ Bx Wz (w.heap.size + 1) (#[.bool false, .int .u64 0, .int .u64 0, .int .u64 0, .int .u64 0]) ∧ Bx Wz (w.heap.size + 2) (#[.bool (sg (cl (T + x))), .int .u64 (lb0 (ab (cl (T + x)))), .int .u64 (lb1 (ab (cl (T + x)))), .int .u64 (lb2 (ab (cl (T + x)))), .int .u64 (lb3 (ab (cl (T + x))))]) ∧ Bx Wz (w.heap.size + 3) (#[.bool (sg (V)), .int .u64 (lb0 (ab (V))), .int .u64 (lb1 (ab (V))), .int .u64 (lb2 (ab (V))), .int .u64 (lb3 (ab (V)))]))) (n0 := wr.heap.size) 11 [10] [(0, 0), (1, 0), (2, 0), (3, 0), (4, 0), (5, 0), (6, 0), (7, 0), (8, 0), (9, 0), (10, 2)] [] (by kernel_rfl) (by kernel_rfl) (fun _ _ d _ _ h => by cases d <;> exact h) ⟨by (repeat' (first | (with_reducible assumption) | (with_reducible exact Below.refl _ _) | (with_reducible refine Below.alloc ?_ ?_ _) | (with_reducible refine Below.setCell ?_ ?_ _) | (with_reducible refine Below.drew ?_) | (with_reducible refine below_more ?_ (by with_reducible assumption)) | go_size | omega | (with_reducible refine below_drewN ?_))), (by first | go_size | omega), Bx.of (by (repeat' (first | (with_reducible assumption) | ((with_reducible refine HB.new _ _ _ ?_) <;> (go_size; done)) | (with_reducible refine HB.old (by go_size) ?_) | (with_reducible refine HB.drew ?_) | (with_reducible refine HB.over5 ?_) | (with_reducible refine HB.over4 ?_) | (with_reducible refine HB.setne (by first | go_size | (dsimp only; omega)) ?_) | (with_reducible refine HN.set ?_) | (with_reducible refine HN.setne (by first | go_size | (dsimp only; omega)) ?_) | (with_reducible refine HN.drew ?_) | (with_reducible refine HN.old (by go_size) ?_) | (with_reducible exact HN.of5 (by assumption)) | (with_reducible exact HN.new5 _ _ (by go_size)) | (with_reducible exact HN.of4 (by assumption)) | (with_reducible exact HN.new4 _ _ (by go_size))))), Bx.of (by (repeat' (first | (with_reducible assumption) | ((with_reducible refine HB.new _ _ _ ?_) <;> (go_size; done)) | (with_reducible refine HB.old (by go_size) ?_) | (with_reducible refine HB.drew ?_) | (with_reducible refine HB.over5 ?_) | (with_reducible refine HB.over4 ?_) | (with_reducible refine HB.setne (by first | go_size | (dsimp only; omega)) ?_) | (with_reducible refine HN.set ?_) | (with_reducible refine HN.setne (by first | go_size | (dsimp only; omega)) ?_) | (with_reducible refine HN.drew ?_) | (with_reducible refine HN.old (by go_size) ?_) | (with_reducible exact HN.of5 (by assumption)) | (with_reducible exact HN.new5 _ _ (by go_size)) | (with_reducible exact HN.of4 (by assumption)) | (with_reducible exact HN.new4 _ _ (by go_size))))), Bx.of (by (repeat' (first | (with_reducible assumption) | ((with_reducible refine HB.new _ _ _ ?_) <;> (go_size; done)) | (with_reducible refine HB.old (by go_size) ?_) | (with_reducible refine HB.drew ?_) | (with_reducible refine HB.over5 ?_) | (with_reducible refine HB.over4 ?_) | (with_reducible refine HB.setne (by first | go_size | (dsimp only; omega)) ?_) | (with_reducible refine HN.set ?_) | (with_reducible refine HN.setne (by first | go_size | (dsimp only; omega)) ?_) | (with_reducible refine HN.drew ?_) | (with_reducible refine HN.old (by go_size) ?_) | (with_reducible exact HN.of5 (by assumption)) | (with_reducible exact HN.new5 _ _ (by go_size)) | (with_reducible exact HN.of4 (by assumption)) | (with_reducible exact HN.new4 _ _ (by go_size))))), Bx.of (by (repeat' (first | (with_reducible assumption) | ((with_reducible refine HB.new _ _ _ ?_) <;> (go_size; done)) | (with_reducible refine HB.old (by go_size) ?_) | (with_reducible refine HB.drew ?_) | (with_reducible refine HB.over5 ?_) | (with_reducible refine HB.over4 ?_) | (with_reducible refine HB.setne (by first | go_size | (dsimp only; omega)) ?_) | (with_reducible refine HN.set ?_) | (with_reducible refine HN.setne (by first | go_size | (dsimp only; omega)) ?_) | (with_reducible refine HN.drew ?_) | (with_reducible refine HN.old (by go_size) ?_) | (with_reducible exact HN.of5 (by assumption)) | (with_reducible exact HN.new5 _ _ (by go_size)) | (with_reducible exact HN.of4 (by assumption)) | (with_reducible exact HN.new4 _ _ (by go_size)))))⟩ (fun _ _ h g => keep4 h (below_gt g) rfl) (fun _ h => h.2.1) (fun _ h => by cases h) (by simp) ?_)
      refine' dq_pure (by rfl) (by rfl) ?hv28 ?rest28
      case hv28 => (intro w hw; (try dsimp only at hw); go_split_ands; go_simp; try with_reducible rfl)
      case' rest28 => try simp only [Act.put, List.setIfInBounds_toArray, List.set_cons_zero, List.set_cons_succ]
      refine' dq_pure (by rfl) (by rfl) ?hv29 ?rest29
      case hv29 => (intro w hw; (try dsimp only at hw); go_split_ands; go_simp; try with_reducible rfl)
      case' rest29 => try simp only [Act.put, List.setIfInBounds_toArray, List.set_cons_zero, List.set_cons_succ]
      refine' dq_pure (by rfl) (by rfl) ?hv30 ?rest30
      case hv30 => (intro w hw; (try dsimp only at hw); go_split_ands; go_simp; try with_reducible rfl)
      case' rest30 => try simp only [Act.put, List.setIfInBounds_toArray, List.set_cons_zero, List.set_cons_succ]
      refine' dq_pure (by rfl) (by rfl) ?hv31 ?rest31
      case hv31 => (intro w hw; (try dsimp only at hw); go_split_ands; go_simp; try with_reducible rfl)
      case' rest31 => try simp only [Act.put, List.setIfInBounds_toArray, List.set_cons_zero, List.set_cons_succ]
      refine' dq_pure (by rfl) (by rfl) ?hv32 ?rest32
      case hv32 => (intro w hw; (try dsimp only at hw); go_split_ands; go_simp; try with_reducible rfl)
      case' rest32 => try simp only [Act.put, List.setIfInBounds_toArray, List.set_cons_zero, List.set_cons_succ]
      refine' dq_pure (by rfl) (by rfl) ?hv33 ?rest33
      case hv33 => (intro w hw; (try dsimp only at hw); go_split_ands; go_simp; try with_reducible rfl)
      case' rest33 => try simp only [Act.put, List.setIfInBounds_toArray, List.set_cons_zero, List.set_cons_succ]
      refine' dq_call (by rfl) (by rfl) ?hv34 ?hc34 ?rest34
      case hv34 => (intro w; go_simp; exact ⟨rfl, rfl⟩)
      case hc34 => exact (fun w hw => calls_gt (rOf_any _ hi2 _))
      case' rest34 => try simp only [Act.put, List.setIfInBounds_toArray, List.set_cons_zero, List.set_cons_succ]
      refine' dq_call (by rfl) (by rfl) ?hv35 ?hc35 ?rest35
      case hv35 => (intro w; go_simp; exact ⟨rfl, rfl⟩)
      case hc35 => exact (fun w hw => calls_gt (HADD2.out _))
      case' rest35 => try simp only [Act.put, List.setIfInBounds_toArray, List.set_cons_zero, List.set_cons_succ]
      refine' dq_pure (by rfl) (by rfl) ?hv36 ?rest36
      case hv36 => (intro w hw; (try dsimp only at hw); go_split_ands; go_simp; try with_reducible rfl)
      case' rest36 => try simp only [Act.put, List.setIfInBounds_toArray, List.set_cons_zero, List.set_cons_succ]
      refine' dq_pure (by rfl) (by rfl) ?hv37 ?rest37
      case hv37 => (intro w hw; (try dsimp only at hw); go_split_ands; go_simp; try with_reducible rfl)
      case' rest37 => try simp only [Act.put, List.setIfInBounds_toArray, List.set_cons_zero, List.set_cons_succ]
      refine' dq_late (by rfl) (by rfl) ?hv38 ?rest38
      case hv38 => (intro w; go_simp; try with_reducible rfl)
      case' rest38 => try simp only [Act.put, List.setIfInBounds_toArray, List.set_cons_zero, List.set_cons_succ]
      refine dq_nil ?_
      simp only [fa, List.drop_succ_cons, List.drop_zero]
      rintro W ⟨⟨hb0, hn0, ⟨B1, B1c, B1f, B1l⟩, ⟨B2, B2c, B2f, B2l⟩, ⟨B3, B3c, B3f, B3l⟩, ⟨B4, B4c, B4f, B4l⟩⟩, hgl⟩ hbs
      clear hbs hgl
      (repeat' (first | go_values | go_skip | go_guarded | go_step | go_upon | (simp only [Int.not_lt, Int.not_le] at *; go_simp) | (go_values <;> (try go_simp)) | (go_ite <;> go_prune <;> (try go_simp)) | (split <;> (first | (rename_i hx; exact (hx _ rfl).elim) | go_prune))))
      go_roundw
      case rel => exact ⟨k + 1, by simp, by omega, by (repeat' (first | (with_reducible assumption) | ((with_reducible refine HB.new _ _ _ ?_) <;> (go_size; done)) | (with_reducible refine HB.old (by go_size) ?_) | (with_reducible refine HB.drew ?_) | (with_reducible refine HB.over5 ?_) | (with_reducible refine HB.over4 ?_) | (with_reducible refine HB.setne (by first | go_size | (dsimp only; omega)) ?_) | (with_reducible refine HN.set ?_) | (with_reducible refine HN.setne (by first | go_size | (dsimp only; omega)) ?_) | (with_reducible refine HN.drew ?_) | (with_reducible refine HN.old (by go_size) ?_) | (with_reducible exact HN.of5 (by assumption)) | (with_reducible exact HN.new5 _ _ (by go_size)) | (with_reducible exact HN.of4 (by assumption)) | (with_reducible exact HN.new4 _ _ (by go_size)))), by (repeat' (first | (with_reducible assumption) | ((with_reducible refine HB.new _ _ _ ?_) <;> (go_size; done)) | (with_reducible refine HB.old (by go_size) ?_) | (with_reducible refine HB.drew ?_) | (with_reducible refine HB.over5 ?_) | (with_reducible refine HB.over4 ?_) | (with_reducible refine HB.setne (by first | go_size | (dsimp only; omega)) ?_) | (with_reducible refine HN.set ?_) | (with_reducible refine HN.setne (by first | go_size | (dsimp only; omega)) ?_) | (with_reducible refine HN.drew ?_) | (with_reducible refine HN.old (by go_size) ?_) | (with_reducible exact HN.of5 (by assumption)) | (with_reducible exact HN.new5 _ _ (by go_size)) | (with_reducible exact HN.of4 (by assumption)) | (with_reducible exact HN.new4 _ _ (by go_size)))), by rw [E1.out]; (repeat' (first | (with_reducible assumption) | ((with_reducible refine HB.new _ _ _ ?_) <;> (go_size; done)) | (with_reducible refine HB.old (by go_size) ?_) | (with_reducible refine HB.drew ?_) | (with_reducible refine HB.over5 ?_) | (with_reducible refine HB.over4 ?_) | (with_reducible refine HB.setne (by first | go_size | (dsimp only; omega)) ?_) | (with_reducible refine HN.set ?_) | (with_reducible refine HN.setne (by first | go_size | (dsimp only; omega)) ?_) | (with_reducible refine HN.drew ?_) | (with_reducible refine HN.old (by go_size) ?_) | (with_reducible exact HN.of5 (by assumption)) | (with_reducible exact HN.new5 _ _ (by go_size)) | (with_reducible exact HN.of4 (by assumption)) | (with_reducible exact HN.new4 _ _ (by go_size)))), by rw [E2.out]; (repeat' (first | (with_reducible assumption) | ((with_reducible refine HB.new _ _ _ ?_) <;> (go_size; done)) | (with_reducible refine HB.old (by go_size) ?_) | (with_reducible refine HB.drew ?_) | (with_reducible refine HB.over5 ?_) | (with_reducible refine HB.over4 ?_) | (with_reducible refine HB.setne (by first | go_size | (dsimp only; omega)) ?_) | (with_reducible refine HN.set ?_) | (with_reducible refine HN.setne (by first | go_size | (dsimp only; omega)) ?_) | (with_reducible refine HN.drew ?_) | (with_reducible refine HN.old (by go_size) ?_) | (with_reducible exact HN.of5 (by assumption)) | (with_reducible exact HN.new5 _ _ (by go_size)) | (with_reducible exact HN.of4 (by assumption)) | (with_reducible exact HN.new4 _ _ (by go_size)))), by (repeat' (first | (with_reducible assumption) | (with_reducible exact Below.refl _ _) | (with_reducible refine Below.alloc ?_ ?_ _) | (with_reducible refine Below.setCell ?_ ?_ _) | (with_reducible refine Below.drew ?_) | (with_reducible refine below_more ?_ (by with_reducible assumption)) | go_size | omega | (with_reducible refine below_drewN ?_)))⟩
      case measure => simp [intOf]; omega
    · obtain rfl : k = ss.length := by omega
      obtain ⟨T, hT0⟩ : ∃ T, wsum Prod.fst ss ss.length = T := ⟨_, rfl⟩
      obtain ⟨V, hV0⟩ : ∃ V, wsum Prod.snd ss ss.length = V := ⟨_, rfl⟩
      rw [hT0] at hT
      rw [hV0] at hV
      have HT := hid hT0
      have HV := hid hV0
      clear hT0 hV0
      obtain ⟨B1, B1c, B1f, B1l⟩ := Bx.of hT
      obtain ⟨B2, B2c, B2f, B2l⟩ := Bx.of hV
      obtain ⟨B3, B3c, B3f, B3l⟩ := Bx.of (by assumption : HB wr w.heap.size #[.bool false, .int .u64 0, .int .u64 0, .int .u64 0, .int .u64 0])
      obtain ⟨B4, B4c, B4f, B4l⟩ := Bx.of (by assumption : HB wr (w.heap.size + 1) #[.bool false, .int .u64 0, .int .u64 0, .int .u64 0, .int .u64 0])
      have hmx : Try.prog.follows .mixedOrders = true := by kernel_rfl
      (repeat' (first | go_values | go_skip | go_guarded | go_step | go_upon | (simp only [Int.not_lt, Int.not_le] at *; go_simp) | (go_values <;> (try go_simp)) | (go_ite <;> go_prune <;> (try go_simp)) | (split <;> (first | (rename_i hx; exact (hx _ rfl).elim) | go_prune))))
      go_region
      all_goals (repeat' (first | go_values | go_skip | go_guarded | go_step | go_upon | (simp only [Int.not_lt, Int.not_le] at *; go_simp) | (go_values <;> (try go_simp)) | (go_ite <;> go_prune <;> (try go_simp)) | (split <;> (first | (rename_i hx; exact (hx _ rfl).elim) | go_prune))))
      refine bodyPost_ret (v := .tuple #[WE T, WE V]) ?_ rfl ⟨by rw [HT.out, HV.out], by (repeat' (first | (with_reducible assumption) | (with_reducible exact Below.refl _ _) | (with_reducible refine Below.alloc ?_ ?_ _) | (with_reducible refine Below.setCell ?_ ?_ _) | (with_reducible refine Below.drew ?_) | (with_reducible refine below_more ?_ (by with_reducible assumption)) | go_size | omega | (with_reducible refine below_drewN ?_)))⟩
      simp [results, Try.results70, go_sem, B1c, B1f, B1l, B2c, B2f, B2l, B3c, B3f, B3l, B4c, B4f, B4l]
end Go.Proofs.Ythcboomdkpiflaa
