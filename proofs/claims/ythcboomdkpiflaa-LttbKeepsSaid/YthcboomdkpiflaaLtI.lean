/- series.Check and its reference: the times increase strictly. -/
import Derived.Test.YthcboomdkpiflaaRows
import Derived.Test.YthcboomdkpiflaaLtS
import Derived.Test.YthcboomdkpiflaaLtB
import Derived.WalkKit
import Derived.ProofKit
import Derived.WalkLawsBesides
import Derived.WalkSpells
import Derived.RegionTactic
import Derived.ChangeAlike
import Derived.BigRegion
import Derived.Outline
import Derived.Handy
import Derived.Deep.QuietTactic
import Derived.BigQuiet
namespace Go.Proofs.Ythcboomdkpiflaa
open Go.ChangeShapes Go.WideShapes Go.ChangeAt Go.RowKit
set_option linter.unusedVariables false
set_option linter.unusedSimpArgs false

def incz (zs : List Int) : Bool := decide (∀ i, i < zs.length - 1 → zs.getD i 0 < zs.getD (i + 1) 0)
theorem map_get (ss : Smps) (i : Nat) : (ss.map Prod.fst).getD i 0 = (ss.getD i (0, 0)).1 := by
  rw [List.getD_eq_getElem?_getD, List.getD_eq_getElem?_getD, List.getElem?_map]
  cases ss[i]? <;> rfl
theorem incr_map (ss : Smps) : incz (ss.map Prod.fst) = incr ss := by
  unfold incz incr
  simp only [map_get, List.length_map]
theorem incz_yes {zs : List Int} (h : ∀ i, i < zs.length - 1 → zs.getD i 0 < zs.getD (i + 1) 0) : incz zs = true := decide_eq_true h
theorem incz_no {zs : List Int} {k : Nat} (hk : k < zs.length - 1) (h : ¬ zs.getD k 0 < zs.getD (k + 1) 0) : incz zs = false := decide_eq_false fun e => h (e k hk)
theorem OwnL.below {W W' : World} {base g n : Nat} {bs : List Int} (h : OwnL W base g n bs) (hb : Below W.heap.size W W') : OwnL W' base g n bs := ⟨h.1.kept (gt_below hb none) (Classical.em _), h.2⟩
theorem OwnL.alloc {W : World} {base g n : Nat} {bs : List Int} (h : OwnL W base g n bs) (o : Obj) : OwnL (W.alloc o) base g n bs := ⟨h.1.alloc o, h.2⟩
theorem OwnI.below {W W' : World} {base g n : Nat} {bs : List Int} (h : OwnI W base g n bs) (hb : Below W.heap.size W W') : OwnI W' base g n bs := ⟨h.1.kept (gt_below hb none) (Classical.em _), h.2⟩
theorem OwnI.alloc {W : World} {base g n : Nat} {bs : List Int} (h : OwnI W base g n bs) (o : Obj) : OwnI (W.alloc o) base g n bs := ⟨h.1.alloc o, h.2⟩

set_option maxHeartbeats 4000000 in
set_option maxRecDepth 100000 in
theorem inc_any {v : Value} {zs : List Int} (w : World) (hs : SlZ w .i64 v zs) (hn : zs.length ≤ 1000) : Calls Try.prog 71 #[v] w fun e w' => e = .returned (.bool (incz zs)) ∧ Below w.heap.size w w' := by
  obtain ⟨a, len, cap, rfl, rfl, hlc, hcm, hwf, hcell⟩ := hs
  have HC := hid hcell
  have hmx : Try.prog.follows .mixedOrders = true := by kernel_rfl
  clear hcell hwf hcm
  go_enter Try.func71, Try.ntmps71
  (repeat' (first | go_values | go_skip | go_guarded | go_step | go_upon | (simp only [Int.not_lt, Int.not_le] at *; go_simp) | (go_values <;> (try go_simp)) | (go_ite <;> go_prune <;> (try go_simp)) | (split <;> (first | (rename_i hx; exact (hx _ rfl).elim) | go_prune))))
  go_loopw [3] (fun i wr => ∃ k : Nat, i = .int .i64 ((k : Int) + 1) ∧ (k = 0 ∨ k < zs.length) ∧ Hid (∀ i, i < k → zs.getD i 0 < zs.getD (i + 1) 0) ∧ Below w.heap.size w wr) (fun i _ => zs.length + 1 - (intOf i).toNat)
  case atStart => exact ⟨0, rfl, .inl rfl, hid (fun i hi => by omega), by (repeat' (first | (with_reducible assumption) | (with_reducible exact Below.refl _ _) | (with_reducible refine Below.alloc ?_ ?_ _) | (with_reducible refine Below.setCell ?_ ?_ _) | (with_reducible refine Below.drew ?_) | (with_reducible refine below_more ?_ (by with_reducible assumption)) | go_size | omega | (with_reducible refine below_drewN ?_)))⟩
  case round =>
    obtain ⟨k, rfl, hk, hlow, hB⟩ := hrel
    by_cases hlt : k + 1 < zs.length
    · obtain ⟨b, off, rfl, hb, hcs⟩ := HC.out (by omega)
      obtain ⟨x, hx⟩ : ∃ x, zs.getD k 0 = x := ⟨_, rfl⟩
      obtain ⟨y, hy⟩ : ∃ y, zs.getD (k + 1) 0 = y := ⟨_, rfl⟩
      have f1 : wr.cell? ⟨b, off + k, none⟩ = some (.int .i64 x) := (hB.cell (p := ⟨b, off + k, none⟩) hb).trans (hx ▸ hcs k (by omega))
      have f2 : wr.cell? ⟨b, off + (k + 1), none⟩ = some (.int .i64 y) := (hB.cell (p := ⟨b, off + (k + 1), none⟩) hb).trans (hy ▸ hcs (k + 1) (by omega))
      have HX := hid hx
      have HY := hid hy
      have hk1 : ((k : Int) + 1).toNat = k + 1 := by omega
      have hl1 : (k : Int) + 1 < zs.length := by omega
      clear hx hy hcs
      by_cases hxy : x < y
      · (repeat' (first | go_values | go_skip | go_guarded | go_step | go_upon | (simp only [Int.not_lt, Int.not_le] at *; go_simp) | (go_values <;> (try go_simp)) | (go_ite <;> go_prune <;> (try go_simp)) | (split <;> (first | (rename_i hx; exact (hx _ rfl).elim) | go_prune))))
        go_quiet (fail)
        (repeat' (first | go_values | go_skip | go_guarded | go_step | go_upon | (simp only [Int.not_lt, Int.not_le] at *; go_simp) | (go_values <;> (try go_simp)) | (go_ite <;> go_prune <;> (try go_simp)) | (split <;> (first | (rename_i hx; exact (hx _ rfl).elim) | go_prune))))
        go_roundw
        case rel => exact ⟨k + 1, by simp, by omega, hid (fun i hi => by
          by_cases e : i = k
          · subst e; rw [HX.out, HY.out]; exact hxy
          · exact hlow.out i (by omega)), by (repeat' (first | (with_reducible assumption) | (with_reducible exact Below.refl _ _) | (with_reducible refine Below.alloc ?_ ?_ _) | (with_reducible refine Below.setCell ?_ ?_ _) | (with_reducible refine Below.drew ?_) | (with_reducible refine below_more ?_ (by with_reducible assumption)) | go_size | omega | (with_reducible refine below_drewN ?_)))⟩
        case measure => simp [intOf]; omega
      · have HF := hid (incz_no (zs := zs) (k := k) (by omega) (by rw [HX.out, HY.out]; exact hxy))
        (repeat' (first | go_values | go_skip | go_guarded | go_step | go_upon | (simp only [Int.not_lt, Int.not_le] at *; go_simp) | (go_values <;> (try go_simp)) | (go_ite <;> go_prune <;> (try go_simp)) | (split <;> (first | (rename_i hx; exact (hx _ rfl).elim) | go_prune))))
        go_quiet (fail)
        (repeat' (first | go_values | go_skip | go_guarded | go_step | go_upon | (simp only [Int.not_lt, Int.not_le] at *; go_simp) | (go_values <;> (try go_simp)) | (go_ite <;> go_prune <;> (try go_simp)) | (split <;> (first | (rename_i hx; exact (hx _ rfl).elim) | go_prune))))
        go_ret
        exact ⟨by rw [HF.out]; rfl, by (repeat' (first | (with_reducible assumption) | (with_reducible exact Below.refl _ _) | (with_reducible refine Below.alloc ?_ ?_ _) | (with_reducible refine Below.setCell ?_ ?_ _) | (with_reducible refine Below.drew ?_) | (with_reducible refine below_more ?_ (by with_reducible assumption)) | go_size | omega | (with_reducible refine below_drewN ?_)))⟩
    · have HT := hid (incz_yes (zs := zs) (fun i hi => hlow.out i (by omega)))
      have hl1 : ¬ (k : Int) + 1 < zs.length := by omega
      (repeat' (first | go_values | go_skip | go_guarded | go_step | go_upon | (simp only [Int.not_lt, Int.not_le] at *; go_simp) | (go_values <;> (try go_simp)) | (go_ite <;> go_prune <;> (try go_simp)) | (split <;> (first | (rename_i hx; exact (hx _ rfl).elim) | go_prune))))
      go_ret
      exact ⟨by rw [HT.out]; rfl, by (repeat' (first | (with_reducible assumption) | (with_reducible exact Below.refl _ _) | (with_reducible refine Below.alloc ?_ ?_ _) | (with_reducible refine Below.setCell ?_ ?_ _) | (with_reducible refine Below.drew ?_) | (with_reducible refine below_more ?_ (by with_reducible assumption)) | go_size | omega | (with_reducible refine below_drewN ?_)))⟩

set_option maxHeartbeats 4000000 in
set_option maxRecDepth 100000 in
theorem rinc_any {v : Value} {zs : List Int} (w : World) (hs : SlZ w .i64 v zs) (hn : zs.length ≤ 1000) : Calls Try.prog 81 #[v] w fun e w' => e = .returned (.bool (incz zs)) ∧ Below w.heap.size w w' := by
  obtain ⟨a, len, cap, rfl, rfl, hlc, hcm, hwf, hcell⟩ := hs
  have HC := hid hcell
  have hmx : Try.prog.follows .mixedOrders = true := by kernel_rfl
  clear hcell hwf hcm
  go_enter Try.func81, Try.ntmps81
  (repeat' (first | go_values | go_skip | go_guarded | go_step | go_upon | (simp only [Int.not_lt, Int.not_le] at *; go_simp) | (go_values <;> (try go_simp)) | (go_ite <;> go_prune <;> (try go_simp)) | (split <;> (first | (rename_i hx; exact (hx _ rfl).elim) | go_prune))))
  go_loopw [3] (fun i wr => ∃ k : Nat, i = .int .i64 ((k : Int) + 1) ∧ (k = 0 ∨ k < zs.length) ∧ Hid (∀ i, i < k → zs.getD i 0 < zs.getD (i + 1) 0) ∧ Below w.heap.size w wr) (fun i _ => zs.length + 1 - (intOf i).toNat)
  case atStart => exact ⟨0, rfl, .inl rfl, hid (fun i hi => by omega), by (repeat' (first | (with_reducible assumption) | (with_reducible exact Below.refl _ _) | (with_reducible refine Below.alloc ?_ ?_ _) | (with_reducible refine Below.setCell ?_ ?_ _) | (with_reducible refine Below.drew ?_) | (with_reducible refine below_more ?_ (by with_reducible assumption)) | go_size | omega | (with_reducible refine below_drewN ?_)))⟩
  case round =>
    obtain ⟨k, rfl, hk, hlow, hB⟩ := hrel
    by_cases hlt : k + 1 < zs.length
    · obtain ⟨b, off, rfl, hb, hcs⟩ := HC.out (by omega)
      obtain ⟨x, hx⟩ : ∃ x, zs.getD k 0 = x := ⟨_, rfl⟩
      obtain ⟨y, hy⟩ : ∃ y, zs.getD (k + 1) 0 = y := ⟨_, rfl⟩
      have f1 : wr.cell? ⟨b, off + k, none⟩ = some (.int .i64 x) := (hB.cell (p := ⟨b, off + k, none⟩) hb).trans (hx ▸ hcs k (by omega))
      have f2 : wr.cell? ⟨b, off + (k + 1), none⟩ = some (.int .i64 y) := (hB.cell (p := ⟨b, off + (k + 1), none⟩) hb).trans (hy ▸ hcs (k + 1) (by omega))
      have HX := hid hx
      have HY := hid hy
      have hk1 : ((k : Int) + 1).toNat = k + 1 := by omega
      have hl1 : (k : Int) + 1 < zs.length := by omega
      clear hx hy hcs
      by_cases hxy : x < y
      · (repeat' (first | go_values | go_skip | go_guarded | go_step | go_upon | (simp only [Int.not_lt, Int.not_le] at *; go_simp) | (go_values <;> (try go_simp)) | (go_ite <;> go_prune <;> (try go_simp)) | (split <;> (first | (rename_i hx; exact (hx _ rfl).elim) | go_prune))))
        go_quiet (fail)
        (repeat' (first | go_values | go_skip | go_guarded | go_step | go_upon | (simp only [Int.not_lt, Int.not_le] at *; go_simp) | (go_values <;> (try go_simp)) | (go_ite <;> go_prune <;> (try go_simp)) | (split <;> (first | (rename_i hx; exact (hx _ rfl).elim) | go_prune))))
        go_roundw
        case rel => exact ⟨k + 1, by simp, by omega, hid (fun i hi => by
          by_cases e : i = k
          · subst e; rw [HX.out, HY.out]; exact hxy
          · exact hlow.out i (by omega)), by (repeat' (first | (with_reducible assumption) | (with_reducible exact Below.refl _ _) | (with_reducible refine Below.alloc ?_ ?_ _) | (with_reducible refine Below.setCell ?_ ?_ _) | (with_reducible refine Below.drew ?_) | (with_reducible refine below_more ?_ (by with_reducible assumption)) | go_size | omega | (with_reducible refine below_drewN ?_)))⟩
        case measure => simp [intOf]; omega
      · have HF := hid (incz_no (zs := zs) (k := k) (by omega) (by rw [HX.out, HY.out]; exact hxy))
        (repeat' (first | go_values | go_skip | go_guarded | go_step | go_upon | (simp only [Int.not_lt, Int.not_le] at *; go_simp) | (go_values <;> (try go_simp)) | (go_ite <;> go_prune <;> (try go_simp)) | (split <;> (first | (rename_i hx; exact (hx _ rfl).elim) | go_prune))))
        go_quiet (fail)
        (repeat' (first | go_values | go_skip | go_guarded | go_step | go_upon | (simp only [Int.not_lt, Int.not_le] at *; go_simp) | (go_values <;> (try go_simp)) | (go_ite <;> go_prune <;> (try go_simp)) | (split <;> (first | (rename_i hx; exact (hx _ rfl).elim) | go_prune))))
        go_ret
        exact ⟨by rw [HF.out]; rfl, by (repeat' (first | (with_reducible assumption) | (with_reducible exact Below.refl _ _) | (with_reducible refine Below.alloc ?_ ?_ _) | (with_reducible refine Below.setCell ?_ ?_ _) | (with_reducible refine Below.drew ?_) | (with_reducible refine below_more ?_ (by with_reducible assumption)) | go_size | omega | (with_reducible refine below_drewN ?_)))⟩
    · have HT := hid (incz_yes (zs := zs) (fun i hi => hlow.out i (by omega)))
      have hl1 : ¬ (k : Int) + 1 < zs.length := by omega
      (repeat' (first | go_values | go_skip | go_guarded | go_step | go_upon | (simp only [Int.not_lt, Int.not_le] at *; go_simp) | (go_values <;> (try go_simp)) | (go_ite <;> go_prune <;> (try go_simp)) | (split <;> (first | (rename_i hx; exact (hx _ rfl).elim) | go_prune))))
      go_ret
      exact ⟨by rw [HT.out]; rfl, by (repeat' (first | (with_reducible assumption) | (with_reducible exact Below.refl _ _) | (with_reducible refine Below.alloc ?_ ?_ _) | (with_reducible refine Below.setCell ?_ ?_ _) | (with_reducible refine Below.drew ?_) | (with_reducible refine below_more ?_ (by with_reducible assumption)) | go_size | omega | (with_reducible refine below_drewN ?_)))⟩

/-! ### The times -/
theorem times1_any (x y : Int) (w : World) : Calls Try.prog 84 #[.agg #[.int .i64 x, .int .i64 y]] w fun e w' => e = .returned (.int .i64 x) ∧ Below w.heap.size w w' := by
  go_enter Try.func84, Try.ntmps84
  (repeat' (first | go_values | go_skip | go_guarded | go_step | go_upon | (simp only [Int.not_lt, Int.not_le] at *; go_simp) | (go_values <;> (try go_simp)) | (go_ite <;> go_prune <;> (try go_simp)) | (split <;> (first | (rename_i hx; exact (hx _ rfl).elim) | go_prune))))
  go_ret
  exact ⟨rfl, by (repeat' (first | (with_reducible assumption) | (with_reducible exact Below.refl _ _) | (with_reducible refine Below.alloc ?_ ?_ _) | (with_reducible refine Below.setCell ?_ ?_ _) | (with_reducible refine Below.drew ?_) | (with_reducible refine below_more ?_ (by with_reducible assumption)) | go_size | omega | (with_reducible refine below_drewN ?_)))⟩
theorem fst_i64 {ss : Smps} (h : ∀ s ∈ ss, I64 s.1 ∧ I64 s.2) : ∀ z ∈ ss.map Prod.fst, I64 z := fun z hz => by
  obtain ⟨s, hs, rfl⟩ := List.mem_map.1 hz
  exact (h s hs).1
set_option maxHeartbeats 4000000 in
set_option maxRecDepth 100000 in
theorem field_any {v : Value} {ss : Smps} (w : World) (hs : SlS w v ss) (hn : ss.length ≤ 1000) : Calls Try.prog 83 #[v, .func (Fn.func 84) #[] #[]] w fun e w' => ∃ v', e = .returned v' ∧ SlZ w' .i64 v' (ss.map Prod.fst) ∧ Below w.heap.size w w' := by
  obtain ⟨a, cap, rfl, hlc, hcm, hin, hcell⟩ := hs
  have HC := hid hcell
  have HI := hid hin
  clear hcell hin hcm
  obtain ⟨i0, hi, hz0, hz1, hz2⟩ := info_parts info_i64
  go_enter Try.func83, Try.ntmps83
  (repeat' (first | (go_big_may; (first | (refine wpList_make_full _ rfl _ _ 77 rfl w.heap.size 2 i0 (.int .i64 0) 1 Try.underlying77 hi hz0 hz1 .i64 .i64 _ _ ss.length rfl rfl (by first | rfl | omega) (by first | rfl | omega) (by rw [hz2]; omega) (by unfold maxLen; omega) (Nat.le_refl _) ?_; intro wm hown hgr))) | go_values | go_skip | go_guarded | go_step | go_upon | (simp only [Int.not_lt, Int.not_le] at *; go_simp) | (go_values <;> (try go_simp)) | (go_ite <;> go_prune <;> (try go_simp)) | (split <;> (first | (rename_i hx; exact (hx _ rfl).elim) | go_prune))))
  have hO0 : OwnL wm w.heap.size w.heap.size ss.length (List.replicate ss.length 0) := OwnL.zeros hown
  have hB0 : Below w.heap.size w wm := below_gt hgr
  clear hown hgr
  go_loopw [13] (fun i wr => ∃ (k : Nat) (bs : List Int), i = .int .i64 k ∧ k ≤ ss.length ∧ Hid (∀ j, j < k → bs.getD j 0 = (ss.getD j (0, 0)).1) ∧ OwnL wr w.heap.size w.heap.size ss.length bs ∧ Below w.heap.size w wr) (fun i _ => ss.length - (intOf i).toNat)
  case atStart => exact ⟨0, _, rfl, Nat.zero_le _, hid (fun j hj => by omega), hO0, hB0⟩
  case round =>
    obtain ⟨k, bs, rfl, hk, hbs, hO, hB⟩ := hrel
    by_cases hlt : k < ss.length
    · obtain ⟨b, off, rfl, hb, hcs⟩ := HC.out (by omega)
      obtain ⟨p1, p2⟩ := hcs k hlt
      obtain ⟨xy, hx⟩ : ∃ xy, ss.getD k (0, 0) = xy := ⟨_, rfl⟩
      rw [hx] at p1 p2
      have HX := hid hx
      obtain ⟨x, y⟩ := xy
      dsimp only at p1 p2
      have f1 := (hB.cell (p := ⟨b, off + k * 2, none⟩) hb).trans p1
      have f2 := (hB.cell (p := ⟨b, off + k * 2 + 1, none⟩) hb).trans p2
      have hlen := hO.2
      have hsz := hO.lt
      clear hx p1 p2 hcs
      (repeat' (first | (go_big_may; (first | (go_at_call 84; refine (times1_any _ _ _).mono ?_; rintro e w' ⟨rfl, hbw⟩; have hO2 := OwnL.below (hO.alloc _) hbw; have hB2 : Below w.heap.size w w' := (hB.alloc hB.size _).trans (hbw.mono (by simp; omega)); have f0 := hO2.cell k hlt; have ff := hO2.frozen k))) | go_values | go_skip | go_guarded | go_step | go_upon | (simp only [Int.not_lt, Int.not_le] at *; go_simp) | (go_values <;> (try go_simp)) | (go_ite <;> go_prune <;> (try go_simp)) | (split <;> (first | (rename_i hx; exact (hx _ rfl).elim) | go_prune))))
      go_roundw
      case rel =>
        refine ⟨k + 1, bs.set k x, by simp, by omega, hid (fun j hj => ?_), hO2.stored k x, by (repeat' (first | (with_reducible assumption) | (with_reducible exact Below.refl _ _) | (with_reducible refine Below.alloc ?_ ?_ _) | (with_reducible refine Below.setCell ?_ ?_ _) | (with_reducible refine Below.drew ?_) | (with_reducible refine below_more ?_ (by with_reducible assumption)) | go_size | omega | (with_reducible refine below_drewN ?_)))⟩
        by_cases hjk : j = k
        · subst hjk; rw [getD_set_eq (by omega), HX.out]
        · rw [getD_set_ne (by omega)]; exact hbs.out j (by omega)
      case measure => simp [intOf]; omega
    · obtain rfl : k = ss.length := by omega
      (repeat' (first | go_values | go_skip | go_guarded | go_step | go_upon | (simp only [Int.not_lt, Int.not_le] at *; go_simp) | (go_values <;> (try go_simp)) | (go_ite <;> go_prune <;> (try go_simp)) | (split <;> (first | (rename_i hx; exact (hx _ rfl).elim) | go_prune))))
      go_ret
      have e : bs = ss.map Prod.fst := list_ext (by rw [List.length_map]; exact hO.2) (fun j hj => by rw [hbs.out j (by have := hO.2; omega), map_get])
      exact ⟨_, rfl, slz_ownl (e ▸ hO) (fst_i64 HI.out), by (repeat' (first | (with_reducible assumption) | (with_reducible exact Below.refl _ _) | (with_reducible refine Below.alloc ?_ ?_ _) | (with_reducible refine Below.setCell ?_ ?_ _) | (with_reducible refine Below.drew ?_) | (with_reducible refine below_more ?_ (by with_reducible assumption)) | go_size | omega | (with_reducible refine below_drewN ?_)))⟩
set_option maxRecDepth 100000 in
theorem stimes_any {v : Value} {ss : Smps} (w : World) (hs : SlS w v ss) (hn : ss.length ≤ 1000) : Calls Try.prog 72 #[v] w fun e w' => ∃ v', e = .returned v' ∧ SlZ w' .i64 v' (ss.map Prod.fst) ∧ Below w.heap.size w w' := by
  have C := field_any w hs hn
  go_enter Try.func72, Try.ntmps72
  (repeat' (first | go_values | go_skip | go_guarded | go_step | go_upon | (simp only [Int.not_lt, Int.not_le] at *; go_simp) | (go_values <;> (try go_simp)) | (go_ite <;> go_prune <;> (try go_simp)) | (split <;> (first | (rename_i hx; exact (hx _ rfl).elim) | go_prune))))
  refine C.mono ?_
  rintro e w' ⟨v', rfl, hz, hbw⟩
  (repeat' (first | go_values | go_skip | go_guarded | go_step | go_upon | (simp only [Int.not_lt, Int.not_le] at *; go_simp) | (go_values <;> (try go_simp)) | (go_ite <;> go_prune <;> (try go_simp)) | (split <;> (first | (rename_i hx; exact (hx _ rfl).elim) | go_prune))))
  go_ret
  exact ⟨_, rfl, hz, hbw⟩
set_option maxHeartbeats 4000000 in
set_option maxRecDepth 100000 in
theorem rstimes_any {v : Value} {ss : Smps} (w : World) (hs : SlS w v ss) (hn : ss.length ≤ 1000) : Calls Try.prog 82 #[v] w fun e w' => ∃ v', e = .returned v' ∧ SlZ w' .i64 v' (ss.map Prod.fst) ∧ Below w.heap.size w w' := by
  obtain ⟨a, cap, rfl, hlc, hcm, hin, hcell⟩ := hs
  have HC := hid hcell
  have HI := hid hin
  clear hcell hin hcm
  obtain ⟨i0, hi, hz0, hz1, hz2⟩ := info_parts info_i64
  go_enter Try.func82, Try.ntmps82
  (repeat' (first | go_values | go_skip | go_guarded | go_step | go_upon | (simp only [Int.not_lt, Int.not_le] at *; go_simp) | (go_values <;> (try go_simp)) | (go_ite <;> go_prune <;> (try go_simp)) | (split <;> (first | (rename_i hx; exact (hx _ rfl).elim) | go_prune))))
  go_loopw [3, 4] (fun out i wr => ∃ k : Nat, i = .int .i64 k ∧ k ≤ ss.length ∧ wr.ownsRow w.heap.size 2 1 out k (((ss.map Prod.fst).take k).map (Value.int .i64)) ∧ Below w.heap.size w wr) (fun _ i _ => ss.length - (intOf i).toNat)
  case atStart => exact ⟨0, rfl, Nat.zero_le _, World.ownsRow_nil _ _ _ _, by (repeat' (first | (with_reducible assumption) | (with_reducible exact Below.refl _ _) | (with_reducible refine Below.alloc ?_ ?_ _) | (with_reducible refine Below.setCell ?_ ?_ _) | (with_reducible refine Below.drew ?_) | (with_reducible refine below_more ?_ (by with_reducible assumption)) | go_size | omega | (with_reducible refine below_drewN ?_)))⟩
  case round =>
    obtain ⟨k, rfl, hk, hO, hB⟩ := hrel
    by_cases hlt : k < ss.length
    · obtain ⟨b, off, rfl, hb, hcs⟩ := HC.out (by omega)
      obtain ⟨p1, p2⟩ := hcs k hlt
      have e1 : (ss.map Prod.fst).take (k + 1) = (ss.map Prod.fst).take k ++ [(ss.getD k (0, 0)).1] := by
        rw [List.take_succ_eq_append_getElem (by rw [List.length_map]; exact hlt), List.getElem_map, List.getD_eq_getElem?_getD, List.getElem?_eq_getElem hlt]; rfl
      obtain ⟨x, hx⟩ : ∃ x, (ss.getD k (0, 0)).1 = x := ⟨_, rfl⟩
      rw [hx] at p1 e1
      have f1 := (hB.cell (p := ⟨b, off + k * 2, none⟩) hb).trans p1
      have E1 := hid e1
      have hsz := hB.size
      clear hx p1 p2 hcs e1
      (repeat' (first | (go_big_may; (first | (at_builtin; refine wpList_append_own _ rfl _ _ 77 rfl w.heap.size 2 i0 (.int .i64 0) 1 8 Try.underlying77 hi hz0 hz1 hz2 rfl (by decide) _ _ _ rfl (hO.alloc _) ⟨_, 0, none⟩ 1 1 _ rfl rfl (fun j u h => one_cell _ _ _ j u h) (by intro u hu; simp at hu; subst hu; rfl) (by unfold maxLen; omega) (by omega) (by simp; omega) ?_; intro v' w5 hown' hgrow _))) | go_values | go_skip | go_guarded | go_step | go_upon | (simp only [Int.not_lt, Int.not_le] at *; go_simp) | (go_values <;> (try go_simp)) | (go_ite <;> go_prune <;> (try go_simp)) | (split <;> (first | (rename_i hx; exact (hx _ rfl).elim) | go_prune))))
      have hb5 : Below w.heap.size w w5 := (hB.alloc hsz _).trans (app_below (hO.alloc _) hgrow (Nat.le_refl _) (by simp; omega))
      clear hgrow
      go_roundw
      case rel => exact ⟨k + 1, by simp, by omega, by rw [E1.out, List.map_append]; exact hown', hb5⟩
      case measure => simp [intOf]; omega
    · obtain rfl : k = ss.length := by omega
      rw [List.take_of_length_le (by rw [List.length_map]; exact Nat.le_refl _)] at hO
      (repeat' (first | go_values | go_skip | go_guarded | go_step | go_upon | (simp only [Int.not_lt, Int.not_le] at *; go_simp) | (go_values <;> (try go_simp)) | (go_ite <;> go_prune <;> (try go_simp)) | (split <;> (first | (rename_i hx; exact (hx _ rfl).elim) | go_prune))))
      go_ret
      exact ⟨_, rfl, slz_own (by rw [List.length_map]; exact hO) (fst_i64 HI.out), by (repeat' (first | (with_reducible assumption) | (with_reducible exact Below.refl _ _) | (with_reducible refine Below.alloc ?_ ?_ _) | (with_reducible refine Below.setCell ?_ ?_ _) | (with_reducible refine Below.drew ?_) | (with_reducible refine below_more ?_ (by with_reducible assumption)) | go_size | omega | (with_reducible refine below_drewN ?_)))⟩

set_option maxRecDepth 100000 in
theorem check_any {v : Value} {ss : Smps} (w : World) (hs : SlS w v ss) (hn : ss.length ≤ 1000) : Calls Try.prog 56 #[v] w fun e w' => e = .returned (.int .i64 (if incr ss then 0 else 7)) ∧ Below w.heap.size w w' := by
  have C := stimes_any w hs hn
  have D := fun (W : World) (u : Value) (h : SlZ W .i64 u (ss.map Prod.fst)) => inc_any W h (by rw [List.length_map]; exact hn)
  rw [incr_map] at D
  cases hI : incr ss <;> rw [hI] at D
  all_goals
    clear hI
    simp only [Bool.false_eq_true, if_false, if_true]
    go_enter Try.func56, Try.ntmps56
    (repeat' (first | go_values | go_skip | go_guarded | go_step | go_upon | (simp only [Int.not_lt, Int.not_le] at *; go_simp) | (go_values <;> (try go_simp)) | (go_ite <;> go_prune <;> (try go_simp)) | (split <;> (first | (rename_i hx; exact (hx _ rfl).elim) | go_prune))))
    refine C.mono ?_
    rintro e w' ⟨v', rfl, hz, hbw⟩
    (repeat' (first | go_values | go_skip | go_guarded | go_step | go_upon | (simp only [Int.not_lt, Int.not_le] at *; go_simp) | (go_values <;> (try go_simp)) | (go_ite <;> go_prune <;> (try go_simp)) | (split <;> (first | (rename_i hx; exact (hx _ rfl).elim) | go_prune))))
    go_at_call 71
    refine (D _ _ hz).mono ?_
    rintro e w2 ⟨rfl, hbw2⟩
    (repeat' (first | go_values | go_skip | go_guarded | go_step | go_upon | (simp only [Int.not_lt, Int.not_le] at *; go_simp) | (go_values <;> (try go_simp)) | (go_ite <;> go_prune <;> (try go_simp)) | (split <;> (first | (rename_i hx; exact (hx _ rfl).elim) | go_prune))))
    go_ret
    exact ⟨rfl, by (repeat' (first | (with_reducible assumption) | (with_reducible exact Below.refl _ _) | (with_reducible refine Below.alloc ?_ ?_ _) | (with_reducible refine Below.setCell ?_ ?_ _) | (with_reducible refine Below.drew ?_) | (with_reducible refine below_more ?_ (by with_reducible assumption)) | go_size | omega | (with_reducible refine below_drewN ?_)))⟩

set_option maxRecDepth 100000 in
theorem rcheck_any {v : Value} {ss : Smps} (w : World) (hs : SlS w v ss) (hn : ss.length ≤ 1000) : Calls Try.prog 69 #[v] w fun e w' => e = .returned (.int .i64 (if incr ss then 0 else 7)) ∧ Below w.heap.size w w' := by
  have C := rstimes_any w hs hn
  have D := fun (W : World) (u : Value) (h : SlZ W .i64 u (ss.map Prod.fst)) => rinc_any W h (by rw [List.length_map]; exact hn)
  rw [incr_map] at D
  cases hI : incr ss <;> rw [hI] at D
  all_goals
    clear hI
    simp only [Bool.false_eq_true, if_false, if_true]
    go_enter Try.func69, Try.ntmps69
    (repeat' (first | go_values | go_skip | go_guarded | go_step | go_upon | (simp only [Int.not_lt, Int.not_le] at *; go_simp) | (go_values <;> (try go_simp)) | (go_ite <;> go_prune <;> (try go_simp)) | (split <;> (first | (rename_i hx; exact (hx _ rfl).elim) | go_prune))))
    refine C.mono ?_
    rintro e w' ⟨v', rfl, hz, hbw⟩
    (repeat' (first | go_values | go_skip | go_guarded | go_step | go_upon | (simp only [Int.not_lt, Int.not_le] at *; go_simp) | (go_values <;> (try go_simp)) | (go_ite <;> go_prune <;> (try go_simp)) | (split <;> (first | (rename_i hx; exact (hx _ rfl).elim) | go_prune))))
    go_at_call 81
    refine (D _ _ hz).mono ?_
    rintro e w2 ⟨rfl, hbw2⟩
    (repeat' (first | go_values | go_skip | go_guarded | go_step | go_upon | (simp only [Int.not_lt, Int.not_le] at *; go_simp) | (go_values <;> (try go_simp)) | (go_ite <;> go_prune <;> (try go_simp)) | (split <;> (first | (rename_i hx; exact (hx _ rfl).elim) | go_prune))))
    go_ret
    exact ⟨rfl, by (repeat' (first | (with_reducible assumption) | (with_reducible exact Below.refl _ _) | (with_reducible refine Below.alloc ?_ ?_ _) | (with_reducible refine Below.setCell ?_ ?_ _) | (with_reducible refine Below.drew ?_) | (with_reducible refine below_more ?_ (by with_reducible assumption)) | go_size | omega | (with_reducible refine below_drewN ?_)))⟩
end Go.Proofs.Ythcboomdkpiflaa
