/- The bounds of the buckets, in the program and in the reference. -/
import Derived.Test.YthcboomdkpiflaaRows
import Derived.Test.YthcboomdkpiflaaLtP
import Derived.Test.YthcboomdkpiflaaLtO
import Derived.WalkKit
import Derived.ProofKit
import Derived.WalkLawsBesides
import Derived.WalkSpells
import Derived.RegionTactic
import Derived.ChangeAlike
import Derived.BigRegion
import Derived.Outline
import Derived.Handy
import Derived.Test.YthcboomdkpiflaaTool
namespace Go.Proofs.Ythcboomdkpiflaa
open Go.ChangeShapes Go.WideShapes Go.ChangeAt Go.RowKit
set_option linter.unusedVariables false
set_option linter.unusedSimpArgs false

def bks (n k : Nat) : List Int := (List.range (k - 1)).map fun j => (bk n k j : Int)
theorem bks_len (n k : Nat) : (bks n k).length = k - 1 := by simp [bks]
theorem bks_get {n k j : Nat} (h : j < k - 1) : (bks n k).getD j 0 = (bk n k j : Int) := by
  unfold bks
  rw [List.getD_eq_getElem?_getD, List.getElem?_map, List.getElem?_range h]; rfl
def BndP (n : Nat) (k : Int) (w : World) (e : Ending) (w' : World) : Prop :=
  (if bok n k then ∃ v, e = .returned (.tuple #[v, .bool true]) ∧ w'.ownsRow w.heap.size 3 1 v (k.toNat - 1) ((bks n k.toNat).map (Value.int .i64)) else e = .returned (.tuple #[.slice none 0 0, .bool false])) ∧ Below w.heap.size w w'
/-- The quotient as the program computes it. -/
theorem bk_int {n k i : Nat} (hk : 3 ≤ k) (hn : k ≤ n) : 1 + ((i : Int) * ((n : Int) - 2)).tdiv ((k : Int) - 2) = (bk n k i : Int) := by
  have e1 : (n : Int) - 2 = ((n - 2 : Nat) : Int) := by omega
  have e2 : (k : Int) - 2 = ((k - 2 : Nat) : Int) := by omega
  rw [e1, e2, ← Int.natCast_mul, ← Int.ofNat_tdiv]
  unfold bk
  simp
theorem bk_wr {n k i : Nat} (hk : 3 ≤ k) (hn : k ≤ n) (hi : i ≤ k - 2) (h : n ≤ 1000) : wrap64 (1 + (i : Int) * ((n : Int) - 2) / ((k : Int) - 2)) = (bk n k i : Int) := by
  have e1 : (n : Int) - 2 = ((n - 2 : Nat) : Int) := by omega
  have e2 : (k : Int) - 2 = ((k - 2 : Nat) : Int) := by omega
  have e : 1 + (i : Int) * ((n : Int) - 2) / ((k : Int) - 2) = (bk n k i : Int) := by
    rw [e1, e2, ← Int.natCast_mul, ← Int.natCast_ediv]
    unfold bk
    simp
  rw [e]
  have := bk_le hk hn hi
  exact wrap64_id _ ⟨by omega, by omega⟩
theorem bk_mul {n i : Nat} (hn : n ≤ 1000) (h2 : 2 ≤ n) (hi : i ≤ 1000) : 0 ≤ (i : Int) * ((n : Int) - 2) ∧ (i : Int) * ((n : Int) - 2) ≤ 1000000 := by
  have e1 : (n : Int) - 2 = ((n - 2 : Nat) : Int) := by omega
  rw [e1, ← Int.natCast_mul]
  have := Nat.mul_le_mul hi (show n - 2 ≤ 1000 by omega)
  omega
theorem bok_cases (n : Nat) (k : Int) : (bok n k = true ∧ 3 ≤ k ∧ k ≤ n ∧ n ≤ 1073741824) ∨ (bok n k = false ∧ (k < 3 ∨ n < k ∨ 1073741824 < n)) := by
  unfold bok
  by_cases h1 : 3 ≤ k <;> by_cases h2 : k ≤ n <;> by_cases h3 : n ≤ 1073741824 <;> simp [h1, h2, h3] <;> omega

set_option maxHeartbeats 4000000 in
set_option maxRecDepth 100000 in
theorem bounds_any (n : Nat) (hn : n ≤ 1000) (k : Int) (hk : I64 k) (w : World) : Calls Try.prog 57 #[.int .i64 n, .int .i64 k] w (BndP n k w) := by
  unfold BndP
  rcases bok_cases n k with ⟨h, h1, h2, h3⟩ | ⟨h, hc⟩
  · simp only [h, if_true]
    clear h h3 hk
    obtain ⟨K, rfl⟩ : ∃ K : Nat, k = K := ⟨k.toNat, by omega⟩
    have h1' : 3 ≤ K := by omega
    have h2' : K ≤ n := by omega
    rw [Int.toNat_natCast]
    obtain ⟨i0, hi, hz0, hz1, hz2⟩ := info_parts info_int
    go_enter Try.func57, Try.ntmps57
    (repeat' (first | (go_big_may; (first | (refine wpList_make_full _ rfl _ _ 28 rfl w.heap.size 3 i0 (.int .i64 0) 1 Try.underlying28 hi hz0 hz1 .i64 .i64 _ _ (K - 1) rfl rfl (by first | rfl | omega) (by first | rfl | omega) (by rw [hz2]; omega) (by unfold maxLen; omega) (Nat.le_refl _) ?_; intro wm hown hgr))) | go_values | go_skip | go_guarded | go_step | go_upon | (simp only [Int.not_lt, Int.not_le] at *; go_simp) | (go_values <;> (try go_simp)) | (go_ite <;> go_prune <;> (try go_simp)) | (split <;> (first | (rename_i hx; exact (hx _ rfl).elim) | go_prune))))
    have hO0 : OwnI wm w.heap.size w.heap.size (K - 1) (List.replicate (K - 1) 0) := OwnI.zeros hown
    have hB0 : Below w.heap.size w wm := below_gt hgr
    clear hown hgr
    go_loopw [24] (fun i wr => ∃ (k : Nat) (bs : List Int), i = .int .i64 k ∧ k ≤ K - 1 ∧ Hid (∀ j, j < k → bs.getD j 0 = (bk n K j : Int)) ∧ OwnI wr w.heap.size w.heap.size (K - 1) bs ∧ Below w.heap.size w wr) (fun i _ => K - 1 - (intOf i).toNat)
    case atStart => exact ⟨0, _, rfl, Nat.zero_le _, hid (fun j hj => by omega), hO0, hB0⟩
    case round =>
      obtain ⟨k, bs, rfl, hk, hbs, hO, hB⟩ := hrel
      by_cases hlt : k < K - 1
      · have f0 := hO.cell k hlt
        have ff := hO.frozen k
        obtain ⟨m1, m2⟩ := bk_mul (n := n) (i := k) hn (by omega) (by omega)
        have hlen := hO.2
        have hlv := hO.1.lt
        (repeat' (first | go_values | go_skip | go_guarded | go_step | go_upon | (simp only [Int.not_lt, Int.not_le] at *; go_simp) | (go_values <;> (try go_simp)) | (go_ite <;> go_prune <;> (try go_simp)) | (split <;> (first | (rename_i hx; exact (hx _ rfl).elim) | go_prune))))
        have ES := (hO.stored k (bk n K k : Int))
        rw [bk_wr h1' h2' (by omega) hn]
        refine ⟨⟨k + 1, bs.set k (bk n K k : Int), by simp, by omega, hid (fun j hj => ?_), ES, by (repeat' (first | (with_reducible assumption) | (with_reducible exact Below.refl _ _) | (with_reducible refine Below.alloc ?_ ?_ _) | (with_reducible refine Below.setCell ?_ ?_ _) | (with_reducible refine Below.drew ?_) | (with_reducible refine below_more ?_ (by with_reducible assumption)) | go_size | omega | (with_reducible refine below_drewN ?_)))⟩, by simp [intOf]; omega⟩
        by_cases hjk : j = k
        · subst hjk; exact getD_set_eq (by omega) _
        · rw [getD_set_ne (by omega)]; exact hbs.out j (by omega)
      · obtain rfl : k = K - 1 := by omega
        (repeat' (first | go_values | go_skip | go_guarded | go_step | go_upon | (simp only [Int.not_lt, Int.not_le] at *; go_simp) | (go_values <;> (try go_simp)) | (go_ite <;> go_prune <;> (try go_simp)) | (split <;> (first | (rename_i hx; exact (hx _ rfl).elim) | go_prune))))
        refine bodyPost_ret (v := .tuple #[.slice (some ⟨w.heap.size, 0, none⟩) (K - 1) (K - 1), .bool true]) ?_ rfl ⟨⟨_, rfl, ?_⟩, by (repeat' (first | (with_reducible assumption) | (with_reducible exact Below.refl _ _) | (with_reducible refine Below.alloc ?_ ?_ _) | (with_reducible refine Below.setCell ?_ ?_ _) | (with_reducible refine Below.drew ?_) | (with_reducible refine below_more ?_ (by with_reducible assumption)) | go_size | omega | (with_reducible refine below_drewN ?_)))⟩
        · simp [results, Try.results57, go_sem]
          try omega
        · have e : bs = bks n K := list_ext (by rw [bks_len]; exact hO.2) (fun j hj => by rw [hbs.out j (by have := hO.2; omega), bks_get (by have := hO.2; omega)])
          rw [← e]
          exact hO.1
  · simp only [h, Bool.false_eq_true, if_false]
    clear h
    obtain ⟨k1, k2⟩ := hk
    go_enter Try.func57, Try.ntmps57
    rcases hc with hc | hc | hc
    · (repeat' (first | go_values | go_skip | go_guarded | go_step | go_upon | (simp only [Int.not_lt, Int.not_le] at *; go_simp) | (go_values <;> (try go_simp)) | (go_ite <;> go_prune <;> (try go_simp)) | (split <;> (first | (rename_i hx; exact (hx _ rfl).elim) | go_prune))))
      refine bodyPost_ret (v := .tuple #[.slice none 0 0, .bool false]) ?_ rfl ⟨rfl, by (repeat' (first | (with_reducible assumption) | (with_reducible exact Below.refl _ _) | (with_reducible refine Below.alloc ?_ ?_ _) | (with_reducible refine Below.setCell ?_ ?_ _) | (with_reducible refine Below.drew ?_) | (with_reducible refine below_more ?_ (by with_reducible assumption)) | go_size | omega | (with_reducible refine below_drewN ?_)))⟩
      simp [results, Try.results57, go_sem]
    · by_cases h3 : k < 3
      all_goals (repeat' (first | go_values | go_skip | go_guarded | go_step | go_upon | (simp only [Int.not_lt, Int.not_le] at *; go_simp) | (go_values <;> (try go_simp)) | (go_ite <;> go_prune <;> (try go_simp)) | (split <;> (first | (rename_i hx; exact (hx _ rfl).elim) | go_prune))))
      all_goals refine bodyPost_ret (v := .tuple #[.slice none 0 0, .bool false]) ?_ rfl ⟨rfl, by (repeat' (first | (with_reducible assumption) | (with_reducible exact Below.refl _ _) | (with_reducible refine Below.alloc ?_ ?_ _) | (with_reducible refine Below.setCell ?_ ?_ _) | (with_reducible refine Below.drew ?_) | (with_reducible refine below_more ?_ (by with_reducible assumption)) | go_size | omega | (with_reducible refine below_drewN ?_)))⟩
      all_goals simp [results, Try.results57, go_sem]
    · omega

theorem bkl_succ (n K k : Nat) : (List.range (k + 1)).map (fun j => (bk n K j : Int)) = (List.range k).map (fun j => (bk n K j : Int)) ++ [(bk n K k : Int)] := by rw [List.range_succ, List.map_append]; rfl
set_option maxHeartbeats 4000000 in
set_option maxRecDepth 100000 in
theorem rbounds_any (n : Nat) (hn : n ≤ 1000) (k : Int) (hk : I64 k) (w : World) : Calls Try.prog 30 #[.int .i64 n, .int .i64 k] w (BndP n k w) := by
  unfold BndP
  rcases bok_cases n k with ⟨h, h1, h2, h3⟩ | ⟨h, hc⟩
  · simp only [h, if_true]
    clear h h3 hk
    obtain ⟨K, rfl⟩ : ∃ K : Nat, k = K := ⟨k.toNat, by omega⟩
    have h1' : 3 ≤ K := by omega
    have h2' : K ≤ n := by omega
    have hnk : ¬ n < K := by omega
    rw [Int.toNat_natCast]
    obtain ⟨i0, hi, hz0, hz1, hz2⟩ := info_parts info_int
    go_enter Try.func30, Try.ntmps30
    (repeat' (first | go_values | go_skip | go_guarded | go_step | go_upon | (simp only [Int.not_lt, Int.not_le] at *; go_simp) | (go_values <;> (try go_simp)) | (go_ite <;> go_prune <;> (try go_simp)) | (split <;> (first | (rename_i hx; exact (hx _ rfl).elim) | go_prune))))
    go_loopw [6, 7] (fun out i wr => ∃ k : Nat, i = .int .i64 k ∧ k ≤ K - 1 ∧ wr.ownsRow w.heap.size 3 1 out k (((List.range k).map (fun j => (bk n K j : Int))).map (Value.int .i64)) ∧ Below w.heap.size w wr) (fun _ i _ => K - 1 - (intOf i).toNat)
    case atStart => exact ⟨0, rfl, Nat.zero_le _, World.ownsRow_nil _ _ _ _, by (repeat' (first | (with_reducible assumption) | (with_reducible exact Below.refl _ _) | (with_reducible refine Below.alloc ?_ ?_ _) | (with_reducible refine Below.setCell ?_ ?_ _) | (with_reducible refine Below.drew ?_) | (with_reducible refine below_more ?_ (by with_reducible assumption)) | go_size | omega | (with_reducible refine below_drewN ?_)))⟩
    case round =>
      obtain ⟨k, rfl, hk, hO, hB⟩ := hrel
      by_cases hlt : k < K - 1
      · obtain ⟨m1, m2⟩ := bk_mul (n := n) (i := k) hn (by omega) (by omega)
        have hsz := hB.size
        (repeat' (first | (go_big_may; (first | (at_builtin; refine wpList_append_own _ rfl _ _ 28 rfl w.heap.size 3 i0 (.int .i64 0) 1 8 Try.underlying28 hi hz0 hz1 hz2 rfl (by decide) _ _ _ rfl (hO.alloc _) ⟨_, 0, none⟩ 1 1 _ rfl rfl (fun j u h => one_cell _ _ _ j u h) (by intro u hu; simp at hu; subst hu; rfl) (by unfold maxLen; omega) (by omega) (by simp; omega) ?_; intro v' w5 hown' hgrow _))) | go_values | go_skip | go_guarded | go_step | go_upon | (simp only [Int.not_lt, Int.not_le] at *; go_simp) | (go_values <;> (try go_simp)) | (go_ite <;> go_prune <;> (try go_simp)) | (split <;> (first | (rename_i hx; exact (hx _ rfl).elim) | go_prune))))
        rw [bk_wr h1' h2' (by omega) hn] at hown'
        have hb5 := hB.trans (app_below (hO.alloc _) hgrow (Nat.le_refl _) (by simp; omega) |> fun h => (Below.refl _ _).alloc hsz _ |>.trans h)
        clear hgrow
        go_roundw
        case rel => exact ⟨k + 1, by simp, by omega, by rw [bkl_succ, List.map_append]; exact hown', hb5⟩
        case measure => simp [intOf]; omega
      · obtain rfl : k = K - 1 := by omega
        (repeat' (first | go_values | go_skip | go_guarded | go_step | go_upon | (simp only [Int.not_lt, Int.not_le] at *; go_simp) | (go_values <;> (try go_simp)) | (go_ite <;> go_prune <;> (try go_simp)) | (split <;> (first | (rename_i hx; exact (hx _ rfl).elim) | go_prune))))
        refine bodyPost_ret (v := .tuple #[u6, .bool true]) ?_ rfl ⟨⟨_, rfl, hO⟩, by (repeat' (first | (with_reducible assumption) | (with_reducible exact Below.refl _ _) | (with_reducible refine Below.alloc ?_ ?_ _) | (with_reducible refine Below.setCell ?_ ?_ _) | (with_reducible refine Below.drew ?_) | (with_reducible refine below_more ?_ (by with_reducible assumption)) | go_size | omega | (with_reducible refine below_drewN ?_)))⟩
        simp [results, Try.results30, go_sem]
  · simp only [h, Bool.false_eq_true, if_false]
    clear h
    obtain ⟨k1, k2⟩ := hk
    go_enter Try.func30, Try.ntmps30
    rcases hc with hc | hc | hc
    · (repeat' (first | go_values | go_skip | go_guarded | go_step | go_upon | (simp only [Int.not_lt, Int.not_le] at *; go_simp) | (go_values <;> (try go_simp)) | (go_ite <;> go_prune <;> (try go_simp)) | (split <;> (first | (rename_i hx; exact (hx _ rfl).elim) | go_prune))))
      refine bodyPost_ret (v := .tuple #[.slice none 0 0, .bool false]) ?_ rfl ⟨rfl, by (repeat' (first | (with_reducible assumption) | (with_reducible exact Below.refl _ _) | (with_reducible refine Below.alloc ?_ ?_ _) | (with_reducible refine Below.setCell ?_ ?_ _) | (with_reducible refine Below.drew ?_) | (with_reducible refine below_more ?_ (by with_reducible assumption)) | go_size | omega | (with_reducible refine below_drewN ?_)))⟩
      simp [results, Try.results30, go_sem]
    · by_cases h3 : k < 3
      all_goals (repeat' (first | go_values | go_skip | go_guarded | go_step | go_upon | (simp only [Int.not_lt, Int.not_le] at *; go_simp) | (go_values <;> (try go_simp)) | (go_ite <;> go_prune <;> (try go_simp)) | (split <;> (first | (rename_i hx; exact (hx _ rfl).elim) | go_prune))))
      all_goals refine bodyPost_ret (v := .tuple #[.slice none 0 0, .bool false]) ?_ rfl ⟨rfl, by (repeat' (first | (with_reducible assumption) | (with_reducible exact Below.refl _ _) | (with_reducible refine Below.alloc ?_ ?_ _) | (with_reducible refine Below.setCell ?_ ?_ _) | (with_reducible refine Below.drew ?_) | (with_reducible refine below_more ?_ (by with_reducible assumption)) | go_size | omega | (with_reducible refine below_drewN ?_)))⟩
      all_goals simp [results, Try.results30, go_sem]
    · omega
end Go.Proofs.Ythcboomdkpiflaa
