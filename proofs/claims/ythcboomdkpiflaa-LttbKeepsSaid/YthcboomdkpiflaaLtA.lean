/- tscodeclaw25: known, alike. -/
import Derived.Test.YthcboomdkpiflaaRows
import Derived.Test.YthcboomdkpiflaaLtW
import Derived.Test.YthcboomdkpiflaaLtG
import Derived.Test.YthcboomdkpiflaaTapeK
import Derived.WalkKit
import Derived.ProofKit
import Derived.WalkLawsBesides
import Derived.WalkSpells
import Derived.RegionTactic
import Derived.ChangeAlike
import Derived.BigRegion
import Derived.Outline
import Derived.Handy
import Derived.Deep.QuietTactic
import Derived.BigQuiet
namespace Go.Proofs.Ythcboomdkpiflaa
open Go.ChangeShapes Go.WideShapes Go.ChangeAt Go.RowKit
set_option linter.unusedVariables false
set_option linter.unusedSimpArgs false

set_option maxHeartbeats 8000000 in
set_option maxRecDepth 100000 in
theorem alike_any {v : Value} {ss : Smps} (k : Int) (hk : I64 k) (w : World) (hs : SlS w v ss) (hn : ss.length ≤ 1000) : Calls Try.prog 28 #[v, .int .i64 k] w fun e w' => e = .returned (.bool true) ∧ Below w.heap.size w w' := by
  have C1 := indexes_any k hk w hs hn
  have C2 := fun W (hb : Below w.heap.size w W) => rindexes_any k hk W (hs.below hb) hn
  have C3 := fun W (hb : Below w.heap.size w W) => select_any k hk W (hs.below hb) hn
  have C4 := fun W (hb : Below w.heap.size w W) => rselect_any k hk W (hs.below hb) hn
  have CS := fun W v1 v2 h1 h2 (hl : (sel ss k).length ≤ 1000) => rsame_any (v1 := v1) (v2 := v2) (ss := sel ss k) W h1 h2 hl
  have hsl := sel_len ss k
  have hil := ixs_len (ss := ss) k
  have HZ := hid (fun W v base h => ixs_slz (W := W) (v := v) (ss := ss) (k := k) (base := base) h hn)
  unfold IxP SelP at *
  obtain ⟨a, cap, rfl, -⟩ := id hs
  generalize sel ss k = so at *
  generalize ixs ss k = zs at *
  generalize ixe ss k = E at *
  have hzl : zs.length ≤ 1000 := by omega
  have hol : so.length ≤ 1000 := by omega
  have CS := fun W v1 v2 h1 h2 => CS W v1 v2 h1 h2 hol
  clear hs hsl hil
  go_enter Try.func28, Try.ntmps28
  (repeat' (first | go_values | go_skip | go_guarded | go_step | go_upon | (simp only [Int.not_lt, Int.not_le] at *; go_simp) | (go_values <;> (try go_simp)) | (go_ite <;> go_prune <;> (try go_simp)) | (split <;> (first | (rename_i hx; exact (hx _ rfl).elim) | go_prune))))
  go_at_call 29
  refine C1.mono ?_
  rintro e w1 ⟨v1, rfl, hO1, hb1⟩
  clear C1
  (repeat' (first | go_values | go_skip | go_guarded | go_step | go_upon | (simp only [Int.not_lt, Int.not_le] at *; go_simp) | (go_values <;> (try go_simp)) | (go_ite <;> go_prune <;> (try go_simp)) | (split <;> (first | (rename_i hx; exact (hx _ rfl).elim) | go_prune))))
  go_at_call 54
  refine (C2 _ hb1).mono ?_
  rintro e w2 ⟨v2, rfl, hO2, hb2⟩
  have hB2 : Below w.heap.size w w2 := hb1.trans (hb2.mono hb1.size)
  have hz1 := (HZ.out _ _ _ hO1).below hb2
  have hz2 := HZ.out _ _ _ hO2
  clear C2 hO1 hO2 HZ
  (repeat' (first | go_values | go_skip | go_guarded | go_step | go_upon | (simp only [Int.not_lt, Int.not_le] at *; go_simp) | (go_values <;> (try go_simp)) | (go_ite <;> go_prune <;> (try go_simp)) | (split <;> (first | (rename_i hx; exact (hx _ rfl).elim) | go_prune))))
  go_at_call 31
  refine (C3 _ hB2).mono ?_
  rintro e w3 ⟨v3, rfl, hS3, hb3⟩
  have hB3 : Below w.heap.size w w3 := hB2.trans (hb3.mono hB2.size)
  have hz1 := hz1.below hb3
  have hz2 := hz2.below hb3
  clear C3
  (repeat' (first | go_values | go_skip | go_guarded | go_step | go_upon | (simp only [Int.not_lt, Int.not_le] at *; go_simp) | (go_values <;> (try go_simp)) | (go_ite <;> go_prune <;> (try go_simp)) | (split <;> (first | (rename_i hx; exact (hx _ rfl).elim) | go_prune))))
  go_at_call 55
  refine (C4 _ hB3).mono ?_
  rintro e w4 ⟨v4, rfl, hS4, hb4⟩
  have hB4 : Below w.heap.size w w4 := hB3.trans (hb4.mono hB3.size)
  have hz1 := hz1.below hb4
  have hz2 := hz2.below hb4
  have hS3 := hS3.below hb4
  obtain ⟨a1, l1, c1, rfl, rfl, -, -, -, hc1⟩ := hz1
  obtain ⟨a2, l2, c2, rfl, hl2, -, -, -, hc2⟩ := hz2
  subst hl2
  have HC1 := hid hc1
  have HC2 := hid hc2
  have CS := CS _ _ _ hS3 hS4
  clear C4 hS3 hS4 hc1 hc2 hb1 hb2 hb3 hb4 hB2 hB3
  (repeat' (first | go_values | go_skip | go_guarded | go_step | go_upon | (simp only [Int.not_lt, Int.not_le] at *; go_simp) | (go_values <;> (try go_simp)) | (go_ite <;> go_prune <;> (try go_simp)) | (split <;> (first | (rename_i hx; exact (hx _ rfl).elim) | go_prune))))
  go_at_call 32
  refine CS.mono ?_
  rintro e w5 ⟨rfl, hb5⟩
  have hB5 : Below w.heap.size w w5 := hB4.trans (hb5.mono hB4.size)
  clear CS
  (repeat' (first | go_values | go_skip | go_guarded | go_step | go_upon | (simp only [Int.not_lt, Int.not_le] at *; go_simp) | (go_values <;> (try go_simp)) | (go_ite <;> go_prune <;> (try go_simp)) | (split <;> (first | (rename_i hx; exact (hx _ rfl).elim) | go_prune))))
  go_loopw [13] (fun i wr => ∃ j : Nat, i = .int .i64 j ∧ j ≤ zs.length ∧ Below w4.heap.size w4 wr) (fun i _ => zs.length - (intOf i).toNat)
  case atStart => exact ⟨0, rfl, Nat.zero_le _, hb5⟩
  case round =>
    obtain ⟨j, rfl, hj, hB⟩ := hrel
    by_cases hlt : j < zs.length
    · obtain ⟨b1, o1, rfl, hb1, hcs1⟩ := HC1.out (by omega)
      obtain ⟨b2, o2, rfl, hb2, hcs2⟩ := HC2.out (by omega)
      have f1 := (hB.cell (p := ⟨b1, o1 + j, none⟩) hb1).trans (hcs1 j hlt)
      have f2 := (hB.cell (p := ⟨b2, o2 + j, none⟩) hb2).trans (hcs2 j hlt)
      generalize zs.getD j 0 = z at f1 f2
      clear hcs1 hcs2
      (repeat' (first | go_values | go_skip | go_guarded | go_step | go_upon | (simp only [Int.not_lt, Int.not_le] at *; go_simp) | (go_values <;> (try go_simp)) | (go_ite <;> go_prune <;> (try go_simp)) | (split <;> (first | (rename_i hx; exact (hx _ rfl).elim) | go_prune))))
      go_quiet (fail)
      (repeat' (first | go_values | go_skip | go_guarded | go_step | go_upon | (simp only [Int.not_lt, Int.not_le] at *; go_simp) | (go_values <;> (try go_simp)) | (go_ite <;> go_prune <;> (try go_simp)) | (split <;> (first | (rename_i hx; exact (hx _ rfl).elim) | go_prune))))
      go_roundw
      case rel => exact ⟨j + 1, by simp, by omega, by (repeat' (first | (with_reducible assumption) | (with_reducible exact Below.refl _ _) | (with_reducible refine Below.alloc ?_ ?_ _) | (with_reducible refine Below.setCell ?_ ?_ _) | (with_reducible refine Below.drew ?_) | (with_reducible refine below_more ?_ (by with_reducible assumption)) | go_size | omega | (with_reducible refine below_drewN ?_)))⟩
      case measure => simp [intOf]; omega
    · obtain rfl : j = zs.length := by omega
      (repeat' (first | go_values | go_skip | go_guarded | go_step | go_upon | (simp only [Int.not_lt, Int.not_le] at *; go_simp) | (go_values <;> (try go_simp)) | (go_ite <;> go_prune <;> (try go_simp)) | (split <;> (first | (rename_i hx; exact (hx _ rfl).elim) | go_prune))))
      go_ret
      exact ⟨rfl, hB4.trans (hB.mono hB4.size)⟩

def five : Smps := [(0, 0), (1, 5), (2, 0), (3, 1), (4, 0)]
theorem five_sel3 : ixe five 3 = 0 ∧ (sel five 3).length = 3 ∧ ((sel five 3).getD 1 (0, 0)).2 = 5 := by decide +kernel
theorem five_sel2 : ixe five 2 = 2 := by decide +kernel

set_option maxRecDepth 100000 in
theorem five_in : ∀ s ∈ five, I64 s.1 ∧ I64 s.2 := by unfold five I64; decide
theorem five3_any (W : World) (v : Value) (hs : SlS W v five) : Calls Try.prog 31 #[v, .int .i64 3] W fun e w' => ∃ g o cap, e = .returned (.tuple #[.slice (some ⟨g, o, none⟩) 3 cap, .int .i64 0]) ∧ w'.cell? ⟨g, o + 3, none⟩ = some (.int .i64 5) ∧ g < w'.heap.size ∧ Below W.heap.size W w' := by
  obtain ⟨h1, h2, h3⟩ := five_sel3
  refine (select_any 3 ⟨by decide, by decide⟩ W hs (by decide)).mono fun e w' ⟨v', he, hS, hb⟩ => ?_
  obtain ⟨a, cap, rfl, -, -, -, hc⟩ := hS
  rw [h2] at hc he
  rw [h1] at he
  obtain ⟨b, off, rfl, hlb, hcs⟩ := hc (by decide)
  have := (hcs 1 (by decide)).2
  rw [h3] at this
  exact ⟨b, off, cap, he, this, hlb, hb⟩
theorem five2_any (W : World) (v : Value) (hs : SlS W v five) : Calls Try.prog 31 #[v, .int .i64 2] W fun e w' => ∃ v', e = .returned (.tuple #[v', .int .i64 2]) ∧ Below W.heap.size W w' := by
  refine (select_any 2 ⟨by decide, by decide⟩ W hs (by decide)).mono fun e w' ⟨v', he, hS, hb⟩ => ?_
  rw [five_sel2] at he
  exact ⟨v', he, hb⟩

set_option maxHeartbeats 8000000 in
set_option maxRecDepth 100000 in
theorem known25_any (w : World) : Calls Try.prog 27 #[] w fun e w' => e = .returned (.bool true) ∧ Below w.heap.size w w' := by
  have C3 := five3_any
  have C2 := five2_any
  have hI := hid five_in
  go_enter Try.func27, Try.ntmps27
  (repeat' (first | go_values | go_skip | go_guarded | go_step | go_upon | (simp only [Int.not_lt, Int.not_le] at *; go_simp) | (go_values <;> (try go_simp)) | (go_ite <;> go_prune <;> (try go_simp)) | (split <;> (first | (rename_i hx; exact (hx _ rfl).elim) | go_prune))))
  have hs : SlS (w.alloc (.cells #[.int .i64 0, .int .i64 0, .int .i64 1, .int .i64 5, .int .i64 2, .int .i64 0, .int .i64 3, .int .i64 1, .int .i64 4, .int .i64 0] 23)) (.slice (some ⟨w.heap.size, 0, none⟩) 5 5) five := by
    obtain ⟨_, hc, _, hl⟩ := Bx.of (HB.new w #[.int .i64 0, .int .i64 0, .int .i64 1, .int .i64 5, .int .i64 2, .int .i64 0, .int .i64 3, .int .i64 1, .int .i64 4, .int .i64 0] 23 rfl)
    refine ⟨_, 5, rfl, by decide, by decide, hI.out, fun _ => ⟨w.heap.size, 0, rfl, hl, fun i hi => ?_⟩⟩
    have hi : i < 5 := hi
    match i, hi with
    | 0, _ => exact ⟨hc 0, hc 1⟩
    | 1, _ => exact ⟨hc 2, hc 3⟩
    | 2, _ => exact ⟨hc 4, hc 5⟩
    | 3, _ => exact ⟨hc 6, hc 7⟩
    | 4, _ => exact ⟨hc 8, hc 9⟩
  go_at_call 31
  refine (C3 _ _ hs).mono ?_
  rintro e w1 ⟨g, o, cap, rfl, hc, hg, hb1⟩
  have hs1 := hs.below hb1
  have hB1 : Below w.heap.size w w1 := by (repeat' (first | (with_reducible assumption) | (with_reducible exact Below.refl _ _) | (with_reducible refine Below.alloc ?_ ?_ _) | (with_reducible refine Below.setCell ?_ ?_ _) | (with_reducible refine Below.drew ?_) | (with_reducible refine below_more ?_ (by with_reducible assumption)) | go_size | omega | (with_reducible refine below_drewN ?_)))
  clear hs C3
  (repeat' (first | go_values | go_skip | go_guarded | go_step | go_upon | (simp only [Int.not_lt, Int.not_le] at *; go_simp) | (go_values <;> (try go_simp)) | (go_ite <;> go_prune <;> (try go_simp)) | (split <;> (first | (rename_i hx; exact (hx _ rfl).elim) | go_prune))))
  go_at_call 31
  refine (C2 _ _ hs1).mono ?_
  rintro e w2 ⟨v2, rfl, hb2⟩
  have hc2 := (hb2.cell (p := ⟨g, o + 3, none⟩) hg).trans hc
  have hB2 : Below w.heap.size w w2 := by (repeat' (first | (with_reducible assumption) | (with_reducible exact Below.refl _ _) | (with_reducible refine Below.alloc ?_ ?_ _) | (with_reducible refine Below.setCell ?_ ?_ _) | (with_reducible refine Below.drew ?_) | (with_reducible refine below_more ?_ (by with_reducible assumption)) | go_size | omega | (with_reducible refine below_drewN ?_)))
  clear hs1 C2 hc hb2
  (repeat' (first | go_values | go_skip | go_guarded | go_step | go_upon | (simp only [Int.not_lt, Int.not_le] at *; go_simp) | (go_values <;> (try go_simp)) | (go_ite <;> go_prune <;> (try go_simp)) | (split <;> (first | (rename_i hx; exact (hx _ rfl).elim) | go_prune))))
  go_ret
  exact ⟨rfl, hB2⟩
end Go.Proofs.Ythcboomdkpiflaa
