/- The laws' helpers: Same, known. -/
import Derived.Test.YtenaeaojnebokaaRows
import Derived.Test.YtenaeaojnebokaaMidF
import Derived.WalkKit
import Derived.ProofKit
import Derived.WalkLawsBesides
import Derived.WalkSpells
import Derived.RegionTactic
import Derived.ChangeAlike
import Derived.BigRegion
import Derived.Outline
import Derived.Handy
namespace Go.Proofs.Ytenaeaojnebokaa
open Go.ChangeShapes Go.WideShapes Go.ChangeAt Go.RowKit
set_option linter.unusedVariables false
set_option linter.unusedSimpArgs false

/-- A slice that reads as these constants. -/
def RdC (W : World) (v : Value) (os : List (Int × Int)) : Prop :=
  ∃ a cap, v = .slice a os.length cap ∧ (0 < os.length → ∃ b, a = some ⟨b, 0, none⟩ ∧ b < W.heap.size ∧ ∀ i, i < os.length → W.cell? ⟨b, i * 2, none⟩ = some (.int .i64 (os.getD i (0, 0)).1) ∧ W.cell? ⟨b, i * 2 + 1, none⟩ = some (.int .i64 (os.getD i (0, 0)).2))
theorem RdC.own {W : World} {base : Nat} {e : TypeId} {v : Value} {os : List (Int × Int)} (h : W.ownsRow base e 2 v os.length (scells os)) : RdC W v os := by
  obtain ⟨a, cap, rfl, _, _, hc⟩ := own_slice h (by rw [scells_len])
  refine ⟨a, cap, rfl, fun hl => ?_⟩
  obtain ⟨g, rfl, _, hg, hcs⟩ := hc hl
  refine ⟨g, rfl, hg, fun i hi => ?_⟩
  obtain ⟨h1, h2⟩ := scells_at os i hi
  rw [Nat.mul_comm] at h1 h2
  exact ⟨hcs _ _ h1, hcs _ _ h2⟩
theorem RdC.ended {W : World} {B : Nat} {v : Value} {o : Option (Int × Int)} (h : Ended B W v o) : RdC W v o.toList := by
  rcases h with ⟨rfl, rfl⟩ | ⟨b, c, m, rfl, rfl, _, h⟩
  · exact ⟨none, 0, rfl, fun hl => by simp at hl⟩
  · obtain ⟨_, hc, _, hl⟩ := Bx.of h
    refine ⟨_, 1, rfl, fun _ => ⟨b, rfl, hl, fun i hi => ?_⟩⟩
    simp at hi
    subst hi
    exact ⟨by simpa using hc 0, by simpa using hc 1⟩
theorem RdC.below {W W' : World} {v : Value} {os : List (Int × Int)} (h : RdC W v os) (hb : Below W.heap.size W W') : RdC W' v os := by
  obtain ⟨a, cap, rfl, hc⟩ := h
  refine ⟨a, cap, rfl, fun hl => ?_⟩
  obtain ⟨b, rfl, hb', hcs⟩ := hc hl
  exact ⟨b, rfl, Nat.lt_of_lt_of_le hb' hb.size, fun i hi => ⟨(hb.cell (p := ⟨b, i * 2, none⟩) hb').trans (hcs i hi).1, (hb.cell (p := ⟨b, i * 2 + 1, none⟩) hb').trans (hcs i hi).2⟩⟩

/-- Comparing constants. -/
theorem eq_const (a b c d : Int) (dd : Nat) (w : World) : (Op.equalIn (dd + 3) 48 (.agg #[.int .i64 a, .int .i64 b]) (.agg #[.int .i64 c, .int .i64 d])).run Try.prog w = .ok (a == c && b == d) w := by
  by_cases h1 : a = c <;> by_cases h2 : b = d <;> simp [Op.eqItems, go_sem, h1, h2]
theorem eqc_self (a b : Int) (w : World) : (Op.equalIn 10000 48 (.agg #[.int .i64 a, .int .i64 b]) (.agg #[.int .i64 a, .int .i64 b])).run Try.prog w = .ok true w := by
  have h := eq_const a b a b 9997 w
  simpa using h

set_option maxHeartbeats 4000000 in
set_option maxRecDepth 100000 in
theorem same_any {v1 v2 : Value} {os : List (Int × Int)} (w : World) (h1 : RdC w v1 os) (h2 : RdC w v2 os) (hn : os.length ≤ 1073741825) : Calls Try.prog 33 #[v1, v2] w fun e w' => e = .returned (.bool true) ∧ Below w.heap.size w w' := by
  obtain ⟨a1, c1, rfl, hc1⟩ := h1
  obtain ⟨a2, c2, rfl, hc2⟩ := h2
  have E := eqc_self
  have HC1 := hid hc1
  have HC2 := hid hc2
  clear hc1 hc2
  go_enter Try.func33, Try.ntmps33
  (repeat' (first | go_values | go_skip | go_guarded | go_step | go_upon | (simp only [Int.not_lt, Int.not_le] at *; go_simp) | (go_values <;> (try go_simp)) | (go_ite <;> go_prune <;> (try go_simp)) | (split <;> (first | (rename_i hx; exact (hx _ rfl).elim) | go_prune))))
  go_loopw [5] (fun i wr => ∃ k : Nat, i = .int .i64 k ∧ k ≤ os.length ∧ Below w.heap.size w wr) (fun i _ => os.length - (intOf i).toNat)
  case atStart => exact ⟨0, rfl, Nat.zero_le _, Below.refl _ _⟩
  case round =>
    obtain ⟨k, rfl, hk, hB⟩ := hrel
    by_cases hlt : k < os.length
    · obtain ⟨b1, rfl, hb1, hcs1⟩ := HC1.out (by omega)
      obtain ⟨b2, rfl, hb2, hcs2⟩ := HC2.out (by omega)
      obtain ⟨x, hx⟩ : ∃ x, os.getD k (0, 0) = x := ⟨_, rfl⟩
      have p1 := (hcs1 k hlt).1
      have p2 := (hcs1 k hlt).2
      have q1 := (hcs2 k hlt).1
      have q2 := (hcs2 k hlt).2
      rw [hx] at p1 p2 q1 q2
      have p1' := (hB.cell (p := ⟨b1, k * 2, none⟩) hb1).trans p1
      have p2' := (hB.cell (p := ⟨b1, k * 2 + 1, none⟩) hb1).trans p2
      have q1' := (hB.cell (p := ⟨b2, k * 2, none⟩) hb2).trans q1
      have q2' := (hB.cell (p := ⟨b2, k * 2 + 1, none⟩) hb2).trans q2
      have hmx : Try.prog.follows .mixedOrders = true := by kernel_rfl
      clear hcs1 hcs2 hx p1 p2 q1 q2
      (repeat' (first | go_values | go_skip | go_guarded | go_step | go_upon | (simp only [Int.not_lt, Int.not_le] at *; go_simp) | (go_values <;> (try go_simp)) | (go_ite <;> go_prune <;> (try go_simp)) | (split <;> (first | (rename_i hx; exact (hx _ rfl).elim) | go_prune))))
      go_region
      all_goals (repeat' (first | go_values | go_skip | go_guarded | go_step | go_upon | (simp only [Int.not_lt, Int.not_le] at *; go_simp) | (go_values <;> (try go_simp)) | (go_ite <;> go_prune <;> (try go_simp)) | (split <;> (first | (rename_i hx; exact (hx _ rfl).elim) | go_prune))))
      all_goals go_roundw
      all_goals (first | (case rel => exact ⟨k + 1, by simp, by omega, by (repeat' (first | (with_reducible assumption) | (with_reducible exact Below.refl _ _) | (with_reducible refine Below.alloc ?_ ?_ _) | (with_reducible refine Below.setCell ?_ ?_ _) | (with_reducible refine Below.drew ?_) | (with_reducible refine below_more ?_ (by with_reducible assumption)) | go_size | omega | (with_reducible refine below_drewN ?_)))⟩) | (case measure => simp [intOf]; omega))
    · have hkz : k = os.length := by omega
      subst hkz
      (repeat' (first | go_values | go_skip | go_guarded | go_step | go_upon | (simp only [Int.not_lt, Int.not_le] at *; go_simp) | (go_values <;> (try go_simp)) | (go_ite <;> go_prune <;> (try go_simp)) | (split <;> (first | (rename_i hx; exact (hx _ rfl).elim) | go_prune))))
      go_ret
      exact ⟨rfl, hB⟩

set_option maxHeartbeats 4000000 in
set_option maxRecDepth 100000 in
theorem known15_any (w : World) : Calls Try.prog 32 #[] w fun e w' => e = .returned (.bool true) ∧ Below w.heap.size w w' := by
  have hseg : segs 2 [1, 2, 5, 6] = [(3, 3), (1, 6)] := by decide
  have E := eqc_self
  have C : ∀ W, SlZ W .i64 (.slice (some ⟨w.heap.size, 0, none⟩) 4 4) [1, 2, 5, 6] → Calls Try.prog 30 #[.slice (some ⟨w.heap.size, 0, none⟩) 4 4, .int .i64 2] W fun e w' =>
      ∃ g cap, e = .returned (.tuple #[.slice (some ⟨g, 0, none⟩) 2 cap, .int .i64 0]) ∧ w'.cell? ⟨g, 0, none⟩ = some (.int .i64 3) ∧ w'.cell? ⟨g, 1, none⟩ = some (.int .i64 3) ∧ w'.cell? ⟨g, 2, none⟩ = some (.int .i64 1) ∧ w'.cell? ⟨g, 3, none⟩ = some (.int .i64 6) ∧ Below W.heap.size W w' := fun W hs => by
    refine (all_any ⟨by decide, by decide⟩ W hs).mono fun e w' ⟨v, he, hr, hb⟩ => ?_
    rw [hseg] at hr
    obtain ⟨a, cap, rfl, hc⟩ := RdC.own hr
    obtain ⟨g, rfl, _, hcs⟩ := hc (by decide)
    have h0 := hcs 0 (by decide)
    have h1 := hcs 1 (by decide)
    exact ⟨g, cap, he, h0.1, h0.2, h1.1, h1.2, hb⟩
  clear hseg
  go_enter Try.func32, Try.ntmps32
  (repeat' (first | go_values | go_skip | go_guarded | go_step | go_upon | (simp only [Int.not_lt, Int.not_le] at *; go_simp) | (go_values <;> (try go_simp)) | (go_ite <;> go_prune <;> (try go_simp)) | (split <;> (first | (rename_i hx; exact (hx _ rfl).elim) | go_prune))))
  have hs : SlZ (w.alloc (.cells #[.int .i64 1, .int .i64 2, .int .i64 5, .int .i64 6] 2)) .i64 (.slice (some ⟨w.heap.size, 0, none⟩) 4 4) [1, 2, 5, 6] := by
    obtain ⟨_, hc, _, hl⟩ := Bx.of (HB.new w #[.int .i64 1, .int .i64 2, .int .i64 5, .int .i64 6] 2 rfl)
    refine ⟨_, 4, 4, rfl, rfl, by decide, by decide, by decide, fun _ => ⟨w.heap.size, 0, rfl, hl, fun i hi => ?_⟩⟩
    match i, hi with
    | 0, _ => simp
    | 1, _ => simp
    | 2, _ => simp
    | 3, _ => simp
  go_at_call 30
  refine (C _ hs).mono ?_
  rintro e w' ⟨g, cap, rfl, h0, h1, h2, h3, hbw⟩
  clear C hs
  (repeat' (first | go_values | go_skip | go_guarded | go_step | go_upon | (simp only [Int.not_lt, Int.not_le] at *; go_simp) | (go_values <;> (try go_simp)) | (go_ite <;> go_prune <;> (try go_simp)) | (split <;> (first | (rename_i hx; exact (hx _ rfl).elim) | go_prune))))
  go_ret
  exact ⟨rfl, by (repeat' (first | (with_reducible assumption) | (with_reducible exact Below.refl _ _) | (with_reducible refine Below.alloc ?_ ?_ _) | (with_reducible refine Below.setCell ?_ ?_ _) | (with_reducible refine Below.drew ?_) | (with_reducible refine below_more ?_ (by with_reducible assumption)) | go_size | omega | (with_reducible refine below_drewN ?_)))⟩
end Go.Proofs.Ytenaeaojnebokaa
