/- The package wide, continued: comparing, numbers, negation, sums. -/
import Derived.Test.YthcboomdkpiflaaRows
import Derived.Test.YthcboomdkpiflaaWide
import Derived.WalkKit
import Derived.ProofKit
import Derived.WalkLawsBesides
import Derived.WalkSpells
import Derived.RegionTactic
import Derived.ChangeAlike
import Derived.BigRegion
import Derived.Deep.QuietTactic
import Derived.BigQuiet
import Derived.Deep.RegionWith
import Derived.Deep.RegionHeld3
import Derived.StillTailTactics
import Derived.Outline
import Derived.Handy
namespace Go.Proofs.Ythcboomdkpiflaa
open Go.ChangeShapes Go.WideShapes Go.ChangeAt Go.RowKit
set_option linter.unusedVariables false
set_option linter.unusedSimpArgs false

theorem still_tail_drew {P : Program} {id : Nat} {Q : Exit → Act → World → Prop} {a : Act} {w : World} {l : List Oper} (n : Nat) (hm : P.follows .mixedOrders = true) (hB : Region.lexTailB .any l.toArray n = true)
    (h : wpStill P l.toArray w.drew (fun a' => wpList P l.toArray Q (l.drop n) a' w.drew) (l.take n) a) : (Code.region id l.toArray true).wp P Q a w := wp_region_still_tail n hm hB h
theorem still_same {P : Program} {f : FuncId} {args : Array Value} {w : World} {v : Value} (h : Calls P f args w fun e w' => e = .returned v ∧ w = w') : Calls P f args w fun e w' => e = .returned v ∧ w' = w :=
  h.mono fun _ _ ⟨he, hm⟩ => ⟨he, hm.symm⟩

theorem cmp_any (x y : Int) (w : World) :
    Calls Try.prog 90 #[.int .u64 x, .int .u64 y] w fun e w' => e = .returned (.int .i64 (cm x y)) ∧ w = w' := by
  by_cases h1 : x < y
  · have e : cm x y = -1 := by unfold cm; rw [if_pos h1]
    rw [e]
    clear e
    go_enter Try.func90, Try.ntmps90
    go_wp2
    go_ret
    exact ⟨rfl, rfl⟩
  · by_cases h2 : y < x
    · have e : cm x y = 1 := by unfold cm; rw [if_neg h1, if_pos h2]
      rw [e]
      clear e
      go_enter Try.func90, Try.ntmps90
      go_wp2
      go_ret
      exact ⟨rfl, rfl⟩
    · have e : cm x y = 0 := by unfold cm; rw [if_neg h1, if_neg h2]
      rw [e]
      clear e
      go_enter Try.func90, Try.ntmps90
      go_wp2
      go_ret
      exact ⟨rfl, rfl⟩

theorem or_any (g : Nat) (a b c d : Int) (w : World) (h0 : w.cell? ⟨g, 0, none⟩ = some (.int .i64 a)) (h1 : w.cell? ⟨g, 1, none⟩ = some (.int .i64 b)) (h2 : w.cell? ⟨g, 2, none⟩ = some (.int .i64 c)) (h3 : w.cell? ⟨g, 3, none⟩ = some (.int .i64 d)) :
    Calls Try.prog 89 #[.slice (some ⟨g, 0, none⟩) 4 4] w fun e w' => e = .returned (.int .i64 (or4 a b c d)) ∧ w = w' := by
  by_cases e0 : a = 0
  · have t0 : (a != 0) = false := by rw [e0]; rfl
    by_cases e1 : b = 0
    · have t1 : (b != 0) = false := by rw [e1]; rfl
      by_cases e2 : c = 0
      · have t2 : (c != 0) = false := by rw [e2]; rfl
        have e : or4 a b c d = d := by simp [or4, e0, e1, e2]
        rw [e]
        clear e e0 e1 e2
        by_cases e3 : d = 0
        · have t3 : (d != 0) = false := by rw [e3]; rfl
          have E := hid e3
          clear e3
          go_enter Try.func89, Try.ntmps89
          go_wp2
          refine wp_loop_rounds 5 ?_
          rw [rounds_succ]
          go_wp2
          rw [rounds_succ]
          go_wp2
          rw [rounds_succ]
          go_wp2
          rw [rounds_succ]
          go_wp2
          rw [rounds_succ]
          go_wp2
          go_ret
          exact ⟨ret_i E.out.symm, rfl⟩
        · have t3 : (d != 0) = true := bne_iff_ne.2 e3
          clear e3
          go_enter Try.func89, Try.ntmps89
          go_wp2
          go_rounds 5
          go_ret
          exact ⟨rfl, rfl⟩
      · have t2 : (c != 0) = true := bne_iff_ne.2 e2
        have e : or4 a b c d = c := by simp [or4, e0, e1, e2]
        rw [e]
        clear e e0 e1 e2
        go_enter Try.func89, Try.ntmps89
        go_wp2
        go_rounds 5
        go_ret
        exact ⟨rfl, rfl⟩
    · have t1 : (b != 0) = true := bne_iff_ne.2 e1
      have e : or4 a b c d = b := by simp [or4, e0, e1]
      rw [e]
      clear e e0 e1
      go_enter Try.func89, Try.ntmps89
      go_wp2
      go_rounds 5
      go_ret
      exact ⟨rfl, rfl⟩
  · have t0 : (a != 0) = true := bne_iff_ne.2 e0
    have e : or4 a b c d = a := by simp [or4, e0]
    rw [e]
    clear e e0
    go_enter Try.func89, Try.ntmps89
    go_wp2
    go_rounds 5
    go_ret
    exact ⟨rfl, rfl⟩

set_option maxRecDepth 100000 in
theorem wcompare_any (a0 a1 a2 a3 b0 b1 b2 b3 : Int) (w : World) :
    Calls Try.prog 85 #[MG a0 a1 a2 a3, MG b0 b1 b2 b3] w fun e w' => e = .returned (.int .i64 (cm4 a0 a1 a2 a3 b0 b1 b2 b3)) ∧ Below w.heap.size w w' := by
  go_enter Try.func85, Try.ntmps85
  go_wp2
  refine still_tail_drew 20 (by kernel_rfl) (by kernel_rfl) ?_
  simp only [List.take_succ_cons, List.take_zero, List.drop_succ_cons, List.drop_zero]
  repeat (first | still_step | still_call (still_same (cmp_any _ _ _)))
  refine wpStill_nil ?_
  go_wp2_with fail
  refine (or_any _ (cm a3 b3) (cm a2 b2) (cm a1 b1) (cm a0 b0) _ (by simp [go_sem]) (by simp [go_sem]) (by simp [go_sem]) (by simp [go_sem])).mono ?_
  rintro e w' ⟨rfl, rfl⟩
  go_wp2
  go_ret
  exact ⟨rfl, by (repeat' (first | (with_reducible exact Below.refl _ _) | (with_reducible refine Below.alloc ?_ ?_ _) | (with_reducible refine Below.setCell ?_ ?_ _) | (with_reducible refine Below.drew ?_) | (with_reducible refine Below.trans ?_ (Below.mono (by with_reducible assumption) ?_)) | go_size))⟩

/-! ### The plain numbers -/
theorem of_any (v : Int) (hv : I64 v) (w : World) :
    Calls Try.prog 38 #[.int .i64 v] w fun e w' => e = .returned (WE v) ∧ Below w.heap.size w w' := by
  obtain ⟨v1, v2⟩ := hv
  by_cases h : v < 0
  · have e : WE v = WV true (IntKind.u64.wrap (-IntKind.u64.wrap v)) 0 0 0 := we_of_neg v ⟨v1, v2⟩ h
    rw [e]
    clear e
    go_enter Try.func38, Try.ntmps38
    go_wp2
    go_returns
    exact ⟨rfl, by (repeat' (first | (with_reducible exact Below.refl _ _) | (with_reducible refine Below.alloc ?_ ?_ _) | (with_reducible refine Below.setCell ?_ ?_ _) | (with_reducible refine Below.drew ?_) | (with_reducible refine Below.trans ?_ (Below.mono (by with_reducible assumption) ?_)) | go_size))⟩
  · have e : WE v = WV false v 0 0 0 := we_uns v ⟨by omega, by omega⟩
    rw [e]
    clear e
    go_enter Try.func38, Try.ntmps38
    go_wp2
    go_returns
    exact ⟨rfl, by (repeat' (first | (with_reducible exact Below.refl _ _) | (with_reducible refine Below.alloc ?_ ?_ _) | (with_reducible refine Below.setCell ?_ ?_ _) | (with_reducible refine Below.drew ?_) | (with_reducible refine Below.trans ?_ (Below.mono (by with_reducible assumption) ?_)) | go_size))⟩

theorem neg_any (n : Bool) (a b c d : Int) (ha : U64 a) (hb : U64 b) (hc : U64 c) (hd : U64 d) (w : World) :
    Calls Try.prog 77 #[WV n a b c d] w fun e w' => e = .returned (WE (-wv n a b c d)) ∧ Below w.heap.size w w' := by
  have e : WE (-wv n a b c d) = WV (cn (!cn n a b c d) a b c d) a b c d := we_neg ha hb hc hd
  rw [e]
  clear e ha hb hc hd
  go_enter Try.func77, Try.ntmps77
  go_wp2_with fail
  refine (clean_any _ _ _ _ _ _).mono ?_
  rintro e w1 ⟨rfl, hb1⟩
  have B1 : w1.heap[w.heap.size]? = some (.cells #[.bool n, .int .u64 a, .int .u64 b, .int .u64 c, .int .u64 d] 27 (0, 0)) := (hb1.block _ (by go_size)).trans (blk_old _ (by go_size) (blk_new _ _ rfl))
  obtain ⟨B1c, B1f⟩ := blkc B1
  have B2 : w1.heap[w.heap.size + 1]? = some (.cells #[.bool false, .int .u64 0, .int .u64 0, .int .u64 0, .int .u64 0] 27 (0, 0)) := (hb1.block _ (by go_size)).trans (blk_new _ _ (by go_size))
  obtain ⟨B2c, B2f⟩ := blkc B2
  have H1 := hid hb1
  have hz1 := hb1.size
  simp only [World.size_alloc, World.size_setCell, World.size_drew] at hz1
  clear hb1
  have BB2 := hid B2
  clear B1 B2
  go_wp2_with fail
  refine (signed_any _ _ _ _ _ _).mono ?_
  rintro e w2 ⟨rfl, hb2⟩
  clear B1c B1f B2c B2f
  have D2 : w2.heap[w.heap.size + 1]? = some (.cells #[.bool false, .int .u64 0, .int .u64 0, .int .u64 0, .int .u64 0] 27 (0, 0)) := (hb2.block _ (by go_size)).trans (blk_ne5 _ _ _ _ _ (by omega) BB2.out)
  obtain ⟨D2c, D2f⟩ := blkc D2
  have H2 := hid hb2
  clear hb2 D2
  go_wp2
  refine bodyPost_ret (v := WV (cn (!cn n a b c d) a b c d) a b c d) ?_ rfl ⟨rfl, ?_⟩
  · simp [results, Try.results77, go_sem, D2c]
  · have hb1 := H1.out
    have hb2 := H2.out
    (repeat' (first | (with_reducible exact Below.refl _ _) | (with_reducible refine Below.alloc ?_ ?_ _) | (with_reducible refine Below.setCell ?_ ?_ _) | (with_reducible refine Below.drew ?_) | (with_reducible refine Below.trans ?_ (Below.mono (by with_reducible assumption) ?_)) | go_size))
end Go.Proofs.Ythcboomdkpiflaa
