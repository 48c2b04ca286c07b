/- Proved: tscodeclaw23.TriangleTurns returns true for all arguments. No condition. -/
import Derived.Test.YthcboomdkpiflaaRows
import Derived.Test.YthcboomdkpiflaaTriL
import Derived.Test.YthcboomdkpiflaaDriftO
import Derived.Test.YthcboomdkpiflaaOpen
import Derived.Test.YthcboomdkpiflaaLawT
import Derived.WalkKit
import Derived.ProofKit
import Derived.OpenShut
import Derived.SizedLaws
import Derived.Outline
import Derived.WalkLawsBesides
import Derived.WalkSpells
import Derived.RegionTactic
import Derived.ChangeAlike
import Derived.BigRegion
import Derived.Handy
namespace Go.Proofs.Ythcboomdkpiflaa.triangleTurns
open Go.ChangeShapes Go.WideShapes Go.ChangeAt Go.RowKit
set_option linter.unusedVariables false
set_option linter.unusedSimpArgs false

theorem own : ownKnob Try.prog.godebug = none := by kernel_rfl

/-! ### The plain law -/
theorem ab_neg (z : Int) : ab (-z) = ab z := by unfold ab; split <;> split <;> omega
theorem ar_one (t v bt bv c d : Int) : ar t v bt bv c d 1 = bt * d - bt * v - t * d - c * bv + c * v + t * bv := by
  unfold ar
  simp only [Int.one_mul, Int.sub_mul, Int.mul_sub]
  omega
theorem turn_ba (a b c d e f : Int) : ab (ar c d a b e f 1) = ab (ar a b c d e f 1) := by
  rw [← ab_neg, ar_one, ar_one, Int.mul_comm e b, Int.mul_comm e d, Int.mul_comm a d, Int.mul_comm c b]
  congr 1
  omega
theorem turn_ac (a b c d e f : Int) : ab (ar a b e f c d 1) = ab (ar a b c d e f 1) := by
  rw [← ab_neg, ar_one, ar_one, Int.mul_comm e b, Int.mul_comm e d, Int.mul_comm c f, Int.mul_comm c b]
  congr 1
  omega
theorem turn_ca (a b c d e f : Int) : ab (ar e f a b c d 1) = ab (ar a b c d e f 1) := by
  rw [← turn_ba, turn_ac a b c d e f]
theorem turn_aa (a b e f : Int) : ab (ar a b a b e f 1) = 0 := by
  rw [ar_one, Int.mul_comm e b]
  unfold ab; split <;> omega
theorem turn_line (a b c d n : Int) : ab (ar a b c d (a + n * (c - a)) (b + n * (d - b)) 1) = 0 := by
  have : ar a b c d (a + n * (c - a)) (b + n * (d - b)) 1 = 0 := by
    unfold ar
    rw [Int.one_mul, Int.one_mul, show b + n * (d - b) - b = n * (d - b) by omega, show a + n * (c - a) - a = n * (c - a) by omega, ← Int.mul_assoc, Int.mul_comm (c - a) n]
    omega
  rw [this]
  rfl
theorem line_le {n x : Int} (h1 : -50 ≤ n) (h2 : n ≤ 50) (h3 : -2000 ≤ x) (h4 : x ≤ 2000) : -100000 ≤ n * x ∧ n * x ≤ 100000 := by
  have := abs_mul_le (x := n) (y := x) (p := 50) (q := 2000) (by omega) (by omega)
  omega

theorem unhid {p : Prop} (h : Hid p) : p := h
theorem K1 {t0 v0 t1 v1 t2 v2 D O : Int} (s0 : I64 t0) (s0' : I64 v0) (s1 : I64 t1) (s1' : I64 v1) (s2 : I64 t2) (s2' : I64 v2) (hD : Hid (D = ab (ar t0 v0 t1 v1 t2 v2 1))) (hO : Hid (O = 0)) : ∀ W, Calls Try.prog 16 #[.agg #[.int .i64 t0, .int .i64 v0], .agg #[.int .i64 t1, .int .i64 v1], .agg #[.int .i64 t2, .int .i64 v2]] W fun e w' => e = .returned (WE D) ∧ Below W.heap.size W w' := fun W => by
    rw [unhid hD]; exact doubled_any s0 s0' s1 s1' s2 s2' W
theorem K2 {t0 v0 t1 v1 t2 v2 D O : Int} (s0 : I64 t0) (s0' : I64 v0) (s1 : I64 t1) (s1' : I64 v1) (s2 : I64 t2) (s2' : I64 v2) (hD : Hid (D = ab (ar t0 v0 t1 v1 t2 v2 1))) (hO : Hid (O = 0)) : ∀ W, Calls Try.prog 16 #[.agg #[.int .i64 t1, .int .i64 v1], .agg #[.int .i64 t0, .int .i64 v0], .agg #[.int .i64 t2, .int .i64 v2]] W fun e w' => e = .returned (WE D) ∧ Below W.heap.size W w' := fun W => by
    rw [unhid hD, ← turn_ba]; exact doubled_any s1 s1' s0 s0' s2 s2' W
theorem K3 {t0 v0 t1 v1 t2 v2 D O : Int} (s0 : I64 t0) (s0' : I64 v0) (s1 : I64 t1) (s1' : I64 v1) (s2 : I64 t2) (s2' : I64 v2) (hD : Hid (D = ab (ar t0 v0 t1 v1 t2 v2 1))) (hO : Hid (O = 0)) : ∀ W, Calls Try.prog 16 #[.agg #[.int .i64 t0, .int .i64 v0], .agg #[.int .i64 t2, .int .i64 v2], .agg #[.int .i64 t1, .int .i64 v1]] W fun e w' => e = .returned (WE D) ∧ Below W.heap.size W w' := fun W => by
    rw [unhid hD, ← turn_ac]; exact doubled_any s0 s0' s2 s2' s1 s1' W
theorem K4 {t0 v0 t1 v1 t2 v2 D O : Int} (s0 : I64 t0) (s0' : I64 v0) (s1 : I64 t1) (s1' : I64 v1) (s2 : I64 t2) (s2' : I64 v2) (hD : Hid (D = ab (ar t0 v0 t1 v1 t2 v2 1))) (hO : Hid (O = 0)) : ∀ W, Calls Try.prog 16 #[.agg #[.int .i64 t2, .int .i64 v2], .agg #[.int .i64 t0, .int .i64 v0], .agg #[.int .i64 t1, .int .i64 v1]] W fun e w' => e = .returned (WE D) ∧ Below W.heap.size W w' := fun W => by
    rw [unhid hD, ← turn_ca]; exact doubled_any s2 s2' s0 s0' s1 s1' W
theorem K5 {t0 v0 t1 v1 t2 v2 D O : Int} (s0 : I64 t0) (s0' : I64 v0) (s1 : I64 t1) (s1' : I64 v1) (s2 : I64 t2) (s2' : I64 v2) (hD : Hid (D = ab (ar t0 v0 t1 v1 t2 v2 1))) (hO : Hid (O = 0)) : ∀ W, Calls Try.prog 16 #[.agg #[.int .i64 t0, .int .i64 v0], .agg #[.int .i64 t0, .int .i64 v0], .agg #[.int .i64 t2, .int .i64 v2]] W fun e w' => e = .returned (WE O) ∧ Below W.heap.size W w' := fun W => by
    rw [unhid hO, ← turn_aa t0 v0 t2 v2]; exact doubled_any s0 s0' s0 s0' s2 s2' W
theorem K7 {t0 v0 t1 v1 t2 v2 D O : Int} (s0 : I64 t0) (s0' : I64 v0) (s1 : I64 t1) (s1' : I64 v1) (s2 : I64 t2) (s2' : I64 v2) (hD : Hid (D = ab (ar t0 v0 t1 v1 t2 v2 1))) (hO : Hid (O = 0)) : ∀ W, Calls Try.prog 20 #[.int .i64 0] W fun e w' => e = .returned (WE O) ∧ Below W.heap.size W w' := fun W => by
    rw [unhid hO]; exact rOf_any 0 ⟨by decide, by decide⟩ W
theorem K6 {a b c d n x y O : Int} (ha : 0 ≤ a) (ha' : a < 2000) (hb : 0 ≤ b) (hb' : b < 2000) (hc : 0 ≤ c) (hc' : c < 2000) (hd : 0 ≤ d) (hd' : d < 2000) (hn : 0 ≤ n) (hn' : n < 100) (hx : Hid (wrap64 (a + wrap64 ((n - 50) * (c - a))) = x)) (hy : Hid (wrap64 (b + wrap64 ((n - 50) * (d - b))) = y)) (hO : Hid (O = 0)) (W : World) :
    Calls Try.prog 16 #[.agg #[.int .i64 a, .int .i64 b], .agg #[.int .i64 c, .int .i64 d], .agg #[.int .i64 x, .int .i64 y]] W fun e w' => e = .returned (WE O) ∧ Below W.heap.size W w' := by
  have h1 := line_le (n := n - 50) (x := c - a) (by omega) (by omega) (by omega) (by omega)
  have h2 := line_le (n := n - 50) (x := d - b) (by omega) (by omega) (by omega) (by omega)
  have hx' := unhid hx
  have hy' := unhid hy
  rw [IntWalk.wrap64_in ((n - 50) * (c - a)) ⟨by omega, by omega⟩, IntWalk.wrap64_in (a + (n - 50) * (c - a)) ⟨by omega, by omega⟩] at hx'
  rw [IntWalk.wrap64_in ((n - 50) * (d - b)) ⟨by omega, by omega⟩, IntWalk.wrap64_in (b + (n - 50) * (d - b)) ⟨by omega, by omega⟩] at hy'
  rw [unhid hO, ← turn_line a b c d (n - 50), ← hx', ← hy']
  exact doubled_any ⟨by omega, by omega⟩ ⟨by omega, by omega⟩ ⟨by omega, by omega⟩ ⟨by omega, by omega⟩ ⟨by omega, by omega⟩ ⟨by omega, by omega⟩ W


set_option maxHeartbeats 8000000 in
set_option maxRecDepth 100000 in
theorem walk (w : World) (t0 v0 : Int) (hs0 : I64 t0 ∧ I64 v0) (t1 v1 : Int) (hs1 : I64 t1 ∧ I64 v1) (t2 v2 : Int) (hs2 : I64 t2 ∧ I64 v2) (s3 : Option Addr) (l3 c3 : Nat) (z3 : List Int) (h3 : SlZ w .i64 (.slice s3 l3 c3) z3) :
    Calls Try.prog 4 #[.agg #[.int .i64 t0, .int .i64 v0], .agg #[.int .i64 t1, .int .i64 v1], .agg #[.int .i64 t2, .int .i64 v2], .slice s3 l3 c3] w fun e w' => e = .returned (.bool true) ∧ Below w.heap.size w w' := by
  obtain ⟨s0, s0'⟩ := hs0
  obtain ⟨s1, s1'⟩ := hs1
  obtain ⟨s2, s2'⟩ := hs2
  obtain ⟨D, hD0⟩ : ∃ D, D = ab (ar t0 v0 t1 v1 t2 v2 1) := ⟨_, rfl⟩
  obtain ⟨O, hO0⟩ : ∃ O : Int, O = 0 := ⟨_, rfl⟩
  have hD := hid hD0
  have hO := hid hO0
  clear hD0 hO0
  have hG := grown_refl w (some (w.heap.size + 1 + 1 + 1))
  have E := eq_self
  go_enter Try.func4, Try.ntmps4
  (repeat' (first | (go_big_may; (first | (go_at_call 11; refine (new_tape (SlZ.below h3 (by (repeat' (first | (with_reducible assumption) | (with_reducible exact Below.refl _ _) | (with_reducible refine Below.alloc ?_ ?_ _) | (with_reducible refine Below.setCell ?_ ?_ _) | (with_reducible refine Below.drew ?_) | (with_reducible refine below_more ?_ (by with_reducible assumption)) | go_size | omega | (with_reducible refine below_drewN ?_)))))).mono ?_; rintro e w' ⟨rfl, ht, hbw⟩; have hle := ht.leB; have N1 := Bx.of (HB.below (b := w.heap.size) (cs := #[.int .i64 t0, .int .i64 v0]) (by (repeat' (first | (with_reducible assumption) | ((with_reducible refine HB.new _ _ _ ?_) <;> (go_size; done)) | (with_reducible refine HB.old (by go_size) ?_) | (with_reducible refine HB.drew ?_) | (with_reducible refine HB.over5 ?_) | (with_reducible refine HB.over4 ?_) | (with_reducible refine HB.setne (by first | go_size | (dsimp only; omega)) ?_) | (with_reducible refine HN.set ?_) | (with_reducible refine HN.setne (by first | go_size | (dsimp only; omega)) ?_) | (with_reducible refine HN.drew ?_) | (with_reducible refine HN.old (by go_size) ?_) | (with_reducible exact HN.of5 (by assumption)) | (with_reducible exact HN.new5 _ _ (by go_size)) | (with_reducible exact HN.of4 (by assumption)) | (with_reducible exact HN.new4 _ _ (by go_size))))) hbw); have N2 := Bx.of (HB.below (b := w.heap.size + 1) (cs := #[.int .i64 t1, .int .i64 v1]) (by (repeat' (first | (with_reducible assumption) | ((with_reducible refine HB.new _ _ _ ?_) <;> (go_size; done)) | (with_reducible refine HB.old (by go_size) ?_) | (with_reducible refine HB.drew ?_) | (with_reducible refine HB.over5 ?_) | (with_reducible refine HB.over4 ?_) | (with_reducible refine HB.setne (by first | go_size | (dsimp only; omega)) ?_) | (with_reducible refine HN.set ?_) | (with_reducible refine HN.setne (by first | go_size | (dsimp only; omega)) ?_) | (with_reducible refine HN.drew ?_) | (with_reducible refine HN.old (by go_size) ?_) | (with_reducible exact HN.of5 (by assumption)) | (with_reducible exact HN.new5 _ _ (by go_size)) | (with_reducible exact HN.of4 (by assumption)) | (with_reducible exact HN.new4 _ _ (by go_size))))) hbw); have N3 := Bx.of (HB.below (b := w.heap.size + 1 + 1) (cs := #[.int .i64 t2, .int .i64 v2]) (by (repeat' (first | (with_reducible assumption) | ((with_reducible refine HB.new _ _ _ ?_) <;> (go_size; done)) | (with_reducible refine HB.old (by go_size) ?_) | (with_reducible refine HB.drew ?_) | (with_reducible refine HB.over5 ?_) | (with_reducible refine HB.over4 ?_) | (with_reducible refine HB.setne (by first | go_size | (dsimp only; omega)) ?_) | (with_reducible refine HN.set ?_) | (with_reducible refine HN.setne (by first | go_size | (dsimp only; omega)) ?_) | (with_reducible refine HN.drew ?_) | (with_reducible refine HN.old (by go_size) ?_) | (with_reducible exact HN.of5 (by assumption)) | (with_reducible exact HN.new5 _ _ (by go_size)) | (with_reducible exact HN.of4 (by assumption)) | (with_reducible exact HN.new4 _ _ (by go_size))))) hbw); have hG' : w.grownBy w' (some (w.heap.size + 1 + 1 + 1)) := grown_bel (by (repeat' (first | (with_reducible exact hG) | (with_reducible refine grown_alloc ?_ _) | (with_reducible refine grown_drew ?_) | (with_reducible refine grown_setCell ?_ (.inr (by first | go_size | (dsimp only; omega))) _)))) hbw; clear hG; have hG := hG'; clear hG' hbw; (try simp only [World.size_alloc, World.size_setCell, World.size_drew] at ht hle); obtain ⟨B1, B1c, B1f, B1l⟩ := N1; obtain ⟨B2, B2c, B2f, B2l⟩ := N2; obtain ⟨B3, B3c, B3f, B3l⟩ := N3) | (go_at_call 14; (with_reducible show Calls _ _ #[_, .int .i64 2000] _ _); refine (next_in (B := w.heap.size + 1 + 1 + 1 + 1) _ 2000 (by decide) (by decide) _ (by (repeat' (first | (with_reducible exact ht) | (with_reducible refine TapeOk.alloc ?_ _) | (with_reducible refine TapeOk.drew ?_) | (with_reducible refine TapeOk.setc (by first | go_size | (dsimp only; omega)) ?_))))).mono ?_; (first | (have t_ := mk1_4; clear t_; rintro e w' ⟨r5, ⟨r15, r25⟩, rfl, ht', hg⟩; have mk1_5 := True.intro) | (have t_ := mk1_3; clear t_; rintro e w' ⟨r4, ⟨r14, r24⟩, rfl, ht', hg⟩; have mk1_4 := True.intro) | (have t_ := mk1_2; clear t_; rintro e w' ⟨r3, ⟨r13, r23⟩, rfl, ht', hg⟩; have mk1_3 := True.intro) | (have t_ := mk1_1; clear t_; rintro e w' ⟨r2, ⟨r12, r22⟩, rfl, ht', hg⟩; have mk1_2 := True.intro) | (rintro e w' ⟨r1, ⟨r11, r21⟩, rfl, ht', hg⟩; have mk1_1 := True.intro)); have N1 := Bx.of (HB.gne (b := w.heap.size) (cs := #[.int .i64 t0, .int .i64 v0]) (by (repeat' (first | (with_reducible assumption) | ((with_reducible refine HB.new _ _ _ ?_) <;> (go_size; done)) | (with_reducible refine HB.old (by go_size) ?_) | (with_reducible refine HB.drew ?_) | (with_reducible refine HB.over5 ?_) | (with_reducible refine HB.over4 ?_) | (with_reducible refine HB.setne (by first | go_size | (dsimp only; omega)) ?_) | (with_reducible refine HN.set ?_) | (with_reducible refine HN.setne (by first | go_size | (dsimp only; omega)) ?_) | (with_reducible refine HN.drew ?_) | (with_reducible refine HN.old (by go_size) ?_) | (with_reducible exact HN.of5 (by assumption)) | (with_reducible exact HN.new5 _ _ (by go_size)) | (with_reducible exact HN.of4 (by assumption)) | (with_reducible exact HN.new4 _ _ (by go_size))))) hg (by first | omega | (go_size; done))); have N2 := Bx.of (HB.gne (b := w.heap.size + 1) (cs := #[.int .i64 t1, .int .i64 v1]) (by (repeat' (first | (with_reducible assumption) | ((with_reducible refine HB.new _ _ _ ?_) <;> (go_size; done)) | (with_reducible refine HB.old (by go_size) ?_) | (with_reducible refine HB.drew ?_) | (with_reducible refine HB.over5 ?_) | (with_reducible refine HB.over4 ?_) | (with_reducible refine HB.setne (by first | go_size | (dsimp only; omega)) ?_) | (with_reducible refine HN.set ?_) | (with_reducible refine HN.setne (by first | go_size | (dsimp only; omega)) ?_) | (with_reducible refine HN.drew ?_) | (with_reducible refine HN.old (by go_size) ?_) | (with_reducible exact HN.of5 (by assumption)) | (with_reducible exact HN.new5 _ _ (by go_size)) | (with_reducible exact HN.of4 (by assumption)) | (with_reducible exact HN.new4 _ _ (by go_size))))) hg (by first | omega | (go_size; done))); have N3 := Bx.of (HB.gne (b := w.heap.size + 1 + 1) (cs := #[.int .i64 t2, .int .i64 v2]) (by (repeat' (first | (with_reducible assumption) | ((with_reducible refine HB.new _ _ _ ?_) <;> (go_size; done)) | (with_reducible refine HB.old (by go_size) ?_) | (with_reducible refine HB.drew ?_) | (with_reducible refine HB.over5 ?_) | (with_reducible refine HB.over4 ?_) | (with_reducible refine HB.setne (by first | go_size | (dsimp only; omega)) ?_) | (with_reducible refine HN.set ?_) | (with_reducible refine HN.setne (by first | go_size | (dsimp only; omega)) ?_) | (with_reducible refine HN.drew ?_) | (with_reducible refine HN.old (by go_size) ?_) | (with_reducible exact HN.of5 (by assumption)) | (with_reducible exact HN.new5 _ _ (by go_size)) | (with_reducible exact HN.of4 (by assumption)) | (with_reducible exact HN.new4 _ _ (by go_size))))) hg (by first | omega | (go_size; done))); have hG' : w.grownBy w' (some (w.heap.size + 1 + 1 + 1)) := grown_trans (by (repeat' (first | (with_reducible exact hG) | (with_reducible refine grown_alloc ?_ _) | (with_reducible refine grown_drew ?_) | (with_reducible refine grown_setCell ?_ (.inr (by first | go_size | (dsimp only; omega))) _)))) hg; have hsz := hg.size; clear ht hG; have ht := ht'; have hG := hG'; clear ht' hG'; (try simp only [World.size_alloc, World.size_setCell, World.size_drew] at hsz); clear hg; (try clear B1 B1c B1f B1l); obtain ⟨B1, B1c, B1f, B1l⟩ := N1; (try clear B2 B2c B2f B2l); obtain ⟨B2, B2c, B2f, B2l⟩ := N2; (try clear B3 B3c B3f B3l); obtain ⟨B3, B3c, B3f, B3l⟩ := N3))) | go_values | go_skip | go_guarded | go_step | go_upon | (simp only [Int.not_lt, Int.not_le] at *; go_simp) | (go_values <;> (try go_simp)) | (go_ite <;> go_prune <;> (try go_simp)) | (split <;> (first | (rename_i hx; exact (hx _ rfl).elim) | go_prune))))
  rename World => wp
  
  (repeat' (first | (go_big_may; (first | (go_at_call 14; (with_reducible show Calls _ _ #[_, .int .i64 100] _ _); refine (next_in (B := w.heap.size + 1 + 1 + 1 + 1) _ 100 (by decide) (by decide) _ (by (repeat' (first | (with_reducible exact ht) | (with_reducible refine TapeOk.alloc ?_ _) | (with_reducible refine TapeOk.drew ?_) | (with_reducible refine TapeOk.setc (by first | go_size | (dsimp only; omega)) ?_))))).mono ?_; rintro e w' ⟨n, ⟨n1, n2⟩, rfl, ht', hg⟩; have N1 := Bx.of (HB.gne (b := w.heap.size) (cs := #[.int .i64 t0, .int .i64 v0]) (by (repeat' (first | (with_reducible assumption) | ((with_reducible refine HB.new _ _ _ ?_) <;> (go_size; done)) | (with_reducible refine HB.old (by go_size) ?_) | (with_reducible refine HB.drew ?_) | (with_reducible refine HB.over5 ?_) | (with_reducible refine HB.over4 ?_) | (with_reducible refine HB.setne (by first | go_size | (dsimp only; omega)) ?_) | (with_reducible refine HN.set ?_) | (with_reducible refine HN.setne (by first | go_size | (dsimp only; omega)) ?_) | (with_reducible refine HN.drew ?_) | (with_reducible refine HN.old (by go_size) ?_) | (with_reducible exact HN.of5 (by assumption)) | (with_reducible exact HN.new5 _ _ (by go_size)) | (with_reducible exact HN.of4 (by assumption)) | (with_reducible exact HN.new4 _ _ (by go_size))))) hg (by first | omega | (go_size; done))); have N2 := Bx.of (HB.gne (b := w.heap.size + 1) (cs := #[.int .i64 t1, .int .i64 v1]) (by (repeat' (first | (with_reducible assumption) | ((with_reducible refine HB.new _ _ _ ?_) <;> (go_size; done)) | (with_reducible refine HB.old (by go_size) ?_) | (with_reducible refine HB.drew ?_) | (with_reducible refine HB.over5 ?_) | (with_reducible refine HB.over4 ?_) | (with_reducible refine HB.setne (by first | go_size | (dsimp only; omega)) ?_) | (with_reducible refine HN.set ?_) | (with_reducible refine HN.setne (by first | go_size | (dsimp only; omega)) ?_) | (with_reducible refine HN.drew ?_) | (with_reducible refine HN.old (by go_size) ?_) | (with_reducible exact HN.of5 (by assumption)) | (with_reducible exact HN.new5 _ _ (by go_size)) | (with_reducible exact HN.of4 (by assumption)) | (with_reducible exact HN.new4 _ _ (by go_size))))) hg (by first | omega | (go_size; done))); have N3 := Bx.of (HB.gne (b := w.heap.size + 1 + 1) (cs := #[.int .i64 t2, .int .i64 v2]) (by (repeat' (first | (with_reducible assumption) | ((with_reducible refine HB.new _ _ _ ?_) <;> (go_size; done)) | (with_reducible refine HB.old (by go_size) ?_) | (with_reducible refine HB.drew ?_) | (with_reducible refine HB.over5 ?_) | (with_reducible refine HB.over4 ?_) | (with_reducible refine HB.setne (by first | go_size | (dsimp only; omega)) ?_) | (with_reducible refine HN.set ?_) | (with_reducible refine HN.setne (by first | go_size | (dsimp only; omega)) ?_) | (with_reducible refine HN.drew ?_) | (with_reducible refine HN.old (by go_size) ?_) | (with_reducible exact HN.of5 (by assumption)) | (with_reducible exact HN.new5 _ _ (by go_size)) | (with_reducible exact HN.of4 (by assumption)) | (with_reducible exact HN.new4 _ _ (by go_size))))) hg (by first | omega | (go_size; done))); have N4 := Bx.of (HB.gne (b := wp.heap.size) (cs := #[.int .i64 r1, .int .i64 r2]) (by (repeat' (first | (with_reducible assumption) | ((with_reducible refine HB.new _ _ _ ?_) <;> (go_size; done)) | (with_reducible refine HB.old (by go_size) ?_) | (with_reducible refine HB.drew ?_) | (with_reducible refine HB.over5 ?_) | (with_reducible refine HB.over4 ?_) | (with_reducible refine HB.setne (by first | go_size | (dsimp only; omega)) ?_) | (with_reducible refine HN.set ?_) | (with_reducible refine HN.setne (by first | go_size | (dsimp only; omega)) ?_) | (with_reducible refine HN.drew ?_) | (with_reducible refine HN.old (by go_size) ?_) | (with_reducible exact HN.of5 (by assumption)) | (with_reducible exact HN.new5 _ _ (by go_size)) | (with_reducible exact HN.of4 (by assumption)) | (with_reducible exact HN.new4 _ _ (by go_size))))) hg (by first | omega | (go_size; done))); have N5 := Bx.of (HB.gne (b := wp.heap.size + 1) (cs := #[.int .i64 r3, .int .i64 r4]) (by (repeat' (first | (with_reducible assumption) | ((with_reducible refine HB.new _ _ _ ?_) <;> (go_size; done)) | (with_reducible refine HB.old (by go_size) ?_) | (with_reducible refine HB.drew ?_) | (with_reducible refine HB.over5 ?_) | (with_reducible refine HB.over4 ?_) | (with_reducible refine HB.setne (by first | go_size | (dsimp only; omega)) ?_) | (with_reducible refine HN.set ?_) | (with_reducible refine HN.setne (by first | go_size | (dsimp only; omega)) ?_) | (with_reducible refine HN.drew ?_) | (with_reducible refine HN.old (by go_size) ?_) | (with_reducible exact HN.of5 (by assumption)) | (with_reducible exact HN.new5 _ _ (by go_size)) | (with_reducible exact HN.of4 (by assumption)) | (with_reducible exact HN.new4 _ _ (by go_size))))) hg (by first | omega | (go_size; done))); have hG' : w.grownBy w' (some (w.heap.size + 1 + 1 + 1)) := grown_trans (by (repeat' (first | (with_reducible exact hG) | (with_reducible refine grown_alloc ?_ _) | (with_reducible refine grown_drew ?_) | (with_reducible refine grown_setCell ?_ (.inr (by first | go_size | (dsimp only; omega))) _)))) hg; have hsz := hg.size; clear ht hG; have ht := ht'; have hG := hG'; clear ht' hG'; (try simp only [World.size_alloc, World.size_setCell, World.size_drew] at hsz); clear hg; (try clear B1 B1c B1f B1l); obtain ⟨B1, B1c, B1f, B1l⟩ := N1; (try clear B2 B2c B2f B2l); obtain ⟨B2, B2c, B2f, B2l⟩ := N2; (try clear B3 B3c B3f B3l); obtain ⟨B3, B3c, B3f, B3l⟩ := N3; (try clear B4 B4c B4f B4l); obtain ⟨B4, B4c, B4f, B4l⟩ := N4; (try clear B5 B5c B5f B5l); obtain ⟨B5, B5c, B5f, B5l⟩ := N5))) | go_values | go_skip | go_guarded | go_step | go_upon | (simp only [Int.not_lt, Int.not_le] at *; go_simp) | (go_values <;> (try go_simp)) | (go_ite <;> go_prune <;> (try go_simp)) | (split <;> (first | (rename_i hx; exact (hx _ rfl).elim) | go_prune))))
  generalize hx : wrap64 (r1 + wrap64 ((n - 50) * (r3 - r1))) = zx
  generalize hy : wrap64 (r2 + wrap64 ((n - 50) * (r4 - r2))) = zy
  have hX := hid hx
  have hY := hid hy
  clear hx hy
  have hb0 := below_tape hG (by omega)
  clear hG
  rename World => wq
  
  (repeat' (first | (go_big_may; (first | (go_at_call 16; refine (K1 s0 s0' s1 s1' s2 s2' hD hO _).mono ?_; rintro e w' ⟨rfl, hbw⟩; have N1 := Bx.of (HB.below (b := w.heap.size) (cs := #[.int .i64 t0, .int .i64 v0]) (by (repeat' (first | (with_reducible assumption) | ((with_reducible refine HB.new _ _ _ ?_) <;> (go_size; done)) | (with_reducible refine HB.old (by go_size) ?_) | (with_reducible refine HB.drew ?_) | (with_reducible refine HB.over5 ?_) | (with_reducible refine HB.over4 ?_) | (with_reducible refine HB.setne (by first | go_size | (dsimp only; omega)) ?_) | (with_reducible refine HN.set ?_) | (with_reducible refine HN.setne (by first | go_size | (dsimp only; omega)) ?_) | (with_reducible refine HN.drew ?_) | (with_reducible refine HN.old (by go_size) ?_) | (with_reducible exact HN.of5 (by assumption)) | (with_reducible exact HN.new5 _ _ (by go_size)) | (with_reducible exact HN.of4 (by assumption)) | (with_reducible exact HN.new4 _ _ (by go_size))))) hbw); have N2 := Bx.of (HB.below (b := w.heap.size + 1) (cs := #[.int .i64 t1, .int .i64 v1]) (by (repeat' (first | (with_reducible assumption) | ((with_reducible refine HB.new _ _ _ ?_) <;> (go_size; done)) | (with_reducible refine HB.old (by go_size) ?_) | (with_reducible refine HB.drew ?_) | (with_reducible refine HB.over5 ?_) | (with_reducible refine HB.over4 ?_) | (with_reducible refine HB.setne (by first | go_size | (dsimp only; omega)) ?_) | (with_reducible refine HN.set ?_) | (with_reducible refine HN.setne (by first | go_size | (dsimp only; omega)) ?_) | (with_reducible refine HN.drew ?_) | (with_reducible refine HN.old (by go_size) ?_) | (with_reducible exact HN.of5 (by assumption)) | (with_reducible exact HN.new5 _ _ (by go_size)) | (with_reducible exact HN.of4 (by assumption)) | (with_reducible exact HN.new4 _ _ (by go_size))))) hbw); have N3 := Bx.of (HB.below (b := w.heap.size + 1 + 1) (cs := #[.int .i64 t2, .int .i64 v2]) (by (repeat' (first | (with_reducible assumption) | ((with_reducible refine HB.new _ _ _ ?_) <;> (go_size; done)) | (with_reducible refine HB.old (by go_size) ?_) | (with_reducible refine HB.drew ?_) | (with_reducible refine HB.over5 ?_) | (with_reducible refine HB.over4 ?_) | (with_reducible refine HB.setne (by first | go_size | (dsimp only; omega)) ?_) | (with_reducible refine HN.set ?_) | (with_reducible refine HN.setne (by first | go_size | (dsimp only; omega)) ?_) | (with_reducible refine HN.drew ?_) | (with_reducible refine HN.old (by go_size) ?_) | (with_reducible exact HN.of5 (by assumption)) | (with_reducible exact HN.new5 _ _ (by go_size)) | (with_reducible exact HN.of4 (by assumption)) | (with_reducible exact HN.new4 _ _ (by go_size))))) hbw); have N4 := Bx.of (HB.below (b := wp.heap.size) (cs := #[.int .i64 r1, .int .i64 r2]) (by (repeat' (first | (with_reducible assumption) | ((with_reducible refine HB.new _ _ _ ?_) <;> (go_size; done)) | (with_reducible refine HB.old (by go_size) ?_) | (with_reducible refine HB.drew ?_) | (with_reducible refine HB.over5 ?_) | (with_reducible refine HB.over4 ?_) | (with_reducible refine HB.setne (by first | go_size | (dsimp only; omega)) ?_) | (with_reducible refine HN.set ?_) | (with_reducible refine HN.setne (by first | go_size | (dsimp only; omega)) ?_) | (with_reducible refine HN.drew ?_) | (with_reducible refine HN.old (by go_size) ?_) | (with_reducible exact HN.of5 (by assumption)) | (with_reducible exact HN.new5 _ _ (by go_size)) | (with_reducible exact HN.of4 (by assumption)) | (with_reducible exact HN.new4 _ _ (by go_size))))) hbw); have N5 := Bx.of (HB.below (b := wp.heap.size + 1) (cs := #[.int .i64 r3, .int .i64 r4]) (by (repeat' (first | (with_reducible assumption) | ((with_reducible refine HB.new _ _ _ ?_) <;> (go_size; done)) | (with_reducible refine HB.old (by go_size) ?_) | (with_reducible refine HB.drew ?_) | (with_reducible refine HB.over5 ?_) | (with_reducible refine HB.over4 ?_) | (with_reducible refine HB.setne (by first | go_size | (dsimp only; omega)) ?_) | (with_reducible refine HN.set ?_) | (with_reducible refine HN.setne (by first | go_size | (dsimp only; omega)) ?_) | (with_reducible refine HN.drew ?_) | (with_reducible refine HN.old (by go_size) ?_) | (with_reducible exact HN.of5 (by assumption)) | (with_reducible exact HN.new5 _ _ (by go_size)) | (with_reducible exact HN.of4 (by assumption)) | (with_reducible exact HN.new4 _ _ (by go_size))))) hbw); have N6 := Bx.of (HB.below (b := wq.heap.size) (cs := #[.int .i64 zx, .int .i64 zy]) (by (repeat' (first | (with_reducible assumption) | ((with_reducible refine HB.new _ _ _ ?_) <;> (go_size; done)) | (with_reducible refine HB.old (by go_size) ?_) | (with_reducible refine HB.drew ?_) | (with_reducible refine HB.over5 ?_) | (with_reducible refine HB.over4 ?_) | (with_reducible refine HB.setne (by first | go_size | (dsimp only; omega)) ?_) | (with_reducible refine HN.set ?_) | (with_reducible refine HN.setne (by first | go_size | (dsimp only; omega)) ?_) | (with_reducible refine HN.drew ?_) | (with_reducible refine HN.old (by go_size) ?_) | (with_reducible exact HN.of5 (by assumption)) | (with_reducible exact HN.new5 _ _ (by go_size)) | (with_reducible exact HN.of4 (by assumption)) | (with_reducible exact HN.new4 _ _ (by go_size))))) hbw); (try clear B1 B1c B1f B1l); (try clear B2 B2c B2f B2l); (try clear B3 B3c B3f B3l); (try clear B4 B4c B4f B4l); (try clear B5 B5c B5f B5l); (try clear B6 B6c B6f B6l); obtain ⟨B1, B1c, B1f, B1l⟩ := N1; obtain ⟨B2, B2c, B2f, B2l⟩ := N2; obtain ⟨B3, B3c, B3f, B3l⟩ := N3; obtain ⟨B4, B4c, B4f, B4l⟩ := N4; obtain ⟨B5, B5c, B5f, B5l⟩ := N5; obtain ⟨B6, B6c, B6f, B6l⟩ := N6; have hsz := hbw.size; (try simp only [World.size_alloc, World.size_setCell, World.size_drew] at hsz)))) | go_values | go_skip | go_guarded | go_step | go_upon | (simp only [Int.not_lt, Int.not_le] at *; go_simp) | (go_values <;> (try go_simp)) | (go_ite <;> go_prune <;> (try go_simp)) | (split <;> (first | (rename_i hx; exact (hx _ rfl).elim) | go_prune))))
  rename World => wd
  
  
  
  
  (refine wp_region_dq (row := none) (S := (fun Wz => Below w.heap.size w Wz ∧ w.heap.size ≤ Wz.heap.size ∧ Bx Wz (w.heap.size) (#[.int .i64 t0, .int .i64 v0]) ∧ Bx Wz (w.heap.size + 1) (#[.int .i64 t1, .int .i64 v1]) ∧ Bx Wz (w.heap.size + 1 + 1) (#[.int .i64 t2, .int .i64 v2]) ∧ Bx Wz (wp.heap.size) (#[.int .i64 r1, .int .i64 r2]) ∧ Bx Wz (wp.heap.size + 1) (#[.int .i64 r3, .int .i64 r4]) ∧ Bx Wz (wq.heap.size) (#[.int .i64 zx, .int .i64 zy]) ∧ Bx Wz (wd.heap.size) (#[.bool (sg (D)), .int .u64 (lb0 (ab (D))), .int .u64 (lb1 (ab (D))), .int .u64 (lb2 (ab (D))), .int .u64 (lb3 (ab (D)))]))) (n0 := w.heap.size) 41 [] [(0, 0), (1, 0), (2, 0), (3, 0), (4, 0), (5, 0), (6, 0), (7, 0), (8, 0), (9, 0), (10, 0), (11, 0), (12, 0), (13, 0), (14, 0), (15, 0), (16, 0), (17, 0), (18, 0), (19, 0), (20, 0), (21, 0), (22, 0), (23, 0), (24, 0), (25, 0), (26, 0), (27, 0), (28, 0), (29, 0), (30, 0), (31, 0), (32, 0), (33, 0), (34, 0), (35, 0), (36, 0), (37, 0), (38, 0), (39, 0), (40, 0)] [] (by kernel_rfl) (by kernel_rfl) (fun _ _ d _ _ h => by cases d <;> exact h) ⟨by (repeat' (first | (with_reducible assumption) | (with_reducible exact Below.refl _ _) | (with_reducible refine Below.alloc ?_ ?_ _) | (with_reducible refine Below.setCell ?_ ?_ _) | (with_reducible refine Below.drew ?_) | (with_reducible refine below_more ?_ (by with_reducible assumption)) | go_size | omega | (with_reducible refine below_drewN ?_))), (by first | go_size | omega), Bx.of (by (repeat' (first | (with_reducible assumption) | ((with_reducible refine HB.new _ _ _ ?_) <;> (go_size; done)) | (with_reducible refine HB.old (by go_size) ?_) | (with_reducible refine HB.drew ?_) | (with_reducible refine HB.over5 ?_) | (with_reducible refine HB.over4 ?_) | (with_reducible refine HB.setne (by first | go_size | (dsimp only; omega)) ?_) | (with_reducible refine HN.set ?_) | (with_reducible refine HN.setne (by first | go_size | (dsimp only; omega)) ?_) | (with_reducible refine HN.drew ?_) | (with_reducible refine HN.old (by go_size) ?_) | (with_reducible exact HN.of5 (by assumption)) | (with_reducible exact HN.new5 _ _ (by go_size)) | (with_reducible exact HN.of4 (by assumption)) | (with_reducible exact HN.new4 _ _ (by go_size))))), Bx.of (by (repeat' (first | (with_reducible assumption) | ((with_reducible refine HB.new _ _ _ ?_) <;> (go_size; done)) | (with_reducible refine HB.old (by go_size) ?_) | (with_reducible refine HB.drew ?_) | (with_reducible refine HB.over5 ?_) | (with_reducible refine HB.over4 ?_) | (with_reducible refine HB.setne (by first | go_size | (dsimp only; omega)) ?_) | (with_reducible refine HN.set ?_) | (with_reducible refine HN.setne (by first | go_size | (dsimp only; omega)) ?_) | (with_reducible refine HN.drew ?_) | (with_reducible refine HN.old (by go_size) ?_) | (with_reducible exact HN.of5 (by assumption)) | (with_reducible exact HN.new5 _ _ (by go_size)) | (with_reducible exact HN.of4 (by assumption)) | (with_reducible exact HN.new4 _ _ (by go_size))))), Bx.of (by (repeat' (first | (with_reducible assumption) | ((with_reducible refine HB.new _ _ _ ?_) <;> (go_size; done)) | (with_reducible refine HB.old (by go_size) ?_) | (with_reducible refine HB.drew ?_) | (with_reducible refine HB.over5 ?_) | (with_reducible refine HB.over4 ?_) | (with_reducible refine HB.setne (by first | go_size | (dsimp only; omega)) ?_) | (with_reducible refine HN.set ?_) | (with_reducible refine HN.setne (by first | go_size | (dsimp only; omega)) ?_) | (with_reducible refine HN.drew ?_) | (with_reducible refine HN.old (by go_size) ?_) | (with_reducible exact HN.of5 (by assumption)) | (with_reducible exact HN.new5 _ _ (by go_size)) | (with_reducible exact HN.of4 (by assumption)) | (with_reducible exact HN.new4 _ _ (by go_size))))), Bx.of (by (repeat' (first | (with_reducible assumption) | ((with_reducible refine HB.new _ _ _ ?_) <;> (go_size; done)) | (with_reducible refine HB.old (by go_size) ?_) | (with_reducible refine HB.drew ?_) | (with_reducible refine HB.over5 ?_) | (with_reducible refine HB.over4 ?_) | (with_reducible refine HB.setne (by first | go_size | (dsimp only; omega)) ?_) | (with_reducible refine HN.set ?_) | (with_reducible refine HN.setne (by first | go_size | (dsimp only; omega)) ?_) | (with_reducible refine HN.drew ?_) | (with_reducible refine HN.old (by go_size) ?_) | (with_reducible exact HN.of5 (by assumption)) | (with_reducible exact HN.new5 _ _ (by go_size)) | (with_reducible exact HN.of4 (by assumption)) | (with_reducible exact HN.new4 _ _ (by go_size))))), Bx.of (by (repeat' (first | (with_reducible assumption) | ((with_reducible refine HB.new _ _ _ ?_) <;> (go_size; done)) | (with_reducible refine HB.old (by go_size) ?_) | (with_reducible refine HB.drew ?_) | (with_reducible refine HB.over5 ?_) | (with_reducible refine HB.over4 ?_) | (with_reducible refine HB.setne (by first | go_size | (dsimp only; omega)) ?_) | (with_reducible refine HN.set ?_) | (with_reducible refine HN.setne (by first | go_size | (dsimp only; omega)) ?_) | (with_reducible refine HN.drew ?_) | (with_reducible refine HN.old (by go_size) ?_) | (with_reducible exact HN.of5 (by assumption)) | (with_reducible exact HN.new5 _ _ (by go_size)) | (with_reducible exact HN.of4 (by assumption)) | (with_reducible exact HN.new4 _ _ (by go_size))))), Bx.of (by (repeat' (first | (with_reducible assumption) | ((with_reducible refine HB.new _ _ _ ?_) <;> (go_size; done)) | (with_reducible refine HB.old (by go_size) ?_) | (with_reducible refine HB.drew ?_) | (with_reducible refine HB.over5 ?_) | (with_reducible refine HB.over4 ?_) | (with_reducible refine HB.setne (by first | go_size | (dsimp only; omega)) ?_) | (with_reducible refine HN.set ?_) | (with_reducible refine HN.setne (by first | go_size | (dsimp only; omega)) ?_) | (with_reducible refine HN.drew ?_) | (with_reducible refine HN.old (by go_size) ?_) | (with_reducible exact HN.of5 (by assumption)) | (with_reducible exact HN.new5 _ _ (by go_size)) | (with_reducible exact HN.of4 (by assumption)) | (with_reducible exact HN.new4 _ _ (by go_size))))), Bx.of (by (repeat' (first | (with_reducible assumption) | ((with_reducible refine HB.new _ _ _ ?_) <;> (go_size; done)) | (with_reducible refine HB.old (by go_size) ?_) | (with_reducible refine HB.drew ?_) | (with_reducible refine HB.over5 ?_) | (with_reducible refine HB.over4 ?_) | (with_reducible refine HB.setne (by first | go_size | (dsimp only; omega)) ?_) | (with_reducible refine HN.set ?_) | (with_reducible refine HN.setne (by first | go_size | (dsimp only; omega)) ?_) | (with_reducible refine HN.drew ?_) | (with_reducible refine HN.old (by go_size) ?_) | (with_reducible exact HN.of5 (by assumption)) | (with_reducible exact HN.new5 _ _ (by go_size)) | (with_reducible exact HN.of4 (by assumption)) | (with_reducible exact HN.new4 _ _ (by go_size)))))⟩ (fun _ _ h g => keep7 h (below_gt g) rfl) (fun _ h => h.2.1) (fun _ h => by cases h) (by simp) ?_)
  refine dqo_start ?_
  intro af0 hA
  have Z := size_lit (n := 96) hA (by rfl)
  have D := defers_lit hA
  have F4 := ev_lit (t := 4) hA (by rfl)
  have F5 := ev_lit (t := 5) hA (by rfl)
  have F6 := ev_lit (t := 6) hA (by rfl)
  have F8 := ev_lit (t := 8) hA (by rfl)
  have F10 := ev_lit (t := 10) hA (by rfl)
  have F11 := ev_lit (t := 11) hA (by rfl)
  have F13 := ev_lit (t := 13) hA (by rfl)
  have F14 := ev_lit (t := 14) hA (by rfl)
  clear hA
  refine' dqo_call (d := 55) (by rfl) (by rfl) Z (by rfl) (wanted_not (by rfl)) ?hv2 ?hc2 ?rest2
  case hv2 => (intro ρ hρ; have Ec := hρ.2.1; have Ef := hρ.2.2.1; clear hρ; intro w; go_simp; exact ⟨rfl, rfl⟩)
  case hc2 => exact (fun w hw => calls_gt (known23_any _))
  case' rest2 => intro af1 Zn Nx
  replace F4 := (Nx.2.2.1 4 rfl).trans F4
  replace F5 := (Nx.2.2.1 5 rfl).trans F5
  replace F6 := (Nx.2.2.1 6 rfl).trans F6
  replace F8 := (Nx.2.2.1 8 rfl).trans F8
  replace F10 := (Nx.2.2.1 10 rfl).trans F10
  replace F11 := (Nx.2.2.1 11 rfl).trans F11
  replace F13 := (Nx.2.2.1 13 rfl).trans F13
  replace F14 := (Nx.2.2.1 14 rfl).trans F14
  have F55 := Nx.2.1
  replace D := Nx.2.2.2.trans D
  clear Z Nx
  have Z := Zn
  clear Zn af0
  refine' dqo_pure (d := 56) (by rfl) (by rfl) Z (by rfl) (wanted_not (by rfl)) ?hv3 ?rest3
  case hv3 => (intro ρ hρ; have E55 := (hρ.1 55).trans F55; have Ec := hρ.2.1; have Ef := hρ.2.2.1; clear hρ; intro w hw; (try dsimp only at hw); go_split_ands; go_simp; try with_reducible rfl)
  case' rest3 => intro af2 Zn Nx
  replace F4 := (Nx.2.2.1 4 rfl).trans F4
  replace F5 := (Nx.2.2.1 5 rfl).trans F5
  replace F6 := (Nx.2.2.1 6 rfl).trans F6
  replace F8 := (Nx.2.2.1 8 rfl).trans F8
  replace F10 := (Nx.2.2.1 10 rfl).trans F10
  replace F11 := (Nx.2.2.1 11 rfl).trans F11
  replace F13 := (Nx.2.2.1 13 rfl).trans F13
  replace F14 := (Nx.2.2.1 14 rfl).trans F14
  clear F55
  have F56 := Nx.2.1
  replace D := Nx.2.2.2.trans D
  clear Z Nx
  have Z := Zn
  clear Zn af1
  refine' dqo_pure (d := 57) (by rfl) (by rfl) Z (by rfl) (wanted_yes (by rfl) (by rfl) F56) ?hv4 ?rest4
  case hv4 => (intro ρ hρ; have E14 := (hρ.1 14).trans F14; have Ec := hρ.2.1; have Ef := hρ.2.2.1; clear hρ; intro w hw; (try dsimp only at hw); go_split_ands; go_simp; try with_reducible rfl)
  case' rest4 => intro af3 Zn Nx
  replace F4 := (Nx.2.2.1 4 rfl).trans F4
  replace F5 := (Nx.2.2.1 5 rfl).trans F5
  replace F6 := (Nx.2.2.1 6 rfl).trans F6
  replace F8 := (Nx.2.2.1 8 rfl).trans F8
  replace F10 := (Nx.2.2.1 10 rfl).trans F10
  replace F11 := (Nx.2.2.1 11 rfl).trans F11
  replace F13 := (Nx.2.2.1 13 rfl).trans F13
  replace F14 := (Nx.2.2.1 14 rfl).trans F14
  replace F56 := (Nx.2.2.1 56 rfl).trans F56
  have F57 := Nx.2.1
  replace D := Nx.2.2.2.trans D
  clear Z Nx
  have Z := Zn
  clear Zn af2
  refine' dqo_pure (d := 58) (by rfl) (by rfl) Z (by rfl) (wanted_yes (by rfl) (by rfl) F56) ?hv5 ?rest5
  case hv5 => (intro ρ hρ; have E5 := (hρ.1 5).trans F5; have Ec := hρ.2.1; have Ef := hρ.2.2.1; clear hρ; intro w hw; (try dsimp only at hw); go_split_ands; go_simp; try with_reducible rfl)
  case' rest5 => intro af4 Zn Nx
  replace F4 := (Nx.2.2.1 4 rfl).trans F4
  replace F5 := (Nx.2.2.1 5 rfl).trans F5
  replace F6 := (Nx.2.2.1 6 rfl).trans F6
  replace F8 := (Nx.2.2.1 8 rfl).trans F8
  replace F10 := (Nx.2.2.1 10 rfl).trans F10
  replace F11 := (Nx.2.2.1 11 rfl).trans F11
  replace F13 := (Nx.2.2.1 13 rfl).trans F13
  replace F14 := (Nx.2.2.1 14 rfl).trans F14
  replace F56 := (Nx.2.2.1 56 rfl).trans F56
  replace F57 := (Nx.2.2.1 57 rfl).trans F57
  have F58 := Nx.2.1
  replace D := Nx.2.2.2.trans D
  clear Z Nx
  have Z := Zn
  clear Zn af3
  refine' dqo_pure (d := 59) (by rfl) (by rfl) Z (by rfl) (wanted_yes (by rfl) (by rfl) F56) ?hv6 ?rest6
  case hv6 => (intro ρ hρ; have E4 := (hρ.1 4).trans F4; have Ec := hρ.2.1; have Ef := hρ.2.2.1; clear hρ; intro w hw; (try dsimp only at hw); go_split_ands; go_simp; try with_reducible rfl)
  case' rest6 => intro af5 Zn Nx
  replace F4 := (Nx.2.2.1 4 rfl).trans F4
  replace F5 := (Nx.2.2.1 5 rfl).trans F5
  replace F6 := (Nx.2.2.1 6 rfl).trans F6
  replace F8 := (Nx.2.2.1 8 rfl).trans F8
  replace F10 := (Nx.2.2.1 10 rfl).trans F10
  replace F11 := (Nx.2.2.1 11 rfl).trans F11
  replace F13 := (Nx.2.2.1 13 rfl).trans F13
  replace F14 := (Nx.2.2.1 14 rfl).trans F14
  replace F56 := (Nx.2.2.1 56 rfl).trans F56
  replace F57 := (Nx.2.2.1 57 rfl).trans F57
  replace F58 := (Nx.2.2.1 58 rfl).trans F58
  have F59 := Nx.2.1
  replace D := Nx.2.2.2.trans D
  clear Z Nx
  have Z := Zn
  clear Zn af4
  refine' dqo_pure (d := 60) (by rfl) (by rfl) Z (by rfl) (wanted_yes (by rfl) (by rfl) F56) ?hv7 ?rest7
  case hv7 => (intro ρ hρ; have E6 := (hρ.1 6).trans F6; have Ec := hρ.2.1; have Ef := hρ.2.2.1; clear hρ; intro w hw; (try dsimp only at hw); go_split_ands; go_simp; try with_reducible rfl)
  case' rest7 => intro af6 Zn Nx
  replace F4 := (Nx.2.2.1 4 rfl).trans F4
  replace F5 := (Nx.2.2.1 5 rfl).trans F5
  replace F6 := (Nx.2.2.1 6 rfl).trans F6
  replace F8 := (Nx.2.2.1 8 rfl).trans F8
  replace F10 := (Nx.2.2.1 10 rfl).trans F10
  replace F11 := (Nx.2.2.1 11 rfl).trans F11
  replace F13 := (Nx.2.2.1 13 rfl).trans F13
  replace F14 := (Nx.2.2.1 14 rfl).trans F14
  replace F56 := (Nx.2.2.1 56 rfl).trans F56
  replace F57 := (Nx.2.2.1 57 rfl).trans F57
  replace F58 := (Nx.2.2.1 58 rfl).trans F58
  replace F59 := (Nx.2.2.1 59 rfl).trans F59
  have F60 := Nx.2.1
  replace D := Nx.2.2.2.trans D
  clear Z Nx
  have Z := Zn
  clear Zn af5
  refine' dqo_call (d := 61) (by rfl) (by rfl) Z (by rfl) (wanted_yes (by rfl) (by rfl) F56) ?hv8 ?hc8 ?rest8
  case hv8 => (intro ρ hρ; have E58 := (hρ.1 58).trans F58; have E59 := (hρ.1 59).trans F59; have E60 := (hρ.1 60).trans F60; have Ec := hρ.2.1; have Ef := hρ.2.2.1; clear hρ; intro w; go_simp; exact ⟨rfl, rfl⟩)
  case hc8 => exact (fun w hw => by first | (with_reducible exact calls_gt (K2 s0 s0' s1 s1' s2 s2' hD hO _)) | (with_reducible exact calls_gt (K3 s0 s0' s1 s1' s2 s2' hD hO _)) | (with_reducible exact calls_gt (K4 s0 s0' s1 s1' s2 s2' hD hO _)) | (with_reducible exact calls_gt (K5 s0 s0' s1 s1' s2 s2' hD hO _)) | (with_reducible exact calls_gt (K6 r11 r21 r12 r22 r13 r23 r14 r24 n1 n2 hX hY hO _)))
  case' rest8 => intro af7 Zn Nx
  replace F4 := (Nx.2.2.1 4 rfl).trans F4
  replace F5 := (Nx.2.2.1 5 rfl).trans F5
  replace F6 := (Nx.2.2.1 6 rfl).trans F6
  replace F8 := (Nx.2.2.1 8 rfl).trans F8
  replace F10 := (Nx.2.2.1 10 rfl).trans F10
  replace F11 := (Nx.2.2.1 11 rfl).trans F11
  replace F13 := (Nx.2.2.1 13 rfl).trans F13
  replace F14 := (Nx.2.2.1 14 rfl).trans F14
  replace F56 := (Nx.2.2.1 56 rfl).trans F56
  replace F57 := (Nx.2.2.1 57 rfl).trans F57
  clear F58
  clear F59
  clear F60
  have F61 := Nx.2.1
  replace D := Nx.2.2.2.trans D
  clear Z Nx
  have Z := Zn
  clear Zn af6
  refine' dqo_pure (d := 62) (by rfl) (by rfl) Z (by rfl) (wanted_yes (by rfl) (by rfl) F56) ?hv9 ?rest9
  case hv9 => (intro ρ hρ; have E57 := (hρ.1 57).trans F57; have E61 := (hρ.1 61).trans F61; have Ec := hρ.2.1; have Ef := hρ.2.2.1; clear hρ; intro w hw; (try dsimp only at hw); go_split_ands; go_simp; try with_reducible rfl)
  case' rest9 => intro af8 Zn Nx
  replace F4 := (Nx.2.2.1 4 rfl).trans F4
  replace F5 := (Nx.2.2.1 5 rfl).trans F5
  replace F6 := (Nx.2.2.1 6 rfl).trans F6
  replace F8 := (Nx.2.2.1 8 rfl).trans F8
  replace F10 := (Nx.2.2.1 10 rfl).trans F10
  replace F11 := (Nx.2.2.1 11 rfl).trans F11
  replace F13 := (Nx.2.2.1 13 rfl).trans F13
  replace F14 := (Nx.2.2.1 14 rfl).trans F14
  replace F56 := (Nx.2.2.1 56 rfl).trans F56
  clear F57
  clear F61
  have F62 := Nx.2.1
  replace D := Nx.2.2.2.trans D
  clear Z Nx
  have Z := Zn
  clear Zn af7
  refine' dqo_pure (d := 63) (by rfl) (by rfl) Z (by rfl) (wanted_not (by rfl)) ?hv10 ?rest10
  case hv10 => (intro ρ hρ; have E56 := (hρ.1 56).trans F56; have E62 := (hρ.1 62).trans F62; have Ec := hρ.2.1; have Ef := hρ.2.2.1; clear hρ; intro w hw; (try dsimp only at hw); go_split_ands; go_simp; try with_reducible rfl)
  case' rest10 => intro af9 Zn Nx
  replace F4 := (Nx.2.2.1 4 rfl).trans F4
  replace F5 := (Nx.2.2.1 5 rfl).trans F5
  replace F6 := (Nx.2.2.1 6 rfl).trans F6
  replace F8 := (Nx.2.2.1 8 rfl).trans F8
  replace F10 := (Nx.2.2.1 10 rfl).trans F10
  replace F11 := (Nx.2.2.1 11 rfl).trans F11
  replace F13 := (Nx.2.2.1 13 rfl).trans F13
  replace F14 := (Nx.2.2.1 14 rfl).trans F14
  clear F56
  clear F62
  have F63 := Nx.2.1
  replace D := Nx.2.2.2.trans D
  clear Z Nx
  have Z := Zn
  clear Zn af8
  refine' dqo_pure (d := 64) (by rfl) (by rfl) Z (by rfl) (wanted_not (by rfl)) ?hv11 ?rest11
  case hv11 => (intro ρ hρ; have E63 := (hρ.1 63).trans F63; have Ec := hρ.2.1; have Ef := hρ.2.2.1; clear hρ; intro w hw; (try dsimp only at hw); go_split_ands; go_simp; try with_reducible rfl)
  case' rest11 => intro af10 Zn Nx
  replace F4 := (Nx.2.2.1 4 rfl).trans F4
  replace F5 := (Nx.2.2.1 5 rfl).trans F5
  replace F6 := (Nx.2.2.1 6 rfl).trans F6
  replace F8 := (Nx.2.2.1 8 rfl).trans F8
  replace F10 := (Nx.2.2.1 10 rfl).trans F10
  replace F11 := (Nx.2.2.1 11 rfl).trans F11
  replace F13 := (Nx.2.2.1 13 rfl).trans F13
  replace F14 := (Nx.2.2.1 14 rfl).trans F14
  clear F63
  have F64 := Nx.2.1
  replace D := Nx.2.2.2.trans D
  clear Z Nx
  have Z := Zn
  clear Zn af9
  refine' dqo_pure (d := 65) (by rfl) (by rfl) Z (by rfl) (wanted_yes (by rfl) (by rfl) F64) ?hv12 ?rest12
  case hv12 => (intro ρ hρ; have E14 := (hρ.1 14).trans F14; have Ec := hρ.2.1; have Ef := hρ.2.2.1; clear hρ; intro w hw; (try dsimp only at hw); go_split_ands; go_simp; try with_reducible rfl)
  case' rest12 => intro af11 Zn Nx
  replace F4 := (Nx.2.2.1 4 rfl).trans F4
  replace F5 := (Nx.2.2.1 5 rfl).trans F5
  replace F6 := (Nx.2.2.1 6 rfl).trans F6
  replace F8 := (Nx.2.2.1 8 rfl).trans F8
  replace F10 := (Nx.2.2.1 10 rfl).trans F10
  replace F11 := (Nx.2.2.1 11 rfl).trans F11
  replace F13 := (Nx.2.2.1 13 rfl).trans F13
  replace F14 := (Nx.2.2.1 14 rfl).trans F14
  replace F64 := (Nx.2.2.1 64 rfl).trans F64
  have F65 := Nx.2.1
  replace D := Nx.2.2.2.trans D
  clear Z Nx
  have Z := Zn
  clear Zn af10
  refine' dqo_pure (d := 66) (by rfl) (by rfl) Z (by rfl) (wanted_yes (by rfl) (by rfl) F64) ?hv13 ?rest13
  case hv13 => (intro ρ hρ; have E4 := (hρ.1 4).trans F4; have Ec := hρ.2.1; have Ef := hρ.2.2.1; clear hρ; intro w hw; (try dsimp only at hw); go_split_ands; go_simp; try with_reducible rfl)
  case' rest13 => intro af12 Zn Nx
  replace F4 := (Nx.2.2.1 4 rfl).trans F4
  replace F5 := (Nx.2.2.1 5 rfl).trans F5
  replace F6 := (Nx.2.2.1 6 rfl).trans F6
  replace F8 := (Nx.2.2.1 8 rfl).trans F8
  replace F10 := (Nx.2.2.1 10 rfl).trans F10
  replace F11 := (Nx.2.2.1 11 rfl).trans F11
  replace F13 := (Nx.2.2.1 13 rfl).trans F13
  replace F14 := (Nx.2.2.1 14 rfl).trans F14
  replace F64 := (Nx.2.2.1 64 rfl).trans F64
  replace F65 := (Nx.2.2.1 65 rfl).trans F65
  have F66 := Nx.2.1
  replace D := Nx.2.2.2.trans D
  clear Z Nx
  have Z := Zn
  clear Zn af11
  refine' dqo_pure (d := 67) (by rfl) (by rfl) Z (by rfl) (wanted_yes (by rfl) (by rfl) F64) ?hv14 ?rest14
  case hv14 => (intro ρ hρ; have E6 := (hρ.1 6).trans F6; have Ec := hρ.2.1; have Ef := hρ.2.2.1; clear hρ; intro w hw; (try dsimp only at hw); go_split_ands; go_simp; try with_reducible rfl)
  case' rest14 => intro af13 Zn Nx
  replace F4 := (Nx.2.2.1 4 rfl).trans F4
  replace F5 := (Nx.2.2.1 5 rfl).trans F5
  replace F6 := (Nx.2.2.1 6 rfl).trans F6
  replace F8 := (Nx.2.2.1 8 rfl).trans F8
  replace F10 := (Nx.2.2.1 10 rfl).trans F10
  replace F11 := (Nx.2.2.1 11 rfl).trans F11
  replace F13 := (Nx.2.2.1 13 rfl).trans F13
  replace F14 := (Nx.2.2.1 14 rfl).trans F14
  replace F64 := (Nx.2.2.1 64 rfl).trans F64
  replace F65 := (Nx.2.2.1 65 rfl).trans F65
  replace F66 := (Nx.2.2.1 66 rfl).trans F66
  have F67 := Nx.2.1
  replace D := Nx.2.2.2.trans D
  clear Z Nx
  have Z := Zn
  clear Zn af12
  refine' dqo_pure (d := 68) (by rfl) (by rfl) Z (by rfl) (wanted_yes (by rfl) (by rfl) F64) ?hv15 ?rest15
  case hv15 => (intro ρ hρ; have E5 := (hρ.1 5).trans F5; have Ec := hρ.2.1; have Ef := hρ.2.2.1; clear hρ; intro w hw; (try dsimp only at hw); go_split_ands; go_simp; try with_reducible rfl)
  case' rest15 => intro af14 Zn Nx
  replace F4 := (Nx.2.2.1 4 rfl).trans F4
  replace F5 := (Nx.2.2.1 5 rfl).trans F5
  replace F6 := (Nx.2.2.1 6 rfl).trans F6
  replace F8 := (Nx.2.2.1 8 rfl).trans F8
  replace F10 := (Nx.2.2.1 10 rfl).trans F10
  replace F11 := (Nx.2.2.1 11 rfl).trans F11
  replace F13 := (Nx.2.2.1 13 rfl).trans F13
  replace F14 := (Nx.2.2.1 14 rfl).trans F14
  replace F64 := (Nx.2.2.1 64 rfl).trans F64
  replace F65 := (Nx.2.2.1 65 rfl).trans F65
  replace F66 := (Nx.2.2.1 66 rfl).trans F66
  replace F67 := (Nx.2.2.1 67 rfl).trans F67
  have F68 := Nx.2.1
  replace D := Nx.2.2.2.trans D
  clear Z Nx
  have Z := Zn
  clear Zn af13
  refine' dqo_call (d := 69) (by rfl) (by rfl) Z (by rfl) (wanted_yes (by rfl) (by rfl) F64) ?hv16 ?hc16 ?rest16
  case hv16 => (intro ρ hρ; have E66 := (hρ.1 66).trans F66; have E67 := (hρ.1 67).trans F67; have E68 := (hρ.1 68).trans F68; have Ec := hρ.2.1; have Ef := hρ.2.2.1; clear hρ; intro w; go_simp; exact ⟨rfl, rfl⟩)
  case hc16 => exact (fun w hw => by first | (with_reducible exact calls_gt (K2 s0 s0' s1 s1' s2 s2' hD hO _)) | (with_reducible exact calls_gt (K3 s0 s0' s1 s1' s2 s2' hD hO _)) | (with_reducible exact calls_gt (K4 s0 s0' s1 s1' s2 s2' hD hO _)) | (with_reducible exact calls_gt (K5 s0 s0' s1 s1' s2 s2' hD hO _)) | (with_reducible exact calls_gt (K6 r11 r21 r12 r22 r13 r23 r14 r24 n1 n2 hX hY hO _)))
  case' rest16 => intro af15 Zn Nx
  replace F4 := (Nx.2.2.1 4 rfl).trans F4
  replace F5 := (Nx.2.2.1 5 rfl).trans F5
  replace F6 := (Nx.2.2.1 6 rfl).trans F6
  replace F8 := (Nx.2.2.1 8 rfl).trans F8
  replace F10 := (Nx.2.2.1 10 rfl).trans F10
  replace F11 := (Nx.2.2.1 11 rfl).trans F11
  replace F13 := (Nx.2.2.1 13 rfl).trans F13
  replace F14 := (Nx.2.2.1 14 rfl).trans F14
  replace F64 := (Nx.2.2.1 64 rfl).trans F64
  replace F65 := (Nx.2.2.1 65 rfl).trans F65
  clear F66
  clear F67
  clear F68
  have F69 := Nx.2.1
  replace D := Nx.2.2.2.trans D
  clear Z Nx
  have Z := Zn
  clear Zn af14
  refine' dqo_pure (d := 70) (by rfl) (by rfl) Z (by rfl) (wanted_yes (by rfl) (by rfl) F64) ?hv17 ?rest17
  case hv17 => (intro ρ hρ; have E65 := (hρ.1 65).trans F65; have E69 := (hρ.1 69).trans F69; have Ec := hρ.2.1; have Ef := hρ.2.2.1; clear hρ; intro w hw; (try dsimp only at hw); go_split_ands; go_simp; try with_reducible rfl)
  case' rest17 => intro af16 Zn Nx
  replace F4 := (Nx.2.2.1 4 rfl).trans F4
  replace F5 := (Nx.2.2.1 5 rfl).trans F5
  replace F6 := (Nx.2.2.1 6 rfl).trans F6
  replace F8 := (Nx.2.2.1 8 rfl).trans F8
  replace F10 := (Nx.2.2.1 10 rfl).trans F10
  replace F11 := (Nx.2.2.1 11 rfl).trans F11
  replace F13 := (Nx.2.2.1 13 rfl).trans F13
  replace F14 := (Nx.2.2.1 14 rfl).trans F14
  replace F64 := (Nx.2.2.1 64 rfl).trans F64
  clear F65
  clear F69
  have F70 := Nx.2.1
  replace D := Nx.2.2.2.trans D
  clear Z Nx
  have Z := Zn
  clear Zn af15
  refine' dqo_pure (d := 71) (by rfl) (by rfl) Z (by rfl) (wanted_not (by rfl)) ?hv18 ?rest18
  case hv18 => (intro ρ hρ; have E64 := (hρ.1 64).trans F64; have E70 := (hρ.1 70).trans F70; have Ec := hρ.2.1; have Ef := hρ.2.2.1; clear hρ; intro w hw; (try dsimp only at hw); go_split_ands; go_simp; try with_reducible rfl)
  case' rest18 => intro af17 Zn Nx
  replace F4 := (Nx.2.2.1 4 rfl).trans F4
  replace F5 := (Nx.2.2.1 5 rfl).trans F5
  replace F6 := (Nx.2.2.1 6 rfl).trans F6
  replace F8 := (Nx.2.2.1 8 rfl).trans F8
  replace F10 := (Nx.2.2.1 10 rfl).trans F10
  replace F11 := (Nx.2.2.1 11 rfl).trans F11
  replace F13 := (Nx.2.2.1 13 rfl).trans F13
  replace F14 := (Nx.2.2.1 14 rfl).trans F14
  clear F64
  clear F70
  have F71 := Nx.2.1
  replace D := Nx.2.2.2.trans D
  clear Z Nx
  have Z := Zn
  clear Zn af16
  refine' dqo_pure (d := 72) (by rfl) (by rfl) Z (by rfl) (wanted_not (by rfl)) ?hv19 ?rest19
  case hv19 => (intro ρ hρ; have E71 := (hρ.1 71).trans F71; have Ec := hρ.2.1; have Ef := hρ.2.2.1; clear hρ; intro w hw; (try dsimp only at hw); go_split_ands; go_simp; try with_reducible rfl)
  case' rest19 => intro af18 Zn Nx
  replace F4 := (Nx.2.2.1 4 rfl).trans F4
  replace F5 := (Nx.2.2.1 5 rfl).trans F5
  replace F6 := (Nx.2.2.1 6 rfl).trans F6
  replace F8 := (Nx.2.2.1 8 rfl).trans F8
  replace F10 := (Nx.2.2.1 10 rfl).trans F10
  replace F11 := (Nx.2.2.1 11 rfl).trans F11
  replace F13 := (Nx.2.2.1 13 rfl).trans F13
  replace F14 := (Nx.2.2.1 14 rfl).trans F14
  clear F71
  have F72 := Nx.2.1
  replace D := Nx.2.2.2.trans D
  clear Z Nx
  have Z := Zn
  clear Zn af17
  refine' dqo_pure (d := 73) (by rfl) (by rfl) Z (by rfl) (wanted_yes (by rfl) (by rfl) F72) ?hv20 ?rest20
  case hv20 => (intro ρ hρ; have E14 := (hρ.1 14).trans F14; have Ec := hρ.2.1; have Ef := hρ.2.2.1; clear hρ; intro w hw; (try dsimp only at hw); go_split_ands; go_simp; try with_reducible rfl)
  case' rest20 => intro af19 Zn Nx
  replace F4 := (Nx.2.2.1 4 rfl).trans F4
  replace F5 := (Nx.2.2.1 5 rfl).trans F5
  replace F6 := (Nx.2.2.1 6 rfl).trans F6
  replace F8 := (Nx.2.2.1 8 rfl).trans F8
  replace F10 := (Nx.2.2.1 10 rfl).trans F10
  replace F11 := (Nx.2.2.1 11 rfl).trans F11
  replace F13 := (Nx.2.2.1 13 rfl).trans F13
  clear F14
  replace F72 := (Nx.2.2.1 72 rfl).trans F72
  have F73 := Nx.2.1
  replace D := Nx.2.2.2.trans D
  clear Z Nx
  have Z := Zn
  clear Zn af18
  refine' dqo_pure (d := 74) (by rfl) (by rfl) Z (by rfl) (wanted_yes (by rfl) (by rfl) F72) ?hv21 ?rest21
  case hv21 => (intro ρ hρ; have E6 := (hρ.1 6).trans F6; have Ec := hρ.2.1; have Ef := hρ.2.2.1; clear hρ; intro w hw; (try dsimp only at hw); go_split_ands; go_simp; try with_reducible rfl)
  case' rest21 => intro af20 Zn Nx
  replace F4 := (Nx.2.2.1 4 rfl).trans F4
  replace F5 := (Nx.2.2.1 5 rfl).trans F5
  replace F6 := (Nx.2.2.1 6 rfl).trans F6
  replace F8 := (Nx.2.2.1 8 rfl).trans F8
  replace F10 := (Nx.2.2.1 10 rfl).trans F10
  replace F11 := (Nx.2.2.1 11 rfl).trans F11
  replace F13 := (Nx.2.2.1 13 rfl).trans F13
  replace F72 := (Nx.2.2.1 72 rfl).trans F72
  replace F73 := (Nx.2.2.1 73 rfl).trans F73
  have F74 := Nx.2.1
  replace D := Nx.2.2.2.trans D
  clear Z Nx
  have Z := Zn
  clear Zn af19
  refine' dqo_pure (d := 75) (by rfl) (by rfl) Z (by rfl) (wanted_yes (by rfl) (by rfl) F72) ?hv22 ?rest22
  case hv22 => (intro ρ hρ; have E4 := (hρ.1 4).trans F4; have Ec := hρ.2.1; have Ef := hρ.2.2.1; clear hρ; intro w hw; (try dsimp only at hw); go_split_ands; go_simp; try with_reducible rfl)
  case' rest22 => intro af21 Zn Nx
  replace F4 := (Nx.2.2.1 4 rfl).trans F4
  replace F5 := (Nx.2.2.1 5 rfl).trans F5
  replace F6 := (Nx.2.2.1 6 rfl).trans F6
  replace F8 := (Nx.2.2.1 8 rfl).trans F8
  replace F10 := (Nx.2.2.1 10 rfl).trans F10
  replace F11 := (Nx.2.2.1 11 rfl).trans F11
  replace F13 := (Nx.2.2.1 13 rfl).trans F13
  replace F72 := (Nx.2.2.1 72 rfl).trans F72
  replace F73 := (Nx.2.2.1 73 rfl).trans F73
  replace F74 := (Nx.2.2.1 74 rfl).trans F74
  have F75 := Nx.2.1
  replace D := Nx.2.2.2.trans D
  clear Z Nx
  have Z := Zn
  clear Zn af20
  refine' dqo_pure (d := 76) (by rfl) (by rfl) Z (by rfl) (wanted_yes (by rfl) (by rfl) F72) ?hv23 ?rest23
  case hv23 => (intro ρ hρ; have E5 := (hρ.1 5).trans F5; have Ec := hρ.2.1; have Ef := hρ.2.2.1; clear hρ; intro w hw; (try dsimp only at hw); go_split_ands; go_simp; try with_reducible rfl)
  case' rest23 => intro af22 Zn Nx
  replace F4 := (Nx.2.2.1 4 rfl).trans F4
  clear F5
  replace F6 := (Nx.2.2.1 6 rfl).trans F6
  replace F8 := (Nx.2.2.1 8 rfl).trans F8
  replace F10 := (Nx.2.2.1 10 rfl).trans F10
  replace F11 := (Nx.2.2.1 11 rfl).trans F11
  replace F13 := (Nx.2.2.1 13 rfl).trans F13
  replace F72 := (Nx.2.2.1 72 rfl).trans F72
  replace F73 := (Nx.2.2.1 73 rfl).trans F73
  replace F74 := (Nx.2.2.1 74 rfl).trans F74
  replace F75 := (Nx.2.2.1 75 rfl).trans F75
  have F76 := Nx.2.1
  replace D := Nx.2.2.2.trans D
  clear Z Nx
  have Z := Zn
  clear Zn af21
  refine' dqo_call (d := 77) (by rfl) (by rfl) Z (by rfl) (wanted_yes (by rfl) (by rfl) F72) ?hv24 ?hc24 ?rest24
  case hv24 => (intro ρ hρ; have E74 := (hρ.1 74).trans F74; have E75 := (hρ.1 75).trans F75; have E76 := (hρ.1 76).trans F76; have Ec := hρ.2.1; have Ef := hρ.2.2.1; clear hρ; intro w; go_simp; exact ⟨rfl, rfl⟩)
  case hc24 => exact (fun w hw => by first | (with_reducible exact calls_gt (K2 s0 s0' s1 s1' s2 s2' hD hO _)) | (with_reducible exact calls_gt (K3 s0 s0' s1 s1' s2 s2' hD hO _)) | (with_reducible exact calls_gt (K4 s0 s0' s1 s1' s2 s2' hD hO _)) | (with_reducible exact calls_gt (K5 s0 s0' s1 s1' s2 s2' hD hO _)) | (with_reducible exact calls_gt (K6 r11 r21 r12 r22 r13 r23 r14 r24 n1 n2 hX hY hO _)))
  case' rest24 => intro af23 Zn Nx
  replace F4 := (Nx.2.2.1 4 rfl).trans F4
  replace F6 := (Nx.2.2.1 6 rfl).trans F6
  replace F8 := (Nx.2.2.1 8 rfl).trans F8
  replace F10 := (Nx.2.2.1 10 rfl).trans F10
  replace F11 := (Nx.2.2.1 11 rfl).trans F11
  replace F13 := (Nx.2.2.1 13 rfl).trans F13
  replace F72 := (Nx.2.2.1 72 rfl).trans F72
  replace F73 := (Nx.2.2.1 73 rfl).trans F73
  clear F74
  clear F75
  clear F76
  have F77 := Nx.2.1
  replace D := Nx.2.2.2.trans D
  clear Z Nx
  have Z := Zn
  clear Zn af22
  refine' dqo_pure (d := 78) (by rfl) (by rfl) Z (by rfl) (wanted_yes (by rfl) (by rfl) F72) ?hv25 ?rest25
  case hv25 => (intro ρ hρ; have E73 := (hρ.1 73).trans F73; have E77 := (hρ.1 77).trans F77; have Ec := hρ.2.1; have Ef := hρ.2.2.1; clear hρ; intro w hw; (try dsimp only at hw); go_split_ands; go_simp; try with_reducible rfl)
  case' rest25 => intro af24 Zn Nx
  replace F4 := (Nx.2.2.1 4 rfl).trans F4
  replace F6 := (Nx.2.2.1 6 rfl).trans F6
  replace F8 := (Nx.2.2.1 8 rfl).trans F8
  replace F10 := (Nx.2.2.1 10 rfl).trans F10
  replace F11 := (Nx.2.2.1 11 rfl).trans F11
  replace F13 := (Nx.2.2.1 13 rfl).trans F13
  replace F72 := (Nx.2.2.1 72 rfl).trans F72
  clear F73
  clear F77
  have F78 := Nx.2.1
  replace D := Nx.2.2.2.trans D
  clear Z Nx
  have Z := Zn
  clear Zn af23
  refine' dqo_pure (d := 79) (by rfl) (by rfl) Z (by rfl) (wanted_not (by rfl)) ?hv26 ?rest26
  case hv26 => (intro ρ hρ; have E72 := (hρ.1 72).trans F72; have E78 := (hρ.1 78).trans F78; have Ec := hρ.2.1; have Ef := hρ.2.2.1; clear hρ; intro w hw; (try dsimp only at hw); go_split_ands; go_simp; try with_reducible rfl)
  case' rest26 => intro af25 Zn Nx
  replace F4 := (Nx.2.2.1 4 rfl).trans F4
  replace F6 := (Nx.2.2.1 6 rfl).trans F6
  replace F8 := (Nx.2.2.1 8 rfl).trans F8
  replace F10 := (Nx.2.2.1 10 rfl).trans F10
  replace F11 := (Nx.2.2.1 11 rfl).trans F11
  replace F13 := (Nx.2.2.1 13 rfl).trans F13
  clear F72
  clear F78
  have F79 := Nx.2.1
  replace D := Nx.2.2.2.trans D
  clear Z Nx
  have Z := Zn
  clear Zn af24
  refine' dqo_pure (d := 80) (by rfl) (by rfl) Z (by rfl) (wanted_not (by rfl)) ?hv27 ?rest27
  case hv27 => (intro ρ hρ; have E79 := (hρ.1 79).trans F79; have Ec := hρ.2.1; have Ef := hρ.2.2.1; clear hρ; intro w hw; (try dsimp only at hw); go_split_ands; go_simp; try with_reducible rfl)
  case' rest27 => intro af26 Zn Nx
  replace F4 := (Nx.2.2.1 4 rfl).trans F4
  replace F6 := (Nx.2.2.1 6 rfl).trans F6
  replace F8 := (Nx.2.2.1 8 rfl).trans F8
  replace F10 := (Nx.2.2.1 10 rfl).trans F10
  replace F11 := (Nx.2.2.1 11 rfl).trans F11
  replace F13 := (Nx.2.2.1 13 rfl).trans F13
  clear F79
  have F80 := Nx.2.1
  replace D := Nx.2.2.2.trans D
  clear Z Nx
  have Z := Zn
  clear Zn af25
  refine' dqo_pure (d := 81) (by rfl) (by rfl) Z (by rfl) (wanted_yes (by rfl) (by rfl) F80) ?hv28 ?rest28
  case hv28 => (intro ρ hρ; have E4 := (hρ.1 4).trans F4; have Ec := hρ.2.1; have Ef := hρ.2.2.1; clear hρ; intro w hw; (try dsimp only at hw); go_split_ands; go_simp; try with_reducible rfl)
  case' rest28 => intro af27 Zn Nx
  replace F4 := (Nx.2.2.1 4 rfl).trans F4
  replace F6 := (Nx.2.2.1 6 rfl).trans F6
  replace F8 := (Nx.2.2.1 8 rfl).trans F8
  replace F10 := (Nx.2.2.1 10 rfl).trans F10
  replace F11 := (Nx.2.2.1 11 rfl).trans F11
  replace F13 := (Nx.2.2.1 13 rfl).trans F13
  replace F80 := (Nx.2.2.1 80 rfl).trans F80
  have F81 := Nx.2.1
  replace D := Nx.2.2.2.trans D
  clear Z Nx
  have Z := Zn
  clear Zn af26
  refine' dqo_pure (d := 82) (by rfl) (by rfl) Z (by rfl) (wanted_yes (by rfl) (by rfl) F80) ?hv29 ?rest29
  case hv29 => (intro ρ hρ; have E4 := (hρ.1 4).trans F4; have Ec := hρ.2.1; have Ef := hρ.2.2.1; clear hρ; intro w hw; (try dsimp only at hw); go_split_ands; go_simp; try with_reducible rfl)
  case' rest29 => intro af28 Zn Nx
  clear F4
  replace F6 := (Nx.2.2.1 6 rfl).trans F6
  replace F8 := (Nx.2.2.1 8 rfl).trans F8
  replace F10 := (Nx.2.2.1 10 rfl).trans F10
  replace F11 := (Nx.2.2.1 11 rfl).trans F11
  replace F13 := (Nx.2.2.1 13 rfl).trans F13
  replace F80 := (Nx.2.2.1 80 rfl).trans F80
  replace F81 := (Nx.2.2.1 81 rfl).trans F81
  have F82 := Nx.2.1
  replace D := Nx.2.2.2.trans D
  clear Z Nx
  have Z := Zn
  clear Zn af27
  refine' dqo_pure (d := 83) (by rfl) (by rfl) Z (by rfl) (wanted_yes (by rfl) (by rfl) F80) ?hv30 ?rest30
  case hv30 => (intro ρ hρ; have E6 := (hρ.1 6).trans F6; have Ec := hρ.2.1; have Ef := hρ.2.2.1; clear hρ; intro w hw; (try dsimp only at hw); go_split_ands; go_simp; try with_reducible rfl)
  case' rest30 => intro af29 Zn Nx
  clear F6
  replace F8 := (Nx.2.2.1 8 rfl).trans F8
  replace F10 := (Nx.2.2.1 10 rfl).trans F10
  replace F11 := (Nx.2.2.1 11 rfl).trans F11
  replace F13 := (Nx.2.2.1 13 rfl).trans F13
  replace F80 := (Nx.2.2.1 80 rfl).trans F80
  replace F81 := (Nx.2.2.1 81 rfl).trans F81
  replace F82 := (Nx.2.2.1 82 rfl).trans F82
  have F83 := Nx.2.1
  replace D := Nx.2.2.2.trans D
  clear Z Nx
  have Z := Zn
  clear Zn af28
  refine' dqo_call (d := 84) (by rfl) (by rfl) Z (by rfl) (wanted_yes (by rfl) (by rfl) F80) ?hv31 ?hc31 ?rest31
  case hv31 => (intro ρ hρ; have E81 := (hρ.1 81).trans F81; have E82 := (hρ.1 82).trans F82; have E83 := (hρ.1 83).trans F83; have Ec := hρ.2.1; have Ef := hρ.2.2.1; clear hρ; intro w; go_simp; exact ⟨rfl, rfl⟩)
  case hc31 => exact (fun w hw => by first | (with_reducible exact calls_gt (K2 s0 s0' s1 s1' s2 s2' hD hO _)) | (with_reducible exact calls_gt (K3 s0 s0' s1 s1' s2 s2' hD hO _)) | (with_reducible exact calls_gt (K4 s0 s0' s1 s1' s2 s2' hD hO _)) | (with_reducible exact calls_gt (K5 s0 s0' s1 s1' s2 s2' hD hO _)) | (with_reducible exact calls_gt (K6 r11 r21 r12 r22 r13 r23 r14 r24 n1 n2 hX hY hO _)))
  case' rest31 => intro af30 Zn Nx
  replace F8 := (Nx.2.2.1 8 rfl).trans F8
  replace F10 := (Nx.2.2.1 10 rfl).trans F10
  replace F11 := (Nx.2.2.1 11 rfl).trans F11
  replace F13 := (Nx.2.2.1 13 rfl).trans F13
  replace F80 := (Nx.2.2.1 80 rfl).trans F80
  clear F81
  clear F82
  clear F83
  have F84 := Nx.2.1
  replace D := Nx.2.2.2.trans D
  clear Z Nx
  have Z := Zn
  clear Zn af29
  refine' dqo_call (d := 85) (by rfl) (by rfl) Z (by rfl) (wanted_yes (by rfl) (by rfl) F80) ?hv32 ?hc32 ?rest32
  case hv32 => (intro ρ hρ; have Ec := hρ.2.1; have Ef := hρ.2.2.1; clear hρ; intro w; go_simp; exact ⟨rfl, rfl⟩)
  case hc32 => exact (fun w hw => calls_gt (K7 s0 s0' s1 s1' s2 s2' hD hO _))
  case' rest32 => intro af31 Zn Nx
  replace F8 := (Nx.2.2.1 8 rfl).trans F8
  replace F10 := (Nx.2.2.1 10 rfl).trans F10
  replace F11 := (Nx.2.2.1 11 rfl).trans F11
  replace F13 := (Nx.2.2.1 13 rfl).trans F13
  replace F80 := (Nx.2.2.1 80 rfl).trans F80
  replace F84 := (Nx.2.2.1 84 rfl).trans F84
  have F85 := Nx.2.1
  replace D := Nx.2.2.2.trans D
  clear Z Nx
  have Z := Zn
  clear Zn af30
  refine' dqo_pure (d := 86) (by rfl) (by rfl) Z (by rfl) (wanted_yes (by rfl) (by rfl) F80) ?hv33 ?rest33
  case hv33 => (intro ρ hρ; have E84 := (hρ.1 84).trans F84; have E85 := (hρ.1 85).trans F85; have Ec := hρ.2.1; have Ef := hρ.2.2.1; clear hρ; intro w hw; (try dsimp only at hw); go_split_ands; go_simp; try with_reducible rfl)
  case' rest33 => intro af32 Zn Nx
  replace F8 := (Nx.2.2.1 8 rfl).trans F8
  replace F10 := (Nx.2.2.1 10 rfl).trans F10
  replace F11 := (Nx.2.2.1 11 rfl).trans F11
  replace F13 := (Nx.2.2.1 13 rfl).trans F13
  replace F80 := (Nx.2.2.1 80 rfl).trans F80
  clear F84
  clear F85
  have F86 := Nx.2.1
  replace D := Nx.2.2.2.trans D
  clear Z Nx
  have Z := Zn
  clear Zn af31
  refine' dqo_pure (d := 87) (by rfl) (by rfl) Z (by rfl) (wanted_not (by rfl)) ?hv34 ?rest34
  case hv34 => (intro ρ hρ; have E80 := (hρ.1 80).trans F80; have E86 := (hρ.1 86).trans F86; have Ec := hρ.2.1; have Ef := hρ.2.2.1; clear hρ; intro w hw; (try dsimp only at hw); go_split_ands; go_simp; try with_reducible rfl)
  case' rest34 => intro af33 Zn Nx
  replace F8 := (Nx.2.2.1 8 rfl).trans F8
  replace F10 := (Nx.2.2.1 10 rfl).trans F10
  replace F11 := (Nx.2.2.1 11 rfl).trans F11
  replace F13 := (Nx.2.2.1 13 rfl).trans F13
  clear F80
  clear F86
  have F87 := Nx.2.1
  replace D := Nx.2.2.2.trans D
  clear Z Nx
  have Z := Zn
  clear Zn af32
  refine' dqo_pure (d := 88) (by rfl) (by rfl) Z (by rfl) (wanted_not (by rfl)) ?hv35 ?rest35
  case hv35 => (intro ρ hρ; have E87 := (hρ.1 87).trans F87; have Ec := hρ.2.1; have Ef := hρ.2.2.1; clear hρ; intro w hw; (try dsimp only at hw); go_split_ands; go_simp; try with_reducible rfl)
  case' rest35 => intro af34 Zn Nx
  replace F8 := (Nx.2.2.1 8 rfl).trans F8
  replace F10 := (Nx.2.2.1 10 rfl).trans F10
  replace F11 := (Nx.2.2.1 11 rfl).trans F11
  replace F13 := (Nx.2.2.1 13 rfl).trans F13
  clear F87
  have F88 := Nx.2.1
  replace D := Nx.2.2.2.trans D
  clear Z Nx
  have Z := Zn
  clear Zn af33
  refine' dqo_pure (d := 89) (by rfl) (by rfl) Z (by rfl) (wanted_yes (by rfl) (by rfl) F88) ?hv36 ?rest36
  case hv36 => (intro ρ hρ; have E10 := (hρ.1 10).trans F10; have Ec := hρ.2.1; have Ef := hρ.2.2.1; clear hρ; intro w hw; (try dsimp only at hw); go_split_ands; go_simp; try with_reducible rfl)
  case' rest36 => intro af35 Zn Nx
  replace F8 := (Nx.2.2.1 8 rfl).trans F8
  clear F10
  replace F11 := (Nx.2.2.1 11 rfl).trans F11
  replace F13 := (Nx.2.2.1 13 rfl).trans F13
  replace F88 := (Nx.2.2.1 88 rfl).trans F88
  have F89 := Nx.2.1
  replace D := Nx.2.2.2.trans D
  clear Z Nx
  have Z := Zn
  clear Zn af34
  refine' dqo_pure (d := 90) (by rfl) (by rfl) Z (by rfl) (wanted_yes (by rfl) (by rfl) F88) ?hv37 ?rest37
  case hv37 => (intro ρ hρ; have E11 := (hρ.1 11).trans F11; have Ec := hρ.2.1; have Ef := hρ.2.2.1; clear hρ; intro w hw; (try dsimp only at hw); go_split_ands; go_simp; try with_reducible rfl)
  case' rest37 => intro af36 Zn Nx
  replace F8 := (Nx.2.2.1 8 rfl).trans F8
  clear F11
  replace F13 := (Nx.2.2.1 13 rfl).trans F13
  replace F88 := (Nx.2.2.1 88 rfl).trans F88
  replace F89 := (Nx.2.2.1 89 rfl).trans F89
  have F90 := Nx.2.1
  replace D := Nx.2.2.2.trans D
  clear Z Nx
  have Z := Zn
  clear Zn af35
  refine' dqo_pure (d := 91) (by rfl) (by rfl) Z (by rfl) (wanted_yes (by rfl) (by rfl) F88) ?hv38 ?rest38
  case hv38 => (intro ρ hρ; have E13 := (hρ.1 13).trans F13; have Ec := hρ.2.1; have Ef := hρ.2.2.1; clear hρ; intro w hw; (try dsimp only at hw); go_split_ands; go_simp; try with_reducible rfl)
  case' rest38 => intro af37 Zn Nx
  replace F8 := (Nx.2.2.1 8 rfl).trans F8
  clear F13
  replace F88 := (Nx.2.2.1 88 rfl).trans F88
  replace F89 := (Nx.2.2.1 89 rfl).trans F89
  replace F90 := (Nx.2.2.1 90 rfl).trans F90
  have F91 := Nx.2.1
  replace D := Nx.2.2.2.trans D
  clear Z Nx
  have Z := Zn
  clear Zn af36
  refine' dqo_call (d := 92) (by rfl) (by rfl) Z (by rfl) (wanted_yes (by rfl) (by rfl) F88) ?hv39 ?hc39 ?rest39
  case hv39 => (intro ρ hρ; have E89 := (hρ.1 89).trans F89; have E90 := (hρ.1 90).trans F90; have E91 := (hρ.1 91).trans F91; have Ec := hρ.2.1; have Ef := hρ.2.2.1; clear hρ; intro w; go_simp; exact ⟨rfl, rfl⟩)
  case hc39 => exact (fun w hw => by first | (with_reducible exact calls_gt (K2 s0 s0' s1 s1' s2 s2' hD hO _)) | (with_reducible exact calls_gt (K3 s0 s0' s1 s1' s2 s2' hD hO _)) | (with_reducible exact calls_gt (K4 s0 s0' s1 s1' s2 s2' hD hO _)) | (with_reducible exact calls_gt (K5 s0 s0' s1 s1' s2 s2' hD hO _)) | (with_reducible exact calls_gt (K6 r11 r21 r12 r22 r13 r23 r14 r24 n1 n2 hX hY hO _)))
  case' rest39 => intro af38 Zn Nx
  replace F8 := (Nx.2.2.1 8 rfl).trans F8
  replace F88 := (Nx.2.2.1 88 rfl).trans F88
  clear F89
  clear F90
  clear F91
  have F92 := Nx.2.1
  replace D := Nx.2.2.2.trans D
  clear Z Nx
  have Z := Zn
  clear Zn af37
  refine' dqo_call (d := 93) (by rfl) (by rfl) Z (by rfl) (wanted_yes (by rfl) (by rfl) F88) ?hv40 ?hc40 ?rest40
  case hv40 => (intro ρ hρ; have Ec := hρ.2.1; have Ef := hρ.2.2.1; clear hρ; intro w; go_simp; exact ⟨rfl, rfl⟩)
  case hc40 => exact (fun w hw => calls_gt (K7 s0 s0' s1 s1' s2 s2' hD hO _))
  case' rest40 => intro af39 Zn Nx
  replace F8 := (Nx.2.2.1 8 rfl).trans F8
  replace F88 := (Nx.2.2.1 88 rfl).trans F88
  replace F92 := (Nx.2.2.1 92 rfl).trans F92
  have F93 := Nx.2.1
  replace D := Nx.2.2.2.trans D
  clear Z Nx
  have Z := Zn
  clear Zn af38
  refine' dqo_pure (d := 94) (by rfl) (by rfl) Z (by rfl) (wanted_yes (by rfl) (by rfl) F88) ?hv41 ?rest41
  case hv41 => (intro ρ hρ; have E92 := (hρ.1 92).trans F92; have E93 := (hρ.1 93).trans F93; have Ec := hρ.2.1; have Ef := hρ.2.2.1; clear hρ; intro w hw; (try dsimp only at hw); go_split_ands; go_simp; try with_reducible rfl)
  case' rest41 => intro af40 Zn Nx
  replace F8 := (Nx.2.2.1 8 rfl).trans F8
  replace F88 := (Nx.2.2.1 88 rfl).trans F88
  clear F92
  clear F93
  have F94 := Nx.2.1
  replace D := Nx.2.2.2.trans D
  clear Z Nx
  have Z := Zn
  clear Zn af39
  refine' dqo_pure (d := 95) (by rfl) (by rfl) Z (by rfl) (wanted_not (by rfl)) ?hv42 ?rest42
  case hv42 => (intro ρ hρ; have E88 := (hρ.1 88).trans F88; have E94 := (hρ.1 94).trans F94; have Ec := hρ.2.1; have Ef := hρ.2.2.1; clear hρ; intro w hw; (try dsimp only at hw); go_split_ands; go_simp; try with_reducible rfl)
  case' rest42 => intro af41 Zn Nx
  replace F8 := (Nx.2.2.1 8 rfl).trans F8
  clear F88
  clear F94
  have F95 := Nx.2.1
  replace D := Nx.2.2.2.trans D
  clear Z Nx
  have Z := Zn
  clear Zn af40
  refine dq_nil ?_
  refine fa_nil ?_
  rintro W ⟨⟨hb0, hn0, ⟨B1, B1c, B1f, B1l⟩, ⟨B2, B2c, B2f, B2l⟩, ⟨B3, B3c, B3f, B3l⟩, ⟨B4, B4c, B4f, B4l⟩, ⟨B5, B5c, B5f, B5l⟩, ⟨B6, B6c, B6f, B6l⟩, ⟨B7, B7c, B7f, B7l⟩⟩, hgl⟩ hbs
  clear hbs hgl
  obtain ⟨ρ, hρ⟩ := rho_of af41
  have hL := act_lit (l := [ρ (.tmp 0), ρ (.tmp 1), ρ (.tmp 2), ρ (.tmp 3), ρ (.tmp 4), ρ (.tmp 5), ρ (.tmp 6), ρ (.tmp 7), _, ρ (.tmp 9), ρ (.tmp 10), ρ (.tmp 11), ρ (.tmp 12), ρ (.tmp 13), ρ (.tmp 14), ρ (.tmp 15), ρ (.tmp 16), ρ (.tmp 17), ρ (.tmp 18), ρ (.tmp 19), ρ (.tmp 20), ρ (.tmp 21), ρ (.tmp 22), ρ (.tmp 23), ρ (.tmp 24), ρ (.tmp 25), ρ (.tmp 26), ρ (.tmp 27), ρ (.tmp 28), ρ (.tmp 29), ρ (.tmp 30), ρ (.tmp 31), ρ (.tmp 32), ρ (.tmp 33), ρ (.tmp 34), ρ (.tmp 35), ρ (.tmp 36), ρ (.tmp 37), ρ (.tmp 38), ρ (.tmp 39), ρ (.tmp 40), ρ (.tmp 41), ρ (.tmp 42), ρ (.tmp 43), ρ (.tmp 44), ρ (.tmp 45), ρ (.tmp 46), ρ (.tmp 47), ρ (.tmp 48), ρ (.tmp 49), ρ (.tmp 50), ρ (.tmp 51), ρ (.tmp 52), ρ (.tmp 53), ρ (.tmp 54), ρ (.tmp 55), ρ (.tmp 56), ρ (.tmp 57), ρ (.tmp 58), ρ (.tmp 59), ρ (.tmp 60), ρ (.tmp 61), ρ (.tmp 62), ρ (.tmp 63), ρ (.tmp 64), ρ (.tmp 65), ρ (.tmp 66), ρ (.tmp 67), ρ (.tmp 68), ρ (.tmp 69), ρ (.tmp 70), ρ (.tmp 71), ρ (.tmp 72), ρ (.tmp 73), ρ (.tmp 74), ρ (.tmp 75), ρ (.tmp 76), ρ (.tmp 77), ρ (.tmp 78), ρ (.tmp 79), ρ (.tmp 80), ρ (.tmp 81), ρ (.tmp 82), ρ (.tmp 83), ρ (.tmp 84), ρ (.tmp 85), ρ (.tmp 86), ρ (.tmp 87), ρ (.tmp 88), ρ (.tmp 89), ρ (.tmp 90), ρ (.tmp 91), ρ (.tmp 92), ρ (.tmp 93), ρ (.tmp 94), _]) Z D (by rfl) ⟨hρ 0, hρ 1, hρ 2, hρ 3, hρ 4, hρ 5, hρ 6, hρ 7, F8, hρ 9, hρ 10, hρ 11, hρ 12, hρ 13, hρ 14, hρ 15, hρ 16, hρ 17, hρ 18, hρ 19, hρ 20, hρ 21, hρ 22, hρ 23, hρ 24, hρ 25, hρ 26, hρ 27, hρ 28, hρ 29, hρ 30, hρ 31, hρ 32, hρ 33, hρ 34, hρ 35, hρ 36, hρ 37, hρ 38, hρ 39, hρ 40, hρ 41, hρ 42, hρ 43, hρ 44, hρ 45, hρ 46, hρ 47, hρ 48, hρ 49, hρ 50, hρ 51, hρ 52, hρ 53, hρ 54, hρ 55, hρ 56, hρ 57, hρ 58, hρ 59, hρ 60, hρ 61, hρ 62, hρ 63, hρ 64, hρ 65, hρ 66, hρ 67, hρ 68, hρ 69, hρ 70, hρ 71, hρ 72, hρ 73, hρ 74, hρ 75, hρ 76, hρ 77, hρ 78, hρ 79, hρ 80, hρ 81, hρ 82, hρ 83, hρ 84, hρ 85, hρ 86, hρ 87, hρ 88, hρ 89, hρ 90, hρ 91, hρ 92, hρ 93, hρ 94, F95, trivial⟩
  clear hρ Z D F8 F95
  subst hL
  simp only [List.drop_succ_cons, List.drop_zero]
  (repeat' (first | go_values | go_skip | go_guarded | go_step | go_upon | (simp only [Int.not_lt, Int.not_le] at *; go_simp) | (go_values <;> (try go_simp)) | (go_ite <;> go_prune <;> (try go_simp)) | (split <;> (first | (rename_i hx; exact (hx _ rfl).elim) | go_prune))))
  refine bodyPost_ret (v := .bool true) ?_ rfl ⟨rfl, by (repeat' (first | (with_reducible assumption) | (with_reducible exact Below.refl _ _) | (with_reducible refine Below.alloc ?_ ?_ _) | (with_reducible refine Below.setCell ?_ ?_ _) | (with_reducible refine Below.drew ?_) | (with_reducible refine below_more ?_ (by with_reducible assumption)) | go_size | omega | (with_reducible refine below_drewN ?_)))⟩
  simp [results, Try.results4, go_sem]
/-! ### The row -/
set_option maxRecDepth 100000 in
theorem lifted (os : Os) (started : os.Started) (H : Type) (enc : TypeId × Value → H) :
    ReturnsInHanded {} Try.checked os 4 .any (Rows.triangleTurnsSpec.pre6 enc Try.prog Try.f4 Rows.triangleTurnsRow.domain false) (Rows.triangleTurnsSpec.post enc Try.prog Try.f4 false true false false) := by
  refine returnsInHanded_of_change_sized (C := Try.checked) own started (by kernel_rfl) Try.func4
    (ChangeSpec.witness6 (enc := enc) (C := Try.checked) false ⟨#[], #[.agg #[.int .i64 0, .int .i64 0], .agg #[.int .i64 0, .int .i64 0], .agg #[.int .i64 0, .int .i64 0], .slice none 0 0], []⟩ 8 (by kernel_rfl) (by kernel_rfl) (by kernel_rfl) (by kernel_rfl)) ?_
  intro W base args ds gs before hval0 hW hcnd hsz _
  have hval : ∀ (j : Nat) t v, Try.f4.params[j]? = some t → args[j]? = some v → Value.okWide Try.prog W .any base t v := hval0
  have hW' := hW
  obtain ⟨p, q, hA0, hV, rfl, hfz, hnd⟩ := hW
  have hA : DataW.TrodAll enc Try.prog W 0 (fun _ => true) true Try.f4.params.toList args.toList ds p := hA0
  rw [Try.params4] at hA hval
  obtain ⟨v0, vs0, d0, ds0, p0, q0, hargs, rfl, rfl, g0, r0⟩ := trodAll_cons hA
  obtain ⟨v1, vs1, d1, ds1, p1, q1, rfl, rfl, rfl, g1, r1⟩ := trodAll_cons r0
  obtain ⟨v2, vs2, d2, ds2, p2, q2, rfl, rfl, rfl, g2, r2⟩ := trodAll_cons r1
  obtain ⟨v3, vs3, d3, ds3, p3, q3, rfl, rfl, rfl, g3, r3⟩ := trodAll_cons r2
  obtain ⟨rfl, rfl, rfl⟩ := trodAll_nil r3
  obtain rfl : args = #[v0, v1, v2, v3] := by cases args; simp_all
  obtain ⟨rfl, rfl⟩ := trodVars_none hV
  have hlt : ∀ x ∈ (p0 ++ (p1 ++ (p2 ++ (p3 ++ [])))) ++ [], x.block < W.heap.size := fun x hx => hW'.lt x hx
  obtain ⟨ta0, va0, rfl, wa0, wb0⟩ := open_sample (hval 0 23 v0 rfl rfl) g0
  obtain ⟨ta1, va1, rfl, wa1, wb1⟩ := open_sample (hval 1 23 v1 rfl rfl) g1
  obtain ⟨ta2, va2, rfl, wa2, wb2⟩ := open_sample (hval 2 23 v2 rfl rfl) g2
  obtain ⟨z3, hs3⟩ := open_slz Try.underlying28 Try.underlying3 (by kernel_rfl) (hval 3 28 v3 rfl rfl) g3 (fun x hx => hlt x (by simp [hx]))
  have hs3' := hs3
  obtain ⟨s3, l3, c3, rfl, _⟩ := hs3'
  refine (walk W ta0 va0 ⟨wa0, wb0⟩ ta1 va1 ⟨wa1, wb1⟩ ta2 va2 ⟨wa2, wb2⟩ s3 l3 c3 z3 hs3).mono fun e W' ⟨he, hb⟩ => ?_
  subst he
  exact ⟨_, rfl, law_post laidOut (by kernel_rfl) rfl rfl Try.underlying4 hW' rfl rfl rfl hb⟩

theorem over : Rows.triangleTurnsRow.holds Try.pinned (OpenSpec.ofChange Rows.triangleTurnsSpec) :=
  OpenClaim.holds_of_wide 4 Try.f4 rfl rfl rfl rfl rfl rfl rfl ⟨rfl, rfl, rfl, rfl, rfl⟩ rfl rfl rfl rfl rfl (by kernel_rfl) Try.func4 (by kernel_rfl)
    (of_decide_eq_true (by kernel_rfl)) (by unfold Func.isWrapper; first | (rw [if_pos (by decide +kernel)]; kernel_rfl) | (rw [if_neg (by decide +kernel)]; exact ⟨rfl, rfl⟩))
    (fun os started H enc _ => lifted os started H enc)

/-- The given statement. -/
theorem proved : Rows.TriangleTurnsSaid :=
  over
#print axioms proved
end Go.Proofs.Ythcboomdkpiflaa.triangleTurns
