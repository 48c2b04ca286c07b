/- Proved: tscodeclaw23.TriangleShifts returns true for all arguments. No condition. -/
import Derived.Test.YthcboomdkpiflaaRows
import Derived.Test.YthcboomdkpiflaaTriL
import Derived.Test.YthcboomdkpiflaaDriftO
import Derived.Test.YthcboomdkpiflaaOpen
import Derived.Test.YthcboomdkpiflaaLawT
import Derived.WalkKit
import Derived.ProofKit
import Derived.OpenShut
import Derived.SizedLaws
import Derived.Outline
import Derived.WalkLawsBesides
import Derived.WalkSpells
import Derived.RegionTactic
import Derived.ChangeAlike
import Derived.BigRegion
import Derived.Handy
namespace Go.Proofs.Ythcboomdkpiflaa.triangleShifts
open Go.ChangeShapes Go.WideShapes Go.ChangeAt Go.RowKit
set_option linter.unusedVariables false
set_option linter.unusedSimpArgs false

theorem own : ownKnob Try.prog.godebug = none := by kernel_rfl

/-! ### The plain law -/
theorem unhid {p : Prop} (h : Hid p) : p := h
theorem ar_shift (t v bt bv c d p q : Int) : ar (t + p) (v + q) (bt + p) (bv + q) (c + p) (d + q) 1 = ar t v bt bv c d 1 := by
  unfold ar
  rw [show bt + p - (t + p) = bt - t by omega, show d + q - 1 * (v + q) = d - 1 * v by omega, show c + p - 1 * (t + p) = c - 1 * t by omega, show bv + q - (v + q) = bv - v by omega]
theorem ar_base (a h r : Int) : ar 0 0 a 0 r h 1 = a * h := by
  unfold ar
  rw [show a - 0 = a by omega, show h - 1 * 0 = h by omega, show (0 : Int) - 0 = 0 by omega, Int.mul_zero, Int.sub_zero]
/-- What shifted returns. -/
def Sft (a b c d X Y : Int) (e : Bool) : Prop := X = orZ (rng (a + c)) (a + c) ∧ Y = orZ (rng (b + d)) (b + d) ∧ e = (rng (a + c) && rng (b + d))
theorem sft_is (a b c d : Int) : ∃ X Y e, Sft a b c d X Y e := ⟨_, _, _, rfl, rfl, rfl⟩
theorem sft_yes {a b c d X Y : Int} (h : Sft a b c d X Y true) : X = a + c ∧ Y = b + d ∧ I64 X ∧ I64 Y := by
  obtain ⟨h1, h2, h3⟩ := h
  have h3 := h3.symm
  simp only [Bool.and_eq_true] at h3
  rw [h3.1] at h1
  rw [h3.2] at h2
  rw [orZ_true] at h1 h2
  subst h1; subst h2
  exact ⟨rfl, rfl, (rng_iff _).1 h3.1, (rng_iff _).1 h3.2⟩

/-! ### The calls -/
theorem kSh {a b c d X Y : Int} {e : Bool} (ha : I64 a) (hb : I64 b) (hc : I64 c) (hd : I64 d) (h : Sft a b c d X Y e) (W : World) : Calls Try.prog 21 #[.agg #[.int .i64 a, .int .i64 b], .agg #[.int .i64 c, .int .i64 d]] W fun e' w' => e' = .returned (.tuple #[.agg #[.int .i64 X, .int .i64 Y], .bool e]) ∧ Below W.heap.size W w' := by
  obtain ⟨rfl, rfl, rfl⟩ := h
  exact shifted_any ha hb hc hd W
theorem kD {ta va tb vb tc vc D : Int} (a1 : I64 ta) (a2 : I64 va) (b1 : I64 tb) (b2 : I64 vb) (c1 : I64 tc) (c2 : I64 vc) (hD : Hid (D = ab (ar ta va tb vb tc vc 1))) (W : World) : Calls Try.prog 16 #[.agg #[.int .i64 ta, .int .i64 va], .agg #[.int .i64 tb, .int .i64 vb], .agg #[.int .i64 tc, .int .i64 vc]] W fun e w' => e = .returned (WE D) ∧ Below W.heap.size W w' := by
  rw [unhid hD]; exact doubled_any a1 a2 b1 b2 c1 c2 W
theorem kDs {ta va tb vb tc vc p q X1 Y1 X2 Y2 X3 Y3 D : Int} (hD : Hid (D = ab (ar ta va tb vb tc vc 1))) (h1 : Sft ta va p q X1 Y1 true) (h2 : Sft tb vb p q X2 Y2 true) (h3 : Sft tc vc p q X3 Y3 true) (W : World) : Calls Try.prog 16 #[.agg #[.int .i64 X1, .int .i64 Y1], .agg #[.int .i64 X2, .int .i64 Y2], .agg #[.int .i64 X3, .int .i64 Y3]] W fun e w' => e = .returned (WE D) ∧ Below W.heap.size W w' := by
  obtain ⟨rfl, rfl, a1, a2⟩ := sft_yes h1
  obtain ⟨rfl, rfl, b1, b2⟩ := sft_yes h2
  obtain ⟨rfl, rfl, c1, c2⟩ := sft_yes h3
  rw [unhid hD, ← ar_shift _ _ _ _ _ _ p q]; exact doubled_any a1 a2 b1 b2 c1 c2 W
theorem prod_le {a h : Int} (a1 : 0 ≤ a) (a2 : a < 1000) (h1 : 0 ≤ h) (h2 : h < 1000) : 0 ≤ a * h ∧ a * h ≤ 1000000 := by
  have := abs_mul_le (x := a) (y := h) (p := 1000) (q := 1000) (by omega) (by omega)
  have := Int.mul_nonneg a1 h1
  omega
theorem kH {a h r : Int} (a1 : 0 ≤ a) (a2 : a < 1000) (h1 : 0 ≤ h) (h2 : h < 1000) (r1 : 0 ≤ r) (r2 : r < 500) (W : World) : Calls Try.prog 16 #[.agg #[.int .i64 0, .int .i64 0], .agg #[.int .i64 a, .int .i64 0], .agg #[.int .i64 r, .int .i64 h]] W fun e w' => e = .returned (WE (a * h)) ∧ Below W.heap.size W w' := by
  have := prod_le a1 a2 h1 h2
  have e : ab (ar 0 0 a 0 r h 1) = a * h := by rw [ar_base]; unfold ab; split <;> omega
  rw [← e]
  exact doubled_any ⟨by omega, by omega⟩ ⟨by omega, by omega⟩ ⟨by omega, by omega⟩ ⟨by omega, by omega⟩ ⟨by omega, by omega⟩ ⟨by omega, by omega⟩ W
theorem kO {a h : Int} (a1 : 0 ≤ a) (a2 : a < 1000) (h1 : 0 ≤ h) (h2 : h < 1000) (W : World) : Calls Try.prog 20 #[.int .i64 (wrap64 (a * h))] W fun e w' => e = .returned (WE (a * h)) ∧ Below W.heap.size W w' := by
  have := prod_le a1 a2 h1 h2
  rw [IntWalk.wrap64_in (a * h) ⟨by omega, by omega⟩]
  exact rOf_any (a * h) ⟨by omega, by omega⟩ W

set_option maxHeartbeats 8000000 in
set_option maxRecDepth 100000 in
theorem walk (w : World) (s0 : Option Addr) (l0 c0 : Nat) (z0 : List Int) (h0 : SlZ w .i64 (.slice s0 l0 c0) z0) :
    Calls Try.prog 5 #[.slice s0 l0 c0] w fun e w' => e = .returned (.bool true) ∧ Below w.heap.size w w' := by
  have hG := grown_refl w (some w.heap.size)
  have E := eq_self
  go_enter Try.func5, Try.ntmps5
  (repeat' (first | (go_big_may; (first | (go_at_call 11; refine (new_tape (SlZ.below h0 (by (repeat' (first | (with_reducible assumption) | (with_reducible exact Below.refl _ _) | (with_reducible refine Below.alloc ?_ ?_ _) | (with_reducible refine Below.setCell ?_ ?_ _) | (with_reducible refine Below.drew ?_) | (with_reducible refine below_more ?_ (by with_reducible assumption)) | go_size | omega | (with_reducible refine below_drewN ?_)))))).mono ?_; rintro e w' ⟨rfl, ht, hbw⟩; have hle := ht.leB; have hG' : w.grownBy w' (some (w.heap.size)) := grown_bel (by (repeat' (first | (with_reducible exact hG) | (with_reducible refine grown_alloc ?_ _) | (with_reducible refine grown_drew ?_) | (with_reducible refine grown_setCell ?_ (.inr (by first | go_size | (dsimp only; omega))) _)))) hbw; clear hG; have hG := hG'; clear hG' hbw; (try simp only [World.size_alloc, World.size_setCell, World.size_drew] at ht hle)) | (go_at_call 12; refine (point_any (B := w.heap.size + 1) _ _ (by (repeat' (first | (with_reducible exact ht) | (with_reducible refine TapeOk.alloc ?_ _) | (with_reducible refine TapeOk.drew ?_) | (with_reducible refine TapeOk.setc (by first | go_size | (dsimp only; omega)) ?_))))).mono ?_; (first | (have t_ := mk1_4; clear t_; rintro e w' ⟨x5, y5, hx5, hy5, rfl, ht', hg⟩; have mk1_5 := True.intro) | (have t_ := mk1_3; clear t_; rintro e w' ⟨x4, y4, hx4, hy4, rfl, ht', hg⟩; have mk1_4 := True.intro) | (have t_ := mk1_2; clear t_; rintro e w' ⟨x3, y3, hx3, hy3, rfl, ht', hg⟩; have mk1_3 := True.intro) | (have t_ := mk1_1; clear t_; rintro e w' ⟨x2, y2, hx2, hy2, rfl, ht', hg⟩; have mk1_2 := True.intro) | (rintro e w' ⟨x1, y1, hx1, hy1, rfl, ht', hg⟩; have mk1_1 := True.intro)); have hG' : w.grownBy w' (some (w.heap.size)) := grown_trans (by (repeat' (first | (with_reducible exact hG) | (with_reducible refine grown_alloc ?_ _) | (with_reducible refine grown_drew ?_) | (with_reducible refine grown_setCell ?_ (.inr (by first | go_size | (dsimp only; omega))) _)))) hg; have hsz := hg.size; clear ht hG; have ht := ht'; have hG := hG'; clear ht' hG'; (try simp only [World.size_alloc, World.size_setCell, World.size_drew] at hsz); clear hg))) | go_values | go_skip | go_guarded | go_step | go_upon | (simp only [Int.not_lt, Int.not_le] at *; go_simp) | (go_values <;> (try go_simp)) | (go_ite <;> go_prune <;> (try go_simp)) | (split <;> (first | (rename_i hx; exact (hx _ rfl).elim) | go_prune))))
  rename World => wp
  obtain ⟨X1, Y1, e1, s1⟩ := sft_is x1 y1 x4 y4
  obtain ⟨X2, Y2, e2, s2⟩ := sft_is x2 y2 x4 y4
  obtain ⟨X3, Y3, e3, s3⟩ := sft_is x3 y3 x4 y4
  obtain ⟨D, hD0⟩ : ∃ D, D = ab (ar x1 y1 x2 y2 x3 y3 1) := ⟨_, rfl⟩
  have hD := hid hD0
  clear hD0
  
  (repeat' (first | (go_big_may; (first | (go_at_call 21; (with_reducible show Calls _ _ #[.agg #[.int .i64 x1, .int .i64 y1], _] _ _); refine (kSh hx1 hy1 hx4 hy4 s1 _).mono ?_; rintro e w' ⟨rfl, hbw⟩; have N1 := Bx.of (HB.below (b := wp.heap.size) (cs := #[.int .i64 x1, .int .i64 y1]) (by (repeat' (first | (with_reducible assumption) | ((with_reducible refine HB.new _ _ _ ?_) <;> (go_size; done)) | (with_reducible refine HB.old (by go_size) ?_) | (with_reducible refine HB.drew ?_) | (with_reducible refine HB.over5 ?_) | (with_reducible refine HB.over4 ?_) | (with_reducible refine HB.setne (by first | go_size | (dsimp only; omega)) ?_) | (with_reducible refine HN.set ?_) | (with_reducible refine HN.setne (by first | go_size | (dsimp only; omega)) ?_) | (with_reducible refine HN.drew ?_) | (with_reducible refine HN.old (by go_size) ?_) | (with_reducible exact HN.of5 (by assumption)) | (with_reducible exact HN.new5 _ _ (by go_size)) | (with_reducible exact HN.of4 (by assumption)) | (with_reducible exact HN.new4 _ _ (by go_size))))) hbw); have N2 := Bx.of (HB.below (b := wp.heap.size + 1) (cs := #[.int .i64 x2, .int .i64 y2]) (by (repeat' (first | (with_reducible assumption) | ((with_reducible refine HB.new _ _ _ ?_) <;> (go_size; done)) | (with_reducible refine HB.old (by go_size) ?_) | (with_reducible refine HB.drew ?_) | (with_reducible refine HB.over5 ?_) | (with_reducible refine HB.over4 ?_) | (with_reducible refine HB.setne (by first | go_size | (dsimp only; omega)) ?_) | (with_reducible refine HN.set ?_) | (with_reducible refine HN.setne (by first | go_size | (dsimp only; omega)) ?_) | (with_reducible refine HN.drew ?_) | (with_reducible refine HN.old (by go_size) ?_) | (with_reducible exact HN.of5 (by assumption)) | (with_reducible exact HN.new5 _ _ (by go_size)) | (with_reducible exact HN.of4 (by assumption)) | (with_reducible exact HN.new4 _ _ (by go_size))))) hbw); have N3 := Bx.of (HB.below (b := wp.heap.size + 1 + 1) (cs := #[.int .i64 x3, .int .i64 y3]) (by (repeat' (first | (with_reducible assumption) | ((with_reducible refine HB.new _ _ _ ?_) <;> (go_size; done)) | (with_reducible refine HB.old (by go_size) ?_) | (with_reducible refine HB.drew ?_) | (with_reducible refine HB.over5 ?_) | (with_reducible refine HB.over4 ?_) | (with_reducible refine HB.setne (by first | go_size | (dsimp only; omega)) ?_) | (with_reducible refine HN.set ?_) | (with_reducible refine HN.setne (by first | go_size | (dsimp only; omega)) ?_) | (with_reducible refine HN.drew ?_) | (with_reducible refine HN.old (by go_size) ?_) | (with_reducible exact HN.of5 (by assumption)) | (with_reducible exact HN.new5 _ _ (by go_size)) | (with_reducible exact HN.of4 (by assumption)) | (with_reducible exact HN.new4 _ _ (by go_size))))) hbw); have N4 := Bx.of (HB.below (b := wp.heap.size + 1 + 1 + 1) (cs := #[.int .i64 x4, .int .i64 y4]) (by (repeat' (first | (with_reducible assumption) | ((with_reducible refine HB.new _ _ _ ?_) <;> (go_size; done)) | (with_reducible refine HB.old (by go_size) ?_) | (with_reducible refine HB.drew ?_) | (with_reducible refine HB.over5 ?_) | (with_reducible refine HB.over4 ?_) | (with_reducible refine HB.setne (by first | go_size | (dsimp only; omega)) ?_) | (with_reducible refine HN.set ?_) | (with_reducible refine HN.setne (by first | go_size | (dsimp only; omega)) ?_) | (with_reducible refine HN.drew ?_) | (with_reducible refine HN.old (by go_size) ?_) | (with_reducible exact HN.of5 (by assumption)) | (with_reducible exact HN.new5 _ _ (by go_size)) | (with_reducible exact HN.of4 (by assumption)) | (with_reducible exact HN.new4 _ _ (by go_size))))) hbw); have ht' : TapeOk (w.heap.size + 1) w' (w.heap.size) := TapeOk.bel (by (repeat' (first | (with_reducible exact ht) | (with_reducible refine TapeOk.alloc ?_ _) | (with_reducible refine TapeOk.drew ?_) | (with_reducible refine TapeOk.setc (by first | go_size | (dsimp only; omega)) ?_)))) hbw; have hG' : w.grownBy w' (some (w.heap.size)) := grown_bel (by (repeat' (first | (with_reducible exact hG) | (with_reducible refine grown_alloc ?_ _) | (with_reducible refine grown_drew ?_) | (with_reducible refine grown_setCell ?_ (.inr (by first | go_size | (dsimp only; omega))) _)))) hbw; have hsz := hbw.size; clear ht hG; have ht := ht'; have hG := hG'; clear ht' hG'; (try simp only [World.size_alloc, World.size_setCell, World.size_drew] at hsz); clear hbw; (try clear B1 B1c B1f B1l); obtain ⟨B1, B1c, B1f, B1l⟩ := N1; (try clear B2 B2c B2f B2l); obtain ⟨B2, B2c, B2f, B2l⟩ := N2; (try clear B3 B3c B3f B3l); obtain ⟨B3, B3c, B3f, B3l⟩ := N3; (try clear B4 B4c B4f B4l); obtain ⟨B4, B4c, B4f, B4l⟩ := N4))) | go_values | go_skip | go_guarded | go_step | go_upon | (simp only [Int.not_lt, Int.not_le] at *; go_simp) | (go_values <;> (try go_simp)) | (go_ite <;> go_prune <;> (try go_simp)) | (split <;> (first | (rename_i hx; exact (hx _ rfl).elim) | go_prune))))
  rename World => u1
  
  (repeat' (first | (go_big_may; (first | (go_at_call 21; (with_reducible show Calls _ _ #[.agg #[.int .i64 x2, .int .i64 y2], _] _ _); refine (kSh hx2 hy2 hx4 hy4 s2 _).mono ?_; rintro e w' ⟨rfl, hbw⟩; have N1 := Bx.of (HB.below (b := wp.heap.size) (cs := #[.int .i64 x1, .int .i64 y1]) (by (repeat' (first | (with_reducible assumption) | ((with_reducible refine HB.new _ _ _ ?_) <;> (go_size; done)) | (with_reducible refine HB.old (by go_size) ?_) | (with_reducible refine HB.drew ?_) | (with_reducible refine HB.over5 ?_) | (with_reducible refine HB.over4 ?_) | (with_reducible refine HB.setne (by first | go_size | (dsimp only; omega)) ?_) | (with_reducible refine HN.set ?_) | (with_reducible refine HN.setne (by first | go_size | (dsimp only; omega)) ?_) | (with_reducible refine HN.drew ?_) | (with_reducible refine HN.old (by go_size) ?_) | (with_reducible exact HN.of5 (by assumption)) | (with_reducible exact HN.new5 _ _ (by go_size)) | (with_reducible exact HN.of4 (by assumption)) | (with_reducible exact HN.new4 _ _ (by go_size))))) hbw); have N2 := Bx.of (HB.below (b := wp.heap.size + 1) (cs := #[.int .i64 x2, .int .i64 y2]) (by (repeat' (first | (with_reducible assumption) | ((with_reducible refine HB.new _ _ _ ?_) <;> (go_size; done)) | (with_reducible refine HB.old (by go_size) ?_) | (with_reducible refine HB.drew ?_) | (with_reducible refine HB.over5 ?_) | (with_reducible refine HB.over4 ?_) | (with_reducible refine HB.setne (by first | go_size | (dsimp only; omega)) ?_) | (with_reducible refine HN.set ?_) | (with_reducible refine HN.setne (by first | go_size | (dsimp only; omega)) ?_) | (with_reducible refine HN.drew ?_) | (with_reducible refine HN.old (by go_size) ?_) | (with_reducible exact HN.of5 (by assumption)) | (with_reducible exact HN.new5 _ _ (by go_size)) | (with_reducible exact HN.of4 (by assumption)) | (with_reducible exact HN.new4 _ _ (by go_size))))) hbw); have N3 := Bx.of (HB.below (b := wp.heap.size + 1 + 1) (cs := #[.int .i64 x3, .int .i64 y3]) (by (repeat' (first | (with_reducible assumption) | ((with_reducible refine HB.new _ _ _ ?_) <;> (go_size; done)) | (with_reducible refine HB.old (by go_size) ?_) | (with_reducible refine HB.drew ?_) | (with_reducible refine HB.over5 ?_) | (with_reducible refine HB.over4 ?_) | (with_reducible refine HB.setne (by first | go_size | (dsimp only; omega)) ?_) | (with_reducible refine HN.set ?_) | (with_reducible refine HN.setne (by first | go_size | (dsimp only; omega)) ?_) | (with_reducible refine HN.drew ?_) | (with_reducible refine HN.old (by go_size) ?_) | (with_reducible exact HN.of5 (by assumption)) | (with_reducible exact HN.new5 _ _ (by go_size)) | (with_reducible exact HN.of4 (by assumption)) | (with_reducible exact HN.new4 _ _ (by go_size))))) hbw); have N4 := Bx.of (HB.below (b := wp.heap.size + 1 + 1 + 1) (cs := #[.int .i64 x4, .int .i64 y4]) (by (repeat' (first | (with_reducible assumption) | ((with_reducible refine HB.new _ _ _ ?_) <;> (go_size; done)) | (with_reducible refine HB.old (by go_size) ?_) | (with_reducible refine HB.drew ?_) | (with_reducible refine HB.over5 ?_) | (with_reducible refine HB.over4 ?_) | (with_reducible refine HB.setne (by first | go_size | (dsimp only; omega)) ?_) | (with_reducible refine HN.set ?_) | (with_reducible refine HN.setne (by first | go_size | (dsimp only; omega)) ?_) | (with_reducible refine HN.drew ?_) | (with_reducible refine HN.old (by go_size) ?_) | (with_reducible exact HN.of5 (by assumption)) | (with_reducible exact HN.new5 _ _ (by go_size)) | (with_reducible exact HN.of4 (by assumption)) | (with_reducible exact HN.new4 _ _ (by go_size))))) hbw); have N5 := Bx.of (HB.below (b := u1.heap.size) (cs := #[.int .i64 X1, .int .i64 Y1]) (by (repeat' (first | (with_reducible assumption) | ((with_reducible refine HB.new _ _ _ ?_) <;> (go_size; done)) | (with_reducible refine HB.old (by go_size) ?_) | (with_reducible refine HB.drew ?_) | (with_reducible refine HB.over5 ?_) | (with_reducible refine HB.over4 ?_) | (with_reducible refine HB.setne (by first | go_size | (dsimp only; omega)) ?_) | (with_reducible refine HN.set ?_) | (with_reducible refine HN.setne (by first | go_size | (dsimp only; omega)) ?_) | (with_reducible refine HN.drew ?_) | (with_reducible refine HN.old (by go_size) ?_) | (with_reducible exact HN.of5 (by assumption)) | (with_reducible exact HN.new5 _ _ (by go_size)) | (with_reducible exact HN.of4 (by assumption)) | (with_reducible exact HN.new4 _ _ (by go_size))))) hbw); have ht' : TapeOk (w.heap.size + 1) w' (w.heap.size) := TapeOk.bel (by (repeat' (first | (with_reducible exact ht) | (with_reducible refine TapeOk.alloc ?_ _) | (with_reducible refine TapeOk.drew ?_) | (with_reducible refine TapeOk.setc (by first | go_size | (dsimp only; omega)) ?_)))) hbw; have hG' : w.grownBy w' (some (w.heap.size)) := grown_bel (by (repeat' (first | (with_reducible exact hG) | (with_reducible refine grown_alloc ?_ _) | (with_reducible refine grown_drew ?_) | (with_reducible refine grown_setCell ?_ (.inr (by first | go_size | (dsimp only; omega))) _)))) hbw; have hsz := hbw.size; clear ht hG; have ht := ht'; have hG := hG'; clear ht' hG'; (try simp only [World.size_alloc, World.size_setCell, World.size_drew] at hsz); clear hbw; (try clear B1 B1c B1f B1l); obtain ⟨B1, B1c, B1f, B1l⟩ := N1; (try clear B2 B2c B2f B2l); obtain ⟨B2, B2c, B2f, B2l⟩ := N2; (try clear B3 B3c B3f B3l); obtain ⟨B3, B3c, B3f, B3l⟩ := N3; (try clear B4 B4c B4f B4l); obtain ⟨B4, B4c, B4f, B4l⟩ := N4; (try clear B5 B5c B5f B5l); obtain ⟨B5, B5c, B5f, B5l⟩ := N5))) | go_values | go_skip | go_guarded | go_step | go_upon | (simp only [Int.not_lt, Int.not_le] at *; go_simp) | (go_values <;> (try go_simp)) | (go_ite <;> go_prune <;> (try go_simp)) | (split <;> (first | (rename_i hx; exact (hx _ rfl).elim) | go_prune))))
  rename World => u2
  
  (repeat' (first | (go_big_may; (first | (go_at_call 21; (with_reducible show Calls _ _ #[.agg #[.int .i64 x3, .int .i64 y3], _] _ _); refine (kSh hx3 hy3 hx4 hy4 s3 _).mono ?_; rintro e w' ⟨rfl, hbw⟩; have N1 := Bx.of (HB.below (b := wp.heap.size) (cs := #[.int .i64 x1, .int .i64 y1]) (by (repeat' (first | (with_reducible assumption) | ((with_reducible refine HB.new _ _ _ ?_) <;> (go_size; done)) | (with_reducible refine HB.old (by go_size) ?_) | (with_reducible refine HB.drew ?_) | (with_reducible refine HB.over5 ?_) | (with_reducible refine HB.over4 ?_) | (with_reducible refine HB.setne (by first | go_size | (dsimp only; omega)) ?_) | (with_reducible refine HN.set ?_) | (with_reducible refine HN.setne (by first | go_size | (dsimp only; omega)) ?_) | (with_reducible refine HN.drew ?_) | (with_reducible refine HN.old (by go_size) ?_) | (with_reducible exact HN.of5 (by assumption)) | (with_reducible exact HN.new5 _ _ (by go_size)) | (with_reducible exact HN.of4 (by assumption)) | (with_reducible exact HN.new4 _ _ (by go_size))))) hbw); have N2 := Bx.of (HB.below (b := wp.heap.size + 1) (cs := #[.int .i64 x2, .int .i64 y2]) (by (repeat' (first | (with_reducible assumption) | ((with_reducible refine HB.new _ _ _ ?_) <;> (go_size; done)) | (with_reducible refine HB.old (by go_size) ?_) | (with_reducible refine HB.drew ?_) | (with_reducible refine HB.over5 ?_) | (with_reducible refine HB.over4 ?_) | (with_reducible refine HB.setne (by first | go_size | (dsimp only; omega)) ?_) | (with_reducible refine HN.set ?_) | (with_reducible refine HN.setne (by first | go_size | (dsimp only; omega)) ?_) | (with_reducible refine HN.drew ?_) | (with_reducible refine HN.old (by go_size) ?_) | (with_reducible exact HN.of5 (by assumption)) | (with_reducible exact HN.new5 _ _ (by go_size)) | (with_reducible exact HN.of4 (by assumption)) | (with_reducible exact HN.new4 _ _ (by go_size))))) hbw); have N3 := Bx.of (HB.below (b := wp.heap.size + 1 + 1) (cs := #[.int .i64 x3, .int .i64 y3]) (by (repeat' (first | (with_reducible assumption) | ((with_reducible refine HB.new _ _ _ ?_) <;> (go_size; done)) | (with_reducible refine HB.old (by go_size) ?_) | (with_reducible refine HB.drew ?_) | (with_reducible refine HB.over5 ?_) | (with_reducible refine HB.over4 ?_) | (with_reducible refine HB.setne (by first | go_size | (dsimp only; omega)) ?_) | (with_reducible refine HN.set ?_) | (with_reducible refine HN.setne (by first | go_size | (dsimp only; omega)) ?_) | (with_reducible refine HN.drew ?_) | (with_reducible refine HN.old (by go_size) ?_) | (with_reducible exact HN.of5 (by assumption)) | (with_reducible exact HN.new5 _ _ (by go_size)) | (with_reducible exact HN.of4 (by assumption)) | (with_reducible exact HN.new4 _ _ (by go_size))))) hbw); have N4 := Bx.of (HB.below (b := wp.heap.size + 1 + 1 + 1) (cs := #[.int .i64 x4, .int .i64 y4]) (by (repeat' (first | (with_reducible assumption) | ((with_reducible refine HB.new _ _ _ ?_) <;> (go_size; done)) | (with_reducible refine HB.old (by go_size) ?_) | (with_reducible refine HB.drew ?_) | (with_reducible refine HB.over5 ?_) | (with_reducible refine HB.over4 ?_) | (with_reducible refine HB.setne (by first | go_size | (dsimp only; omega)) ?_) | (with_reducible refine HN.set ?_) | (with_reducible refine HN.setne (by first | go_size | (dsimp only; omega)) ?_) | (with_reducible refine HN.drew ?_) | (with_reducible refine HN.old (by go_size) ?_) | (with_reducible exact HN.of5 (by assumption)) | (with_reducible exact HN.new5 _ _ (by go_size)) | (with_reducible exact HN.of4 (by assumption)) | (with_reducible exact HN.new4 _ _ (by go_size))))) hbw); have N5 := Bx.of (HB.below (b := u1.heap.size) (cs := #[.int .i64 X1, .int .i64 Y1]) (by (repeat' (first | (with_reducible assumption) | ((with_reducible refine HB.new _ _ _ ?_) <;> (go_size; done)) | (with_reducible refine HB.old (by go_size) ?_) | (with_reducible refine HB.drew ?_) | (with_reducible refine HB.over5 ?_) | (with_reducible refine HB.over4 ?_) | (with_reducible refine HB.setne (by first | go_size | (dsimp only; omega)) ?_) | (with_reducible refine HN.set ?_) | (with_reducible refine HN.setne (by first | go_size | (dsimp only; omega)) ?_) | (with_reducible refine HN.drew ?_) | (with_reducible refine HN.old (by go_size) ?_) | (with_reducible exact HN.of5 (by assumption)) | (with_reducible exact HN.new5 _ _ (by go_size)) | (with_reducible exact HN.of4 (by assumption)) | (with_reducible exact HN.new4 _ _ (by go_size))))) hbw); have N6 := Bx.of (HB.below (b := u2.heap.size) (cs := #[.int .i64 X2, .int .i64 Y2]) (by (repeat' (first | (with_reducible assumption) | ((with_reducible refine HB.new _ _ _ ?_) <;> (go_size; done)) | (with_reducible refine HB.old (by go_size) ?_) | (with_reducible refine HB.drew ?_) | (with_reducible refine HB.over5 ?_) | (with_reducible refine HB.over4 ?_) | (with_reducible refine HB.setne (by first | go_size | (dsimp only; omega)) ?_) | (with_reducible refine HN.set ?_) | (with_reducible refine HN.setne (by first | go_size | (dsimp only; omega)) ?_) | (with_reducible refine HN.drew ?_) | (with_reducible refine HN.old (by go_size) ?_) | (with_reducible exact HN.of5 (by assumption)) | (with_reducible exact HN.new5 _ _ (by go_size)) | (with_reducible exact HN.of4 (by assumption)) | (with_reducible exact HN.new4 _ _ (by go_size))))) hbw); have ht' : TapeOk (w.heap.size + 1) w' (w.heap.size) := TapeOk.bel (by (repeat' (first | (with_reducible exact ht) | (with_reducible refine TapeOk.alloc ?_ _) | (with_reducible refine TapeOk.drew ?_) | (with_reducible refine TapeOk.setc (by first | go_size | (dsimp only; omega)) ?_)))) hbw; have hG' : w.grownBy w' (some (w.heap.size)) := grown_bel (by (repeat' (first | (with_reducible exact hG) | (with_reducible refine grown_alloc ?_ _) | (with_reducible refine grown_drew ?_) | (with_reducible refine grown_setCell ?_ (.inr (by first | go_size | (dsimp only; omega))) _)))) hbw; have hsz := hbw.size; clear ht hG; have ht := ht'; have hG := hG'; clear ht' hG'; (try simp only [World.size_alloc, World.size_setCell, World.size_drew] at hsz); clear hbw; (try clear B1 B1c B1f B1l); obtain ⟨B1, B1c, B1f, B1l⟩ := N1; (try clear B2 B2c B2f B2l); obtain ⟨B2, B2c, B2f, B2l⟩ := N2; (try clear B3 B3c B3f B3l); obtain ⟨B3, B3c, B3f, B3l⟩ := N3; (try clear B4 B4c B4f B4l); obtain ⟨B4, B4c, B4f, B4l⟩ := N4; (try clear B5 B5c B5f B5l); obtain ⟨B5, B5c, B5f, B5l⟩ := N5; (try clear B6 B6c B6f B6l); obtain ⟨B6, B6c, B6f, B6l⟩ := N6))) | go_values | go_skip | go_guarded | go_step | go_upon | (simp only [Int.not_lt, Int.not_le] at *; go_simp) | (go_values <;> (try go_simp)) | (go_ite <;> go_prune <;> (try go_simp)) | (split <;> (first | (rename_i hx; exact (hx _ rfl).elim) | go_prune))))
  rename World => u3
  
  
  have H : e1 = false ∨ (e1 = true ∧ e2 = false) ∨ (e1 = true ∧ e2 = true ∧ e3 = false) ∨ (e1 = true ∧ e2 = true ∧ e3 = true) := by cases e1 <;> cases e2 <;> cases e3 <;> simp
  rcases H with rfl | ⟨rfl, rfl⟩ | ⟨rfl, rfl, rfl⟩ | ⟨rfl, rfl, rfl⟩
  (refine wp_region_dq (row := none) (S := (fun Wz => Below u3.heap.size u3 Wz ∧ u3.heap.size ≤ Wz.heap.size ∧ Bx Wz (wp.heap.size) (#[.int .i64 x1, .int .i64 y1]) ∧ Bx Wz (wp.heap.size + 1) (#[.int .i64 x2, .int .i64 y2]) ∧ Bx Wz (wp.heap.size + 1 + 1) (#[.int .i64 x3, .int .i64 y3]) ∧ Bx Wz (wp.heap.size + 1 + 1 + 1) (#[.int .i64 x4, .int .i64 y4]) ∧ Bx Wz (u1.heap.size) (#[.int .i64 X1, .int .i64 Y1]) ∧ Bx Wz (u2.heap.size) (#[.int .i64 X2, .int .i64 Y2]) ∧ Bx Wz (u3.heap.size) (#[.int .i64 X3, .int .i64 Y3]))) (n0 := u3.heap.size) 18 [] [(0, 0), (1, 0), (2, 0), (3, 0), (4, 0), (5, 0), (6, 0), (7, 0), (8, 0), (9, 0), (10, 0), (11, 0), (12, 0), (13, 0), (14, 0), (15, 0), (16, 0), (17, 0)] [] (by kernel_rfl) (by kernel_rfl) (fun _ _ d _ _ h => by cases d <;> exact h) (by refine ⟨?b, ?n, ?_, ?_, ?_, ?_, ?_, ?_, ?_⟩; (case b => (repeat' (first | (with_reducible assumption) | (with_reducible exact Below.refl _ _) | (with_reducible refine Below.alloc ?_ ?_ _) | (with_reducible refine Below.setCell ?_ ?_ _) | (with_reducible refine Below.drew ?_) | (with_reducible refine below_more ?_ (by with_reducible assumption)) | go_size | omega | (with_reducible refine below_drewN ?_)))); (case n => (first | go_size | omega)); all_goals (refine Bx.of ?_; (repeat' (first | (with_reducible assumption) | ((with_reducible refine HB.new _ _ _ ?_) <;> (go_size; done)) | (with_reducible refine HB.old (by go_size) ?_) | (with_reducible refine HB.drew ?_) | (with_reducible refine HB.over5 ?_) | (with_reducible refine HB.over4 ?_) | (with_reducible refine HB.setne (by first | go_size | (dsimp only; omega)) ?_) | (with_reducible refine HN.set ?_) | (with_reducible refine HN.setne (by first | go_size | (dsimp only; omega)) ?_) | (with_reducible refine HN.drew ?_) | (with_reducible refine HN.old (by go_size) ?_) | (with_reducible exact HN.of5 (by assumption)) | (with_reducible exact HN.new5 _ _ (by go_size)) | (with_reducible exact HN.of4 (by assumption)) | (with_reducible exact HN.new4 _ _ (by go_size)))))) (fun _ _ h g => keep7 h (below_gt g) rfl) (fun _ h => h.2.1) (fun _ h => by cases h) (by simp) ?_)
  refine dqo_start ?_
  intro af0 hA
  have Z := size_lit (n := 82) hA (by rfl)
  have D := defers_lit hA
  have F2 := ev_lit (t := 2) hA (by rfl)
  have F3 := ev_lit (t := 3) hA (by rfl)
  have F9 := ev_lit (t := 9) hA (by rfl)
  have F14 := ev_lit (t := 14) hA (by rfl)
  have F15 := ev_lit (t := 15) hA (by rfl)
  have F62 := ev_lit (t := 62) hA (by rfl)
  have F63 := ev_lit (t := 63) hA (by rfl)
  have F64 := ev_lit (t := 64) hA (by rfl)
  have F65 := ev_lit (t := 65) hA (by rfl)
  have F66 := ev_lit (t := 66) hA (by rfl)
  have F67 := ev_lit (t := 67) hA (by rfl)
  have F68 := ev_lit (t := 68) hA (by rfl)
  have F69 := ev_lit (t := 69) hA (by rfl)
  have F70 := ev_lit (t := 70) hA (by rfl)
  have F71 := ev_lit (t := 71) hA (by rfl)
  have F72 := ev_lit (t := 72) hA (by rfl)
  have F73 := ev_lit (t := 73) hA (by rfl)
  have F74 := ev_lit (t := 74) hA (by rfl)
  have F75 := ev_lit (t := 75) hA (by rfl)
  have F76 := ev_lit (t := 76) hA (by rfl)
  have F77 := ev_lit (t := 77) hA (by rfl)
  have F78 := ev_lit (t := 78) hA (by rfl)
  have F79 := ev_lit (t := 79) hA (by rfl)
  have F80 := ev_lit (t := 80) hA (by rfl)
  have F81 := ev_lit (t := 81) hA (by rfl)
  clear hA
  refine' dqo_pure (d := 44) (by rfl) (by rfl) Z (by rfl) (wanted_not (by rfl)) ?hv2 ?rest2
  case hv2 => (intro ρ hρ; have E9 := (hρ.1 9).trans F9; have Ec := hρ.2.1; have Ef := hρ.2.2.1; clear hρ; intro w hw; (try dsimp only at hw); go_split_ands; go_simp; try with_reducible rfl)
  case' rest2 => intro af1 Zn Nx
  replace F2 := (Nx.2.2.1 2 rfl).trans F2
  replace F3 := (Nx.2.2.1 3 rfl).trans F3
  clear F9
  replace F14 := (Nx.2.2.1 14 rfl).trans F14
  replace F15 := (Nx.2.2.1 15 rfl).trans F15
  replace F62 := (Nx.2.2.1 62 rfl).trans F62
  replace F63 := (Nx.2.2.1 63 rfl).trans F63
  replace F64 := (Nx.2.2.1 64 rfl).trans F64
  replace F65 := (Nx.2.2.1 65 rfl).trans F65
  replace F66 := (Nx.2.2.1 66 rfl).trans F66
  replace F67 := (Nx.2.2.1 67 rfl).trans F67
  replace F68 := (Nx.2.2.1 68 rfl).trans F68
  replace F69 := (Nx.2.2.1 69 rfl).trans F69
  replace F70 := (Nx.2.2.1 70 rfl).trans F70
  replace F71 := (Nx.2.2.1 71 rfl).trans F71
  replace F72 := (Nx.2.2.1 72 rfl).trans F72
  replace F73 := (Nx.2.2.1 73 rfl).trans F73
  replace F74 := (Nx.2.2.1 74 rfl).trans F74
  replace F75 := (Nx.2.2.1 75 rfl).trans F75
  replace F76 := (Nx.2.2.1 76 rfl).trans F76
  replace F77 := (Nx.2.2.1 77 rfl).trans F77
  replace F78 := (Nx.2.2.1 78 rfl).trans F78
  replace F79 := (Nx.2.2.1 79 rfl).trans F79
  replace F80 := (Nx.2.2.1 80 rfl).trans F80
  replace F81 := (Nx.2.2.1 81 rfl).trans F81
  have F44 := Nx.2.1
  replace D := Nx.2.2.2.trans D
  clear Z Nx
  have Z := Zn
  clear Zn af0
  refine' dqo_pure (d := 45) (by rfl) (by rfl) Z (by rfl) (wanted_not (by rfl)) ?hv3 ?rest3
  case hv3 => (intro ρ hρ; have E44 := (hρ.1 44).trans F44; have Ec := hρ.2.1; have Ef := hρ.2.2.1; clear hρ; intro w hw; (try dsimp only at hw); go_split_ands; go_simp; try with_reducible rfl)
  case' rest3 => intro af2 Zn Nx
  replace F2 := (Nx.2.2.1 2 rfl).trans F2
  replace F3 := (Nx.2.2.1 3 rfl).trans F3
  replace F14 := (Nx.2.2.1 14 rfl).trans F14
  replace F15 := (Nx.2.2.1 15 rfl).trans F15
  clear F44
  replace F62 := (Nx.2.2.1 62 rfl).trans F62
  replace F63 := (Nx.2.2.1 63 rfl).trans F63
  replace F64 := (Nx.2.2.1 64 rfl).trans F64
  replace F65 := (Nx.2.2.1 65 rfl).trans F65
  replace F66 := (Nx.2.2.1 66 rfl).trans F66
  replace F67 := (Nx.2.2.1 67 rfl).trans F67
  replace F68 := (Nx.2.2.1 68 rfl).trans F68
  replace F69 := (Nx.2.2.1 69 rfl).trans F69
  replace F70 := (Nx.2.2.1 70 rfl).trans F70
  replace F71 := (Nx.2.2.1 71 rfl).trans F71
  replace F72 := (Nx.2.2.1 72 rfl).trans F72
  replace F73 := (Nx.2.2.1 73 rfl).trans F73
  replace F74 := (Nx.2.2.1 74 rfl).trans F74
  replace F75 := (Nx.2.2.1 75 rfl).trans F75
  replace F76 := (Nx.2.2.1 76 rfl).trans F76
  replace F77 := (Nx.2.2.1 77 rfl).trans F77
  replace F78 := (Nx.2.2.1 78 rfl).trans F78
  replace F79 := (Nx.2.2.1 79 rfl).trans F79
  replace F80 := (Nx.2.2.1 80 rfl).trans F80
  replace F81 := (Nx.2.2.1 81 rfl).trans F81
  have F45 := Nx.2.1
  replace D := Nx.2.2.2.trans D
  clear Z Nx
  have Z := Zn
  clear Zn af1
  refine' dqo_pass (d := 46) (by rfl) (by rfl) Z (by rfl) (wanted_no (by rfl) (by rfl) F45 (by rfl)) ?rest4
  case' rest4 => intro af3 Zn Nx
  replace F2 := (Nx.2.2.1 2 rfl).trans F2
  replace F3 := (Nx.2.2.1 3 rfl).trans F3
  replace F14 := (Nx.2.2.1 14 rfl).trans F14
  replace F15 := (Nx.2.2.1 15 rfl).trans F15
  replace F45 := (Nx.2.2.1 45 rfl).trans F45
  replace F62 := (Nx.2.2.1 62 rfl).trans F62
  replace F63 := (Nx.2.2.1 63 rfl).trans F63
  replace F64 := (Nx.2.2.1 64 rfl).trans F64
  replace F65 := (Nx.2.2.1 65 rfl).trans F65
  replace F66 := (Nx.2.2.1 66 rfl).trans F66
  replace F67 := (Nx.2.2.1 67 rfl).trans F67
  replace F68 := (Nx.2.2.1 68 rfl).trans F68
  replace F69 := (Nx.2.2.1 69 rfl).trans F69
  replace F70 := (Nx.2.2.1 70 rfl).trans F70
  replace F71 := (Nx.2.2.1 71 rfl).trans F71
  replace F72 := (Nx.2.2.1 72 rfl).trans F72
  replace F73 := (Nx.2.2.1 73 rfl).trans F73
  replace F74 := (Nx.2.2.1 74 rfl).trans F74
  replace F75 := (Nx.2.2.1 75 rfl).trans F75
  replace F76 := (Nx.2.2.1 76 rfl).trans F76
  replace F77 := (Nx.2.2.1 77 rfl).trans F77
  replace F78 := (Nx.2.2.1 78 rfl).trans F78
  replace F79 := (Nx.2.2.1 79 rfl).trans F79
  replace F80 := (Nx.2.2.1 80 rfl).trans F80
  replace F81 := (Nx.2.2.1 81 rfl).trans F81
  have F46 := Nx.2.1
  replace D := Nx.2.2.2.trans D
  clear Z Nx
  have Z := Zn
  clear Zn af2
  refine' dqo_pure (d := 47) (by rfl) (by rfl) Z (by rfl) (wanted_not (by rfl)) ?hv5 ?rest5
  case hv5 => (intro ρ hρ; have E45 := (hρ.1 45).trans F45; have E46 := (hρ.1 46).trans F46; have Ec := hρ.2.1; have Ef := hρ.2.2.1; clear hρ; intro w hw; (try dsimp only at hw); go_split_ands; go_simp; try with_reducible rfl)
  case' rest5 => intro af4 Zn Nx
  replace F2 := (Nx.2.2.1 2 rfl).trans F2
  replace F3 := (Nx.2.2.1 3 rfl).trans F3
  replace F14 := (Nx.2.2.1 14 rfl).trans F14
  replace F15 := (Nx.2.2.1 15 rfl).trans F15
  clear F45
  clear F46
  replace F62 := (Nx.2.2.1 62 rfl).trans F62
  replace F63 := (Nx.2.2.1 63 rfl).trans F63
  replace F64 := (Nx.2.2.1 64 rfl).trans F64
  replace F65 := (Nx.2.2.1 65 rfl).trans F65
  replace F66 := (Nx.2.2.1 66 rfl).trans F66
  replace F67 := (Nx.2.2.1 67 rfl).trans F67
  replace F68 := (Nx.2.2.1 68 rfl).trans F68
  replace F69 := (Nx.2.2.1 69 rfl).trans F69
  replace F70 := (Nx.2.2.1 70 rfl).trans F70
  replace F71 := (Nx.2.2.1 71 rfl).trans F71
  replace F72 := (Nx.2.2.1 72 rfl).trans F72
  replace F73 := (Nx.2.2.1 73 rfl).trans F73
  replace F74 := (Nx.2.2.1 74 rfl).trans F74
  replace F75 := (Nx.2.2.1 75 rfl).trans F75
  replace F76 := (Nx.2.2.1 76 rfl).trans F76
  replace F77 := (Nx.2.2.1 77 rfl).trans F77
  replace F78 := (Nx.2.2.1 78 rfl).trans F78
  replace F79 := (Nx.2.2.1 79 rfl).trans F79
  replace F80 := (Nx.2.2.1 80 rfl).trans F80
  replace F81 := (Nx.2.2.1 81 rfl).trans F81
  have F47 := Nx.2.1
  replace D := Nx.2.2.2.trans D
  clear Z Nx
  have Z := Zn
  clear Zn af3
  refine' dqo_pure (d := 48) (by rfl) (by rfl) Z (by rfl) (wanted_not (by rfl)) ?hv6 ?rest6
  case hv6 => (intro ρ hρ; have E47 := (hρ.1 47).trans F47; have Ec := hρ.2.1; have Ef := hρ.2.2.1; clear hρ; intro w hw; (try dsimp only at hw); go_split_ands; go_simp; try with_reducible rfl)
  case' rest6 => intro af5 Zn Nx
  replace F2 := (Nx.2.2.1 2 rfl).trans F2
  replace F3 := (Nx.2.2.1 3 rfl).trans F3
  replace F14 := (Nx.2.2.1 14 rfl).trans F14
  replace F15 := (Nx.2.2.1 15 rfl).trans F15
  clear F47
  replace F62 := (Nx.2.2.1 62 rfl).trans F62
  replace F63 := (Nx.2.2.1 63 rfl).trans F63
  replace F64 := (Nx.2.2.1 64 rfl).trans F64
  replace F65 := (Nx.2.2.1 65 rfl).trans F65
  replace F66 := (Nx.2.2.1 66 rfl).trans F66
  replace F67 := (Nx.2.2.1 67 rfl).trans F67
  replace F68 := (Nx.2.2.1 68 rfl).trans F68
  replace F69 := (Nx.2.2.1 69 rfl).trans F69
  replace F70 := (Nx.2.2.1 70 rfl).trans F70
  replace F71 := (Nx.2.2.1 71 rfl).trans F71
  replace F72 := (Nx.2.2.1 72 rfl).trans F72
  replace F73 := (Nx.2.2.1 73 rfl).trans F73
  replace F74 := (Nx.2.2.1 74 rfl).trans F74
  replace F75 := (Nx.2.2.1 75 rfl).trans F75
  replace F76 := (Nx.2.2.1 76 rfl).trans F76
  replace F77 := (Nx.2.2.1 77 rfl).trans F77
  replace F78 := (Nx.2.2.1 78 rfl).trans F78
  replace F79 := (Nx.2.2.1 79 rfl).trans F79
  replace F80 := (Nx.2.2.1 80 rfl).trans F80
  replace F81 := (Nx.2.2.1 81 rfl).trans F81
  have F48 := Nx.2.1
  replace D := Nx.2.2.2.trans D
  clear Z Nx
  have Z := Zn
  clear Zn af4
  refine' dqo_pass (d := 49) (by rfl) (by rfl) Z (by rfl) (wanted_no (by rfl) (by rfl) F48 (by rfl)) ?rest7
  case' rest7 => intro af6 Zn Nx
  replace F2 := (Nx.2.2.1 2 rfl).trans F2
  replace F3 := (Nx.2.2.1 3 rfl).trans F3
  replace F14 := (Nx.2.2.1 14 rfl).trans F14
  replace F15 := (Nx.2.2.1 15 rfl).trans F15
  replace F48 := (Nx.2.2.1 48 rfl).trans F48
  replace F62 := (Nx.2.2.1 62 rfl).trans F62
  replace F63 := (Nx.2.2.1 63 rfl).trans F63
  replace F64 := (Nx.2.2.1 64 rfl).trans F64
  replace F65 := (Nx.2.2.1 65 rfl).trans F65
  replace F66 := (Nx.2.2.1 66 rfl).trans F66
  replace F67 := (Nx.2.2.1 67 rfl).trans F67
  replace F68 := (Nx.2.2.1 68 rfl).trans F68
  replace F69 := (Nx.2.2.1 69 rfl).trans F69
  replace F70 := (Nx.2.2.1 70 rfl).trans F70
  replace F71 := (Nx.2.2.1 71 rfl).trans F71
  replace F72 := (Nx.2.2.1 72 rfl).trans F72
  replace F73 := (Nx.2.2.1 73 rfl).trans F73
  replace F74 := (Nx.2.2.1 74 rfl).trans F74
  replace F75 := (Nx.2.2.1 75 rfl).trans F75
  replace F76 := (Nx.2.2.1 76 rfl).trans F76
  replace F77 := (Nx.2.2.1 77 rfl).trans F77
  replace F78 := (Nx.2.2.1 78 rfl).trans F78
  replace F79 := (Nx.2.2.1 79 rfl).trans F79
  replace F80 := (Nx.2.2.1 80 rfl).trans F80
  replace F81 := (Nx.2.2.1 81 rfl).trans F81
  have F49 := Nx.2.1
  replace D := Nx.2.2.2.trans D
  clear Z Nx
  have Z := Zn
  clear Zn af5
  refine' dqo_pure (d := 50) (by rfl) (by rfl) Z (by rfl) (wanted_not (by rfl)) ?hv8 ?rest8
  case hv8 => (intro ρ hρ; have E48 := (hρ.1 48).trans F48; have E49 := (hρ.1 49).trans F49; have Ec := hρ.2.1; have Ef := hρ.2.2.1; clear hρ; intro w hw; (try dsimp only at hw); go_split_ands; go_simp; try with_reducible rfl)
  case' rest8 => intro af7 Zn Nx
  replace F2 := (Nx.2.2.1 2 rfl).trans F2
  replace F3 := (Nx.2.2.1 3 rfl).trans F3
  replace F14 := (Nx.2.2.1 14 rfl).trans F14
  replace F15 := (Nx.2.2.1 15 rfl).trans F15
  clear F48
  clear F49
  replace F62 := (Nx.2.2.1 62 rfl).trans F62
  replace F63 := (Nx.2.2.1 63 rfl).trans F63
  replace F64 := (Nx.2.2.1 64 rfl).trans F64
  replace F65 := (Nx.2.2.1 65 rfl).trans F65
  replace F66 := (Nx.2.2.1 66 rfl).trans F66
  replace F67 := (Nx.2.2.1 67 rfl).trans F67
  replace F68 := (Nx.2.2.1 68 rfl).trans F68
  replace F69 := (Nx.2.2.1 69 rfl).trans F69
  replace F70 := (Nx.2.2.1 70 rfl).trans F70
  replace F71 := (Nx.2.2.1 71 rfl).trans F71
  replace F72 := (Nx.2.2.1 72 rfl).trans F72
  replace F73 := (Nx.2.2.1 73 rfl).trans F73
  replace F74 := (Nx.2.2.1 74 rfl).trans F74
  replace F75 := (Nx.2.2.1 75 rfl).trans F75
  replace F76 := (Nx.2.2.1 76 rfl).trans F76
  replace F77 := (Nx.2.2.1 77 rfl).trans F77
  replace F78 := (Nx.2.2.1 78 rfl).trans F78
  replace F79 := (Nx.2.2.1 79 rfl).trans F79
  replace F80 := (Nx.2.2.1 80 rfl).trans F80
  replace F81 := (Nx.2.2.1 81 rfl).trans F81
  have F50 := Nx.2.1
  replace D := Nx.2.2.2.trans D
  clear Z Nx
  have Z := Zn
  clear Zn af6
  refine' dqo_pure (d := 51) (by rfl) (by rfl) Z (by rfl) (wanted_not (by rfl)) ?hv9 ?rest9
  case hv9 => (intro ρ hρ; have E50 := (hρ.1 50).trans F50; have Ec := hρ.2.1; have Ef := hρ.2.2.1; clear hρ; intro w hw; (try dsimp only at hw); go_split_ands; go_simp; try with_reducible rfl)
  case' rest9 => intro af8 Zn Nx
  replace F2 := (Nx.2.2.1 2 rfl).trans F2
  replace F3 := (Nx.2.2.1 3 rfl).trans F3
  replace F14 := (Nx.2.2.1 14 rfl).trans F14
  replace F15 := (Nx.2.2.1 15 rfl).trans F15
  clear F50
  replace F62 := (Nx.2.2.1 62 rfl).trans F62
  replace F63 := (Nx.2.2.1 63 rfl).trans F63
  replace F64 := (Nx.2.2.1 64 rfl).trans F64
  replace F65 := (Nx.2.2.1 65 rfl).trans F65
  replace F66 := (Nx.2.2.1 66 rfl).trans F66
  replace F67 := (Nx.2.2.1 67 rfl).trans F67
  replace F68 := (Nx.2.2.1 68 rfl).trans F68
  replace F69 := (Nx.2.2.1 69 rfl).trans F69
  replace F70 := (Nx.2.2.1 70 rfl).trans F70
  replace F71 := (Nx.2.2.1 71 rfl).trans F71
  replace F72 := (Nx.2.2.1 72 rfl).trans F72
  replace F73 := (Nx.2.2.1 73 rfl).trans F73
  replace F74 := (Nx.2.2.1 74 rfl).trans F74
  replace F75 := (Nx.2.2.1 75 rfl).trans F75
  replace F76 := (Nx.2.2.1 76 rfl).trans F76
  replace F77 := (Nx.2.2.1 77 rfl).trans F77
  replace F78 := (Nx.2.2.1 78 rfl).trans F78
  replace F79 := (Nx.2.2.1 79 rfl).trans F79
  replace F80 := (Nx.2.2.1 80 rfl).trans F80
  replace F81 := (Nx.2.2.1 81 rfl).trans F81
  have F51 := Nx.2.1
  replace D := Nx.2.2.2.trans D
  clear Z Nx
  have Z := Zn
  clear Zn af7
  refine' dqo_pass (d := 52) (by rfl) (by rfl) Z (by rfl) (wanted_no (by rfl) (by rfl) F51 (by rfl)) ?rest10
  case' rest10 => intro af9 Zn Nx
  replace F2 := (Nx.2.2.1 2 rfl).trans F2
  replace F3 := (Nx.2.2.1 3 rfl).trans F3
  replace F14 := (Nx.2.2.1 14 rfl).trans F14
  replace F15 := (Nx.2.2.1 15 rfl).trans F15
  replace F51 := (Nx.2.2.1 51 rfl).trans F51
  replace F62 := (Nx.2.2.1 62 rfl).trans F62
  replace F63 := (Nx.2.2.1 63 rfl).trans F63
  replace F64 := (Nx.2.2.1 64 rfl).trans F64
  replace F65 := (Nx.2.2.1 65 rfl).trans F65
  replace F66 := (Nx.2.2.1 66 rfl).trans F66
  replace F67 := (Nx.2.2.1 67 rfl).trans F67
  replace F68 := (Nx.2.2.1 68 rfl).trans F68
  replace F69 := (Nx.2.2.1 69 rfl).trans F69
  replace F70 := (Nx.2.2.1 70 rfl).trans F70
  replace F71 := (Nx.2.2.1 71 rfl).trans F71
  replace F72 := (Nx.2.2.1 72 rfl).trans F72
  replace F73 := (Nx.2.2.1 73 rfl).trans F73
  replace F74 := (Nx.2.2.1 74 rfl).trans F74
  replace F75 := (Nx.2.2.1 75 rfl).trans F75
  replace F76 := (Nx.2.2.1 76 rfl).trans F76
  replace F77 := (Nx.2.2.1 77 rfl).trans F77
  replace F78 := (Nx.2.2.1 78 rfl).trans F78
  replace F79 := (Nx.2.2.1 79 rfl).trans F79
  replace F80 := (Nx.2.2.1 80 rfl).trans F80
  replace F81 := (Nx.2.2.1 81 rfl).trans F81
  replace D := Nx.2.2.2.trans D
  clear Z Nx
  have Z := Zn
  clear Zn af8
  refine' dqo_pass (d := 53) (by rfl) (by rfl) Z (by rfl) (wanted_no (by rfl) (by rfl) F51 (by rfl)) ?rest11
  case' rest11 => intro af10 Zn Nx
  replace F2 := (Nx.2.2.1 2 rfl).trans F2
  replace F3 := (Nx.2.2.1 3 rfl).trans F3
  replace F14 := (Nx.2.2.1 14 rfl).trans F14
  replace F15 := (Nx.2.2.1 15 rfl).trans F15
  replace F51 := (Nx.2.2.1 51 rfl).trans F51
  replace F62 := (Nx.2.2.1 62 rfl).trans F62
  replace F63 := (Nx.2.2.1 63 rfl).trans F63
  replace F64 := (Nx.2.2.1 64 rfl).trans F64
  replace F65 := (Nx.2.2.1 65 rfl).trans F65
  replace F66 := (Nx.2.2.1 66 rfl).trans F66
  replace F67 := (Nx.2.2.1 67 rfl).trans F67
  replace F68 := (Nx.2.2.1 68 rfl).trans F68
  replace F69 := (Nx.2.2.1 69 rfl).trans F69
  replace F70 := (Nx.2.2.1 70 rfl).trans F70
  replace F71 := (Nx.2.2.1 71 rfl).trans F71
  replace F72 := (Nx.2.2.1 72 rfl).trans F72
  replace F73 := (Nx.2.2.1 73 rfl).trans F73
  replace F74 := (Nx.2.2.1 74 rfl).trans F74
  replace F75 := (Nx.2.2.1 75 rfl).trans F75
  replace F76 := (Nx.2.2.1 76 rfl).trans F76
  replace F77 := (Nx.2.2.1 77 rfl).trans F77
  replace F78 := (Nx.2.2.1 78 rfl).trans F78
  replace F79 := (Nx.2.2.1 79 rfl).trans F79
  replace F80 := (Nx.2.2.1 80 rfl).trans F80
  replace F81 := (Nx.2.2.1 81 rfl).trans F81
  replace D := Nx.2.2.2.trans D
  clear Z Nx
  have Z := Zn
  clear Zn af9
  refine' dqo_pass (d := 54) (by rfl) (by rfl) Z (by rfl) (wanted_no (by rfl) (by rfl) F51 (by rfl)) ?rest12
  case' rest12 => intro af11 Zn Nx
  replace F2 := (Nx.2.2.1 2 rfl).trans F2
  replace F3 := (Nx.2.2.1 3 rfl).trans F3
  replace F14 := (Nx.2.2.1 14 rfl).trans F14
  replace F15 := (Nx.2.2.1 15 rfl).trans F15
  replace F51 := (Nx.2.2.1 51 rfl).trans F51
  replace F62 := (Nx.2.2.1 62 rfl).trans F62
  replace F63 := (Nx.2.2.1 63 rfl).trans F63
  replace F64 := (Nx.2.2.1 64 rfl).trans F64
  replace F65 := (Nx.2.2.1 65 rfl).trans F65
  replace F66 := (Nx.2.2.1 66 rfl).trans F66
  replace F67 := (Nx.2.2.1 67 rfl).trans F67
  replace F68 := (Nx.2.2.1 68 rfl).trans F68
  replace F69 := (Nx.2.2.1 69 rfl).trans F69
  replace F70 := (Nx.2.2.1 70 rfl).trans F70
  replace F71 := (Nx.2.2.1 71 rfl).trans F71
  replace F72 := (Nx.2.2.1 72 rfl).trans F72
  replace F73 := (Nx.2.2.1 73 rfl).trans F73
  replace F74 := (Nx.2.2.1 74 rfl).trans F74
  replace F75 := (Nx.2.2.1 75 rfl).trans F75
  replace F76 := (Nx.2.2.1 76 rfl).trans F76
  replace F77 := (Nx.2.2.1 77 rfl).trans F77
  replace F78 := (Nx.2.2.1 78 rfl).trans F78
  replace F79 := (Nx.2.2.1 79 rfl).trans F79
  replace F80 := (Nx.2.2.1 80 rfl).trans F80
  replace F81 := (Nx.2.2.1 81 rfl).trans F81
  replace D := Nx.2.2.2.trans D
  clear Z Nx
  have Z := Zn
  clear Zn af10
  refine' dqo_pass (d := 55) (by rfl) (by rfl) Z (by rfl) (wanted_no (by rfl) (by rfl) F51 (by rfl)) ?rest13
  case' rest13 => intro af12 Zn Nx
  replace F2 := (Nx.2.2.1 2 rfl).trans F2
  replace F3 := (Nx.2.2.1 3 rfl).trans F3
  replace F14 := (Nx.2.2.1 14 rfl).trans F14
  replace F15 := (Nx.2.2.1 15 rfl).trans F15
  replace F51 := (Nx.2.2.1 51 rfl).trans F51
  replace F62 := (Nx.2.2.1 62 rfl).trans F62
  replace F63 := (Nx.2.2.1 63 rfl).trans F63
  replace F64 := (Nx.2.2.1 64 rfl).trans F64
  replace F65 := (Nx.2.2.1 65 rfl).trans F65
  replace F66 := (Nx.2.2.1 66 rfl).trans F66
  replace F67 := (Nx.2.2.1 67 rfl).trans F67
  replace F68 := (Nx.2.2.1 68 rfl).trans F68
  replace F69 := (Nx.2.2.1 69 rfl).trans F69
  replace F70 := (Nx.2.2.1 70 rfl).trans F70
  replace F71 := (Nx.2.2.1 71 rfl).trans F71
  replace F72 := (Nx.2.2.1 72 rfl).trans F72
  replace F73 := (Nx.2.2.1 73 rfl).trans F73
  replace F74 := (Nx.2.2.1 74 rfl).trans F74
  replace F75 := (Nx.2.2.1 75 rfl).trans F75
  replace F76 := (Nx.2.2.1 76 rfl).trans F76
  replace F77 := (Nx.2.2.1 77 rfl).trans F77
  replace F78 := (Nx.2.2.1 78 rfl).trans F78
  replace F79 := (Nx.2.2.1 79 rfl).trans F79
  replace F80 := (Nx.2.2.1 80 rfl).trans F80
  replace F81 := (Nx.2.2.1 81 rfl).trans F81
  replace D := Nx.2.2.2.trans D
  clear Z Nx
  have Z := Zn
  clear Zn af11
  refine' dqo_pass (d := 56) (by rfl) (by rfl) Z (by rfl) (wanted_no (by rfl) (by rfl) F51 (by rfl)) ?rest14
  case' rest14 => intro af13 Zn Nx
  replace F2 := (Nx.2.2.1 2 rfl).trans F2
  replace F3 := (Nx.2.2.1 3 rfl).trans F3
  replace F14 := (Nx.2.2.1 14 rfl).trans F14
  replace F15 := (Nx.2.2.1 15 rfl).trans F15
  replace F51 := (Nx.2.2.1 51 rfl).trans F51
  replace F62 := (Nx.2.2.1 62 rfl).trans F62
  replace F63 := (Nx.2.2.1 63 rfl).trans F63
  replace F64 := (Nx.2.2.1 64 rfl).trans F64
  replace F65 := (Nx.2.2.1 65 rfl).trans F65
  replace F66 := (Nx.2.2.1 66 rfl).trans F66
  replace F67 := (Nx.2.2.1 67 rfl).trans F67
  replace F68 := (Nx.2.2.1 68 rfl).trans F68
  replace F69 := (Nx.2.2.1 69 rfl).trans F69
  replace F70 := (Nx.2.2.1 70 rfl).trans F70
  replace F71 := (Nx.2.2.1 71 rfl).trans F71
  replace F72 := (Nx.2.2.1 72 rfl).trans F72
  replace F73 := (Nx.2.2.1 73 rfl).trans F73
  replace F74 := (Nx.2.2.1 74 rfl).trans F74
  replace F75 := (Nx.2.2.1 75 rfl).trans F75
  replace F76 := (Nx.2.2.1 76 rfl).trans F76
  replace F77 := (Nx.2.2.1 77 rfl).trans F77
  replace F78 := (Nx.2.2.1 78 rfl).trans F78
  replace F79 := (Nx.2.2.1 79 rfl).trans F79
  replace F80 := (Nx.2.2.1 80 rfl).trans F80
  replace F81 := (Nx.2.2.1 81 rfl).trans F81
  replace D := Nx.2.2.2.trans D
  clear Z Nx
  have Z := Zn
  clear Zn af12
  refine' dqo_pass (d := 57) (by rfl) (by rfl) Z (by rfl) (wanted_no (by rfl) (by rfl) F51 (by rfl)) ?rest15
  case' rest15 => intro af14 Zn Nx
  replace F2 := (Nx.2.2.1 2 rfl).trans F2
  replace F3 := (Nx.2.2.1 3 rfl).trans F3
  replace F14 := (Nx.2.2.1 14 rfl).trans F14
  replace F15 := (Nx.2.2.1 15 rfl).trans F15
  replace F51 := (Nx.2.2.1 51 rfl).trans F51
  replace F62 := (Nx.2.2.1 62 rfl).trans F62
  replace F63 := (Nx.2.2.1 63 rfl).trans F63
  replace F64 := (Nx.2.2.1 64 rfl).trans F64
  replace F65 := (Nx.2.2.1 65 rfl).trans F65
  replace F66 := (Nx.2.2.1 66 rfl).trans F66
  replace F67 := (Nx.2.2.1 67 rfl).trans F67
  replace F68 := (Nx.2.2.1 68 rfl).trans F68
  replace F69 := (Nx.2.2.1 69 rfl).trans F69
  replace F70 := (Nx.2.2.1 70 rfl).trans F70
  replace F71 := (Nx.2.2.1 71 rfl).trans F71
  replace F72 := (Nx.2.2.1 72 rfl).trans F72
  replace F73 := (Nx.2.2.1 73 rfl).trans F73
  replace F74 := (Nx.2.2.1 74 rfl).trans F74
  replace F75 := (Nx.2.2.1 75 rfl).trans F75
  replace F76 := (Nx.2.2.1 76 rfl).trans F76
  replace F77 := (Nx.2.2.1 77 rfl).trans F77
  replace F78 := (Nx.2.2.1 78 rfl).trans F78
  replace F79 := (Nx.2.2.1 79 rfl).trans F79
  replace F80 := (Nx.2.2.1 80 rfl).trans F80
  replace F81 := (Nx.2.2.1 81 rfl).trans F81
  replace D := Nx.2.2.2.trans D
  clear Z Nx
  have Z := Zn
  clear Zn af13
  refine' dqo_pass (d := 58) (by rfl) (by rfl) Z (by rfl) (wanted_no (by rfl) (by rfl) F51 (by rfl)) ?rest16
  case' rest16 => intro af15 Zn Nx
  replace F2 := (Nx.2.2.1 2 rfl).trans F2
  replace F3 := (Nx.2.2.1 3 rfl).trans F3
  replace F14 := (Nx.2.2.1 14 rfl).trans F14
  replace F15 := (Nx.2.2.1 15 rfl).trans F15
  replace F51 := (Nx.2.2.1 51 rfl).trans F51
  replace F62 := (Nx.2.2.1 62 rfl).trans F62
  replace F63 := (Nx.2.2.1 63 rfl).trans F63
  replace F64 := (Nx.2.2.1 64 rfl).trans F64
  replace F65 := (Nx.2.2.1 65 rfl).trans F65
  replace F66 := (Nx.2.2.1 66 rfl).trans F66
  replace F67 := (Nx.2.2.1 67 rfl).trans F67
  replace F68 := (Nx.2.2.1 68 rfl).trans F68
  replace F69 := (Nx.2.2.1 69 rfl).trans F69
  replace F70 := (Nx.2.2.1 70 rfl).trans F70
  replace F71 := (Nx.2.2.1 71 rfl).trans F71
  replace F72 := (Nx.2.2.1 72 rfl).trans F72
  replace F73 := (Nx.2.2.1 73 rfl).trans F73
  replace F74 := (Nx.2.2.1 74 rfl).trans F74
  replace F75 := (Nx.2.2.1 75 rfl).trans F75
  replace F76 := (Nx.2.2.1 76 rfl).trans F76
  replace F77 := (Nx.2.2.1 77 rfl).trans F77
  replace F78 := (Nx.2.2.1 78 rfl).trans F78
  replace F79 := (Nx.2.2.1 79 rfl).trans F79
  replace F80 := (Nx.2.2.1 80 rfl).trans F80
  replace F81 := (Nx.2.2.1 81 rfl).trans F81
  replace D := Nx.2.2.2.trans D
  clear Z Nx
  have Z := Zn
  clear Zn af14
  refine' dqo_pass (d := 59) (by rfl) (by rfl) Z (by rfl) (wanted_no (by rfl) (by rfl) F51 (by rfl)) ?rest17
  case' rest17 => intro af16 Zn Nx
  replace F2 := (Nx.2.2.1 2 rfl).trans F2
  replace F3 := (Nx.2.2.1 3 rfl).trans F3
  replace F14 := (Nx.2.2.1 14 rfl).trans F14
  replace F15 := (Nx.2.2.1 15 rfl).trans F15
  replace F51 := (Nx.2.2.1 51 rfl).trans F51
  replace F62 := (Nx.2.2.1 62 rfl).trans F62
  replace F63 := (Nx.2.2.1 63 rfl).trans F63
  replace F64 := (Nx.2.2.1 64 rfl).trans F64
  replace F65 := (Nx.2.2.1 65 rfl).trans F65
  replace F66 := (Nx.2.2.1 66 rfl).trans F66
  replace F67 := (Nx.2.2.1 67 rfl).trans F67
  replace F68 := (Nx.2.2.1 68 rfl).trans F68
  replace F69 := (Nx.2.2.1 69 rfl).trans F69
  replace F70 := (Nx.2.2.1 70 rfl).trans F70
  replace F71 := (Nx.2.2.1 71 rfl).trans F71
  replace F72 := (Nx.2.2.1 72 rfl).trans F72
  replace F73 := (Nx.2.2.1 73 rfl).trans F73
  replace F74 := (Nx.2.2.1 74 rfl).trans F74
  replace F75 := (Nx.2.2.1 75 rfl).trans F75
  replace F76 := (Nx.2.2.1 76 rfl).trans F76
  replace F77 := (Nx.2.2.1 77 rfl).trans F77
  replace F78 := (Nx.2.2.1 78 rfl).trans F78
  replace F79 := (Nx.2.2.1 79 rfl).trans F79
  replace F80 := (Nx.2.2.1 80 rfl).trans F80
  replace F81 := (Nx.2.2.1 81 rfl).trans F81
  replace D := Nx.2.2.2.trans D
  clear Z Nx
  have Z := Zn
  clear Zn af15
  refine' dqo_pass (d := 60) (by rfl) (by rfl) Z (by rfl) (wanted_no (by rfl) (by rfl) F51 (by rfl)) ?rest18
  case' rest18 => intro af17 Zn Nx
  replace F2 := (Nx.2.2.1 2 rfl).trans F2
  replace F3 := (Nx.2.2.1 3 rfl).trans F3
  replace F14 := (Nx.2.2.1 14 rfl).trans F14
  replace F15 := (Nx.2.2.1 15 rfl).trans F15
  replace F51 := (Nx.2.2.1 51 rfl).trans F51
  replace F62 := (Nx.2.2.1 62 rfl).trans F62
  replace F63 := (Nx.2.2.1 63 rfl).trans F63
  replace F64 := (Nx.2.2.1 64 rfl).trans F64
  replace F65 := (Nx.2.2.1 65 rfl).trans F65
  replace F66 := (Nx.2.2.1 66 rfl).trans F66
  replace F67 := (Nx.2.2.1 67 rfl).trans F67
  replace F68 := (Nx.2.2.1 68 rfl).trans F68
  replace F69 := (Nx.2.2.1 69 rfl).trans F69
  replace F70 := (Nx.2.2.1 70 rfl).trans F70
  replace F71 := (Nx.2.2.1 71 rfl).trans F71
  replace F72 := (Nx.2.2.1 72 rfl).trans F72
  replace F73 := (Nx.2.2.1 73 rfl).trans F73
  replace F74 := (Nx.2.2.1 74 rfl).trans F74
  replace F75 := (Nx.2.2.1 75 rfl).trans F75
  replace F76 := (Nx.2.2.1 76 rfl).trans F76
  replace F77 := (Nx.2.2.1 77 rfl).trans F77
  replace F78 := (Nx.2.2.1 78 rfl).trans F78
  replace F79 := (Nx.2.2.1 79 rfl).trans F79
  replace F80 := (Nx.2.2.1 80 rfl).trans F80
  replace F81 := (Nx.2.2.1 81 rfl).trans F81
  have F60 := Nx.2.1
  replace D := Nx.2.2.2.trans D
  clear Z Nx
  have Z := Zn
  clear Zn af16
  refine' dqo_pure (d := 61) (by rfl) (by rfl) Z (by rfl) (wanted_not (by rfl)) ?hv19 ?rest19
  case hv19 => (intro ρ hρ; have E51 := (hρ.1 51).trans F51; have E60 := (hρ.1 60).trans F60; have Ec := hρ.2.1; have Ef := hρ.2.2.1; clear hρ; intro w hw; (try dsimp only at hw); go_split_ands; go_simp; try with_reducible rfl)
  case' rest19 => intro af18 Zn Nx
  replace F2 := (Nx.2.2.1 2 rfl).trans F2
  replace F3 := (Nx.2.2.1 3 rfl).trans F3
  replace F14 := (Nx.2.2.1 14 rfl).trans F14
  replace F15 := (Nx.2.2.1 15 rfl).trans F15
  clear F51
  clear F60
  replace F62 := (Nx.2.2.1 62 rfl).trans F62
  replace F63 := (Nx.2.2.1 63 rfl).trans F63
  replace F64 := (Nx.2.2.1 64 rfl).trans F64
  replace F65 := (Nx.2.2.1 65 rfl).trans F65
  replace F66 := (Nx.2.2.1 66 rfl).trans F66
  replace F67 := (Nx.2.2.1 67 rfl).trans F67
  replace F68 := (Nx.2.2.1 68 rfl).trans F68
  replace F69 := (Nx.2.2.1 69 rfl).trans F69
  replace F70 := (Nx.2.2.1 70 rfl).trans F70
  replace F71 := (Nx.2.2.1 71 rfl).trans F71
  replace F72 := (Nx.2.2.1 72 rfl).trans F72
  replace F73 := (Nx.2.2.1 73 rfl).trans F73
  replace F74 := (Nx.2.2.1 74 rfl).trans F74
  replace F75 := (Nx.2.2.1 75 rfl).trans F75
  replace F76 := (Nx.2.2.1 76 rfl).trans F76
  replace F77 := (Nx.2.2.1 77 rfl).trans F77
  replace F78 := (Nx.2.2.1 78 rfl).trans F78
  replace F79 := (Nx.2.2.1 79 rfl).trans F79
  replace F80 := (Nx.2.2.1 80 rfl).trans F80
  replace F81 := (Nx.2.2.1 81 rfl).trans F81
  have F61 := Nx.2.1
  replace D := Nx.2.2.2.trans D
  clear Z Nx
  have Z := Zn
  clear Zn af17
  refine dq_nil ?_
  refine fa_nil ?_
  rintro W ⟨⟨hb0, hn0, ⟨B1, B1c, B1f, B1l⟩, ⟨B2, B2c, B2f, B2l⟩, ⟨B3, B3c, B3f, B3l⟩, ⟨B4, B4c, B4f, B4l⟩, ⟨B5, B5c, B5f, B5l⟩, ⟨B6, B6c, B6f, B6l⟩, ⟨B7, B7c, B7f, B7l⟩⟩, hgl⟩ hbs
  clear hbs hgl
  obtain ⟨ρ, hρ⟩ := rho_of af18
  have hL := act_lit (l := [ρ (.tmp 0), ρ (.tmp 1), _, _, ρ (.tmp 4), ρ (.tmp 5), ρ (.tmp 6), ρ (.tmp 7), ρ (.tmp 8), ρ (.tmp 9), ρ (.tmp 10), ρ (.tmp 11), ρ (.tmp 12), ρ (.tmp 13), _, _, ρ (.tmp 16), ρ (.tmp 17), ρ (.tmp 18), ρ (.tmp 19), ρ (.tmp 20), ρ (.tmp 21), ρ (.tmp 22), ρ (.tmp 23), ρ (.tmp 24), ρ (.tmp 25), ρ (.tmp 26), ρ (.tmp 27), ρ (.tmp 28), ρ (.tmp 29), ρ (.tmp 30), ρ (.tmp 31), ρ (.tmp 32), ρ (.tmp 33), ρ (.tmp 34), ρ (.tmp 35), ρ (.tmp 36), ρ (.tmp 37), ρ (.tmp 38), ρ (.tmp 39), ρ (.tmp 40), ρ (.tmp 41), ρ (.tmp 42), ρ (.tmp 43), ρ (.tmp 44), ρ (.tmp 45), ρ (.tmp 46), ρ (.tmp 47), ρ (.tmp 48), ρ (.tmp 49), ρ (.tmp 50), ρ (.tmp 51), ρ (.tmp 52), ρ (.tmp 53), ρ (.tmp 54), ρ (.tmp 55), ρ (.tmp 56), ρ (.tmp 57), ρ (.tmp 58), ρ (.tmp 59), ρ (.tmp 60), _, _, _, _, _, _, _, _, _, _, _, _, _, _, _, _, _, _, _, _, _]) Z D (by rfl) ⟨hρ 0, hρ 1, F2, F3, hρ 4, hρ 5, hρ 6, hρ 7, hρ 8, hρ 9, hρ 10, hρ 11, hρ 12, hρ 13, F14, F15, hρ 16, hρ 17, hρ 18, hρ 19, hρ 20, hρ 21, hρ 22, hρ 23, hρ 24, hρ 25, hρ 26, hρ 27, hρ 28, hρ 29, hρ 30, hρ 31, hρ 32, hρ 33, hρ 34, hρ 35, hρ 36, hρ 37, hρ 38, hρ 39, hρ 40, hρ 41, hρ 42, hρ 43, hρ 44, hρ 45, hρ 46, hρ 47, hρ 48, hρ 49, hρ 50, hρ 51, hρ 52, hρ 53, hρ 54, hρ 55, hρ 56, hρ 57, hρ 58, hρ 59, hρ 60, F61, F62, F63, F64, F65, F66, F67, F68, F69, F70, F71, F72, F73, F74, F75, F76, F77, F78, F79, F80, F81, trivial⟩
  clear hρ Z D F2 F3 F14 F15 F61 F62 F63 F64 F65 F66 F67 F68 F69 F70 F71 F72 F73 F74 F75 F76 F77 F78 F79 F80 F81
  subst hL
  simp only [List.drop_succ_cons, List.drop_zero]
  rotate_left 1
  (refine wp_region_dq (row := none) (S := (fun Wz => Below u3.heap.size u3 Wz ∧ u3.heap.size ≤ Wz.heap.size ∧ Bx Wz (wp.heap.size) (#[.int .i64 x1, .int .i64 y1]) ∧ Bx Wz (wp.heap.size + 1) (#[.int .i64 x2, .int .i64 y2]) ∧ Bx Wz (wp.heap.size + 1 + 1) (#[.int .i64 x3, .int .i64 y3]) ∧ Bx Wz (wp.heap.size + 1 + 1 + 1) (#[.int .i64 x4, .int .i64 y4]) ∧ Bx Wz (u1.heap.size) (#[.int .i64 X1, .int .i64 Y1]) ∧ Bx Wz (u2.heap.size) (#[.int .i64 X2, .int .i64 Y2]) ∧ Bx Wz (u3.heap.size) (#[.int .i64 X3, .int .i64 Y3]))) (n0 := u3.heap.size) 18 [] [(0, 0), (1, 0), (2, 0), (3, 0), (4, 0), (5, 0), (6, 0), (7, 0), (8, 0), (9, 0), (10, 0), (11, 0), (12, 0), (13, 0), (14, 0), (15, 0), (16, 0), (17, 0)] [] (by kernel_rfl) (by kernel_rfl) (fun _ _ d _ _ h => by cases d <;> exact h) (by refine ⟨?b, ?n, ?_, ?_, ?_, ?_, ?_, ?_, ?_⟩; (case b => (repeat' (first | (with_reducible assumption) | (with_reducible exact Below.refl _ _) | (with_reducible refine Below.alloc ?_ ?_ _) | (with_reducible refine Below.setCell ?_ ?_ _) | (with_reducible refine Below.drew ?_) | (with_reducible refine below_more ?_ (by with_reducible assumption)) | go_size | omega | (with_reducible refine below_drewN ?_)))); (case n => (first | go_size | omega)); all_goals (refine Bx.of ?_; (repeat' (first | (with_reducible assumption) | ((with_reducible refine HB.new _ _ _ ?_) <;> (go_size; done)) | (with_reducible refine HB.old (by go_size) ?_) | (with_reducible refine HB.drew ?_) | (with_reducible refine HB.over5 ?_) | (with_reducible refine HB.over4 ?_) | (with_reducible refine HB.setne (by first | go_size | (dsimp only; omega)) ?_) | (with_reducible refine HN.set ?_) | (with_reducible refine HN.setne (by first | go_size | (dsimp only; omega)) ?_) | (with_reducible refine HN.drew ?_) | (with_reducible refine HN.old (by go_size) ?_) | (with_reducible exact HN.of5 (by assumption)) | (with_reducible exact HN.new5 _ _ (by go_size)) | (with_reducible exact HN.of4 (by assumption)) | (with_reducible exact HN.new4 _ _ (by go_size)))))) (fun _ _ h g => keep7 h (below_gt g) rfl) (fun _ h => h.2.1) (fun _ h => by cases h) (by simp) ?_)
  refine dqo_start ?_
  intro af0 hA
  have Z := size_lit (n := 82) hA (by rfl)
  have D := defers_lit hA
  have F2 := ev_lit (t := 2) hA (by rfl)
  have F3 := ev_lit (t := 3) hA (by rfl)
  have F9 := ev_lit (t := 9) hA (by rfl)
  have F11 := ev_lit (t := 11) hA (by rfl)
  have F14 := ev_lit (t := 14) hA (by rfl)
  have F15 := ev_lit (t := 15) hA (by rfl)
  have F62 := ev_lit (t := 62) hA (by rfl)
  have F63 := ev_lit (t := 63) hA (by rfl)
  have F64 := ev_lit (t := 64) hA (by rfl)
  have F65 := ev_lit (t := 65) hA (by rfl)
  have F66 := ev_lit (t := 66) hA (by rfl)
  have F67 := ev_lit (t := 67) hA (by rfl)
  have F68 := ev_lit (t := 68) hA (by rfl)
  have F69 := ev_lit (t := 69) hA (by rfl)
  have F70 := ev_lit (t := 70) hA (by rfl)
  have F71 := ev_lit (t := 71) hA (by rfl)
  have F72 := ev_lit (t := 72) hA (by rfl)
  have F73 := ev_lit (t := 73) hA (by rfl)
  have F74 := ev_lit (t := 74) hA (by rfl)
  have F75 := ev_lit (t := 75) hA (by rfl)
  have F76 := ev_lit (t := 76) hA (by rfl)
  have F77 := ev_lit (t := 77) hA (by rfl)
  have F78 := ev_lit (t := 78) hA (by rfl)
  have F79 := ev_lit (t := 79) hA (by rfl)
  have F80 := ev_lit (t := 80) hA (by rfl)
  have F81 := ev_lit (t := 81) hA (by rfl)
  clear hA
  refine' dqo_pure (d := 44) (by rfl) (by rfl) Z (by rfl) (wanted_not (by rfl)) ?hv20 ?rest20
  case hv20 => (intro ρ hρ; have E9 := (hρ.1 9).trans F9; have Ec := hρ.2.1; have Ef := hρ.2.2.1; clear hρ; intro w hw; (try dsimp only at hw); go_split_ands; go_simp; try with_reducible rfl)
  case' rest20 => intro af1 Zn Nx
  replace F2 := (Nx.2.2.1 2 rfl).trans F2
  replace F3 := (Nx.2.2.1 3 rfl).trans F3
  clear F9
  replace F11 := (Nx.2.2.1 11 rfl).trans F11
  replace F14 := (Nx.2.2.1 14 rfl).trans F14
  replace F15 := (Nx.2.2.1 15 rfl).trans F15
  replace F62 := (Nx.2.2.1 62 rfl).trans F62
  replace F63 := (Nx.2.2.1 63 rfl).trans F63
  replace F64 := (Nx.2.2.1 64 rfl).trans F64
  replace F65 := (Nx.2.2.1 65 rfl).trans F65
  replace F66 := (Nx.2.2.1 66 rfl).trans F66
  replace F67 := (Nx.2.2.1 67 rfl).trans F67
  replace F68 := (Nx.2.2.1 68 rfl).trans F68
  replace F69 := (Nx.2.2.1 69 rfl).trans F69
  replace F70 := (Nx.2.2.1 70 rfl).trans F70
  replace F71 := (Nx.2.2.1 71 rfl).trans F71
  replace F72 := (Nx.2.2.1 72 rfl).trans F72
  replace F73 := (Nx.2.2.1 73 rfl).trans F73
  replace F74 := (Nx.2.2.1 74 rfl).trans F74
  replace F75 := (Nx.2.2.1 75 rfl).trans F75
  replace F76 := (Nx.2.2.1 76 rfl).trans F76
  replace F77 := (Nx.2.2.1 77 rfl).trans F77
  replace F78 := (Nx.2.2.1 78 rfl).trans F78
  replace F79 := (Nx.2.2.1 79 rfl).trans F79
  replace F80 := (Nx.2.2.1 80 rfl).trans F80
  replace F81 := (Nx.2.2.1 81 rfl).trans F81
  have F44 := Nx.2.1
  replace D := Nx.2.2.2.trans D
  clear Z Nx
  have Z := Zn
  clear Zn af0
  refine' dqo_pure (d := 45) (by rfl) (by rfl) Z (by rfl) (wanted_not (by rfl)) ?hv21 ?rest21
  case hv21 => (intro ρ hρ; have E44 := (hρ.1 44).trans F44; have Ec := hρ.2.1; have Ef := hρ.2.2.1; clear hρ; intro w hw; (try dsimp only at hw); go_split_ands; go_simp; try with_reducible rfl)
  case' rest21 => intro af2 Zn Nx
  replace F2 := (Nx.2.2.1 2 rfl).trans F2
  replace F3 := (Nx.2.2.1 3 rfl).trans F3
  replace F11 := (Nx.2.2.1 11 rfl).trans F11
  replace F14 := (Nx.2.2.1 14 rfl).trans F14
  replace F15 := (Nx.2.2.1 15 rfl).trans F15
  clear F44
  replace F62 := (Nx.2.2.1 62 rfl).trans F62
  replace F63 := (Nx.2.2.1 63 rfl).trans F63
  replace F64 := (Nx.2.2.1 64 rfl).trans F64
  replace F65 := (Nx.2.2.1 65 rfl).trans F65
  replace F66 := (Nx.2.2.1 66 rfl).trans F66
  replace F67 := (Nx.2.2.1 67 rfl).trans F67
  replace F68 := (Nx.2.2.1 68 rfl).trans F68
  replace F69 := (Nx.2.2.1 69 rfl).trans F69
  replace F70 := (Nx.2.2.1 70 rfl).trans F70
  replace F71 := (Nx.2.2.1 71 rfl).trans F71
  replace F72 := (Nx.2.2.1 72 rfl).trans F72
  replace F73 := (Nx.2.2.1 73 rfl).trans F73
  replace F74 := (Nx.2.2.1 74 rfl).trans F74
  replace F75 := (Nx.2.2.1 75 rfl).trans F75
  replace F76 := (Nx.2.2.1 76 rfl).trans F76
  replace F77 := (Nx.2.2.1 77 rfl).trans F77
  replace F78 := (Nx.2.2.1 78 rfl).trans F78
  replace F79 := (Nx.2.2.1 79 rfl).trans F79
  replace F80 := (Nx.2.2.1 80 rfl).trans F80
  replace F81 := (Nx.2.2.1 81 rfl).trans F81
  have F45 := Nx.2.1
  replace D := Nx.2.2.2.trans D
  clear Z Nx
  have Z := Zn
  clear Zn af1
  refine' dqo_pure (d := 46) (by rfl) (by rfl) Z (by rfl) (wanted_yes (by rfl) (by rfl) F45) ?hv22 ?rest22
  case hv22 => (intro ρ hρ; have E11 := (hρ.1 11).trans F11; have Ec := hρ.2.1; have Ef := hρ.2.2.1; clear hρ; intro w hw; (try dsimp only at hw); go_split_ands; go_simp; try with_reducible rfl)
  case' rest22 => intro af3 Zn Nx
  replace F2 := (Nx.2.2.1 2 rfl).trans F2
  replace F3 := (Nx.2.2.1 3 rfl).trans F3
  clear F11
  replace F14 := (Nx.2.2.1 14 rfl).trans F14
  replace F15 := (Nx.2.2.1 15 rfl).trans F15
  replace F45 := (Nx.2.2.1 45 rfl).trans F45
  replace F62 := (Nx.2.2.1 62 rfl).trans F62
  replace F63 := (Nx.2.2.1 63 rfl).trans F63
  replace F64 := (Nx.2.2.1 64 rfl).trans F64
  replace F65 := (Nx.2.2.1 65 rfl).trans F65
  replace F66 := (Nx.2.2.1 66 rfl).trans F66
  replace F67 := (Nx.2.2.1 67 rfl).trans F67
  replace F68 := (Nx.2.2.1 68 rfl).trans F68
  replace F69 := (Nx.2.2.1 69 rfl).trans F69
  replace F70 := (Nx.2.2.1 70 rfl).trans F70
  replace F71 := (Nx.2.2.1 71 rfl).trans F71
  replace F72 := (Nx.2.2.1 72 rfl).trans F72
  replace F73 := (Nx.2.2.1 73 rfl).trans F73
  replace F74 := (Nx.2.2.1 74 rfl).trans F74
  replace F75 := (Nx.2.2.1 75 rfl).trans F75
  replace F76 := (Nx.2.2.1 76 rfl).trans F76
  replace F77 := (Nx.2.2.1 77 rfl).trans F77
  replace F78 := (Nx.2.2.1 78 rfl).trans F78
  replace F79 := (Nx.2.2.1 79 rfl).trans F79
  replace F80 := (Nx.2.2.1 80 rfl).trans F80
  replace F81 := (Nx.2.2.1 81 rfl).trans F81
  have F46 := Nx.2.1
  replace D := Nx.2.2.2.trans D
  clear Z Nx
  have Z := Zn
  clear Zn af2
  refine' dqo_pure (d := 47) (by rfl) (by rfl) Z (by rfl) (wanted_not (by rfl)) ?hv23 ?rest23
  case hv23 => (intro ρ hρ; have E45 := (hρ.1 45).trans F45; have E46 := (hρ.1 46).trans F46; have Ec := hρ.2.1; have Ef := hρ.2.2.1; clear hρ; intro w hw; (try dsimp only at hw); go_split_ands; go_simp; try with_reducible rfl)
  case' rest23 => intro af4 Zn Nx
  replace F2 := (Nx.2.2.1 2 rfl).trans F2
  replace F3 := (Nx.2.2.1 3 rfl).trans F3
  replace F14 := (Nx.2.2.1 14 rfl).trans F14
  replace F15 := (Nx.2.2.1 15 rfl).trans F15
  clear F45
  clear F46
  replace F62 := (Nx.2.2.1 62 rfl).trans F62
  replace F63 := (Nx.2.2.1 63 rfl).trans F63
  replace F64 := (Nx.2.2.1 64 rfl).trans F64
  replace F65 := (Nx.2.2.1 65 rfl).trans F65
  replace F66 := (Nx.2.2.1 66 rfl).trans F66
  replace F67 := (Nx.2.2.1 67 rfl).trans F67
  replace F68 := (Nx.2.2.1 68 rfl).trans F68
  replace F69 := (Nx.2.2.1 69 rfl).trans F69
  replace F70 := (Nx.2.2.1 70 rfl).trans F70
  replace F71 := (Nx.2.2.1 71 rfl).trans F71
  replace F72 := (Nx.2.2.1 72 rfl).trans F72
  replace F73 := (Nx.2.2.1 73 rfl).trans F73
  replace F74 := (Nx.2.2.1 74 rfl).trans F74
  replace F75 := (Nx.2.2.1 75 rfl).trans F75
  replace F76 := (Nx.2.2.1 76 rfl).trans F76
  replace F77 := (Nx.2.2.1 77 rfl).trans F77
  replace F78 := (Nx.2.2.1 78 rfl).trans F78
  replace F79 := (Nx.2.2.1 79 rfl).trans F79
  replace F80 := (Nx.2.2.1 80 rfl).trans F80
  replace F81 := (Nx.2.2.1 81 rfl).trans F81
  have F47 := Nx.2.1
  replace D := Nx.2.2.2.trans D
  clear Z Nx
  have Z := Zn
  clear Zn af3
  refine' dqo_pure (d := 48) (by rfl) (by rfl) Z (by rfl) (wanted_not (by rfl)) ?hv24 ?rest24
  case hv24 => (intro ρ hρ; have E47 := (hρ.1 47).trans F47; have Ec := hρ.2.1; have Ef := hρ.2.2.1; clear hρ; intro w hw; (try dsimp only at hw); go_split_ands; go_simp; try with_reducible rfl)
  case' rest24 => intro af5 Zn Nx
  replace F2 := (Nx.2.2.1 2 rfl).trans F2
  replace F3 := (Nx.2.2.1 3 rfl).trans F3
  replace F14 := (Nx.2.2.1 14 rfl).trans F14
  replace F15 := (Nx.2.2.1 15 rfl).trans F15
  clear F47
  replace F62 := (Nx.2.2.1 62 rfl).trans F62
  replace F63 := (Nx.2.2.1 63 rfl).trans F63
  replace F64 := (Nx.2.2.1 64 rfl).trans F64
  replace F65 := (Nx.2.2.1 65 rfl).trans F65
  replace F66 := (Nx.2.2.1 66 rfl).trans F66
  replace F67 := (Nx.2.2.1 67 rfl).trans F67
  replace F68 := (Nx.2.2.1 68 rfl).trans F68
  replace F69 := (Nx.2.2.1 69 rfl).trans F69
  replace F70 := (Nx.2.2.1 70 rfl).trans F70
  replace F71 := (Nx.2.2.1 71 rfl).trans F71
  replace F72 := (Nx.2.2.1 72 rfl).trans F72
  replace F73 := (Nx.2.2.1 73 rfl).trans F73
  replace F74 := (Nx.2.2.1 74 rfl).trans F74
  replace F75 := (Nx.2.2.1 75 rfl).trans F75
  replace F76 := (Nx.2.2.1 76 rfl).trans F76
  replace F77 := (Nx.2.2.1 77 rfl).trans F77
  replace F78 := (Nx.2.2.1 78 rfl).trans F78
  replace F79 := (Nx.2.2.1 79 rfl).trans F79
  replace F80 := (Nx.2.2.1 80 rfl).trans F80
  replace F81 := (Nx.2.2.1 81 rfl).trans F81
  have F48 := Nx.2.1
  replace D := Nx.2.2.2.trans D
  clear Z Nx
  have Z := Zn
  clear Zn af4
  refine' dqo_pass (d := 49) (by rfl) (by rfl) Z (by rfl) (wanted_no (by rfl) (by rfl) F48 (by rfl)) ?rest25
  case' rest25 => intro af6 Zn Nx
  replace F2 := (Nx.2.2.1 2 rfl).trans F2
  replace F3 := (Nx.2.2.1 3 rfl).trans F3
  replace F14 := (Nx.2.2.1 14 rfl).trans F14
  replace F15 := (Nx.2.2.1 15 rfl).trans F15
  replace F48 := (Nx.2.2.1 48 rfl).trans F48
  replace F62 := (Nx.2.2.1 62 rfl).trans F62
  replace F63 := (Nx.2.2.1 63 rfl).trans F63
  replace F64 := (Nx.2.2.1 64 rfl).trans F64
  replace F65 := (Nx.2.2.1 65 rfl).trans F65
  replace F66 := (Nx.2.2.1 66 rfl).trans F66
  replace F67 := (Nx.2.2.1 67 rfl).trans F67
  replace F68 := (Nx.2.2.1 68 rfl).trans F68
  replace F69 := (Nx.2.2.1 69 rfl).trans F69
  replace F70 := (Nx.2.2.1 70 rfl).trans F70
  replace F71 := (Nx.2.2.1 71 rfl).trans F71
  replace F72 := (Nx.2.2.1 72 rfl).trans F72
  replace F73 := (Nx.2.2.1 73 rfl).trans F73
  replace F74 := (Nx.2.2.1 74 rfl).trans F74
  replace F75 := (Nx.2.2.1 75 rfl).trans F75
  replace F76 := (Nx.2.2.1 76 rfl).trans F76
  replace F77 := (Nx.2.2.1 77 rfl).trans F77
  replace F78 := (Nx.2.2.1 78 rfl).trans F78
  replace F79 := (Nx.2.2.1 79 rfl).trans F79
  replace F80 := (Nx.2.2.1 80 rfl).trans F80
  replace F81 := (Nx.2.2.1 81 rfl).trans F81
  have F49 := Nx.2.1
  replace D := Nx.2.2.2.trans D
  clear Z Nx
  have Z := Zn
  clear Zn af5
  refine' dqo_pure (d := 50) (by rfl) (by rfl) Z (by rfl) (wanted_not (by rfl)) ?hv26 ?rest26
  case hv26 => (intro ρ hρ; have E48 := (hρ.1 48).trans F48; have E49 := (hρ.1 49).trans F49; have Ec := hρ.2.1; have Ef := hρ.2.2.1; clear hρ; intro w hw; (try dsimp only at hw); go_split_ands; go_simp; try with_reducible rfl)
  case' rest26 => intro af7 Zn Nx
  replace F2 := (Nx.2.2.1 2 rfl).trans F2
  replace F3 := (Nx.2.2.1 3 rfl).trans F3
  replace F14 := (Nx.2.2.1 14 rfl).trans F14
  replace F15 := (Nx.2.2.1 15 rfl).trans F15
  clear F48
  clear F49
  replace F62 := (Nx.2.2.1 62 rfl).trans F62
  replace F63 := (Nx.2.2.1 63 rfl).trans F63
  replace F64 := (Nx.2.2.1 64 rfl).trans F64
  replace F65 := (Nx.2.2.1 65 rfl).trans F65
  replace F66 := (Nx.2.2.1 66 rfl).trans F66
  replace F67 := (Nx.2.2.1 67 rfl).trans F67
  replace F68 := (Nx.2.2.1 68 rfl).trans F68
  replace F69 := (Nx.2.2.1 69 rfl).trans F69
  replace F70 := (Nx.2.2.1 70 rfl).trans F70
  replace F71 := (Nx.2.2.1 71 rfl).trans F71
  replace F72 := (Nx.2.2.1 72 rfl).trans F72
  replace F73 := (Nx.2.2.1 73 rfl).trans F73
  replace F74 := (Nx.2.2.1 74 rfl).trans F74
  replace F75 := (Nx.2.2.1 75 rfl).trans F75
  replace F76 := (Nx.2.2.1 76 rfl).trans F76
  replace F77 := (Nx.2.2.1 77 rfl).trans F77
  replace F78 := (Nx.2.2.1 78 rfl).trans F78
  replace F79 := (Nx.2.2.1 79 rfl).trans F79
  replace F80 := (Nx.2.2.1 80 rfl).trans F80
  replace F81 := (Nx.2.2.1 81 rfl).trans F81
  have F50 := Nx.2.1
  replace D := Nx.2.2.2.trans D
  clear Z Nx
  have Z := Zn
  clear Zn af6
  refine' dqo_pure (d := 51) (by rfl) (by rfl) Z (by rfl) (wanted_not (by rfl)) ?hv27 ?rest27
  case hv27 => (intro ρ hρ; have E50 := (hρ.1 50).trans F50; have Ec := hρ.2.1; have Ef := hρ.2.2.1; clear hρ; intro w hw; (try dsimp only at hw); go_split_ands; go_simp; try with_reducible rfl)
  case' rest27 => intro af8 Zn Nx
  replace F2 := (Nx.2.2.1 2 rfl).trans F2
  replace F3 := (Nx.2.2.1 3 rfl).trans F3
  replace F14 := (Nx.2.2.1 14 rfl).trans F14
  replace F15 := (Nx.2.2.1 15 rfl).trans F15
  clear F50
  replace F62 := (Nx.2.2.1 62 rfl).trans F62
  replace F63 := (Nx.2.2.1 63 rfl).trans F63
  replace F64 := (Nx.2.2.1 64 rfl).trans F64
  replace F65 := (Nx.2.2.1 65 rfl).trans F65
  replace F66 := (Nx.2.2.1 66 rfl).trans F66
  replace F67 := (Nx.2.2.1 67 rfl).trans F67
  replace F68 := (Nx.2.2.1 68 rfl).trans F68
  replace F69 := (Nx.2.2.1 69 rfl).trans F69
  replace F70 := (Nx.2.2.1 70 rfl).trans F70
  replace F71 := (Nx.2.2.1 71 rfl).trans F71
  replace F72 := (Nx.2.2.1 72 rfl).trans F72
  replace F73 := (Nx.2.2.1 73 rfl).trans F73
  replace F74 := (Nx.2.2.1 74 rfl).trans F74
  replace F75 := (Nx.2.2.1 75 rfl).trans F75
  replace F76 := (Nx.2.2.1 76 rfl).trans F76
  replace F77 := (Nx.2.2.1 77 rfl).trans F77
  replace F78 := (Nx.2.2.1 78 rfl).trans F78
  replace F79 := (Nx.2.2.1 79 rfl).trans F79
  replace F80 := (Nx.2.2.1 80 rfl).trans F80
  replace F81 := (Nx.2.2.1 81 rfl).trans F81
  have F51 := Nx.2.1
  replace D := Nx.2.2.2.trans D
  clear Z Nx
  have Z := Zn
  clear Zn af7
  refine' dqo_pass (d := 52) (by rfl) (by rfl) Z (by rfl) (wanted_no (by rfl) (by rfl) F51 (by rfl)) ?rest28
  case' rest28 => intro af9 Zn Nx
  replace F2 := (Nx.2.2.1 2 rfl).trans F2
  replace F3 := (Nx.2.2.1 3 rfl).trans F3
  replace F14 := (Nx.2.2.1 14 rfl).trans F14
  replace F15 := (Nx.2.2.1 15 rfl).trans F15
  replace F51 := (Nx.2.2.1 51 rfl).trans F51
  replace F62 := (Nx.2.2.1 62 rfl).trans F62
  replace F63 := (Nx.2.2.1 63 rfl).trans F63
  replace F64 := (Nx.2.2.1 64 rfl).trans F64
  replace F65 := (Nx.2.2.1 65 rfl).trans F65
  replace F66 := (Nx.2.2.1 66 rfl).trans F66
  replace F67 := (Nx.2.2.1 67 rfl).trans F67
  replace F68 := (Nx.2.2.1 68 rfl).trans F68
  replace F69 := (Nx.2.2.1 69 rfl).trans F69
  replace F70 := (Nx.2.2.1 70 rfl).trans F70
  replace F71 := (Nx.2.2.1 71 rfl).trans F71
  replace F72 := (Nx.2.2.1 72 rfl).trans F72
  replace F73 := (Nx.2.2.1 73 rfl).trans F73
  replace F74 := (Nx.2.2.1 74 rfl).trans F74
  replace F75 := (Nx.2.2.1 75 rfl).trans F75
  replace F76 := (Nx.2.2.1 76 rfl).trans F76
  replace F77 := (Nx.2.2.1 77 rfl).trans F77
  replace F78 := (Nx.2.2.1 78 rfl).trans F78
  replace F79 := (Nx.2.2.1 79 rfl).trans F79
  replace F80 := (Nx.2.2.1 80 rfl).trans F80
  replace F81 := (Nx.2.2.1 81 rfl).trans F81
  replace D := Nx.2.2.2.trans D
  clear Z Nx
  have Z := Zn
  clear Zn af8
  refine' dqo_pass (d := 53) (by rfl) (by rfl) Z (by rfl) (wanted_no (by rfl) (by rfl) F51 (by rfl)) ?rest29
  case' rest29 => intro af10 Zn Nx
  replace F2 := (Nx.2.2.1 2 rfl).trans F2
  replace F3 := (Nx.2.2.1 3 rfl).trans F3
  replace F14 := (Nx.2.2.1 14 rfl).trans F14
  replace F15 := (Nx.2.2.1 15 rfl).trans F15
  replace F51 := (Nx.2.2.1 51 rfl).trans F51
  replace F62 := (Nx.2.2.1 62 rfl).trans F62
  replace F63 := (Nx.2.2.1 63 rfl).trans F63
  replace F64 := (Nx.2.2.1 64 rfl).trans F64
  replace F65 := (Nx.2.2.1 65 rfl).trans F65
  replace F66 := (Nx.2.2.1 66 rfl).trans F66
  replace F67 := (Nx.2.2.1 67 rfl).trans F67
  replace F68 := (Nx.2.2.1 68 rfl).trans F68
  replace F69 := (Nx.2.2.1 69 rfl).trans F69
  replace F70 := (Nx.2.2.1 70 rfl).trans F70
  replace F71 := (Nx.2.2.1 71 rfl).trans F71
  replace F72 := (Nx.2.2.1 72 rfl).trans F72
  replace F73 := (Nx.2.2.1 73 rfl).trans F73
  replace F74 := (Nx.2.2.1 74 rfl).trans F74
  replace F75 := (Nx.2.2.1 75 rfl).trans F75
  replace F76 := (Nx.2.2.1 76 rfl).trans F76
  replace F77 := (Nx.2.2.1 77 rfl).trans F77
  replace F78 := (Nx.2.2.1 78 rfl).trans F78
  replace F79 := (Nx.2.2.1 79 rfl).trans F79
  replace F80 := (Nx.2.2.1 80 rfl).trans F80
  replace F81 := (Nx.2.2.1 81 rfl).trans F81
  replace D := Nx.2.2.2.trans D
  clear Z Nx
  have Z := Zn
  clear Zn af9
  refine' dqo_pass (d := 54) (by rfl) (by rfl) Z (by rfl) (wanted_no (by rfl) (by rfl) F51 (by rfl)) ?rest30
  case' rest30 => intro af11 Zn Nx
  replace F2 := (Nx.2.2.1 2 rfl).trans F2
  replace F3 := (Nx.2.2.1 3 rfl).trans F3
  replace F14 := (Nx.2.2.1 14 rfl).trans F14
  replace F15 := (Nx.2.2.1 15 rfl).trans F15
  replace F51 := (Nx.2.2.1 51 rfl).trans F51
  replace F62 := (Nx.2.2.1 62 rfl).trans F62
  replace F63 := (Nx.2.2.1 63 rfl).trans F63
  replace F64 := (Nx.2.2.1 64 rfl).trans F64
  replace F65 := (Nx.2.2.1 65 rfl).trans F65
  replace F66 := (Nx.2.2.1 66 rfl).trans F66
  replace F67 := (Nx.2.2.1 67 rfl).trans F67
  replace F68 := (Nx.2.2.1 68 rfl).trans F68
  replace F69 := (Nx.2.2.1 69 rfl).trans F69
  replace F70 := (Nx.2.2.1 70 rfl).trans F70
  replace F71 := (Nx.2.2.1 71 rfl).trans F71
  replace F72 := (Nx.2.2.1 72 rfl).trans F72
  replace F73 := (Nx.2.2.1 73 rfl).trans F73
  replace F74 := (Nx.2.2.1 74 rfl).trans F74
  replace F75 := (Nx.2.2.1 75 rfl).trans F75
  replace F76 := (Nx.2.2.1 76 rfl).trans F76
  replace F77 := (Nx.2.2.1 77 rfl).trans F77
  replace F78 := (Nx.2.2.1 78 rfl).trans F78
  replace F79 := (Nx.2.2.1 79 rfl).trans F79
  replace F80 := (Nx.2.2.1 80 rfl).trans F80
  replace F81 := (Nx.2.2.1 81 rfl).trans F81
  replace D := Nx.2.2.2.trans D
  clear Z Nx
  have Z := Zn
  clear Zn af10
  refine' dqo_pass (d := 55) (by rfl) (by rfl) Z (by rfl) (wanted_no (by rfl) (by rfl) F51 (by rfl)) ?rest31
  case' rest31 => intro af12 Zn Nx
  replace F2 := (Nx.2.2.1 2 rfl).trans F2
  replace F3 := (Nx.2.2.1 3 rfl).trans F3
  replace F14 := (Nx.2.2.1 14 rfl).trans F14
  replace F15 := (Nx.2.2.1 15 rfl).trans F15
  replace F51 := (Nx.2.2.1 51 rfl).trans F51
  replace F62 := (Nx.2.2.1 62 rfl).trans F62
  replace F63 := (Nx.2.2.1 63 rfl).trans F63
  replace F64 := (Nx.2.2.1 64 rfl).trans F64
  replace F65 := (Nx.2.2.1 65 rfl).trans F65
  replace F66 := (Nx.2.2.1 66 rfl).trans F66
  replace F67 := (Nx.2.2.1 67 rfl).trans F67
  replace F68 := (Nx.2.2.1 68 rfl).trans F68
  replace F69 := (Nx.2.2.1 69 rfl).trans F69
  replace F70 := (Nx.2.2.1 70 rfl).trans F70
  replace F71 := (Nx.2.2.1 71 rfl).trans F71
  replace F72 := (Nx.2.2.1 72 rfl).trans F72
  replace F73 := (Nx.2.2.1 73 rfl).trans F73
  replace F74 := (Nx.2.2.1 74 rfl).trans F74
  replace F75 := (Nx.2.2.1 75 rfl).trans F75
  replace F76 := (Nx.2.2.1 76 rfl).trans F76
  replace F77 := (Nx.2.2.1 77 rfl).trans F77
  replace F78 := (Nx.2.2.1 78 rfl).trans F78
  replace F79 := (Nx.2.2.1 79 rfl).trans F79
  replace F80 := (Nx.2.2.1 80 rfl).trans F80
  replace F81 := (Nx.2.2.1 81 rfl).trans F81
  replace D := Nx.2.2.2.trans D
  clear Z Nx
  have Z := Zn
  clear Zn af11
  refine' dqo_pass (d := 56) (by rfl) (by rfl) Z (by rfl) (wanted_no (by rfl) (by rfl) F51 (by rfl)) ?rest32
  case' rest32 => intro af13 Zn Nx
  replace F2 := (Nx.2.2.1 2 rfl).trans F2
  replace F3 := (Nx.2.2.1 3 rfl).trans F3
  replace F14 := (Nx.2.2.1 14 rfl).trans F14
  replace F15 := (Nx.2.2.1 15 rfl).trans F15
  replace F51 := (Nx.2.2.1 51 rfl).trans F51
  replace F62 := (Nx.2.2.1 62 rfl).trans F62
  replace F63 := (Nx.2.2.1 63 rfl).trans F63
  replace F64 := (Nx.2.2.1 64 rfl).trans F64
  replace F65 := (Nx.2.2.1 65 rfl).trans F65
  replace F66 := (Nx.2.2.1 66 rfl).trans F66
  replace F67 := (Nx.2.2.1 67 rfl).trans F67
  replace F68 := (Nx.2.2.1 68 rfl).trans F68
  replace F69 := (Nx.2.2.1 69 rfl).trans F69
  replace F70 := (Nx.2.2.1 70 rfl).trans F70
  replace F71 := (Nx.2.2.1 71 rfl).trans F71
  replace F72 := (Nx.2.2.1 72 rfl).trans F72
  replace F73 := (Nx.2.2.1 73 rfl).trans F73
  replace F74 := (Nx.2.2.1 74 rfl).trans F74
  replace F75 := (Nx.2.2.1 75 rfl).trans F75
  replace F76 := (Nx.2.2.1 76 rfl).trans F76
  replace F77 := (Nx.2.2.1 77 rfl).trans F77
  replace F78 := (Nx.2.2.1 78 rfl).trans F78
  replace F79 := (Nx.2.2.1 79 rfl).trans F79
  replace F80 := (Nx.2.2.1 80 rfl).trans F80
  replace F81 := (Nx.2.2.1 81 rfl).trans F81
  replace D := Nx.2.2.2.trans D
  clear Z Nx
  have Z := Zn
  clear Zn af12
  refine' dqo_pass (d := 57) (by rfl) (by rfl) Z (by rfl) (wanted_no (by rfl) (by rfl) F51 (by rfl)) ?rest33
  case' rest33 => intro af14 Zn Nx
  replace F2 := (Nx.2.2.1 2 rfl).trans F2
  replace F3 := (Nx.2.2.1 3 rfl).trans F3
  replace F14 := (Nx.2.2.1 14 rfl).trans F14
  replace F15 := (Nx.2.2.1 15 rfl).trans F15
  replace F51 := (Nx.2.2.1 51 rfl).trans F51
  replace F62 := (Nx.2.2.1 62 rfl).trans F62
  replace F63 := (Nx.2.2.1 63 rfl).trans F63
  replace F64 := (Nx.2.2.1 64 rfl).trans F64
  replace F65 := (Nx.2.2.1 65 rfl).trans F65
  replace F66 := (Nx.2.2.1 66 rfl).trans F66
  replace F67 := (Nx.2.2.1 67 rfl).trans F67
  replace F68 := (Nx.2.2.1 68 rfl).trans F68
  replace F69 := (Nx.2.2.1 69 rfl).trans F69
  replace F70 := (Nx.2.2.1 70 rfl).trans F70
  replace F71 := (Nx.2.2.1 71 rfl).trans F71
  replace F72 := (Nx.2.2.1 72 rfl).trans F72
  replace F73 := (Nx.2.2.1 73 rfl).trans F73
  replace F74 := (Nx.2.2.1 74 rfl).trans F74
  replace F75 := (Nx.2.2.1 75 rfl).trans F75
  replace F76 := (Nx.2.2.1 76 rfl).trans F76
  replace F77 := (Nx.2.2.1 77 rfl).trans F77
  replace F78 := (Nx.2.2.1 78 rfl).trans F78
  replace F79 := (Nx.2.2.1 79 rfl).trans F79
  replace F80 := (Nx.2.2.1 80 rfl).trans F80
  replace F81 := (Nx.2.2.1 81 rfl).trans F81
  replace D := Nx.2.2.2.trans D
  clear Z Nx
  have Z := Zn
  clear Zn af13
  refine' dqo_pass (d := 58) (by rfl) (by rfl) Z (by rfl) (wanted_no (by rfl) (by rfl) F51 (by rfl)) ?rest34
  case' rest34 => intro af15 Zn Nx
  replace F2 := (Nx.2.2.1 2 rfl).trans F2
  replace F3 := (Nx.2.2.1 3 rfl).trans F3
  replace F14 := (Nx.2.2.1 14 rfl).trans F14
  replace F15 := (Nx.2.2.1 15 rfl).trans F15
  replace F51 := (Nx.2.2.1 51 rfl).trans F51
  replace F62 := (Nx.2.2.1 62 rfl).trans F62
  replace F63 := (Nx.2.2.1 63 rfl).trans F63
  replace F64 := (Nx.2.2.1 64 rfl).trans F64
  replace F65 := (Nx.2.2.1 65 rfl).trans F65
  replace F66 := (Nx.2.2.1 66 rfl).trans F66
  replace F67 := (Nx.2.2.1 67 rfl).trans F67
  replace F68 := (Nx.2.2.1 68 rfl).trans F68
  replace F69 := (Nx.2.2.1 69 rfl).trans F69
  replace F70 := (Nx.2.2.1 70 rfl).trans F70
  replace F71 := (Nx.2.2.1 71 rfl).trans F71
  replace F72 := (Nx.2.2.1 72 rfl).trans F72
  replace F73 := (Nx.2.2.1 73 rfl).trans F73
  replace F74 := (Nx.2.2.1 74 rfl).trans F74
  replace F75 := (Nx.2.2.1 75 rfl).trans F75
  replace F76 := (Nx.2.2.1 76 rfl).trans F76
  replace F77 := (Nx.2.2.1 77 rfl).trans F77
  replace F78 := (Nx.2.2.1 78 rfl).trans F78
  replace F79 := (Nx.2.2.1 79 rfl).trans F79
  replace F80 := (Nx.2.2.1 80 rfl).trans F80
  replace F81 := (Nx.2.2.1 81 rfl).trans F81
  replace D := Nx.2.2.2.trans D
  clear Z Nx
  have Z := Zn
  clear Zn af14
  refine' dqo_pass (d := 59) (by rfl) (by rfl) Z (by rfl) (wanted_no (by rfl) (by rfl) F51 (by rfl)) ?rest35
  case' rest35 => intro af16 Zn Nx
  replace F2 := (Nx.2.2.1 2 rfl).trans F2
  replace F3 := (Nx.2.2.1 3 rfl).trans F3
  replace F14 := (Nx.2.2.1 14 rfl).trans F14
  replace F15 := (Nx.2.2.1 15 rfl).trans F15
  replace F51 := (Nx.2.2.1 51 rfl).trans F51
  replace F62 := (Nx.2.2.1 62 rfl).trans F62
  replace F63 := (Nx.2.2.1 63 rfl).trans F63
  replace F64 := (Nx.2.2.1 64 rfl).trans F64
  replace F65 := (Nx.2.2.1 65 rfl).trans F65
  replace F66 := (Nx.2.2.1 66 rfl).trans F66
  replace F67 := (Nx.2.2.1 67 rfl).trans F67
  replace F68 := (Nx.2.2.1 68 rfl).trans F68
  replace F69 := (Nx.2.2.1 69 rfl).trans F69
  replace F70 := (Nx.2.2.1 70 rfl).trans F70
  replace F71 := (Nx.2.2.1 71 rfl).trans F71
  replace F72 := (Nx.2.2.1 72 rfl).trans F72
  replace F73 := (Nx.2.2.1 73 rfl).trans F73
  replace F74 := (Nx.2.2.1 74 rfl).trans F74
  replace F75 := (Nx.2.2.1 75 rfl).trans F75
  replace F76 := (Nx.2.2.1 76 rfl).trans F76
  replace F77 := (Nx.2.2.1 77 rfl).trans F77
  replace F78 := (Nx.2.2.1 78 rfl).trans F78
  replace F79 := (Nx.2.2.1 79 rfl).trans F79
  replace F80 := (Nx.2.2.1 80 rfl).trans F80
  replace F81 := (Nx.2.2.1 81 rfl).trans F81
  replace D := Nx.2.2.2.trans D
  clear Z Nx
  have Z := Zn
  clear Zn af15
  refine' dqo_pass (d := 60) (by rfl) (by rfl) Z (by rfl) (wanted_no (by rfl) (by rfl) F51 (by rfl)) ?rest36
  case' rest36 => intro af17 Zn Nx
  replace F2 := (Nx.2.2.1 2 rfl).trans F2
  replace F3 := (Nx.2.2.1 3 rfl).trans F3
  replace F14 := (Nx.2.2.1 14 rfl).trans F14
  replace F15 := (Nx.2.2.1 15 rfl).trans F15
  replace F51 := (Nx.2.2.1 51 rfl).trans F51
  replace F62 := (Nx.2.2.1 62 rfl).trans F62
  replace F63 := (Nx.2.2.1 63 rfl).trans F63
  replace F64 := (Nx.2.2.1 64 rfl).trans F64
  replace F65 := (Nx.2.2.1 65 rfl).trans F65
  replace F66 := (Nx.2.2.1 66 rfl).trans F66
  replace F67 := (Nx.2.2.1 67 rfl).trans F67
  replace F68 := (Nx.2.2.1 68 rfl).trans F68
  replace F69 := (Nx.2.2.1 69 rfl).trans F69
  replace F70 := (Nx.2.2.1 70 rfl).trans F70
  replace F71 := (Nx.2.2.1 71 rfl).trans F71
  replace F72 := (Nx.2.2.1 72 rfl).trans F72
  replace F73 := (Nx.2.2.1 73 rfl).trans F73
  replace F74 := (Nx.2.2.1 74 rfl).trans F74
  replace F75 := (Nx.2.2.1 75 rfl).trans F75
  replace F76 := (Nx.2.2.1 76 rfl).trans F76
  replace F77 := (Nx.2.2.1 77 rfl).trans F77
  replace F78 := (Nx.2.2.1 78 rfl).trans F78
  replace F79 := (Nx.2.2.1 79 rfl).trans F79
  replace F80 := (Nx.2.2.1 80 rfl).trans F80
  replace F81 := (Nx.2.2.1 81 rfl).trans F81
  have F60 := Nx.2.1
  replace D := Nx.2.2.2.trans D
  clear Z Nx
  have Z := Zn
  clear Zn af16
  refine' dqo_pure (d := 61) (by rfl) (by rfl) Z (by rfl) (wanted_not (by rfl)) ?hv37 ?rest37
  case hv37 => (intro ρ hρ; have E51 := (hρ.1 51).trans F51; have E60 := (hρ.1 60).trans F60; have Ec := hρ.2.1; have Ef := hρ.2.2.1; clear hρ; intro w hw; (try dsimp only at hw); go_split_ands; go_simp; try with_reducible rfl)
  case' rest37 => intro af18 Zn Nx
  replace F2 := (Nx.2.2.1 2 rfl).trans F2
  replace F3 := (Nx.2.2.1 3 rfl).trans F3
  replace F14 := (Nx.2.2.1 14 rfl).trans F14
  replace F15 := (Nx.2.2.1 15 rfl).trans F15
  clear F51
  clear F60
  replace F62 := (Nx.2.2.1 62 rfl).trans F62
  replace F63 := (Nx.2.2.1 63 rfl).trans F63
  replace F64 := (Nx.2.2.1 64 rfl).trans F64
  replace F65 := (Nx.2.2.1 65 rfl).trans F65
  replace F66 := (Nx.2.2.1 66 rfl).trans F66
  replace F67 := (Nx.2.2.1 67 rfl).trans F67
  replace F68 := (Nx.2.2.1 68 rfl).trans F68
  replace F69 := (Nx.2.2.1 69 rfl).trans F69
  replace F70 := (Nx.2.2.1 70 rfl).trans F70
  replace F71 := (Nx.2.2.1 71 rfl).trans F71
  replace F72 := (Nx.2.2.1 72 rfl).trans F72
  replace F73 := (Nx.2.2.1 73 rfl).trans F73
  replace F74 := (Nx.2.2.1 74 rfl).trans F74
  replace F75 := (Nx.2.2.1 75 rfl).trans F75
  replace F76 := (Nx.2.2.1 76 rfl).trans F76
  replace F77 := (Nx.2.2.1 77 rfl).trans F77
  replace F78 := (Nx.2.2.1 78 rfl).trans F78
  replace F79 := (Nx.2.2.1 79 rfl).trans F79
  replace F80 := (Nx.2.2.1 80 rfl).trans F80
  replace F81 := (Nx.2.2.1 81 rfl).trans F81
  have F61 := Nx.2.1
  replace D := Nx.2.2.2.trans D
  clear Z Nx
  have Z := Zn
  clear Zn af17
  refine dq_nil ?_
  refine fa_nil ?_
  rintro W ⟨⟨hb0, hn0, ⟨B1, B1c, B1f, B1l⟩, ⟨B2, B2c, B2f, B2l⟩, ⟨B3, B3c, B3f, B3l⟩, ⟨B4, B4c, B4f, B4l⟩, ⟨B5, B5c, B5f, B5l⟩, ⟨B6, B6c, B6f, B6l⟩, ⟨B7, B7c, B7f, B7l⟩⟩, hgl⟩ hbs
  clear hbs hgl
  obtain ⟨ρ, hρ⟩ := rho_of af18
  have hL := act_lit (l := [ρ (.tmp 0), ρ (.tmp 1), _, _, ρ (.tmp 4), ρ (.tmp 5), ρ (.tmp 6), ρ (.tmp 7), ρ (.tmp 8), ρ (.tmp 9), ρ (.tmp 10), ρ (.tmp 11), ρ (.tmp 12), ρ (.tmp 13), _, _, ρ (.tmp 16), ρ (.tmp 17), ρ (.tmp 18), ρ (.tmp 19), ρ (.tmp 20), ρ (.tmp 21), ρ (.tmp 22), ρ (.tmp 23), ρ (.tmp 24), ρ (.tmp 25), ρ (.tmp 26), ρ (.tmp 27), ρ (.tmp 28), ρ (.tmp 29), ρ (.tmp 30), ρ (.tmp 31), ρ (.tmp 32), ρ (.tmp 33), ρ (.tmp 34), ρ (.tmp 35), ρ (.tmp 36), ρ (.tmp 37), ρ (.tmp 38), ρ (.tmp 39), ρ (.tmp 40), ρ (.tmp 41), ρ (.tmp 42), ρ (.tmp 43), ρ (.tmp 44), ρ (.tmp 45), ρ (.tmp 46), ρ (.tmp 47), ρ (.tmp 48), ρ (.tmp 49), ρ (.tmp 50), ρ (.tmp 51), ρ (.tmp 52), ρ (.tmp 53), ρ (.tmp 54), ρ (.tmp 55), ρ (.tmp 56), ρ (.tmp 57), ρ (.tmp 58), ρ (.tmp 59), ρ (.tmp 60), _, _, _, _, _, _, _, _, _, _, _, _, _, _, _, _, _, _, _, _, _]) Z D (by rfl) ⟨hρ 0, hρ 1, F2, F3, hρ 4, hρ 5, hρ 6, hρ 7, hρ 8, hρ 9, hρ 10, hρ 11, hρ 12, hρ 13, F14, F15, hρ 16, hρ 17, hρ 18, hρ 19, hρ 20, hρ 21, hρ 22, hρ 23, hρ 24, hρ 25, hρ 26, hρ 27, hρ 28, hρ 29, hρ 30, hρ 31, hρ 32, hρ 33, hρ 34, hρ 35, hρ 36, hρ 37, hρ 38, hρ 39, hρ 40, hρ 41, hρ 42, hρ 43, hρ 44, hρ 45, hρ 46, hρ 47, hρ 48, hρ 49, hρ 50, hρ 51, hρ 52, hρ 53, hρ 54, hρ 55, hρ 56, hρ 57, hρ 58, hρ 59, hρ 60, F61, F62, F63, F64, F65, F66, F67, F68, F69, F70, F71, F72, F73, F74, F75, F76, F77, F78, F79, F80, F81, trivial⟩
  clear hρ Z D F2 F3 F14 F15 F61 F62 F63 F64 F65 F66 F67 F68 F69 F70 F71 F72 F73 F74 F75 F76 F77 F78 F79 F80 F81
  subst hL
  simp only [List.drop_succ_cons, List.drop_zero]
  rotate_left 1
  (refine wp_region_dq (row := none) (S := (fun Wz => Below u3.heap.size u3 Wz ∧ u3.heap.size ≤ Wz.heap.size ∧ Bx Wz (wp.heap.size) (#[.int .i64 x1, .int .i64 y1]) ∧ Bx Wz (wp.heap.size + 1) (#[.int .i64 x2, .int .i64 y2]) ∧ Bx Wz (wp.heap.size + 1 + 1) (#[.int .i64 x3, .int .i64 y3]) ∧ Bx Wz (wp.heap.size + 1 + 1 + 1) (#[.int .i64 x4, .int .i64 y4]) ∧ Bx Wz (u1.heap.size) (#[.int .i64 X1, .int .i64 Y1]) ∧ Bx Wz (u2.heap.size) (#[.int .i64 X2, .int .i64 Y2]) ∧ Bx Wz (u3.heap.size) (#[.int .i64 X3, .int .i64 Y3]))) (n0 := u3.heap.size) 18 [] [(0, 0), (1, 0), (2, 0), (3, 0), (4, 0), (5, 0), (6, 0), (7, 0), (8, 0), (9, 0), (10, 0), (11, 0), (12, 0), (13, 0), (14, 0), (15, 0), (16, 0), (17, 0)] [] (by kernel_rfl) (by kernel_rfl) (fun _ _ d _ _ h => by cases d <;> exact h) (by refine ⟨?b, ?n, ?_, ?_, ?_, ?_, ?_, ?_, ?_⟩; (case b => (repeat' (first | (with_reducible assumption) | (with_reducible exact Below.refl _ _) | (with_reducible refine Below.alloc ?_ ?_ _) | (with_reducible refine Below.setCell ?_ ?_ _) | (with_reducible refine Below.drew ?_) | (with_reducible refine below_more ?_ (by with_reducible assumption)) | go_size | omega | (with_reducible refine below_drewN ?_)))); (case n => (first | go_size | omega)); all_goals (refine Bx.of ?_; (repeat' (first | (with_reducible assumption) | ((with_reducible refine HB.new _ _ _ ?_) <;> (go_size; done)) | (with_reducible refine HB.old (by go_size) ?_) | (with_reducible refine HB.drew ?_) | (with_reducible refine HB.over5 ?_) | (with_reducible refine HB.over4 ?_) | (with_reducible refine HB.setne (by first | go_size | (dsimp only; omega)) ?_) | (with_reducible refine HN.set ?_) | (with_reducible refine HN.setne (by first | go_size | (dsimp only; omega)) ?_) | (with_reducible refine HN.drew ?_) | (with_reducible refine HN.old (by go_size) ?_) | (with_reducible exact HN.of5 (by assumption)) | (with_reducible exact HN.new5 _ _ (by go_size)) | (with_reducible exact HN.of4 (by assumption)) | (with_reducible exact HN.new4 _ _ (by go_size)))))) (fun _ _ h g => keep7 h (below_gt g) rfl) (fun _ h => h.2.1) (fun _ h => by cases h) (by simp) ?_)
  refine dqo_start ?_
  intro af0 hA
  have Z := size_lit (n := 82) hA (by rfl)
  have D := defers_lit hA
  have F2 := ev_lit (t := 2) hA (by rfl)
  have F3 := ev_lit (t := 3) hA (by rfl)
  have F9 := ev_lit (t := 9) hA (by rfl)
  have F11 := ev_lit (t := 11) hA (by rfl)
  have F13 := ev_lit (t := 13) hA (by rfl)
  have F14 := ev_lit (t := 14) hA (by rfl)
  have F15 := ev_lit (t := 15) hA (by rfl)
  have F62 := ev_lit (t := 62) hA (by rfl)
  have F63 := ev_lit (t := 63) hA (by rfl)
  have F64 := ev_lit (t := 64) hA (by rfl)
  have F65 := ev_lit (t := 65) hA (by rfl)
  have F66 := ev_lit (t := 66) hA (by rfl)
  have F67 := ev_lit (t := 67) hA (by rfl)
  have F68 := ev_lit (t := 68) hA (by rfl)
  have F69 := ev_lit (t := 69) hA (by rfl)
  have F70 := ev_lit (t := 70) hA (by rfl)
  have F71 := ev_lit (t := 71) hA (by rfl)
  have F72 := ev_lit (t := 72) hA (by rfl)
  have F73 := ev_lit (t := 73) hA (by rfl)
  have F74 := ev_lit (t := 74) hA (by rfl)
  have F75 := ev_lit (t := 75) hA (by rfl)
  have F76 := ev_lit (t := 76) hA (by rfl)
  have F77 := ev_lit (t := 77) hA (by rfl)
  have F78 := ev_lit (t := 78) hA (by rfl)
  have F79 := ev_lit (t := 79) hA (by rfl)
  have F80 := ev_lit (t := 80) hA (by rfl)
  have F81 := ev_lit (t := 81) hA (by rfl)
  clear hA
  refine' dqo_pure (d := 44) (by rfl) (by rfl) Z (by rfl) (wanted_not (by rfl)) ?hv38 ?rest38
  case hv38 => (intro ρ hρ; have E9 := (hρ.1 9).trans F9; have Ec := hρ.2.1; have Ef := hρ.2.2.1; clear hρ; intro w hw; (try dsimp only at hw); go_split_ands; go_simp; try with_reducible rfl)
  case' rest38 => intro af1 Zn Nx
  replace F2 := (Nx.2.2.1 2 rfl).trans F2
  replace F3 := (Nx.2.2.1 3 rfl).trans F3
  clear F9
  replace F11 := (Nx.2.2.1 11 rfl).trans F11
  replace F13 := (Nx.2.2.1 13 rfl).trans F13
  replace F14 := (Nx.2.2.1 14 rfl).trans F14
  replace F15 := (Nx.2.2.1 15 rfl).trans F15
  replace F62 := (Nx.2.2.1 62 rfl).trans F62
  replace F63 := (Nx.2.2.1 63 rfl).trans F63
  replace F64 := (Nx.2.2.1 64 rfl).trans F64
  replace F65 := (Nx.2.2.1 65 rfl).trans F65
  replace F66 := (Nx.2.2.1 66 rfl).trans F66
  replace F67 := (Nx.2.2.1 67 rfl).trans F67
  replace F68 := (Nx.2.2.1 68 rfl).trans F68
  replace F69 := (Nx.2.2.1 69 rfl).trans F69
  replace F70 := (Nx.2.2.1 70 rfl).trans F70
  replace F71 := (Nx.2.2.1 71 rfl).trans F71
  replace F72 := (Nx.2.2.1 72 rfl).trans F72
  replace F73 := (Nx.2.2.1 73 rfl).trans F73
  replace F74 := (Nx.2.2.1 74 rfl).trans F74
  replace F75 := (Nx.2.2.1 75 rfl).trans F75
  replace F76 := (Nx.2.2.1 76 rfl).trans F76
  replace F77 := (Nx.2.2.1 77 rfl).trans F77
  replace F78 := (Nx.2.2.1 78 rfl).trans F78
  replace F79 := (Nx.2.2.1 79 rfl).trans F79
  replace F80 := (Nx.2.2.1 80 rfl).trans F80
  replace F81 := (Nx.2.2.1 81 rfl).trans F81
  have F44 := Nx.2.1
  replace D := Nx.2.2.2.trans D
  clear Z Nx
  have Z := Zn
  clear Zn af0
  refine' dqo_pure (d := 45) (by rfl) (by rfl) Z (by rfl) (wanted_not (by rfl)) ?hv39 ?rest39
  case hv39 => (intro ρ hρ; have E44 := (hρ.1 44).trans F44; have Ec := hρ.2.1; have Ef := hρ.2.2.1; clear hρ; intro w hw; (try dsimp only at hw); go_split_ands; go_simp; try with_reducible rfl)
  case' rest39 => intro af2 Zn Nx
  replace F2 := (Nx.2.2.1 2 rfl).trans F2
  replace F3 := (Nx.2.2.1 3 rfl).trans F3
  replace F11 := (Nx.2.2.1 11 rfl).trans F11
  replace F13 := (Nx.2.2.1 13 rfl).trans F13
  replace F14 := (Nx.2.2.1 14 rfl).trans F14
  replace F15 := (Nx.2.2.1 15 rfl).trans F15
  clear F44
  replace F62 := (Nx.2.2.1 62 rfl).trans F62
  replace F63 := (Nx.2.2.1 63 rfl).trans F63
  replace F64 := (Nx.2.2.1 64 rfl).trans F64
  replace F65 := (Nx.2.2.1 65 rfl).trans F65
  replace F66 := (Nx.2.2.1 66 rfl).trans F66
  replace F67 := (Nx.2.2.1 67 rfl).trans F67
  replace F68 := (Nx.2.2.1 68 rfl).trans F68
  replace F69 := (Nx.2.2.1 69 rfl).trans F69
  replace F70 := (Nx.2.2.1 70 rfl).trans F70
  replace F71 := (Nx.2.2.1 71 rfl).trans F71
  replace F72 := (Nx.2.2.1 72 rfl).trans F72
  replace F73 := (Nx.2.2.1 73 rfl).trans F73
  replace F74 := (Nx.2.2.1 74 rfl).trans F74
  replace F75 := (Nx.2.2.1 75 rfl).trans F75
  replace F76 := (Nx.2.2.1 76 rfl).trans F76
  replace F77 := (Nx.2.2.1 77 rfl).trans F77
  replace F78 := (Nx.2.2.1 78 rfl).trans F78
  replace F79 := (Nx.2.2.1 79 rfl).trans F79
  replace F80 := (Nx.2.2.1 80 rfl).trans F80
  replace F81 := (Nx.2.2.1 81 rfl).trans F81
  have F45 := Nx.2.1
  replace D := Nx.2.2.2.trans D
  clear Z Nx
  have Z := Zn
  clear Zn af1
  refine' dqo_pure (d := 46) (by rfl) (by rfl) Z (by rfl) (wanted_yes (by rfl) (by rfl) F45) ?hv40 ?rest40
  case hv40 => (intro ρ hρ; have E11 := (hρ.1 11).trans F11; have Ec := hρ.2.1; have Ef := hρ.2.2.1; clear hρ; intro w hw; (try dsimp only at hw); go_split_ands; go_simp; try with_reducible rfl)
  case' rest40 => intro af3 Zn Nx
  replace F2 := (Nx.2.2.1 2 rfl).trans F2
  replace F3 := (Nx.2.2.1 3 rfl).trans F3
  clear F11
  replace F13 := (Nx.2.2.1 13 rfl).trans F13
  replace F14 := (Nx.2.2.1 14 rfl).trans F14
  replace F15 := (Nx.2.2.1 15 rfl).trans F15
  replace F45 := (Nx.2.2.1 45 rfl).trans F45
  replace F62 := (Nx.2.2.1 62 rfl).trans F62
  replace F63 := (Nx.2.2.1 63 rfl).trans F63
  replace F64 := (Nx.2.2.1 64 rfl).trans F64
  replace F65 := (Nx.2.2.1 65 rfl).trans F65
  replace F66 := (Nx.2.2.1 66 rfl).trans F66
  replace F67 := (Nx.2.2.1 67 rfl).trans F67
  replace F68 := (Nx.2.2.1 68 rfl).trans F68
  replace F69 := (Nx.2.2.1 69 rfl).trans F69
  replace F70 := (Nx.2.2.1 70 rfl).trans F70
  replace F71 := (Nx.2.2.1 71 rfl).trans F71
  replace F72 := (Nx.2.2.1 72 rfl).trans F72
  replace F73 := (Nx.2.2.1 73 rfl).trans F73
  replace F74 := (Nx.2.2.1 74 rfl).trans F74
  replace F75 := (Nx.2.2.1 75 rfl).trans F75
  replace F76 := (Nx.2.2.1 76 rfl).trans F76
  replace F77 := (Nx.2.2.1 77 rfl).trans F77
  replace F78 := (Nx.2.2.1 78 rfl).trans F78
  replace F79 := (Nx.2.2.1 79 rfl).trans F79
  replace F80 := (Nx.2.2.1 80 rfl).trans F80
  replace F81 := (Nx.2.2.1 81 rfl).trans F81
  have F46 := Nx.2.1
  replace D := Nx.2.2.2.trans D
  clear Z Nx
  have Z := Zn
  clear Zn af2
  refine' dqo_pure (d := 47) (by rfl) (by rfl) Z (by rfl) (wanted_not (by rfl)) ?hv41 ?rest41
  case hv41 => (intro ρ hρ; have E45 := (hρ.1 45).trans F45; have E46 := (hρ.1 46).trans F46; have Ec := hρ.2.1; have Ef := hρ.2.2.1; clear hρ; intro w hw; (try dsimp only at hw); go_split_ands; go_simp; try with_reducible rfl)
  case' rest41 => intro af4 Zn Nx
  replace F2 := (Nx.2.2.1 2 rfl).trans F2
  replace F3 := (Nx.2.2.1 3 rfl).trans F3
  replace F13 := (Nx.2.2.1 13 rfl).trans F13
  replace F14 := (Nx.2.2.1 14 rfl).trans F14
  replace F15 := (Nx.2.2.1 15 rfl).trans F15
  clear F45
  clear F46
  replace F62 := (Nx.2.2.1 62 rfl).trans F62
  replace F63 := (Nx.2.2.1 63 rfl).trans F63
  replace F64 := (Nx.2.2.1 64 rfl).trans F64
  replace F65 := (Nx.2.2.1 65 rfl).trans F65
  replace F66 := (Nx.2.2.1 66 rfl).trans F66
  replace F67 := (Nx.2.2.1 67 rfl).trans F67
  replace F68 := (Nx.2.2.1 68 rfl).trans F68
  replace F69 := (Nx.2.2.1 69 rfl).trans F69
  replace F70 := (Nx.2.2.1 70 rfl).trans F70
  replace F71 := (Nx.2.2.1 71 rfl).trans F71
  replace F72 := (Nx.2.2.1 72 rfl).trans F72
  replace F73 := (Nx.2.2.1 73 rfl).trans F73
  replace F74 := (Nx.2.2.1 74 rfl).trans F74
  replace F75 := (Nx.2.2.1 75 rfl).trans F75
  replace F76 := (Nx.2.2.1 76 rfl).trans F76
  replace F77 := (Nx.2.2.1 77 rfl).trans F77
  replace F78 := (Nx.2.2.1 78 rfl).trans F78
  replace F79 := (Nx.2.2.1 79 rfl).trans F79
  replace F80 := (Nx.2.2.1 80 rfl).trans F80
  replace F81 := (Nx.2.2.1 81 rfl).trans F81
  have F47 := Nx.2.1
  replace D := Nx.2.2.2.trans D
  clear Z Nx
  have Z := Zn
  clear Zn af3
  refine' dqo_pure (d := 48) (by rfl) (by rfl) Z (by rfl) (wanted_not (by rfl)) ?hv42 ?rest42
  case hv42 => (intro ρ hρ; have E47 := (hρ.1 47).trans F47; have Ec := hρ.2.1; have Ef := hρ.2.2.1; clear hρ; intro w hw; (try dsimp only at hw); go_split_ands; go_simp; try with_reducible rfl)
  case' rest42 => intro af5 Zn Nx
  replace F2 := (Nx.2.2.1 2 rfl).trans F2
  replace F3 := (Nx.2.2.1 3 rfl).trans F3
  replace F13 := (Nx.2.2.1 13 rfl).trans F13
  replace F14 := (Nx.2.2.1 14 rfl).trans F14
  replace F15 := (Nx.2.2.1 15 rfl).trans F15
  clear F47
  replace F62 := (Nx.2.2.1 62 rfl).trans F62
  replace F63 := (Nx.2.2.1 63 rfl).trans F63
  replace F64 := (Nx.2.2.1 64 rfl).trans F64
  replace F65 := (Nx.2.2.1 65 rfl).trans F65
  replace F66 := (Nx.2.2.1 66 rfl).trans F66
  replace F67 := (Nx.2.2.1 67 rfl).trans F67
  replace F68 := (Nx.2.2.1 68 rfl).trans F68
  replace F69 := (Nx.2.2.1 69 rfl).trans F69
  replace F70 := (Nx.2.2.1 70 rfl).trans F70
  replace F71 := (Nx.2.2.1 71 rfl).trans F71
  replace F72 := (Nx.2.2.1 72 rfl).trans F72
  replace F73 := (Nx.2.2.1 73 rfl).trans F73
  replace F74 := (Nx.2.2.1 74 rfl).trans F74
  replace F75 := (Nx.2.2.1 75 rfl).trans F75
  replace F76 := (Nx.2.2.1 76 rfl).trans F76
  replace F77 := (Nx.2.2.1 77 rfl).trans F77
  replace F78 := (Nx.2.2.1 78 rfl).trans F78
  replace F79 := (Nx.2.2.1 79 rfl).trans F79
  replace F80 := (Nx.2.2.1 80 rfl).trans F80
  replace F81 := (Nx.2.2.1 81 rfl).trans F81
  have F48 := Nx.2.1
  replace D := Nx.2.2.2.trans D
  clear Z Nx
  have Z := Zn
  clear Zn af4
  refine' dqo_pure (d := 49) (by rfl) (by rfl) Z (by rfl) (wanted_yes (by rfl) (by rfl) F48) ?hv43 ?rest43
  case hv43 => (intro ρ hρ; have E13 := (hρ.1 13).trans F13; have Ec := hρ.2.1; have Ef := hρ.2.2.1; clear hρ; intro w hw; (try dsimp only at hw); go_split_ands; go_simp; try with_reducible rfl)
  case' rest43 => intro af6 Zn Nx
  replace F2 := (Nx.2.2.1 2 rfl).trans F2
  replace F3 := (Nx.2.2.1 3 rfl).trans F3
  clear F13
  replace F14 := (Nx.2.2.1 14 rfl).trans F14
  replace F15 := (Nx.2.2.1 15 rfl).trans F15
  replace F48 := (Nx.2.2.1 48 rfl).trans F48
  replace F62 := (Nx.2.2.1 62 rfl).trans F62
  replace F63 := (Nx.2.2.1 63 rfl).trans F63
  replace F64 := (Nx.2.2.1 64 rfl).trans F64
  replace F65 := (Nx.2.2.1 65 rfl).trans F65
  replace F66 := (Nx.2.2.1 66 rfl).trans F66
  replace F67 := (Nx.2.2.1 67 rfl).trans F67
  replace F68 := (Nx.2.2.1 68 rfl).trans F68
  replace F69 := (Nx.2.2.1 69 rfl).trans F69
  replace F70 := (Nx.2.2.1 70 rfl).trans F70
  replace F71 := (Nx.2.2.1 71 rfl).trans F71
  replace F72 := (Nx.2.2.1 72 rfl).trans F72
  replace F73 := (Nx.2.2.1 73 rfl).trans F73
  replace F74 := (Nx.2.2.1 74 rfl).trans F74
  replace F75 := (Nx.2.2.1 75 rfl).trans F75
  replace F76 := (Nx.2.2.1 76 rfl).trans F76
  replace F77 := (Nx.2.2.1 77 rfl).trans F77
  replace F78 := (Nx.2.2.1 78 rfl).trans F78
  replace F79 := (Nx.2.2.1 79 rfl).trans F79
  replace F80 := (Nx.2.2.1 80 rfl).trans F80
  replace F81 := (Nx.2.2.1 81 rfl).trans F81
  have F49 := Nx.2.1
  replace D := Nx.2.2.2.trans D
  clear Z Nx
  have Z := Zn
  clear Zn af5
  refine' dqo_pure (d := 50) (by rfl) (by rfl) Z (by rfl) (wanted_not (by rfl)) ?hv44 ?rest44
  case hv44 => (intro ρ hρ; have E48 := (hρ.1 48).trans F48; have E49 := (hρ.1 49).trans F49; have Ec := hρ.2.1; have Ef := hρ.2.2.1; clear hρ; intro w hw; (try dsimp only at hw); go_split_ands; go_simp; try with_reducible rfl)
  case' rest44 => intro af7 Zn Nx
  replace F2 := (Nx.2.2.1 2 rfl).trans F2
  replace F3 := (Nx.2.2.1 3 rfl).trans F3
  replace F14 := (Nx.2.2.1 14 rfl).trans F14
  replace F15 := (Nx.2.2.1 15 rfl).trans F15
  clear F48
  clear F49
  replace F62 := (Nx.2.2.1 62 rfl).trans F62
  replace F63 := (Nx.2.2.1 63 rfl).trans F63
  replace F64 := (Nx.2.2.1 64 rfl).trans F64
  replace F65 := (Nx.2.2.1 65 rfl).trans F65
  replace F66 := (Nx.2.2.1 66 rfl).trans F66
  replace F67 := (Nx.2.2.1 67 rfl).trans F67
  replace F68 := (Nx.2.2.1 68 rfl).trans F68
  replace F69 := (Nx.2.2.1 69 rfl).trans F69
  replace F70 := (Nx.2.2.1 70 rfl).trans F70
  replace F71 := (Nx.2.2.1 71 rfl).trans F71
  replace F72 := (Nx.2.2.1 72 rfl).trans F72
  replace F73 := (Nx.2.2.1 73 rfl).trans F73
  replace F74 := (Nx.2.2.1 74 rfl).trans F74
  replace F75 := (Nx.2.2.1 75 rfl).trans F75
  replace F76 := (Nx.2.2.1 76 rfl).trans F76
  replace F77 := (Nx.2.2.1 77 rfl).trans F77
  replace F78 := (Nx.2.2.1 78 rfl).trans F78
  replace F79 := (Nx.2.2.1 79 rfl).trans F79
  replace F80 := (Nx.2.2.1 80 rfl).trans F80
  replace F81 := (Nx.2.2.1 81 rfl).trans F81
  have F50 := Nx.2.1
  replace D := Nx.2.2.2.trans D
  clear Z Nx
  have Z := Zn
  clear Zn af6
  refine' dqo_pure (d := 51) (by rfl) (by rfl) Z (by rfl) (wanted_not (by rfl)) ?hv45 ?rest45
  case hv45 => (intro ρ hρ; have E50 := (hρ.1 50).trans F50; have Ec := hρ.2.1; have Ef := hρ.2.2.1; clear hρ; intro w hw; (try dsimp only at hw); go_split_ands; go_simp; try with_reducible rfl)
  case' rest45 => intro af8 Zn Nx
  replace F2 := (Nx.2.2.1 2 rfl).trans F2
  replace F3 := (Nx.2.2.1 3 rfl).trans F3
  replace F14 := (Nx.2.2.1 14 rfl).trans F14
  replace F15 := (Nx.2.2.1 15 rfl).trans F15
  clear F50
  replace F62 := (Nx.2.2.1 62 rfl).trans F62
  replace F63 := (Nx.2.2.1 63 rfl).trans F63
  replace F64 := (Nx.2.2.1 64 rfl).trans F64
  replace F65 := (Nx.2.2.1 65 rfl).trans F65
  replace F66 := (Nx.2.2.1 66 rfl).trans F66
  replace F67 := (Nx.2.2.1 67 rfl).trans F67
  replace F68 := (Nx.2.2.1 68 rfl).trans F68
  replace F69 := (Nx.2.2.1 69 rfl).trans F69
  replace F70 := (Nx.2.2.1 70 rfl).trans F70
  replace F71 := (Nx.2.2.1 71 rfl).trans F71
  replace F72 := (Nx.2.2.1 72 rfl).trans F72
  replace F73 := (Nx.2.2.1 73 rfl).trans F73
  replace F74 := (Nx.2.2.1 74 rfl).trans F74
  replace F75 := (Nx.2.2.1 75 rfl).trans F75
  replace F76 := (Nx.2.2.1 76 rfl).trans F76
  replace F77 := (Nx.2.2.1 77 rfl).trans F77
  replace F78 := (Nx.2.2.1 78 rfl).trans F78
  replace F79 := (Nx.2.2.1 79 rfl).trans F79
  replace F80 := (Nx.2.2.1 80 rfl).trans F80
  replace F81 := (Nx.2.2.1 81 rfl).trans F81
  have F51 := Nx.2.1
  replace D := Nx.2.2.2.trans D
  clear Z Nx
  have Z := Zn
  clear Zn af7
  refine' dqo_pass (d := 52) (by rfl) (by rfl) Z (by rfl) (wanted_no (by rfl) (by rfl) F51 (by rfl)) ?rest46
  case' rest46 => intro af9 Zn Nx
  replace F2 := (Nx.2.2.1 2 rfl).trans F2
  replace F3 := (Nx.2.2.1 3 rfl).trans F3
  replace F14 := (Nx.2.2.1 14 rfl).trans F14
  replace F15 := (Nx.2.2.1 15 rfl).trans F15
  replace F51 := (Nx.2.2.1 51 rfl).trans F51
  replace F62 := (Nx.2.2.1 62 rfl).trans F62
  replace F63 := (Nx.2.2.1 63 rfl).trans F63
  replace F64 := (Nx.2.2.1 64 rfl).trans F64
  replace F65 := (Nx.2.2.1 65 rfl).trans F65
  replace F66 := (Nx.2.2.1 66 rfl).trans F66
  replace F67 := (Nx.2.2.1 67 rfl).trans F67
  replace F68 := (Nx.2.2.1 68 rfl).trans F68
  replace F69 := (Nx.2.2.1 69 rfl).trans F69
  replace F70 := (Nx.2.2.1 70 rfl).trans F70
  replace F71 := (Nx.2.2.1 71 rfl).trans F71
  replace F72 := (Nx.2.2.1 72 rfl).trans F72
  replace F73 := (Nx.2.2.1 73 rfl).trans F73
  replace F74 := (Nx.2.2.1 74 rfl).trans F74
  replace F75 := (Nx.2.2.1 75 rfl).trans F75
  replace F76 := (Nx.2.2.1 76 rfl).trans F76
  replace F77 := (Nx.2.2.1 77 rfl).trans F77
  replace F78 := (Nx.2.2.1 78 rfl).trans F78
  replace F79 := (Nx.2.2.1 79 rfl).trans F79
  replace F80 := (Nx.2.2.1 80 rfl).trans F80
  replace F81 := (Nx.2.2.1 81 rfl).trans F81
  replace D := Nx.2.2.2.trans D
  clear Z Nx
  have Z := Zn
  clear Zn af8
  refine' dqo_pass (d := 53) (by rfl) (by rfl) Z (by rfl) (wanted_no (by rfl) (by rfl) F51 (by rfl)) ?rest47
  case' rest47 => intro af10 Zn Nx
  replace F2 := (Nx.2.2.1 2 rfl).trans F2
  replace F3 := (Nx.2.2.1 3 rfl).trans F3
  replace F14 := (Nx.2.2.1 14 rfl).trans F14
  replace F15 := (Nx.2.2.1 15 rfl).trans F15
  replace F51 := (Nx.2.2.1 51 rfl).trans F51
  replace F62 := (Nx.2.2.1 62 rfl).trans F62
  replace F63 := (Nx.2.2.1 63 rfl).trans F63
  replace F64 := (Nx.2.2.1 64 rfl).trans F64
  replace F65 := (Nx.2.2.1 65 rfl).trans F65
  replace F66 := (Nx.2.2.1 66 rfl).trans F66
  replace F67 := (Nx.2.2.1 67 rfl).trans F67
  replace F68 := (Nx.2.2.1 68 rfl).trans F68
  replace F69 := (Nx.2.2.1 69 rfl).trans F69
  replace F70 := (Nx.2.2.1 70 rfl).trans F70
  replace F71 := (Nx.2.2.1 71 rfl).trans F71
  replace F72 := (Nx.2.2.1 72 rfl).trans F72
  replace F73 := (Nx.2.2.1 73 rfl).trans F73
  replace F74 := (Nx.2.2.1 74 rfl).trans F74
  replace F75 := (Nx.2.2.1 75 rfl).trans F75
  replace F76 := (Nx.2.2.1 76 rfl).trans F76
  replace F77 := (Nx.2.2.1 77 rfl).trans F77
  replace F78 := (Nx.2.2.1 78 rfl).trans F78
  replace F79 := (Nx.2.2.1 79 rfl).trans F79
  replace F80 := (Nx.2.2.1 80 rfl).trans F80
  replace F81 := (Nx.2.2.1 81 rfl).trans F81
  replace D := Nx.2.2.2.trans D
  clear Z Nx
  have Z := Zn
  clear Zn af9
  refine' dqo_pass (d := 54) (by rfl) (by rfl) Z (by rfl) (wanted_no (by rfl) (by rfl) F51 (by rfl)) ?rest48
  case' rest48 => intro af11 Zn Nx
  replace F2 := (Nx.2.2.1 2 rfl).trans F2
  replace F3 := (Nx.2.2.1 3 rfl).trans F3
  replace F14 := (Nx.2.2.1 14 rfl).trans F14
  replace F15 := (Nx.2.2.1 15 rfl).trans F15
  replace F51 := (Nx.2.2.1 51 rfl).trans F51
  replace F62 := (Nx.2.2.1 62 rfl).trans F62
  replace F63 := (Nx.2.2.1 63 rfl).trans F63
  replace F64 := (Nx.2.2.1 64 rfl).trans F64
  replace F65 := (Nx.2.2.1 65 rfl).trans F65
  replace F66 := (Nx.2.2.1 66 rfl).trans F66
  replace F67 := (Nx.2.2.1 67 rfl).trans F67
  replace F68 := (Nx.2.2.1 68 rfl).trans F68
  replace F69 := (Nx.2.2.1 69 rfl).trans F69
  replace F70 := (Nx.2.2.1 70 rfl).trans F70
  replace F71 := (Nx.2.2.1 71 rfl).trans F71
  replace F72 := (Nx.2.2.1 72 rfl).trans F72
  replace F73 := (Nx.2.2.1 73 rfl).trans F73
  replace F74 := (Nx.2.2.1 74 rfl).trans F74
  replace F75 := (Nx.2.2.1 75 rfl).trans F75
  replace F76 := (Nx.2.2.1 76 rfl).trans F76
  replace F77 := (Nx.2.2.1 77 rfl).trans F77
  replace F78 := (Nx.2.2.1 78 rfl).trans F78
  replace F79 := (Nx.2.2.1 79 rfl).trans F79
  replace F80 := (Nx.2.2.1 80 rfl).trans F80
  replace F81 := (Nx.2.2.1 81 rfl).trans F81
  replace D := Nx.2.2.2.trans D
  clear Z Nx
  have Z := Zn
  clear Zn af10
  refine' dqo_pass (d := 55) (by rfl) (by rfl) Z (by rfl) (wanted_no (by rfl) (by rfl) F51 (by rfl)) ?rest49
  case' rest49 => intro af12 Zn Nx
  replace F2 := (Nx.2.2.1 2 rfl).trans F2
  replace F3 := (Nx.2.2.1 3 rfl).trans F3
  replace F14 := (Nx.2.2.1 14 rfl).trans F14
  replace F15 := (Nx.2.2.1 15 rfl).trans F15
  replace F51 := (Nx.2.2.1 51 rfl).trans F51
  replace F62 := (Nx.2.2.1 62 rfl).trans F62
  replace F63 := (Nx.2.2.1 63 rfl).trans F63
  replace F64 := (Nx.2.2.1 64 rfl).trans F64
  replace F65 := (Nx.2.2.1 65 rfl).trans F65
  replace F66 := (Nx.2.2.1 66 rfl).trans F66
  replace F67 := (Nx.2.2.1 67 rfl).trans F67
  replace F68 := (Nx.2.2.1 68 rfl).trans F68
  replace F69 := (Nx.2.2.1 69 rfl).trans F69
  replace F70 := (Nx.2.2.1 70 rfl).trans F70
  replace F71 := (Nx.2.2.1 71 rfl).trans F71
  replace F72 := (Nx.2.2.1 72 rfl).trans F72
  replace F73 := (Nx.2.2.1 73 rfl).trans F73
  replace F74 := (Nx.2.2.1 74 rfl).trans F74
  replace F75 := (Nx.2.2.1 75 rfl).trans F75
  replace F76 := (Nx.2.2.1 76 rfl).trans F76
  replace F77 := (Nx.2.2.1 77 rfl).trans F77
  replace F78 := (Nx.2.2.1 78 rfl).trans F78
  replace F79 := (Nx.2.2.1 79 rfl).trans F79
  replace F80 := (Nx.2.2.1 80 rfl).trans F80
  replace F81 := (Nx.2.2.1 81 rfl).trans F81
  replace D := Nx.2.2.2.trans D
  clear Z Nx
  have Z := Zn
  clear Zn af11
  refine' dqo_pass (d := 56) (by rfl) (by rfl) Z (by rfl) (wanted_no (by rfl) (by rfl) F51 (by rfl)) ?rest50
  case' rest50 => intro af13 Zn Nx
  replace F2 := (Nx.2.2.1 2 rfl).trans F2
  replace F3 := (Nx.2.2.1 3 rfl).trans F3
  replace F14 := (Nx.2.2.1 14 rfl).trans F14
  replace F15 := (Nx.2.2.1 15 rfl).trans F15
  replace F51 := (Nx.2.2.1 51 rfl).trans F51
  replace F62 := (Nx.2.2.1 62 rfl).trans F62
  replace F63 := (Nx.2.2.1 63 rfl).trans F63
  replace F64 := (Nx.2.2.1 64 rfl).trans F64
  replace F65 := (Nx.2.2.1 65 rfl).trans F65
  replace F66 := (Nx.2.2.1 66 rfl).trans F66
  replace F67 := (Nx.2.2.1 67 rfl).trans F67
  replace F68 := (Nx.2.2.1 68 rfl).trans F68
  replace F69 := (Nx.2.2.1 69 rfl).trans F69
  replace F70 := (Nx.2.2.1 70 rfl).trans F70
  replace F71 := (Nx.2.2.1 71 rfl).trans F71
  replace F72 := (Nx.2.2.1 72 rfl).trans F72
  replace F73 := (Nx.2.2.1 73 rfl).trans F73
  replace F74 := (Nx.2.2.1 74 rfl).trans F74
  replace F75 := (Nx.2.2.1 75 rfl).trans F75
  replace F76 := (Nx.2.2.1 76 rfl).trans F76
  replace F77 := (Nx.2.2.1 77 rfl).trans F77
  replace F78 := (Nx.2.2.1 78 rfl).trans F78
  replace F79 := (Nx.2.2.1 79 rfl).trans F79
  replace F80 := (Nx.2.2.1 80 rfl).trans F80
  replace F81 := (Nx.2.2.1 81 rfl).trans F81
  replace D := Nx.2.2.2.trans D
  clear Z Nx
  have Z := Zn
  clear Zn af12
  refine' dqo_pass (d := 57) (by rfl) (by rfl) Z (by rfl) (wanted_no (by rfl) (by rfl) F51 (by rfl)) ?rest51
  case' rest51 => intro af14 Zn Nx
  replace F2 := (Nx.2.2.1 2 rfl).trans F2
  replace F3 := (Nx.2.2.1 3 rfl).trans F3
  replace F14 := (Nx.2.2.1 14 rfl).trans F14
  replace F15 := (Nx.2.2.1 15 rfl).trans F15
  replace F51 := (Nx.2.2.1 51 rfl).trans F51
  replace F62 := (Nx.2.2.1 62 rfl).trans F62
  replace F63 := (Nx.2.2.1 63 rfl).trans F63
  replace F64 := (Nx.2.2.1 64 rfl).trans F64
  replace F65 := (Nx.2.2.1 65 rfl).trans F65
  replace F66 := (Nx.2.2.1 66 rfl).trans F66
  replace F67 := (Nx.2.2.1 67 rfl).trans F67
  replace F68 := (Nx.2.2.1 68 rfl).trans F68
  replace F69 := (Nx.2.2.1 69 rfl).trans F69
  replace F70 := (Nx.2.2.1 70 rfl).trans F70
  replace F71 := (Nx.2.2.1 71 rfl).trans F71
  replace F72 := (Nx.2.2.1 72 rfl).trans F72
  replace F73 := (Nx.2.2.1 73 rfl).trans F73
  replace F74 := (Nx.2.2.1 74 rfl).trans F74
  replace F75 := (Nx.2.2.1 75 rfl).trans F75
  replace F76 := (Nx.2.2.1 76 rfl).trans F76
  replace F77 := (Nx.2.2.1 77 rfl).trans F77
  replace F78 := (Nx.2.2.1 78 rfl).trans F78
  replace F79 := (Nx.2.2.1 79 rfl).trans F79
  replace F80 := (Nx.2.2.1 80 rfl).trans F80
  replace F81 := (Nx.2.2.1 81 rfl).trans F81
  replace D := Nx.2.2.2.trans D
  clear Z Nx
  have Z := Zn
  clear Zn af13
  refine' dqo_pass (d := 58) (by rfl) (by rfl) Z (by rfl) (wanted_no (by rfl) (by rfl) F51 (by rfl)) ?rest52
  case' rest52 => intro af15 Zn Nx
  replace F2 := (Nx.2.2.1 2 rfl).trans F2
  replace F3 := (Nx.2.2.1 3 rfl).trans F3
  replace F14 := (Nx.2.2.1 14 rfl).trans F14
  replace F15 := (Nx.2.2.1 15 rfl).trans F15
  replace F51 := (Nx.2.2.1 51 rfl).trans F51
  replace F62 := (Nx.2.2.1 62 rfl).trans F62
  replace F63 := (Nx.2.2.1 63 rfl).trans F63
  replace F64 := (Nx.2.2.1 64 rfl).trans F64
  replace F65 := (Nx.2.2.1 65 rfl).trans F65
  replace F66 := (Nx.2.2.1 66 rfl).trans F66
  replace F67 := (Nx.2.2.1 67 rfl).trans F67
  replace F68 := (Nx.2.2.1 68 rfl).trans F68
  replace F69 := (Nx.2.2.1 69 rfl).trans F69
  replace F70 := (Nx.2.2.1 70 rfl).trans F70
  replace F71 := (Nx.2.2.1 71 rfl).trans F71
  replace F72 := (Nx.2.2.1 72 rfl).trans F72
  replace F73 := (Nx.2.2.1 73 rfl).trans F73
  replace F74 := (Nx.2.2.1 74 rfl).trans F74
  replace F75 := (Nx.2.2.1 75 rfl).trans F75
  replace F76 := (Nx.2.2.1 76 rfl).trans F76
  replace F77 := (Nx.2.2.1 77 rfl).trans F77
  replace F78 := (Nx.2.2.1 78 rfl).trans F78
  replace F79 := (Nx.2.2.1 79 rfl).trans F79
  replace F80 := (Nx.2.2.1 80 rfl).trans F80
  replace F81 := (Nx.2.2.1 81 rfl).trans F81
  replace D := Nx.2.2.2.trans D
  clear Z Nx
  have Z := Zn
  clear Zn af14
  refine' dqo_pass (d := 59) (by rfl) (by rfl) Z (by rfl) (wanted_no (by rfl) (by rfl) F51 (by rfl)) ?rest53
  case' rest53 => intro af16 Zn Nx
  replace F2 := (Nx.2.2.1 2 rfl).trans F2
  replace F3 := (Nx.2.2.1 3 rfl).trans F3
  replace F14 := (Nx.2.2.1 14 rfl).trans F14
  replace F15 := (Nx.2.2.1 15 rfl).trans F15
  replace F51 := (Nx.2.2.1 51 rfl).trans F51
  replace F62 := (Nx.2.2.1 62 rfl).trans F62
  replace F63 := (Nx.2.2.1 63 rfl).trans F63
  replace F64 := (Nx.2.2.1 64 rfl).trans F64
  replace F65 := (Nx.2.2.1 65 rfl).trans F65
  replace F66 := (Nx.2.2.1 66 rfl).trans F66
  replace F67 := (Nx.2.2.1 67 rfl).trans F67
  replace F68 := (Nx.2.2.1 68 rfl).trans F68
  replace F69 := (Nx.2.2.1 69 rfl).trans F69
  replace F70 := (Nx.2.2.1 70 rfl).trans F70
  replace F71 := (Nx.2.2.1 71 rfl).trans F71
  replace F72 := (Nx.2.2.1 72 rfl).trans F72
  replace F73 := (Nx.2.2.1 73 rfl).trans F73
  replace F74 := (Nx.2.2.1 74 rfl).trans F74
  replace F75 := (Nx.2.2.1 75 rfl).trans F75
  replace F76 := (Nx.2.2.1 76 rfl).trans F76
  replace F77 := (Nx.2.2.1 77 rfl).trans F77
  replace F78 := (Nx.2.2.1 78 rfl).trans F78
  replace F79 := (Nx.2.2.1 79 rfl).trans F79
  replace F80 := (Nx.2.2.1 80 rfl).trans F80
  replace F81 := (Nx.2.2.1 81 rfl).trans F81
  replace D := Nx.2.2.2.trans D
  clear Z Nx
  have Z := Zn
  clear Zn af15
  refine' dqo_pass (d := 60) (by rfl) (by rfl) Z (by rfl) (wanted_no (by rfl) (by rfl) F51 (by rfl)) ?rest54
  case' rest54 => intro af17 Zn Nx
  replace F2 := (Nx.2.2.1 2 rfl).trans F2
  replace F3 := (Nx.2.2.1 3 rfl).trans F3
  replace F14 := (Nx.2.2.1 14 rfl).trans F14
  replace F15 := (Nx.2.2.1 15 rfl).trans F15
  replace F51 := (Nx.2.2.1 51 rfl).trans F51
  replace F62 := (Nx.2.2.1 62 rfl).trans F62
  replace F63 := (Nx.2.2.1 63 rfl).trans F63
  replace F64 := (Nx.2.2.1 64 rfl).trans F64
  replace F65 := (Nx.2.2.1 65 rfl).trans F65
  replace F66 := (Nx.2.2.1 66 rfl).trans F66
  replace F67 := (Nx.2.2.1 67 rfl).trans F67
  replace F68 := (Nx.2.2.1 68 rfl).trans F68
  replace F69 := (Nx.2.2.1 69 rfl).trans F69
  replace F70 := (Nx.2.2.1 70 rfl).trans F70
  replace F71 := (Nx.2.2.1 71 rfl).trans F71
  replace F72 := (Nx.2.2.1 72 rfl).trans F72
  replace F73 := (Nx.2.2.1 73 rfl).trans F73
  replace F74 := (Nx.2.2.1 74 rfl).trans F74
  replace F75 := (Nx.2.2.1 75 rfl).trans F75
  replace F76 := (Nx.2.2.1 76 rfl).trans F76
  replace F77 := (Nx.2.2.1 77 rfl).trans F77
  replace F78 := (Nx.2.2.1 78 rfl).trans F78
  replace F79 := (Nx.2.2.1 79 rfl).trans F79
  replace F80 := (Nx.2.2.1 80 rfl).trans F80
  replace F81 := (Nx.2.2.1 81 rfl).trans F81
  have F60 := Nx.2.1
  replace D := Nx.2.2.2.trans D
  clear Z Nx
  have Z := Zn
  clear Zn af16
  refine' dqo_pure (d := 61) (by rfl) (by rfl) Z (by rfl) (wanted_not (by rfl)) ?hv55 ?rest55
  case hv55 => (intro ρ hρ; have E51 := (hρ.1 51).trans F51; have E60 := (hρ.1 60).trans F60; have Ec := hρ.2.1; have Ef := hρ.2.2.1; clear hρ; intro w hw; (try dsimp only at hw); go_split_ands; go_simp; try with_reducible rfl)
  case' rest55 => intro af18 Zn Nx
  replace F2 := (Nx.2.2.1 2 rfl).trans F2
  replace F3 := (Nx.2.2.1 3 rfl).trans F3
  replace F14 := (Nx.2.2.1 14 rfl).trans F14
  replace F15 := (Nx.2.2.1 15 rfl).trans F15
  clear F51
  clear F60
  replace F62 := (Nx.2.2.1 62 rfl).trans F62
  replace F63 := (Nx.2.2.1 63 rfl).trans F63
  replace F64 := (Nx.2.2.1 64 rfl).trans F64
  replace F65 := (Nx.2.2.1 65 rfl).trans F65
  replace F66 := (Nx.2.2.1 66 rfl).trans F66
  replace F67 := (Nx.2.2.1 67 rfl).trans F67
  replace F68 := (Nx.2.2.1 68 rfl).trans F68
  replace F69 := (Nx.2.2.1 69 rfl).trans F69
  replace F70 := (Nx.2.2.1 70 rfl).trans F70
  replace F71 := (Nx.2.2.1 71 rfl).trans F71
  replace F72 := (Nx.2.2.1 72 rfl).trans F72
  replace F73 := (Nx.2.2.1 73 rfl).trans F73
  replace F74 := (Nx.2.2.1 74 rfl).trans F74
  replace F75 := (Nx.2.2.1 75 rfl).trans F75
  replace F76 := (Nx.2.2.1 76 rfl).trans F76
  replace F77 := (Nx.2.2.1 77 rfl).trans F77
  replace F78 := (Nx.2.2.1 78 rfl).trans F78
  replace F79 := (Nx.2.2.1 79 rfl).trans F79
  replace F80 := (Nx.2.2.1 80 rfl).trans F80
  replace F81 := (Nx.2.2.1 81 rfl).trans F81
  have F61 := Nx.2.1
  replace D := Nx.2.2.2.trans D
  clear Z Nx
  have Z := Zn
  clear Zn af17
  refine dq_nil ?_
  refine fa_nil ?_
  rintro W ⟨⟨hb0, hn0, ⟨B1, B1c, B1f, B1l⟩, ⟨B2, B2c, B2f, B2l⟩, ⟨B3, B3c, B3f, B3l⟩, ⟨B4, B4c, B4f, B4l⟩, ⟨B5, B5c, B5f, B5l⟩, ⟨B6, B6c, B6f, B6l⟩, ⟨B7, B7c, B7f, B7l⟩⟩, hgl⟩ hbs
  clear hbs hgl
  obtain ⟨ρ, hρ⟩ := rho_of af18
  have hL := act_lit (l := [ρ (.tmp 0), ρ (.tmp 1), _, _, ρ (.tmp 4), ρ (.tmp 5), ρ (.tmp 6), ρ (.tmp 7), ρ (.tmp 8), ρ (.tmp 9), ρ (.tmp 10), ρ (.tmp 11), ρ (.tmp 12), ρ (.tmp 13), _, _, ρ (.tmp 16), ρ (.tmp 17), ρ (.tmp 18), ρ (.tmp 19), ρ (.tmp 20), ρ (.tmp 21), ρ (.tmp 22), ρ (.tmp 23), ρ (.tmp 24), ρ (.tmp 25), ρ (.tmp 26), ρ (.tmp 27), ρ (.tmp 28), ρ (.tmp 29), ρ (.tmp 30), ρ (.tmp 31), ρ (.tmp 32), ρ (.tmp 33), ρ (.tmp 34), ρ (.tmp 35), ρ (.tmp 36), ρ (.tmp 37), ρ (.tmp 38), ρ (.tmp 39), ρ (.tmp 40), ρ (.tmp 41), ρ (.tmp 42), ρ (.tmp 43), ρ (.tmp 44), ρ (.tmp 45), ρ (.tmp 46), ρ (.tmp 47), ρ (.tmp 48), ρ (.tmp 49), ρ (.tmp 50), ρ (.tmp 51), ρ (.tmp 52), ρ (.tmp 53), ρ (.tmp 54), ρ (.tmp 55), ρ (.tmp 56), ρ (.tmp 57), ρ (.tmp 58), ρ (.tmp 59), ρ (.tmp 60), _, _, _, _, _, _, _, _, _, _, _, _, _, _, _, _, _, _, _, _, _]) Z D (by rfl) ⟨hρ 0, hρ 1, F2, F3, hρ 4, hρ 5, hρ 6, hρ 7, hρ 8, hρ 9, hρ 10, hρ 11, hρ 12, hρ 13, F14, F15, hρ 16, hρ 17, hρ 18, hρ 19, hρ 20, hρ 21, hρ 22, hρ 23, hρ 24, hρ 25, hρ 26, hρ 27, hρ 28, hρ 29, hρ 30, hρ 31, hρ 32, hρ 33, hρ 34, hρ 35, hρ 36, hρ 37, hρ 38, hρ 39, hρ 40, hρ 41, hρ 42, hρ 43, hρ 44, hρ 45, hρ 46, hρ 47, hρ 48, hρ 49, hρ 50, hρ 51, hρ 52, hρ 53, hρ 54, hρ 55, hρ 56, hρ 57, hρ 58, hρ 59, hρ 60, F61, F62, F63, F64, F65, F66, F67, F68, F69, F70, F71, F72, F73, F74, F75, F76, F77, F78, F79, F80, F81, trivial⟩
  clear hρ Z D F2 F3 F14 F15 F61 F62 F63 F64 F65 F66 F67 F68 F69 F70 F71 F72 F73 F74 F75 F76 F77 F78 F79 F80 F81
  subst hL
  simp only [List.drop_succ_cons, List.drop_zero]
  rotate_left 1
  (refine wp_region_dq (row := none) (S := (fun Wz => Below u3.heap.size u3 Wz ∧ u3.heap.size ≤ Wz.heap.size ∧ Bx Wz (wp.heap.size) (#[.int .i64 x1, .int .i64 y1]) ∧ Bx Wz (wp.heap.size + 1) (#[.int .i64 x2, .int .i64 y2]) ∧ Bx Wz (wp.heap.size + 1 + 1) (#[.int .i64 x3, .int .i64 y3]) ∧ Bx Wz (wp.heap.size + 1 + 1 + 1) (#[.int .i64 x4, .int .i64 y4]) ∧ Bx Wz (u1.heap.size) (#[.int .i64 X1, .int .i64 Y1]) ∧ Bx Wz (u2.heap.size) (#[.int .i64 X2, .int .i64 Y2]) ∧ Bx Wz (u3.heap.size) (#[.int .i64 X3, .int .i64 Y3]))) (n0 := u3.heap.size) 18 [] [(0, 0), (1, 0), (2, 0), (3, 0), (4, 0), (5, 0), (6, 0), (7, 0), (8, 0), (9, 0), (10, 0), (11, 0), (12, 0), (13, 0), (14, 0), (15, 0), (16, 0), (17, 0)] [] (by kernel_rfl) (by kernel_rfl) (fun _ _ d _ _ h => by cases d <;> exact h) (by refine ⟨?b, ?n, ?_, ?_, ?_, ?_, ?_, ?_, ?_⟩; (case b => (repeat' (first | (with_reducible assumption) | (with_reducible exact Below.refl _ _) | (with_reducible refine Below.alloc ?_ ?_ _) | (with_reducible refine Below.setCell ?_ ?_ _) | (with_reducible refine Below.drew ?_) | (with_reducible refine below_more ?_ (by with_reducible assumption)) | go_size | omega | (with_reducible refine below_drewN ?_)))); (case n => (first | go_size | omega)); all_goals (refine Bx.of ?_; (repeat' (first | (with_reducible assumption) | ((with_reducible refine HB.new _ _ _ ?_) <;> (go_size; done)) | (with_reducible refine HB.old (by go_size) ?_) | (with_reducible refine HB.drew ?_) | (with_reducible refine HB.over5 ?_) | (with_reducible refine HB.over4 ?_) | (with_reducible refine HB.setne (by first | go_size | (dsimp only; omega)) ?_) | (with_reducible refine HN.set ?_) | (with_reducible refine HN.setne (by first | go_size | (dsimp only; omega)) ?_) | (with_reducible refine HN.drew ?_) | (with_reducible refine HN.old (by go_size) ?_) | (with_reducible exact HN.of5 (by assumption)) | (with_reducible exact HN.new5 _ _ (by go_size)) | (with_reducible exact HN.of4 (by assumption)) | (with_reducible exact HN.new4 _ _ (by go_size)))))) (fun _ _ h g => keep7 h (below_gt g) rfl) (fun _ h => h.2.1) (fun _ h => by cases h) (by simp) ?_)
  refine dqo_start ?_
  intro af0 hA
  have Z := size_lit (n := 82) hA (by rfl)
  have D := defers_lit hA
  have F2 := ev_lit (t := 2) hA (by rfl)
  have F3 := ev_lit (t := 3) hA (by rfl)
  have F4 := ev_lit (t := 4) hA (by rfl)
  have F5 := ev_lit (t := 5) hA (by rfl)
  have F6 := ev_lit (t := 6) hA (by rfl)
  have F8 := ev_lit (t := 8) hA (by rfl)
  have F9 := ev_lit (t := 9) hA (by rfl)
  have F10 := ev_lit (t := 10) hA (by rfl)
  have F11 := ev_lit (t := 11) hA (by rfl)
  have F12 := ev_lit (t := 12) hA (by rfl)
  have F13 := ev_lit (t := 13) hA (by rfl)
  have F14 := ev_lit (t := 14) hA (by rfl)
  have F15 := ev_lit (t := 15) hA (by rfl)
  have F62 := ev_lit (t := 62) hA (by rfl)
  have F63 := ev_lit (t := 63) hA (by rfl)
  have F64 := ev_lit (t := 64) hA (by rfl)
  have F65 := ev_lit (t := 65) hA (by rfl)
  have F66 := ev_lit (t := 66) hA (by rfl)
  have F67 := ev_lit (t := 67) hA (by rfl)
  have F68 := ev_lit (t := 68) hA (by rfl)
  have F69 := ev_lit (t := 69) hA (by rfl)
  have F70 := ev_lit (t := 70) hA (by rfl)
  have F71 := ev_lit (t := 71) hA (by rfl)
  have F72 := ev_lit (t := 72) hA (by rfl)
  have F73 := ev_lit (t := 73) hA (by rfl)
  have F74 := ev_lit (t := 74) hA (by rfl)
  have F75 := ev_lit (t := 75) hA (by rfl)
  have F76 := ev_lit (t := 76) hA (by rfl)
  have F77 := ev_lit (t := 77) hA (by rfl)
  have F78 := ev_lit (t := 78) hA (by rfl)
  have F79 := ev_lit (t := 79) hA (by rfl)
  have F80 := ev_lit (t := 80) hA (by rfl)
  have F81 := ev_lit (t := 81) hA (by rfl)
  clear hA
  refine' dqo_pure (d := 44) (by rfl) (by rfl) Z (by rfl) (wanted_not (by rfl)) ?hv56 ?rest56
  case hv56 => (intro ρ hρ; have E9 := (hρ.1 9).trans F9; have Ec := hρ.2.1; have Ef := hρ.2.2.1; clear hρ; intro w hw; (try dsimp only at hw); go_split_ands; go_simp; try with_reducible rfl)
  case' rest56 => intro af1 Zn Nx
  replace F2 := (Nx.2.2.1 2 rfl).trans F2
  replace F3 := (Nx.2.2.1 3 rfl).trans F3
  replace F4 := (Nx.2.2.1 4 rfl).trans F4
  replace F5 := (Nx.2.2.1 5 rfl).trans F5
  replace F6 := (Nx.2.2.1 6 rfl).trans F6
  replace F8 := (Nx.2.2.1 8 rfl).trans F8
  clear F9
  replace F10 := (Nx.2.2.1 10 rfl).trans F10
  replace F11 := (Nx.2.2.1 11 rfl).trans F11
  replace F12 := (Nx.2.2.1 12 rfl).trans F12
  replace F13 := (Nx.2.2.1 13 rfl).trans F13
  replace F14 := (Nx.2.2.1 14 rfl).trans F14
  replace F15 := (Nx.2.2.1 15 rfl).trans F15
  replace F62 := (Nx.2.2.1 62 rfl).trans F62
  replace F63 := (Nx.2.2.1 63 rfl).trans F63
  replace F64 := (Nx.2.2.1 64 rfl).trans F64
  replace F65 := (Nx.2.2.1 65 rfl).trans F65
  replace F66 := (Nx.2.2.1 66 rfl).trans F66
  replace F67 := (Nx.2.2.1 67 rfl).trans F67
  replace F68 := (Nx.2.2.1 68 rfl).trans F68
  replace F69 := (Nx.2.2.1 69 rfl).trans F69
  replace F70 := (Nx.2.2.1 70 rfl).trans F70
  replace F71 := (Nx.2.2.1 71 rfl).trans F71
  replace F72 := (Nx.2.2.1 72 rfl).trans F72
  replace F73 := (Nx.2.2.1 73 rfl).trans F73
  replace F74 := (Nx.2.2.1 74 rfl).trans F74
  replace F75 := (Nx.2.2.1 75 rfl).trans F75
  replace F76 := (Nx.2.2.1 76 rfl).trans F76
  replace F77 := (Nx.2.2.1 77 rfl).trans F77
  replace F78 := (Nx.2.2.1 78 rfl).trans F78
  replace F79 := (Nx.2.2.1 79 rfl).trans F79
  replace F80 := (Nx.2.2.1 80 rfl).trans F80
  replace F81 := (Nx.2.2.1 81 rfl).trans F81
  have F44 := Nx.2.1
  replace D := Nx.2.2.2.trans D
  clear Z Nx
  have Z := Zn
  clear Zn af0
  refine' dqo_pure (d := 45) (by rfl) (by rfl) Z (by rfl) (wanted_not (by rfl)) ?hv57 ?rest57
  case hv57 => (intro ρ hρ; have E44 := (hρ.1 44).trans F44; have Ec := hρ.2.1; have Ef := hρ.2.2.1; clear hρ; intro w hw; (try dsimp only at hw); go_split_ands; go_simp; try with_reducible rfl)
  case' rest57 => intro af2 Zn Nx
  replace F2 := (Nx.2.2.1 2 rfl).trans F2
  replace F3 := (Nx.2.2.1 3 rfl).trans F3
  replace F4 := (Nx.2.2.1 4 rfl).trans F4
  replace F5 := (Nx.2.2.1 5 rfl).trans F5
  replace F6 := (Nx.2.2.1 6 rfl).trans F6
  replace F8 := (Nx.2.2.1 8 rfl).trans F8
  replace F10 := (Nx.2.2.1 10 rfl).trans F10
  replace F11 := (Nx.2.2.1 11 rfl).trans F11
  replace F12 := (Nx.2.2.1 12 rfl).trans F12
  replace F13 := (Nx.2.2.1 13 rfl).trans F13
  replace F14 := (Nx.2.2.1 14 rfl).trans F14
  replace F15 := (Nx.2.2.1 15 rfl).trans F15
  clear F44
  replace F62 := (Nx.2.2.1 62 rfl).trans F62
  replace F63 := (Nx.2.2.1 63 rfl).trans F63
  replace F64 := (Nx.2.2.1 64 rfl).trans F64
  replace F65 := (Nx.2.2.1 65 rfl).trans F65
  replace F66 := (Nx.2.2.1 66 rfl).trans F66
  replace F67 := (Nx.2.2.1 67 rfl).trans F67
  replace F68 := (Nx.2.2.1 68 rfl).trans F68
  replace F69 := (Nx.2.2.1 69 rfl).trans F69
  replace F70 := (Nx.2.2.1 70 rfl).trans F70
  replace F71 := (Nx.2.2.1 71 rfl).trans F71
  replace F72 := (Nx.2.2.1 72 rfl).trans F72
  replace F73 := (Nx.2.2.1 73 rfl).trans F73
  replace F74 := (Nx.2.2.1 74 rfl).trans F74
  replace F75 := (Nx.2.2.1 75 rfl).trans F75
  replace F76 := (Nx.2.2.1 76 rfl).trans F76
  replace F77 := (Nx.2.2.1 77 rfl).trans F77
  replace F78 := (Nx.2.2.1 78 rfl).trans F78
  replace F79 := (Nx.2.2.1 79 rfl).trans F79
  replace F80 := (Nx.2.2.1 80 rfl).trans F80
  replace F81 := (Nx.2.2.1 81 rfl).trans F81
  have F45 := Nx.2.1
  replace D := Nx.2.2.2.trans D
  clear Z Nx
  have Z := Zn
  clear Zn af1
  refine' dqo_pure (d := 46) (by rfl) (by rfl) Z (by rfl) (wanted_yes (by rfl) (by rfl) F45) ?hv58 ?rest58
  case hv58 => (intro ρ hρ; have E11 := (hρ.1 11).trans F11; have Ec := hρ.2.1; have Ef := hρ.2.2.1; clear hρ; intro w hw; (try dsimp only at hw); go_split_ands; go_simp; try with_reducible rfl)
  case' rest58 => intro af3 Zn Nx
  replace F2 := (Nx.2.2.1 2 rfl).trans F2
  replace F3 := (Nx.2.2.1 3 rfl).trans F3
  replace F4 := (Nx.2.2.1 4 rfl).trans F4
  replace F5 := (Nx.2.2.1 5 rfl).trans F5
  replace F6 := (Nx.2.2.1 6 rfl).trans F6
  replace F8 := (Nx.2.2.1 8 rfl).trans F8
  replace F10 := (Nx.2.2.1 10 rfl).trans F10
  clear F11
  replace F12 := (Nx.2.2.1 12 rfl).trans F12
  replace F13 := (Nx.2.2.1 13 rfl).trans F13
  replace F14 := (Nx.2.2.1 14 rfl).trans F14
  replace F15 := (Nx.2.2.1 15 rfl).trans F15
  replace F45 := (Nx.2.2.1 45 rfl).trans F45
  replace F62 := (Nx.2.2.1 62 rfl).trans F62
  replace F63 := (Nx.2.2.1 63 rfl).trans F63
  replace F64 := (Nx.2.2.1 64 rfl).trans F64
  replace F65 := (Nx.2.2.1 65 rfl).trans F65
  replace F66 := (Nx.2.2.1 66 rfl).trans F66
  replace F67 := (Nx.2.2.1 67 rfl).trans F67
  replace F68 := (Nx.2.2.1 68 rfl).trans F68
  replace F69 := (Nx.2.2.1 69 rfl).trans F69
  replace F70 := (Nx.2.2.1 70 rfl).trans F70
  replace F71 := (Nx.2.2.1 71 rfl).trans F71
  replace F72 := (Nx.2.2.1 72 rfl).trans F72
  replace F73 := (Nx.2.2.1 73 rfl).trans F73
  replace F74 := (Nx.2.2.1 74 rfl).trans F74
  replace F75 := (Nx.2.2.1 75 rfl).trans F75
  replace F76 := (Nx.2.2.1 76 rfl).trans F76
  replace F77 := (Nx.2.2.1 77 rfl).trans F77
  replace F78 := (Nx.2.2.1 78 rfl).trans F78
  replace F79 := (Nx.2.2.1 79 rfl).trans F79
  replace F80 := (Nx.2.2.1 80 rfl).trans F80
  replace F81 := (Nx.2.2.1 81 rfl).trans F81
  have F46 := Nx.2.1
  replace D := Nx.2.2.2.trans D
  clear Z Nx
  have Z := Zn
  clear Zn af2
  refine' dqo_pure (d := 47) (by rfl) (by rfl) Z (by rfl) (wanted_not (by rfl)) ?hv59 ?rest59
  case hv59 => (intro ρ hρ; have E45 := (hρ.1 45).trans F45; have E46 := (hρ.1 46).trans F46; have Ec := hρ.2.1; have Ef := hρ.2.2.1; clear hρ; intro w hw; (try dsimp only at hw); go_split_ands; go_simp; try with_reducible rfl)
  case' rest59 => intro af4 Zn Nx
  replace F2 := (Nx.2.2.1 2 rfl).trans F2
  replace F3 := (Nx.2.2.1 3 rfl).trans F3
  replace F4 := (Nx.2.2.1 4 rfl).trans F4
  replace F5 := (Nx.2.2.1 5 rfl).trans F5
  replace F6 := (Nx.2.2.1 6 rfl).trans F6
  replace F8 := (Nx.2.2.1 8 rfl).trans F8
  replace F10 := (Nx.2.2.1 10 rfl).trans F10
  replace F12 := (Nx.2.2.1 12 rfl).trans F12
  replace F13 := (Nx.2.2.1 13 rfl).trans F13
  replace F14 := (Nx.2.2.1 14 rfl).trans F14
  replace F15 := (Nx.2.2.1 15 rfl).trans F15
  clear F45
  clear F46
  replace F62 := (Nx.2.2.1 62 rfl).trans F62
  replace F63 := (Nx.2.2.1 63 rfl).trans F63
  replace F64 := (Nx.2.2.1 64 rfl).trans F64
  replace F65 := (Nx.2.2.1 65 rfl).trans F65
  replace F66 := (Nx.2.2.1 66 rfl).trans F66
  replace F67 := (Nx.2.2.1 67 rfl).trans F67
  replace F68 := (Nx.2.2.1 68 rfl).trans F68
  replace F69 := (Nx.2.2.1 69 rfl).trans F69
  replace F70 := (Nx.2.2.1 70 rfl).trans F70
  replace F71 := (Nx.2.2.1 71 rfl).trans F71
  replace F72 := (Nx.2.2.1 72 rfl).trans F72
  replace F73 := (Nx.2.2.1 73 rfl).trans F73
  replace F74 := (Nx.2.2.1 74 rfl).trans F74
  replace F75 := (Nx.2.2.1 75 rfl).trans F75
  replace F76 := (Nx.2.2.1 76 rfl).trans F76
  replace F77 := (Nx.2.2.1 77 rfl).trans F77
  replace F78 := (Nx.2.2.1 78 rfl).trans F78
  replace F79 := (Nx.2.2.1 79 rfl).trans F79
  replace F80 := (Nx.2.2.1 80 rfl).trans F80
  replace F81 := (Nx.2.2.1 81 rfl).trans F81
  have F47 := Nx.2.1
  replace D := Nx.2.2.2.trans D
  clear Z Nx
  have Z := Zn
  clear Zn af3
  refine' dqo_pure (d := 48) (by rfl) (by rfl) Z (by rfl) (wanted_not (by rfl)) ?hv60 ?rest60
  case hv60 => (intro ρ hρ; have E47 := (hρ.1 47).trans F47; have Ec := hρ.2.1; have Ef := hρ.2.2.1; clear hρ; intro w hw; (try dsimp only at hw); go_split_ands; go_simp; try with_reducible rfl)
  case' rest60 => intro af5 Zn Nx
  replace F2 := (Nx.2.2.1 2 rfl).trans F2
  replace F3 := (Nx.2.2.1 3 rfl).trans F3
  replace F4 := (Nx.2.2.1 4 rfl).trans F4
  replace F5 := (Nx.2.2.1 5 rfl).trans F5
  replace F6 := (Nx.2.2.1 6 rfl).trans F6
  replace F8 := (Nx.2.2.1 8 rfl).trans F8
  replace F10 := (Nx.2.2.1 10 rfl).trans F10
  replace F12 := (Nx.2.2.1 12 rfl).trans F12
  replace F13 := (Nx.2.2.1 13 rfl).trans F13
  replace F14 := (Nx.2.2.1 14 rfl).trans F14
  replace F15 := (Nx.2.2.1 15 rfl).trans F15
  clear F47
  replace F62 := (Nx.2.2.1 62 rfl).trans F62
  replace F63 := (Nx.2.2.1 63 rfl).trans F63
  replace F64 := (Nx.2.2.1 64 rfl).trans F64
  replace F65 := (Nx.2.2.1 65 rfl).trans F65
  replace F66 := (Nx.2.2.1 66 rfl).trans F66
  replace F67 := (Nx.2.2.1 67 rfl).trans F67
  replace F68 := (Nx.2.2.1 68 rfl).trans F68
  replace F69 := (Nx.2.2.1 69 rfl).trans F69
  replace F70 := (Nx.2.2.1 70 rfl).trans F70
  replace F71 := (Nx.2.2.1 71 rfl).trans F71
  replace F72 := (Nx.2.2.1 72 rfl).trans F72
  replace F73 := (Nx.2.2.1 73 rfl).trans F73
  replace F74 := (Nx.2.2.1 74 rfl).trans F74
  replace F75 := (Nx.2.2.1 75 rfl).trans F75
  replace F76 := (Nx.2.2.1 76 rfl).trans F76
  replace F77 := (Nx.2.2.1 77 rfl).trans F77
  replace F78 := (Nx.2.2.1 78 rfl).trans F78
  replace F79 := (Nx.2.2.1 79 rfl).trans F79
  replace F80 := (Nx.2.2.1 80 rfl).trans F80
  replace F81 := (Nx.2.2.1 81 rfl).trans F81
  have F48 := Nx.2.1
  replace D := Nx.2.2.2.trans D
  clear Z Nx
  have Z := Zn
  clear Zn af4
  refine' dqo_pure (d := 49) (by rfl) (by rfl) Z (by rfl) (wanted_yes (by rfl) (by rfl) F48) ?hv61 ?rest61
  case hv61 => (intro ρ hρ; have E13 := (hρ.1 13).trans F13; have Ec := hρ.2.1; have Ef := hρ.2.2.1; clear hρ; intro w hw; (try dsimp only at hw); go_split_ands; go_simp; try with_reducible rfl)
  case' rest61 => intro af6 Zn Nx
  replace F2 := (Nx.2.2.1 2 rfl).trans F2
  replace F3 := (Nx.2.2.1 3 rfl).trans F3
  replace F4 := (Nx.2.2.1 4 rfl).trans F4
  replace F5 := (Nx.2.2.1 5 rfl).trans F5
  replace F6 := (Nx.2.2.1 6 rfl).trans F6
  replace F8 := (Nx.2.2.1 8 rfl).trans F8
  replace F10 := (Nx.2.2.1 10 rfl).trans F10
  replace F12 := (Nx.2.2.1 12 rfl).trans F12
  clear F13
  replace F14 := (Nx.2.2.1 14 rfl).trans F14
  replace F15 := (Nx.2.2.1 15 rfl).trans F15
  replace F48 := (Nx.2.2.1 48 rfl).trans F48
  replace F62 := (Nx.2.2.1 62 rfl).trans F62
  replace F63 := (Nx.2.2.1 63 rfl).trans F63
  replace F64 := (Nx.2.2.1 64 rfl).trans F64
  replace F65 := (Nx.2.2.1 65 rfl).trans F65
  replace F66 := (Nx.2.2.1 66 rfl).trans F66
  replace F67 := (Nx.2.2.1 67 rfl).trans F67
  replace F68 := (Nx.2.2.1 68 rfl).trans F68
  replace F69 := (Nx.2.2.1 69 rfl).trans F69
  replace F70 := (Nx.2.2.1 70 rfl).trans F70
  replace F71 := (Nx.2.2.1 71 rfl).trans F71
  replace F72 := (Nx.2.2.1 72 rfl).trans F72
  replace F73 := (Nx.2.2.1 73 rfl).trans F73
  replace F74 := (Nx.2.2.1 74 rfl).trans F74
  replace F75 := (Nx.2.2.1 75 rfl).trans F75
  replace F76 := (Nx.2.2.1 76 rfl).trans F76
  replace F77 := (Nx.2.2.1 77 rfl).trans F77
  replace F78 := (Nx.2.2.1 78 rfl).trans F78
  replace F79 := (Nx.2.2.1 79 rfl).trans F79
  replace F80 := (Nx.2.2.1 80 rfl).trans F80
  replace F81 := (Nx.2.2.1 81 rfl).trans F81
  have F49 := Nx.2.1
  replace D := Nx.2.2.2.trans D
  clear Z Nx
  have Z := Zn
  clear Zn af5
  refine' dqo_pure (d := 50) (by rfl) (by rfl) Z (by rfl) (wanted_not (by rfl)) ?hv62 ?rest62
  case hv62 => (intro ρ hρ; have E48 := (hρ.1 48).trans F48; have E49 := (hρ.1 49).trans F49; have Ec := hρ.2.1; have Ef := hρ.2.2.1; clear hρ; intro w hw; (try dsimp only at hw); go_split_ands; go_simp; try with_reducible rfl)
  case' rest62 => intro af7 Zn Nx
  replace F2 := (Nx.2.2.1 2 rfl).trans F2
  replace F3 := (Nx.2.2.1 3 rfl).trans F3
  replace F4 := (Nx.2.2.1 4 rfl).trans F4
  replace F5 := (Nx.2.2.1 5 rfl).trans F5
  replace F6 := (Nx.2.2.1 6 rfl).trans F6
  replace F8 := (Nx.2.2.1 8 rfl).trans F8
  replace F10 := (Nx.2.2.1 10 rfl).trans F10
  replace F12 := (Nx.2.2.1 12 rfl).trans F12
  replace F14 := (Nx.2.2.1 14 rfl).trans F14
  replace F15 := (Nx.2.2.1 15 rfl).trans F15
  clear F48
  clear F49
  replace F62 := (Nx.2.2.1 62 rfl).trans F62
  replace F63 := (Nx.2.2.1 63 rfl).trans F63
  replace F64 := (Nx.2.2.1 64 rfl).trans F64
  replace F65 := (Nx.2.2.1 65 rfl).trans F65
  replace F66 := (Nx.2.2.1 66 rfl).trans F66
  replace F67 := (Nx.2.2.1 67 rfl).trans F67
  replace F68 := (Nx.2.2.1 68 rfl).trans F68
  replace F69 := (Nx.2.2.1 69 rfl).trans F69
  replace F70 := (Nx.2.2.1 70 rfl).trans F70
  replace F71 := (Nx.2.2.1 71 rfl).trans F71
  replace F72 := (Nx.2.2.1 72 rfl).trans F72
  replace F73 := (Nx.2.2.1 73 rfl).trans F73
  replace F74 := (Nx.2.2.1 74 rfl).trans F74
  replace F75 := (Nx.2.2.1 75 rfl).trans F75
  replace F76 := (Nx.2.2.1 76 rfl).trans F76
  replace F77 := (Nx.2.2.1 77 rfl).trans F77
  replace F78 := (Nx.2.2.1 78 rfl).trans F78
  replace F79 := (Nx.2.2.1 79 rfl).trans F79
  replace F80 := (Nx.2.2.1 80 rfl).trans F80
  replace F81 := (Nx.2.2.1 81 rfl).trans F81
  have F50 := Nx.2.1
  replace D := Nx.2.2.2.trans D
  clear Z Nx
  have Z := Zn
  clear Zn af6
  refine' dqo_pure (d := 51) (by rfl) (by rfl) Z (by rfl) (wanted_not (by rfl)) ?hv63 ?rest63
  case hv63 => (intro ρ hρ; have E50 := (hρ.1 50).trans F50; have Ec := hρ.2.1; have Ef := hρ.2.2.1; clear hρ; intro w hw; (try dsimp only at hw); go_split_ands; go_simp; try with_reducible rfl)
  case' rest63 => intro af8 Zn Nx
  replace F2 := (Nx.2.2.1 2 rfl).trans F2
  replace F3 := (Nx.2.2.1 3 rfl).trans F3
  replace F4 := (Nx.2.2.1 4 rfl).trans F4
  replace F5 := (Nx.2.2.1 5 rfl).trans F5
  replace F6 := (Nx.2.2.1 6 rfl).trans F6
  replace F8 := (Nx.2.2.1 8 rfl).trans F8
  replace F10 := (Nx.2.2.1 10 rfl).trans F10
  replace F12 := (Nx.2.2.1 12 rfl).trans F12
  replace F14 := (Nx.2.2.1 14 rfl).trans F14
  replace F15 := (Nx.2.2.1 15 rfl).trans F15
  clear F50
  replace F62 := (Nx.2.2.1 62 rfl).trans F62
  replace F63 := (Nx.2.2.1 63 rfl).trans F63
  replace F64 := (Nx.2.2.1 64 rfl).trans F64
  replace F65 := (Nx.2.2.1 65 rfl).trans F65
  replace F66 := (Nx.2.2.1 66 rfl).trans F66
  replace F67 := (Nx.2.2.1 67 rfl).trans F67
  replace F68 := (Nx.2.2.1 68 rfl).trans F68
  replace F69 := (Nx.2.2.1 69 rfl).trans F69
  replace F70 := (Nx.2.2.1 70 rfl).trans F70
  replace F71 := (Nx.2.2.1 71 rfl).trans F71
  replace F72 := (Nx.2.2.1 72 rfl).trans F72
  replace F73 := (Nx.2.2.1 73 rfl).trans F73
  replace F74 := (Nx.2.2.1 74 rfl).trans F74
  replace F75 := (Nx.2.2.1 75 rfl).trans F75
  replace F76 := (Nx.2.2.1 76 rfl).trans F76
  replace F77 := (Nx.2.2.1 77 rfl).trans F77
  replace F78 := (Nx.2.2.1 78 rfl).trans F78
  replace F79 := (Nx.2.2.1 79 rfl).trans F79
  replace F80 := (Nx.2.2.1 80 rfl).trans F80
  replace F81 := (Nx.2.2.1 81 rfl).trans F81
  have F51 := Nx.2.1
  replace D := Nx.2.2.2.trans D
  clear Z Nx
  have Z := Zn
  clear Zn af7
  refine' dqo_pure (d := 52) (by rfl) (by rfl) Z (by rfl) (wanted_yes (by rfl) (by rfl) F51) ?hv64 ?rest64
  case hv64 => (intro ρ hρ; have E4 := (hρ.1 4).trans F4; have Ec := hρ.2.1; have Ef := hρ.2.2.1; clear hρ; intro w hw; (try dsimp only at hw); go_split_ands; go_simp; try with_reducible rfl)
  case' rest64 => intro af9 Zn Nx
  replace F2 := (Nx.2.2.1 2 rfl).trans F2
  replace F3 := (Nx.2.2.1 3 rfl).trans F3
  clear F4
  replace F5 := (Nx.2.2.1 5 rfl).trans F5
  replace F6 := (Nx.2.2.1 6 rfl).trans F6
  replace F8 := (Nx.2.2.1 8 rfl).trans F8
  replace F10 := (Nx.2.2.1 10 rfl).trans F10
  replace F12 := (Nx.2.2.1 12 rfl).trans F12
  replace F14 := (Nx.2.2.1 14 rfl).trans F14
  replace F15 := (Nx.2.2.1 15 rfl).trans F15
  replace F51 := (Nx.2.2.1 51 rfl).trans F51
  replace F62 := (Nx.2.2.1 62 rfl).trans F62
  replace F63 := (Nx.2.2.1 63 rfl).trans F63
  replace F64 := (Nx.2.2.1 64 rfl).trans F64
  replace F65 := (Nx.2.2.1 65 rfl).trans F65
  replace F66 := (Nx.2.2.1 66 rfl).trans F66
  replace F67 := (Nx.2.2.1 67 rfl).trans F67
  replace F68 := (Nx.2.2.1 68 rfl).trans F68
  replace F69 := (Nx.2.2.1 69 rfl).trans F69
  replace F70 := (Nx.2.2.1 70 rfl).trans F70
  replace F71 := (Nx.2.2.1 71 rfl).trans F71
  replace F72 := (Nx.2.2.1 72 rfl).trans F72
  replace F73 := (Nx.2.2.1 73 rfl).trans F73
  replace F74 := (Nx.2.2.1 74 rfl).trans F74
  replace F75 := (Nx.2.2.1 75 rfl).trans F75
  replace F76 := (Nx.2.2.1 76 rfl).trans F76
  replace F77 := (Nx.2.2.1 77 rfl).trans F77
  replace F78 := (Nx.2.2.1 78 rfl).trans F78
  replace F79 := (Nx.2.2.1 79 rfl).trans F79
  replace F80 := (Nx.2.2.1 80 rfl).trans F80
  replace F81 := (Nx.2.2.1 81 rfl).trans F81
  have F52 := Nx.2.1
  replace D := Nx.2.2.2.trans D
  clear Z Nx
  have Z := Zn
  clear Zn af8
  refine' dqo_pure (d := 53) (by rfl) (by rfl) Z (by rfl) (wanted_yes (by rfl) (by rfl) F51) ?hv65 ?rest65
  case hv65 => (intro ρ hρ; have E5 := (hρ.1 5).trans F5; have Ec := hρ.2.1; have Ef := hρ.2.2.1; clear hρ; intro w hw; (try dsimp only at hw); go_split_ands; go_simp; try with_reducible rfl)
  case' rest65 => intro af10 Zn Nx
  replace F2 := (Nx.2.2.1 2 rfl).trans F2
  replace F3 := (Nx.2.2.1 3 rfl).trans F3
  clear F5
  replace F6 := (Nx.2.2.1 6 rfl).trans F6
  replace F8 := (Nx.2.2.1 8 rfl).trans F8
  replace F10 := (Nx.2.2.1 10 rfl).trans F10
  replace F12 := (Nx.2.2.1 12 rfl).trans F12
  replace F14 := (Nx.2.2.1 14 rfl).trans F14
  replace F15 := (Nx.2.2.1 15 rfl).trans F15
  replace F51 := (Nx.2.2.1 51 rfl).trans F51
  replace F52 := (Nx.2.2.1 52 rfl).trans F52
  replace F62 := (Nx.2.2.1 62 rfl).trans F62
  replace F63 := (Nx.2.2.1 63 rfl).trans F63
  replace F64 := (Nx.2.2.1 64 rfl).trans F64
  replace F65 := (Nx.2.2.1 65 rfl).trans F65
  replace F66 := (Nx.2.2.1 66 rfl).trans F66
  replace F67 := (Nx.2.2.1 67 rfl).trans F67
  replace F68 := (Nx.2.2.1 68 rfl).trans F68
  replace F69 := (Nx.2.2.1 69 rfl).trans F69
  replace F70 := (Nx.2.2.1 70 rfl).trans F70
  replace F71 := (Nx.2.2.1 71 rfl).trans F71
  replace F72 := (Nx.2.2.1 72 rfl).trans F72
  replace F73 := (Nx.2.2.1 73 rfl).trans F73
  replace F74 := (Nx.2.2.1 74 rfl).trans F74
  replace F75 := (Nx.2.2.1 75 rfl).trans F75
  replace F76 := (Nx.2.2.1 76 rfl).trans F76
  replace F77 := (Nx.2.2.1 77 rfl).trans F77
  replace F78 := (Nx.2.2.1 78 rfl).trans F78
  replace F79 := (Nx.2.2.1 79 rfl).trans F79
  replace F80 := (Nx.2.2.1 80 rfl).trans F80
  replace F81 := (Nx.2.2.1 81 rfl).trans F81
  have F53 := Nx.2.1
  replace D := Nx.2.2.2.trans D
  clear Z Nx
  have Z := Zn
  clear Zn af9
  refine' dqo_pure (d := 54) (by rfl) (by rfl) Z (by rfl) (wanted_yes (by rfl) (by rfl) F51) ?hv66 ?rest66
  case hv66 => (intro ρ hρ; have E6 := (hρ.1 6).trans F6; have Ec := hρ.2.1; have Ef := hρ.2.2.1; clear hρ; intro w hw; (try dsimp only at hw); go_split_ands; go_simp; try with_reducible rfl)
  case' rest66 => intro af11 Zn Nx
  replace F2 := (Nx.2.2.1 2 rfl).trans F2
  replace F3 := (Nx.2.2.1 3 rfl).trans F3
  clear F6
  replace F8 := (Nx.2.2.1 8 rfl).trans F8
  replace F10 := (Nx.2.2.1 10 rfl).trans F10
  replace F12 := (Nx.2.2.1 12 rfl).trans F12
  replace F14 := (Nx.2.2.1 14 rfl).trans F14
  replace F15 := (Nx.2.2.1 15 rfl).trans F15
  replace F51 := (Nx.2.2.1 51 rfl).trans F51
  replace F52 := (Nx.2.2.1 52 rfl).trans F52
  replace F53 := (Nx.2.2.1 53 rfl).trans F53
  replace F62 := (Nx.2.2.1 62 rfl).trans F62
  replace F63 := (Nx.2.2.1 63 rfl).trans F63
  replace F64 := (Nx.2.2.1 64 rfl).trans F64
  replace F65 := (Nx.2.2.1 65 rfl).trans F65
  replace F66 := (Nx.2.2.1 66 rfl).trans F66
  replace F67 := (Nx.2.2.1 67 rfl).trans F67
  replace F68 := (Nx.2.2.1 68 rfl).trans F68
  replace F69 := (Nx.2.2.1 69 rfl).trans F69
  replace F70 := (Nx.2.2.1 70 rfl).trans F70
  replace F71 := (Nx.2.2.1 71 rfl).trans F71
  replace F72 := (Nx.2.2.1 72 rfl).trans F72
  replace F73 := (Nx.2.2.1 73 rfl).trans F73
  replace F74 := (Nx.2.2.1 74 rfl).trans F74
  replace F75 := (Nx.2.2.1 75 rfl).trans F75
  replace F76 := (Nx.2.2.1 76 rfl).trans F76
  replace F77 := (Nx.2.2.1 77 rfl).trans F77
  replace F78 := (Nx.2.2.1 78 rfl).trans F78
  replace F79 := (Nx.2.2.1 79 rfl).trans F79
  replace F80 := (Nx.2.2.1 80 rfl).trans F80
  replace F81 := (Nx.2.2.1 81 rfl).trans F81
  have F54 := Nx.2.1
  replace D := Nx.2.2.2.trans D
  clear Z Nx
  have Z := Zn
  clear Zn af10
  refine' dqo_call (d := 55) (by rfl) (by rfl) Z (by rfl) (wanted_yes (by rfl) (by rfl) F51) ?hv67 ?hc67 ?rest67
  case hv67 => (intro ρ hρ; have E52 := (hρ.1 52).trans F52; have E53 := (hρ.1 53).trans F53; have E54 := (hρ.1 54).trans F54; have Ec := hρ.2.1; have Ef := hρ.2.2.1; clear hρ; intro w; go_simp; exact ⟨rfl, rfl⟩)
  case hc67 => exact (fun w hw => by first | (with_reducible exact calls_gt (kD hx1 hy1 hx2 hy2 hx3 hy3 hD _)) | (with_reducible exact calls_gt (kDs hD s1 s2 s3 _)))
  case' rest67 => intro af12 Zn Nx
  replace F2 := (Nx.2.2.1 2 rfl).trans F2
  replace F3 := (Nx.2.2.1 3 rfl).trans F3
  replace F8 := (Nx.2.2.1 8 rfl).trans F8
  replace F10 := (Nx.2.2.1 10 rfl).trans F10
  replace F12 := (Nx.2.2.1 12 rfl).trans F12
  replace F14 := (Nx.2.2.1 14 rfl).trans F14
  replace F15 := (Nx.2.2.1 15 rfl).trans F15
  replace F51 := (Nx.2.2.1 51 rfl).trans F51
  clear F52
  clear F53
  clear F54
  replace F62 := (Nx.2.2.1 62 rfl).trans F62
  replace F63 := (Nx.2.2.1 63 rfl).trans F63
  replace F64 := (Nx.2.2.1 64 rfl).trans F64
  replace F65 := (Nx.2.2.1 65 rfl).trans F65
  replace F66 := (Nx.2.2.1 66 rfl).trans F66
  replace F67 := (Nx.2.2.1 67 rfl).trans F67
  replace F68 := (Nx.2.2.1 68 rfl).trans F68
  replace F69 := (Nx.2.2.1 69 rfl).trans F69
  replace F70 := (Nx.2.2.1 70 rfl).trans F70
  replace F71 := (Nx.2.2.1 71 rfl).trans F71
  replace F72 := (Nx.2.2.1 72 rfl).trans F72
  replace F73 := (Nx.2.2.1 73 rfl).trans F73
  replace F74 := (Nx.2.2.1 74 rfl).trans F74
  replace F75 := (Nx.2.2.1 75 rfl).trans F75
  replace F76 := (Nx.2.2.1 76 rfl).trans F76
  replace F77 := (Nx.2.2.1 77 rfl).trans F77
  replace F78 := (Nx.2.2.1 78 rfl).trans F78
  replace F79 := (Nx.2.2.1 79 rfl).trans F79
  replace F80 := (Nx.2.2.1 80 rfl).trans F80
  replace F81 := (Nx.2.2.1 81 rfl).trans F81
  have F55 := Nx.2.1
  replace D := Nx.2.2.2.trans D
  clear Z Nx
  have Z := Zn
  clear Zn af11
  refine' dqo_pure (d := 56) (by rfl) (by rfl) Z (by rfl) (wanted_yes (by rfl) (by rfl) F51) ?hv68 ?rest68
  case hv68 => (intro ρ hρ; have E8 := (hρ.1 8).trans F8; have Ec := hρ.2.1; have Ef := hρ.2.2.1; clear hρ; intro w hw; (try dsimp only at hw); go_split_ands; go_simp; try with_reducible rfl)
  case' rest68 => intro af13 Zn Nx
  replace F2 := (Nx.2.2.1 2 rfl).trans F2
  replace F3 := (Nx.2.2.1 3 rfl).trans F3
  clear F8
  replace F10 := (Nx.2.2.1 10 rfl).trans F10
  replace F12 := (Nx.2.2.1 12 rfl).trans F12
  replace F14 := (Nx.2.2.1 14 rfl).trans F14
  replace F15 := (Nx.2.2.1 15 rfl).trans F15
  replace F51 := (Nx.2.2.1 51 rfl).trans F51
  replace F55 := (Nx.2.2.1 55 rfl).trans F55
  replace F62 := (Nx.2.2.1 62 rfl).trans F62
  replace F63 := (Nx.2.2.1 63 rfl).trans F63
  replace F64 := (Nx.2.2.1 64 rfl).trans F64
  replace F65 := (Nx.2.2.1 65 rfl).trans F65
  replace F66 := (Nx.2.2.1 66 rfl).trans F66
  replace F67 := (Nx.2.2.1 67 rfl).trans F67
  replace F68 := (Nx.2.2.1 68 rfl).trans F68
  replace F69 := (Nx.2.2.1 69 rfl).trans F69
  replace F70 := (Nx.2.2.1 70 rfl).trans F70
  replace F71 := (Nx.2.2.1 71 rfl).trans F71
  replace F72 := (Nx.2.2.1 72 rfl).trans F72
  replace F73 := (Nx.2.2.1 73 rfl).trans F73
  replace F74 := (Nx.2.2.1 74 rfl).trans F74
  replace F75 := (Nx.2.2.1 75 rfl).trans F75
  replace F76 := (Nx.2.2.1 76 rfl).trans F76
  replace F77 := (Nx.2.2.1 77 rfl).trans F77
  replace F78 := (Nx.2.2.1 78 rfl).trans F78
  replace F79 := (Nx.2.2.1 79 rfl).trans F79
  replace F80 := (Nx.2.2.1 80 rfl).trans F80
  replace F81 := (Nx.2.2.1 81 rfl).trans F81
  have F56 := Nx.2.1
  replace D := Nx.2.2.2.trans D
  clear Z Nx
  have Z := Zn
  clear Zn af12
  refine' dqo_pure (d := 57) (by rfl) (by rfl) Z (by rfl) (wanted_yes (by rfl) (by rfl) F51) ?hv69 ?rest69
  case hv69 => (intro ρ hρ; have E10 := (hρ.1 10).trans F10; have Ec := hρ.2.1; have Ef := hρ.2.2.1; clear hρ; intro w hw; (try dsimp only at hw); go_split_ands; go_simp; try with_reducible rfl)
  case' rest69 => intro af14 Zn Nx
  replace F2 := (Nx.2.2.1 2 rfl).trans F2
  replace F3 := (Nx.2.2.1 3 rfl).trans F3
  clear F10
  replace F12 := (Nx.2.2.1 12 rfl).trans F12
  replace F14 := (Nx.2.2.1 14 rfl).trans F14
  replace F15 := (Nx.2.2.1 15 rfl).trans F15
  replace F51 := (Nx.2.2.1 51 rfl).trans F51
  replace F55 := (Nx.2.2.1 55 rfl).trans F55
  replace F56 := (Nx.2.2.1 56 rfl).trans F56
  replace F62 := (Nx.2.2.1 62 rfl).trans F62
  replace F63 := (Nx.2.2.1 63 rfl).trans F63
  replace F64 := (Nx.2.2.1 64 rfl).trans F64
  replace F65 := (Nx.2.2.1 65 rfl).trans F65
  replace F66 := (Nx.2.2.1 66 rfl).trans F66
  replace F67 := (Nx.2.2.1 67 rfl).trans F67
  replace F68 := (Nx.2.2.1 68 rfl).trans F68
  replace F69 := (Nx.2.2.1 69 rfl).trans F69
  replace F70 := (Nx.2.2.1 70 rfl).trans F70
  replace F71 := (Nx.2.2.1 71 rfl).trans F71
  replace F72 := (Nx.2.2.1 72 rfl).trans F72
  replace F73 := (Nx.2.2.1 73 rfl).trans F73
  replace F74 := (Nx.2.2.1 74 rfl).trans F74
  replace F75 := (Nx.2.2.1 75 rfl).trans F75
  replace F76 := (Nx.2.2.1 76 rfl).trans F76
  replace F77 := (Nx.2.2.1 77 rfl).trans F77
  replace F78 := (Nx.2.2.1 78 rfl).trans F78
  replace F79 := (Nx.2.2.1 79 rfl).trans F79
  replace F80 := (Nx.2.2.1 80 rfl).trans F80
  replace F81 := (Nx.2.2.1 81 rfl).trans F81
  have F57 := Nx.2.1
  replace D := Nx.2.2.2.trans D
  clear Z Nx
  have Z := Zn
  clear Zn af13
  refine' dqo_pure (d := 58) (by rfl) (by rfl) Z (by rfl) (wanted_yes (by rfl) (by rfl) F51) ?hv70 ?rest70
  case hv70 => (intro ρ hρ; have E12 := (hρ.1 12).trans F12; have Ec := hρ.2.1; have Ef := hρ.2.2.1; clear hρ; intro w hw; (try dsimp only at hw); go_split_ands; go_simp; try with_reducible rfl)
  case' rest70 => intro af15 Zn Nx
  replace F2 := (Nx.2.2.1 2 rfl).trans F2
  replace F3 := (Nx.2.2.1 3 rfl).trans F3
  clear F12
  replace F14 := (Nx.2.2.1 14 rfl).trans F14
  replace F15 := (Nx.2.2.1 15 rfl).trans F15
  replace F51 := (Nx.2.2.1 51 rfl).trans F51
  replace F55 := (Nx.2.2.1 55 rfl).trans F55
  replace F56 := (Nx.2.2.1 56 rfl).trans F56
  replace F57 := (Nx.2.2.1 57 rfl).trans F57
  replace F62 := (Nx.2.2.1 62 rfl).trans F62
  replace F63 := (Nx.2.2.1 63 rfl).trans F63
  replace F64 := (Nx.2.2.1 64 rfl).trans F64
  replace F65 := (Nx.2.2.1 65 rfl).trans F65
  replace F66 := (Nx.2.2.1 66 rfl).trans F66
  replace F67 := (Nx.2.2.1 67 rfl).trans F67
  replace F68 := (Nx.2.2.1 68 rfl).trans F68
  replace F69 := (Nx.2.2.1 69 rfl).trans F69
  replace F70 := (Nx.2.2.1 70 rfl).trans F70
  replace F71 := (Nx.2.2.1 71 rfl).trans F71
  replace F72 := (Nx.2.2.1 72 rfl).trans F72
  replace F73 := (Nx.2.2.1 73 rfl).trans F73
  replace F74 := (Nx.2.2.1 74 rfl).trans F74
  replace F75 := (Nx.2.2.1 75 rfl).trans F75
  replace F76 := (Nx.2.2.1 76 rfl).trans F76
  replace F77 := (Nx.2.2.1 77 rfl).trans F77
  replace F78 := (Nx.2.2.1 78 rfl).trans F78
  replace F79 := (Nx.2.2.1 79 rfl).trans F79
  replace F80 := (Nx.2.2.1 80 rfl).trans F80
  replace F81 := (Nx.2.2.1 81 rfl).trans F81
  have F58 := Nx.2.1
  replace D := Nx.2.2.2.trans D
  clear Z Nx
  have Z := Zn
  clear Zn af14
  refine' dqo_call (d := 59) (by rfl) (by rfl) Z (by rfl) (wanted_yes (by rfl) (by rfl) F51) ?hv71 ?hc71 ?rest71
  case hv71 => (intro ρ hρ; have E56 := (hρ.1 56).trans F56; have E57 := (hρ.1 57).trans F57; have E58 := (hρ.1 58).trans F58; have Ec := hρ.2.1; have Ef := hρ.2.2.1; clear hρ; intro w; go_simp; exact ⟨rfl, rfl⟩)
  case hc71 => exact (fun w hw => by first | (with_reducible exact calls_gt (kD hx1 hy1 hx2 hy2 hx3 hy3 hD _)) | (with_reducible exact calls_gt (kDs hD s1 s2 s3 _)))
  case' rest71 => intro af16 Zn Nx
  replace F2 := (Nx.2.2.1 2 rfl).trans F2
  replace F3 := (Nx.2.2.1 3 rfl).trans F3
  replace F14 := (Nx.2.2.1 14 rfl).trans F14
  replace F15 := (Nx.2.2.1 15 rfl).trans F15
  replace F51 := (Nx.2.2.1 51 rfl).trans F51
  replace F55 := (Nx.2.2.1 55 rfl).trans F55
  clear F56
  clear F57
  clear F58
  replace F62 := (Nx.2.2.1 62 rfl).trans F62
  replace F63 := (Nx.2.2.1 63 rfl).trans F63
  replace F64 := (Nx.2.2.1 64 rfl).trans F64
  replace F65 := (Nx.2.2.1 65 rfl).trans F65
  replace F66 := (Nx.2.2.1 66 rfl).trans F66
  replace F67 := (Nx.2.2.1 67 rfl).trans F67
  replace F68 := (Nx.2.2.1 68 rfl).trans F68
  replace F69 := (Nx.2.2.1 69 rfl).trans F69
  replace F70 := (Nx.2.2.1 70 rfl).trans F70
  replace F71 := (Nx.2.2.1 71 rfl).trans F71
  replace F72 := (Nx.2.2.1 72 rfl).trans F72
  replace F73 := (Nx.2.2.1 73 rfl).trans F73
  replace F74 := (Nx.2.2.1 74 rfl).trans F74
  replace F75 := (Nx.2.2.1 75 rfl).trans F75
  replace F76 := (Nx.2.2.1 76 rfl).trans F76
  replace F77 := (Nx.2.2.1 77 rfl).trans F77
  replace F78 := (Nx.2.2.1 78 rfl).trans F78
  replace F79 := (Nx.2.2.1 79 rfl).trans F79
  replace F80 := (Nx.2.2.1 80 rfl).trans F80
  replace F81 := (Nx.2.2.1 81 rfl).trans F81
  have F59 := Nx.2.1
  replace D := Nx.2.2.2.trans D
  clear Z Nx
  have Z := Zn
  clear Zn af15
  refine' dqo_pure (d := 60) (by rfl) (by rfl) Z (by rfl) (wanted_yes (by rfl) (by rfl) F51) ?hv72 ?rest72
  case hv72 => (intro ρ hρ; have E55 := (hρ.1 55).trans F55; have E59 := (hρ.1 59).trans F59; have Ec := hρ.2.1; have Ef := hρ.2.2.1; clear hρ; intro w hw; (try dsimp only at hw); go_split_ands; go_simp; try with_reducible rfl)
  case' rest72 => intro af17 Zn Nx
  replace F2 := (Nx.2.2.1 2 rfl).trans F2
  replace F3 := (Nx.2.2.1 3 rfl).trans F3
  replace F14 := (Nx.2.2.1 14 rfl).trans F14
  replace F15 := (Nx.2.2.1 15 rfl).trans F15
  replace F51 := (Nx.2.2.1 51 rfl).trans F51
  clear F55
  clear F59
  replace F62 := (Nx.2.2.1 62 rfl).trans F62
  replace F63 := (Nx.2.2.1 63 rfl).trans F63
  replace F64 := (Nx.2.2.1 64 rfl).trans F64
  replace F65 := (Nx.2.2.1 65 rfl).trans F65
  replace F66 := (Nx.2.2.1 66 rfl).trans F66
  replace F67 := (Nx.2.2.1 67 rfl).trans F67
  replace F68 := (Nx.2.2.1 68 rfl).trans F68
  replace F69 := (Nx.2.2.1 69 rfl).trans F69
  replace F70 := (Nx.2.2.1 70 rfl).trans F70
  replace F71 := (Nx.2.2.1 71 rfl).trans F71
  replace F72 := (Nx.2.2.1 72 rfl).trans F72
  replace F73 := (Nx.2.2.1 73 rfl).trans F73
  replace F74 := (Nx.2.2.1 74 rfl).trans F74
  replace F75 := (Nx.2.2.1 75 rfl).trans F75
  replace F76 := (Nx.2.2.1 76 rfl).trans F76
  replace F77 := (Nx.2.2.1 77 rfl).trans F77
  replace F78 := (Nx.2.2.1 78 rfl).trans F78
  replace F79 := (Nx.2.2.1 79 rfl).trans F79
  replace F80 := (Nx.2.2.1 80 rfl).trans F80
  replace F81 := (Nx.2.2.1 81 rfl).trans F81
  have F60 := Nx.2.1
  replace D := Nx.2.2.2.trans D
  clear Z Nx
  have Z := Zn
  clear Zn af16
  refine' dqo_pure (d := 61) (by rfl) (by rfl) Z (by rfl) (wanted_not (by rfl)) ?hv73 ?rest73
  case hv73 => (intro ρ hρ; have E51 := (hρ.1 51).trans F51; have E60 := (hρ.1 60).trans F60; have Ec := hρ.2.1; have Ef := hρ.2.2.1; clear hρ; intro w hw; (try dsimp only at hw); go_split_ands; go_simp; try with_reducible rfl)
  case' rest73 => intro af18 Zn Nx
  replace F2 := (Nx.2.2.1 2 rfl).trans F2
  replace F3 := (Nx.2.2.1 3 rfl).trans F3
  replace F14 := (Nx.2.2.1 14 rfl).trans F14
  replace F15 := (Nx.2.2.1 15 rfl).trans F15
  clear F51
  clear F60
  replace F62 := (Nx.2.2.1 62 rfl).trans F62
  replace F63 := (Nx.2.2.1 63 rfl).trans F63
  replace F64 := (Nx.2.2.1 64 rfl).trans F64
  replace F65 := (Nx.2.2.1 65 rfl).trans F65
  replace F66 := (Nx.2.2.1 66 rfl).trans F66
  replace F67 := (Nx.2.2.1 67 rfl).trans F67
  replace F68 := (Nx.2.2.1 68 rfl).trans F68
  replace F69 := (Nx.2.2.1 69 rfl).trans F69
  replace F70 := (Nx.2.2.1 70 rfl).trans F70
  replace F71 := (Nx.2.2.1 71 rfl).trans F71
  replace F72 := (Nx.2.2.1 72 rfl).trans F72
  replace F73 := (Nx.2.2.1 73 rfl).trans F73
  replace F74 := (Nx.2.2.1 74 rfl).trans F74
  replace F75 := (Nx.2.2.1 75 rfl).trans F75
  replace F76 := (Nx.2.2.1 76 rfl).trans F76
  replace F77 := (Nx.2.2.1 77 rfl).trans F77
  replace F78 := (Nx.2.2.1 78 rfl).trans F78
  replace F79 := (Nx.2.2.1 79 rfl).trans F79
  replace F80 := (Nx.2.2.1 80 rfl).trans F80
  replace F81 := (Nx.2.2.1 81 rfl).trans F81
  have F61 := Nx.2.1
  replace D := Nx.2.2.2.trans D
  clear Z Nx
  have Z := Zn
  clear Zn af17
  refine dq_nil ?_
  refine fa_nil ?_
  rintro W ⟨⟨hb0, hn0, ⟨B1, B1c, B1f, B1l⟩, ⟨B2, B2c, B2f, B2l⟩, ⟨B3, B3c, B3f, B3l⟩, ⟨B4, B4c, B4f, B4l⟩, ⟨B5, B5c, B5f, B5l⟩, ⟨B6, B6c, B6f, B6l⟩, ⟨B7, B7c, B7f, B7l⟩⟩, hgl⟩ hbs
  clear hbs hgl
  obtain ⟨ρ, hρ⟩ := rho_of af18
  have hL := act_lit (l := [ρ (.tmp 0), ρ (.tmp 1), _, _, ρ (.tmp 4), ρ (.tmp 5), ρ (.tmp 6), ρ (.tmp 7), ρ (.tmp 8), ρ (.tmp 9), ρ (.tmp 10), ρ (.tmp 11), ρ (.tmp 12), ρ (.tmp 13), _, _, ρ (.tmp 16), ρ (.tmp 17), ρ (.tmp 18), ρ (.tmp 19), ρ (.tmp 20), ρ (.tmp 21), ρ (.tmp 22), ρ (.tmp 23), ρ (.tmp 24), ρ (.tmp 25), ρ (.tmp 26), ρ (.tmp 27), ρ (.tmp 28), ρ (.tmp 29), ρ (.tmp 30), ρ (.tmp 31), ρ (.tmp 32), ρ (.tmp 33), ρ (.tmp 34), ρ (.tmp 35), ρ (.tmp 36), ρ (.tmp 37), ρ (.tmp 38), ρ (.tmp 39), ρ (.tmp 40), ρ (.tmp 41), ρ (.tmp 42), ρ (.tmp 43), ρ (.tmp 44), ρ (.tmp 45), ρ (.tmp 46), ρ (.tmp 47), ρ (.tmp 48), ρ (.tmp 49), ρ (.tmp 50), ρ (.tmp 51), ρ (.tmp 52), ρ (.tmp 53), ρ (.tmp 54), ρ (.tmp 55), ρ (.tmp 56), ρ (.tmp 57), ρ (.tmp 58), ρ (.tmp 59), ρ (.tmp 60), _, _, _, _, _, _, _, _, _, _, _, _, _, _, _, _, _, _, _, _, _]) Z D (by rfl) ⟨hρ 0, hρ 1, F2, F3, hρ 4, hρ 5, hρ 6, hρ 7, hρ 8, hρ 9, hρ 10, hρ 11, hρ 12, hρ 13, F14, F15, hρ 16, hρ 17, hρ 18, hρ 19, hρ 20, hρ 21, hρ 22, hρ 23, hρ 24, hρ 25, hρ 26, hρ 27, hρ 28, hρ 29, hρ 30, hρ 31, hρ 32, hρ 33, hρ 34, hρ 35, hρ 36, hρ 37, hρ 38, hρ 39, hρ 40, hρ 41, hρ 42, hρ 43, hρ 44, hρ 45, hρ 46, hρ 47, hρ 48, hρ 49, hρ 50, hρ 51, hρ 52, hρ 53, hρ 54, hρ 55, hρ 56, hρ 57, hρ 58, hρ 59, hρ 60, F61, F62, F63, F64, F65, F66, F67, F68, F69, F70, F71, F72, F73, F74, F75, F76, F77, F78, F79, F80, F81, trivial⟩
  clear hρ Z D F2 F3 F14 F15 F61 F62 F63 F64 F65 F66 F67 F68 F69 F70 F71 F72 F73 F74 F75 F76 F77 F78 F79 F80 F81
  subst hL
  simp only [List.drop_succ_cons, List.drop_zero]
  rotate_left 1
  all_goals
    have ht2 : TapeOk (w.heap.size + 1) W w.heap.size := TapeOk.bel (by (repeat' (first | (with_reducible exact ht) | (with_reducible refine TapeOk.alloc ?_ _) | (with_reducible refine TapeOk.drew ?_) | (with_reducible refine TapeOk.setc (by first | go_size | (dsimp only; omega)) ?_)))) hb0
    have hG2 : w.grownBy W (some w.heap.size) := grown_bel (by (repeat' (first | (with_reducible exact hG) | (with_reducible refine grown_alloc ?_ _) | (with_reducible refine grown_drew ?_) | (with_reducible refine grown_setCell ?_ (.inr (by first | go_size | (dsimp only; omega))) _)))) hb0
    clear ht hG
    have ht := ht2
    have hG := hG2
    clear ht2 hG2 hb0
    (repeat' (first | (go_big_may; (first | (go_at_call 14; refine (next_in (B := w.heap.size + 1) _ _ (by decide) (by decide) _ (by (repeat' (first | (with_reducible exact ht) | (with_reducible refine TapeOk.alloc ?_ _) | (with_reducible refine TapeOk.drew ?_) | (with_reducible refine TapeOk.setc (by first | go_size | (dsimp only; omega)) ?_))))).mono ?_; (first | (have t_ := mk74_4; clear t_; rintro e w' ⟨r5, ⟨r15, r25⟩, rfl, ht', hg⟩; have mk74_5 := True.intro) | (have t_ := mk74_3; clear t_; rintro e w' ⟨r4, ⟨r14, r24⟩, rfl, ht', hg⟩; have mk74_4 := True.intro) | (have t_ := mk74_2; clear t_; rintro e w' ⟨r3, ⟨r13, r23⟩, rfl, ht', hg⟩; have mk74_3 := True.intro) | (have t_ := mk74_1; clear t_; rintro e w' ⟨r2, ⟨r12, r22⟩, rfl, ht', hg⟩; have mk74_2 := True.intro) | (rintro e w' ⟨r1, ⟨r11, r21⟩, rfl, ht', hg⟩; have mk74_1 := True.intro)); have hG' : w.grownBy w' (some (w.heap.size)) := grown_trans (by (repeat' (first | (with_reducible exact hG) | (with_reducible refine grown_alloc ?_ _) | (with_reducible refine grown_drew ?_) | (with_reducible refine grown_setCell ?_ (.inr (by first | go_size | (dsimp only; omega))) _)))) hg; have hsz := hg.size; clear ht hG; have ht := ht'; have hG := hG'; clear ht' hG'; (try simp only [World.size_alloc, World.size_setCell, World.size_drew] at hsz); clear hg) | (go_at_call 15; refine (known23_any _).mono ?_; rintro e w' ⟨rfl, hbw⟩; have ht' : TapeOk (w.heap.size + 1) w' (w.heap.size) := TapeOk.bel (by (repeat' (first | (with_reducible exact ht) | (with_reducible refine TapeOk.alloc ?_ _) | (with_reducible refine TapeOk.drew ?_) | (with_reducible refine TapeOk.setc (by first | go_size | (dsimp only; omega)) ?_)))) hbw; have hG' : w.grownBy w' (some (w.heap.size)) := grown_bel (by (repeat' (first | (with_reducible exact hG) | (with_reducible refine grown_alloc ?_ _) | (with_reducible refine grown_drew ?_) | (with_reducible refine grown_setCell ?_ (.inr (by first | go_size | (dsimp only; omega))) _)))) hbw; have hsz := hbw.size; clear ht hG; have ht := ht'; have hG := hG'; clear ht' hG'; (try simp only [World.size_alloc, World.size_setCell, World.size_drew] at hsz); clear hbw) | (go_at_call 16; refine (kH (by assumption) (by assumption) (by assumption) (by assumption) (by assumption) (by assumption) _).mono ?_; rintro e w' ⟨rfl, hbw⟩; have ht' : TapeOk (w.heap.size + 1) w' (w.heap.size) := TapeOk.bel (by (repeat' (first | (with_reducible exact ht) | (with_reducible refine TapeOk.alloc ?_ _) | (with_reducible refine TapeOk.drew ?_) | (with_reducible refine TapeOk.setc (by first | go_size | (dsimp only; omega)) ?_)))) hbw; have hG' : w.grownBy w' (some (w.heap.size)) := grown_bel (by (repeat' (first | (with_reducible exact hG) | (with_reducible refine grown_alloc ?_ _) | (with_reducible refine grown_drew ?_) | (with_reducible refine grown_setCell ?_ (.inr (by first | go_size | (dsimp only; omega))) _)))) hbw; have hsz := hbw.size; clear ht hG; have ht := ht'; have hG := hG'; clear ht' hG'; (try simp only [World.size_alloc, World.size_setCell, World.size_drew] at hsz); clear hbw) | (go_at_call 20; refine (kO (by assumption) (by assumption) (by assumption) (by assumption) _).mono ?_; rintro e w' ⟨rfl, hbw⟩; have ht' : TapeOk (w.heap.size + 1) w' (w.heap.size) := TapeOk.bel (by (repeat' (first | (with_reducible exact ht) | (with_reducible refine TapeOk.alloc ?_ _) | (with_reducible refine TapeOk.drew ?_) | (with_reducible refine TapeOk.setc (by first | go_size | (dsimp only; omega)) ?_)))) hbw; have hG' : w.grownBy w' (some (w.heap.size)) := grown_bel (by (repeat' (first | (with_reducible exact hG) | (with_reducible refine grown_alloc ?_ _) | (with_reducible refine grown_drew ?_) | (with_reducible refine grown_setCell ?_ (.inr (by first | go_size | (dsimp only; omega))) _)))) hbw; have hsz := hbw.size; clear ht hG; have ht := ht'; have hG := hG'; clear ht' hG'; (try simp only [World.size_alloc, World.size_setCell, World.size_drew] at hsz); clear hbw))) | go_values | go_skip | go_guarded | go_step | go_upon | (simp only [Int.not_lt, Int.not_le] at *; go_simp) | (go_values <;> (try go_simp)) | (go_ite <;> go_prune <;> (try go_simp)) | (split <;> (first | (rename_i hx; exact (hx _ rfl).elim) | go_prune))))
    refine bodyPost_ret (v := .bool true) ?_ rfl ⟨rfl, below_tape (by (repeat' (first | (with_reducible exact hG) | (with_reducible refine grown_alloc ?_ _) | (with_reducible refine grown_drew ?_) | (with_reducible refine grown_setCell ?_ (.inr (by first | go_size | (dsimp only; omega))) _)))) (by omega)⟩
    simp [results, Try.results5, go_sem]

/-! ### The row -/
set_option maxRecDepth 100000 in
theorem lifted (os : Os) (started : os.Started) (H : Type) (enc : TypeId × Value → H) :
    ReturnsInHanded {} Try.checked os 5 .any (Rows.triangleShiftsSpec.pre6 enc Try.prog Try.f5 Rows.triangleShiftsRow.domain false) (Rows.triangleShiftsSpec.post enc Try.prog Try.f5 false true false false) := by
  refine returnsInHanded_of_change_sized (C := Try.checked) own started (by kernel_rfl) Try.func5
    (ChangeSpec.witness6 (enc := enc) (C := Try.checked) false ⟨#[], #[.slice none 0 0], []⟩ 8 (by kernel_rfl) (by kernel_rfl) (by kernel_rfl) (by kernel_rfl)) ?_
  intro W base args ds gs before hval0 hW hcnd hsz _
  have hval : ∀ (j : Nat) t v, Try.f5.params[j]? = some t → args[j]? = some v → Value.okWide Try.prog W .any base t v := hval0
  have hW' := hW
  obtain ⟨p, q, hA0, hV, rfl, hfz, hnd⟩ := hW
  have hA : DataW.TrodAll enc Try.prog W 0 (fun _ => true) true Try.f5.params.toList args.toList ds p := hA0
  rw [Try.params5] at hA hval
  obtain ⟨v0, vs0, d0, ds0, p0, q0, hargs, rfl, rfl, g0, r0⟩ := trodAll_cons hA
  obtain ⟨rfl, rfl, rfl⟩ := trodAll_nil r0
  obtain rfl : args = #[v0] := by cases args; simp_all
  obtain ⟨rfl, rfl⟩ := trodVars_none hV
  have hlt : ∀ x ∈ (p0 ++ []) ++ [], x.block < W.heap.size := fun x hx => hW'.lt x hx
  obtain ⟨z0, hs0⟩ := open_slz Try.underlying28 Try.underlying3 (by kernel_rfl) (hval 0 28 v0 rfl rfl) g0 (fun x hx => hlt x (by simp [hx]))
  have hs0' := hs0
  obtain ⟨s0, l0, c0, rfl, _⟩ := hs0'
  refine (walk W s0 l0 c0 z0 hs0).mono fun e W' ⟨he, hb⟩ => ?_
  subst he
  exact ⟨_, rfl, law_post laidOut (by kernel_rfl) rfl rfl Try.underlying4 hW' rfl rfl rfl hb⟩

theorem over : Rows.triangleShiftsRow.holds Try.pinned (OpenSpec.ofChange Rows.triangleShiftsSpec) :=
  OpenClaim.holds_of_wide 5 Try.f5 rfl rfl rfl rfl rfl rfl rfl ⟨rfl, rfl, rfl, rfl, rfl⟩ rfl rfl rfl rfl rfl (by kernel_rfl) Try.func5 (by kernel_rfl)
    (of_decide_eq_true (by kernel_rfl)) (by unfold Func.isWrapper; first | (rw [if_pos (by decide +kernel)]; kernel_rfl) | (rw [if_neg (by decide +kernel)]; exact ⟨rfl, rfl⟩))
    (fun os started H enc _ => lifted os started H enc)

/-- The given statement. -/
theorem proved : Rows.TriangleShiftsSaid :=
  over
#print axioms proved
end Go.Proofs.Ythcboomdkpiflaa.triangleShifts
