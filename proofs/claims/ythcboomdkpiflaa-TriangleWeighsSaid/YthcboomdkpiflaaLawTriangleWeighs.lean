/- Proved: tscodeclaw23.TriangleWeighs returns true for all arguments. No condition. -/
import Derived.Test.YthcboomdkpiflaaRows
import Derived.Test.YthcboomdkpiflaaTriL
import Derived.Test.YthcboomdkpiflaaDriftO
import Derived.Test.YthcboomdkpiflaaOpen
import Derived.Test.YthcboomdkpiflaaLawT
import Derived.WalkKit
import Derived.ProofKit
import Derived.OpenShut
import Derived.SizedLaws
import Derived.Outline
import Derived.WalkLawsBesides
import Derived.WalkSpells
import Derived.RegionTactic
import Derived.ChangeAlike
import Derived.BigRegion
import Derived.Handy
namespace Go.Proofs.Ythcboomdkpiflaa.triangleWeighs
open Go.ChangeShapes Go.WideShapes Go.ChangeAt Go.RowKit
set_option linter.unusedVariables false
set_option linter.unusedSimpArgs false

theorem own : ownKnob Try.prog.godebug = none := by kernel_rfl

/-! ### The plain law -/
theorem ar_mul (t v bt bv c d m : Int) : ar t v bt bv (m * c) (m * d) m = m * ar t v bt bv c d 1 := by
  unfold ar
  rw [Int.one_mul, Int.one_mul, ← Int.mul_sub, ← Int.mul_sub, Int.mul_left_comm, Int.mul_assoc, ← Int.mul_sub]
theorem ab_mul {m : Int} (h : 1 ≤ m) (z : Int) : ab (m * z) = m * ab z := by
  unfold ab
  by_cases hz : z < 0
  · rw [if_pos hz, if_pos (Int.mul_neg_of_pos_of_neg (by omega) hz), Int.mul_neg]
  · have := Int.mul_nonneg (a := m) (b := z) (by omega) (by omega)
    rw [if_neg hz, if_neg (by omega)]
def Cw (m : Int) : Prop := 1 ≤ m ∧ m ≤ 1000
theorem Cw.cnt {m : Int} (h : Cw m) : Cnt m := by obtain ⟨h1, h2⟩ := h; exact ⟨h1, by omega⟩
theorem Cw.cnt1 {m : Int} (h : Cw m) : Cnt (m + 1) := by obtain ⟨h1, h2⟩ := h; exact ⟨by omega, by omega⟩
theorem Cw.i64 {m : Int} (h : Cw m) : I64 m := by obtain ⟨h1, h2⟩ := h; exact ⟨by omega, by omega⟩
theorem sm_mul {m t : Int} (hm : Cnt m) (ht : I64 t) : Sm (m * t) := by
  have := abs_mul_le (abs_cnt hm) (abs_i64 ht); unfold Sm; omega
theorem succ_mul (m t : Int) : m * t + t = (m + 1) * t := by rw [Int.add_mul, Int.one_mul]
theorem unhid {p : Prop} (h : Hid p) : p := h
theorem tup {x y : Value} {b : Bool} (h : x = y) (hb : b = true) : Value.tuple #[x, .bool b] = Value.tuple #[y, .bool true] := by rw [h, hb]
theorem abs_D {ta va tb vb tc vc : Int} (a1 : I64 ta) (a2 : I64 va) (b1 : I64 tb) (b2 : I64 vb) (c1 : I64 tc) (c2 : I64 vc) : (ab (ar ta va tb vb tc vc 1)).natAbs ≤ 2 * (18446744073709551616 * 340282366930841983777657649630961205248) := by
  have := abs_ar (m := 1) a1 a2 b1 b2 (sm_i64 c1) (sm_i64 c2) ⟨by decide, by decide⟩
  generalize ar ta va tb vb tc vc 1 = z at *
  unfold ab; split <;> omega
theorem abs_ar' {t v bt bv s u m : Int} (ht : I64 t) (hv : I64 v) (hbt : I64 bt) (hbv : I64 bv) (hs : Sm s) (hu : Sm u) (hm : Cnt m) : (ab (ar t v bt bv s u m)).natAbs ≤ 2 * (18446744073709551616 * 340282366930841983777657649630961205248) := by
  have := abs_ar ht hv hbt hbv hs hu hm
  generalize ar t v bt bv s u m = z at *
  unfold ab; split <;> omega

/-! ### The calls -/
theorem kD {ta va tb vb tc vc D m : Int} (a1 : I64 ta) (a2 : I64 va) (b1 : I64 tb) (b2 : I64 vb) (c1 : I64 tc) (c2 : I64 vc) (hm : Cw m) (hD : Hid (D = ab (ar ta va tb vb tc vc 1))) (W : World) : Calls Try.prog 16 #[.agg #[.int .i64 ta, .int .i64 va], .agg #[.int .i64 tb, .int .i64 vb], .agg #[.int .i64 tc, .int .i64 vc]] W fun e w' => e = .returned (WE D) ∧ Below W.heap.size W w' := by
  rw [unhid hD]; exact doubled_any a1 a2 b1 b2 c1 c2 W
theorem kW {ta va tb vb tc vc D m : Int} (a1 : I64 ta) (a2 : I64 va) (b1 : I64 tb) (b2 : I64 vb) (c1 : I64 tc) (c2 : I64 vc) (hm : Cw m) (hD : Hid (D = ab (ar ta va tb vb tc vc 1))) (W : World) : Calls Try.prog 18 #[.agg #[.int .i64 ta, .int .i64 va], .agg #[.int .i64 tb, .int .i64 vb], WE (m * tc), WE (m * vc), .int .i64 m] W fun e w' => e = .returned (WE (m * D)) ∧ Below W.heap.size W w' := by
  rw [unhid hD, ← ab_mul hm.1, ← ar_mul]; exact weighted_we a1 a2 b1 b2 (sm_mul hm.cnt c1) (sm_mul hm.cnt c2) hm.cnt W
theorem kW1 {ta va tb vb tc vc D m : Int} (a1 : I64 ta) (a2 : I64 va) (b1 : I64 tb) (b2 : I64 vb) (c1 : I64 tc) (c2 : I64 vc) (hm : Cw m) (hD : Hid (D = ab (ar ta va tb vb tc vc 1))) (W : World) : Calls Try.prog 18 #[.agg #[.int .i64 ta, .int .i64 va], .agg #[.int .i64 tb, .int .i64 vb], WE (m * tc + tc), WE (m * vc + vc), .int .i64 (IntKind.i64.wrap (m + 1))] W fun e w' => e = .returned (WE (m * D + D)) ∧ Below W.heap.size W w' := by
  rw [IntWalk.i64_in (m + 1) (by obtain ⟨m1, m2⟩ := hm; exact ⟨by omega, by omega⟩), succ_mul, succ_mul, succ_mul, unhid hD, ← ab_mul hm.cnt1.1, ← ar_mul]; exact weighted_we a1 a2 b1 b2 (sm_mul hm.cnt1 c1) (sm_mul hm.cnt1 c2) hm.cnt1 W
theorem kM {m t : Int} (hm : Cw m) (ht : I64 t) (W : World) : Calls Try.prog 23 #[WE m, WE t] W fun e w' => e = .returned (.tuple #[WE (m * t), .bool true]) ∧ Below W.heap.size W w' := by
  have hf : Fits (m * t) := fits_sm (sm_mul hm.cnt ht)
  refine (rmul_w (IsW.we (fits_i64 hm.i64)) (IsW.we (fits_i64 ht)) W).mono fun e w' ⟨he, hb⟩ => ⟨he.trans ?_, hb⟩
  rw [cl_fit hf, fb_fit hf]
theorem kA {m t : Int} (hm : Cw m) (ht : I64 t) (W : World) : Calls Try.prog 24 #[WE (m * t), WE t] W fun e w' => e = .returned (.tuple #[WE (m * t + t), .bool true]) ∧ Below W.heap.size W w' := by
  have hf : Fits (m * t + t) := by rw [succ_mul]; exact fits_sm (sm_mul hm.cnt1 ht)
  refine (radd_w (IsW.we (fits_sm (sm_mul hm.cnt ht))) (IsW.we (fits_i64 ht)) W).mono fun e w' ⟨he, hb⟩ => ⟨he.trans ?_, hb⟩
  rw [cl_fit hf, fb_fit hf]
theorem kMD {ta va tb vb tc vc D m : Int} (a1 : I64 ta) (a2 : I64 va) (b1 : I64 tb) (b2 : I64 vb) (c1 : I64 tc) (c2 : I64 vc) (hm : Cw m) (hD : Hid (D = ab (ar ta va tb vb tc vc 1))) (W : World) : Calls Try.prog 23 #[WE m, WE D] W fun e w' => e = .returned (.tuple #[WE (m * D), .bool true]) ∧ Below W.heap.size W w' := by
  have h2 := abs_D a1 a2 b1 b2 c1 c2
  rw [← unhid hD] at h2
  have hfd : Fits D := fits_abs (by omega)
  have h3 := abs_mul_le (x := m) (y := D) (p := 1000) (by obtain ⟨m1, m2⟩ := hm; omega) h2
  have hf : Fits (m * D) := fits_abs (by omega)
  refine (rmul_w (IsW.we (fits_i64 hm.i64)) (IsW.we hfd) W).mono fun e w' ⟨he, hb⟩ => ⟨he.trans ?_, hb⟩
  rw [cl_fit hf, fb_fit hf]
theorem kS {ta va tb vb tc vc D m : Int} (a1 : I64 ta) (a2 : I64 va) (b1 : I64 tb) (b2 : I64 vb) (c1 : I64 tc) (c2 : I64 vc) (hm : Cw m) (hD : Hid (D = ab (ar ta va tb vb tc vc 1))) (W : World) : Calls Try.prog 25 #[WE (m * D + D), WE (m * D)] W fun e w' => e = .returned (.tuple #[WE (D), .bool true]) ∧ Below W.heap.size W w' := by
  have h2 := abs_D a1 a2 b1 b2 c1 c2
  rw [← unhid hD] at h2
  have hfd : Fits D := fits_abs (by omega)
  have h3 := abs_mul_le (x := m) (y := D) (p := 1000) (by obtain ⟨m1, m2⟩ := hm; omega) h2
  have hf : Fits (m * D) := fits_abs (by omega)
  have hf1 : Fits (m * D + D) := fits_abs (by omega)
  refine (rsub_w (IsW.we hf1) (IsW.we hf) W).mono fun e w' ⟨he, hb⟩ => ⟨he.trans ?_, hb⟩
  rw [show m * D + D - m * D = D by omega, cl_fit hfd, fb_fit hfd]

set_option maxHeartbeats 8000000 in
set_option maxRecDepth 100000 in
theorem walk (w : World) (s0 : Option Addr) (l0 c0 : Nat) (z0 : List Int) (h0 : SlZ w .i64 (.slice s0 l0 c0) z0) (a1 : Int) (h1 : I64 a1) :
    Calls Try.prog 6 #[.slice s0 l0 c0, .int .i64 a1] w fun e w' => e = .returned (.bool true) ∧ Below w.heap.size w w' := by
  have hG := grown_refl w (some w.heap.size)
  have E := eq_self
  have ⟨hm1, hm2, _⟩ := md_bd a1 1000
  have hm3 := hm2 (by decide)
  clear hm2
  go_enter Try.func6, Try.ntmps6
  (repeat' (first | (go_big_may; (first | (go_at_call 11; refine (new_tape (SlZ.below h0 (by (repeat' (first | (with_reducible assumption) | (with_reducible exact Below.refl _ _) | (with_reducible refine Below.alloc ?_ ?_ _) | (with_reducible refine Below.setCell ?_ ?_ _) | (with_reducible refine Below.drew ?_) | (with_reducible refine below_more ?_ (by with_reducible assumption)) | go_size | omega | (with_reducible refine below_drewN ?_)))))).mono ?_; rintro e w' ⟨rfl, ht, hbw⟩; have hle := ht.leB; have hG' : w.grownBy w' (some (w.heap.size)) := grown_bel (by (repeat' (first | (with_reducible exact hG) | (with_reducible refine grown_alloc ?_ _) | (with_reducible refine grown_drew ?_) | (with_reducible refine grown_setCell ?_ (.inr (by first | go_size | (dsimp only; omega))) _)))) hbw; clear hG; have hG := hG'; clear hG' hbw; (try simp only [World.size_alloc, World.size_setCell, World.size_drew] at ht hle)) | (go_at_call 12; refine (point_any (B := w.heap.size + 1) _ _ (by (repeat' (first | (with_reducible exact ht) | (with_reducible refine TapeOk.alloc ?_ _) | (with_reducible refine TapeOk.drew ?_) | (with_reducible refine TapeOk.setc (by first | go_size | (dsimp only; omega)) ?_))))).mono ?_; (first | (have t_ := mk1_4; clear t_; rintro e w' ⟨x5, y5, hx5, hy5, rfl, ht', hg⟩; have mk1_5 := True.intro) | (have t_ := mk1_3; clear t_; rintro e w' ⟨x4, y4, hx4, hy4, rfl, ht', hg⟩; have mk1_4 := True.intro) | (have t_ := mk1_2; clear t_; rintro e w' ⟨x3, y3, hx3, hy3, rfl, ht', hg⟩; have mk1_3 := True.intro) | (have t_ := mk1_1; clear t_; rintro e w' ⟨x2, y2, hx2, hy2, rfl, ht', hg⟩; have mk1_2 := True.intro) | (rintro e w' ⟨x1, y1, hx1, hy1, rfl, ht', hg⟩; have mk1_1 := True.intro)); have hG' : w.grownBy w' (some (w.heap.size)) := grown_trans (by (repeat' (first | (with_reducible exact hG) | (with_reducible refine grown_alloc ?_ _) | (with_reducible refine grown_drew ?_) | (with_reducible refine grown_setCell ?_ (.inr (by first | go_size | (dsimp only; omega))) _)))) hg; have hsz := hg.size; clear ht hG; have ht := ht'; have hG := hG'; clear ht' hG'; (try simp only [World.size_alloc, World.size_setCell, World.size_drew] at hsz); clear hg))) | go_values | go_skip | go_guarded | go_step | go_upon | (simp only [Int.not_lt, Int.not_le] at *; go_simp) | (go_values <;> (try go_simp)) | (go_ite <;> go_prune <;> (try go_simp)) | (split <;> (first | (rename_i hx; exact (hx _ rfl).elim) | go_prune))))
  rename World => wp
  have hb0 := below_tape hG (by omega)
  clear hG
  (repeat' (first | (go_big_may; (first | (go_at_call 22; refine (mod_any _ _ h1 ⟨by decide, by decide⟩ _).mono ?_; rintro e w' ⟨rfl, rfl⟩))) | go_values | go_skip | go_guarded | go_step | go_upon | (simp only [Int.not_lt, Int.not_le] at *; go_simp) | (go_values <;> (try go_simp)) | (go_ite <;> go_prune <;> (try go_simp)) | (split <;> (first | (rename_i hx; exact (hx _ rfl).elim) | go_prune))))
  obtain ⟨m, hm⟩ : ∃ m, m = 1 + md a1 1000 := ⟨_, rfl⟩
  rw [← hm]
  have hC : Cw m := ⟨by omega, by omega⟩
  have hmi := hC.i64
  have hma : m + 1 ≤ 9223372036854775807 := by omega
  clear hm hm1 hm3
  obtain ⟨D, hD0⟩ : ∃ D, D = ab (ar x1 y1 x2 y2 x3 y3 1) := ⟨_, rfl⟩
  have hD := hid hD0
  clear hD0
  
  
  
  
  
  
  
  
  (refine wp_region_dq (row := none) (S := (fun Wz => Below w.heap.size w Wz ∧ wp.heap.size + 1 + 1 + 1 ≤ Wz.heap.size ∧ Bx Wz (wp.heap.size) (#[.int .i64 x1, .int .i64 y1]) ∧ Bx Wz (wp.heap.size + 1) (#[.int .i64 x2, .int .i64 y2]) ∧ Bx Wz (wp.heap.size + 1 + 1) (#[.int .i64 x3, .int .i64 y3]))) (n0 := wp.heap.size + 1 + 1 + 1) 10 [8] [(0, 0), (1, 0), (2, 0), (3, 0), (4, 0), (5, 0), (6, 0), (7, 0), (8, 2)] [(9, 9, #[.bool false, .int .u64 0, .int .u64 0, .int .u64 0, .int .u64 0])] (by kernel_rfl) (by kernel_rfl) (fun _ _ d _ _ h => by cases d <;> exact h) (by refine ⟨?b, ?n, ?_, ?_, ?_⟩; (case b => (repeat' (first | (with_reducible assumption) | (with_reducible exact Below.refl _ _) | (with_reducible refine Below.alloc ?_ ?_ _) | (with_reducible refine Below.setCell ?_ ?_ _) | (with_reducible refine Below.drew ?_) | (with_reducible refine below_more ?_ (by with_reducible assumption)) | go_size | omega | (with_reducible refine below_drewN ?_)))); (case n => (first | go_size | omega)); all_goals (refine Bx.of ?_; (repeat' (first | (with_reducible assumption) | ((with_reducible refine HB.new _ _ _ ?_) <;> (go_size; done)) | (with_reducible refine HB.old (by go_size) ?_) | (with_reducible refine HB.drew ?_) | (with_reducible refine HB.over5 ?_) | (with_reducible refine HB.over4 ?_) | (with_reducible refine HB.setne (by first | go_size | (dsimp only; omega)) ?_) | (with_reducible refine HN.set ?_) | (with_reducible refine HN.setne (by first | go_size | (dsimp only; omega)) ?_) | (with_reducible refine HN.drew ?_) | (with_reducible refine HN.old (by go_size) ?_) | (with_reducible exact HN.of5 (by assumption)) | (with_reducible exact HN.new5 _ _ (by go_size)) | (with_reducible exact HN.of4 (by assumption)) | (with_reducible exact HN.new4 _ _ (by go_size)))))) (fun _ _ h g => keep3 h (below_gt g) rfl) (fun _ h => h.2.1) (fun _ h => by cases h) (by intro x hx; simp only [List.mem_cons, List.not_mem_nil, or_false] at hx; rcases hx with rfl <;> exact ⟨_, rfl, rfl, rfl, rfl, fun ρ w => ⟨27, by kernel_rfl⟩⟩) ?_)
  refine dqo_start ?_
  intro af0 hA
  have Z := size_lit (n := 112) hA (by rfl)
  have D := defers_lit hA
  have F1 := ev_lit (t := 1) hA (by rfl)
  have F4 := ev_lit (t := 4) hA (by rfl)
  have F6 := ev_lit (t := 6) hA (by rfl)
  have F7 := ev_lit (t := 7) hA (by rfl)
  have F8 := ev_lit (t := 8) hA (by rfl)
  clear hA
  refine' dqo_pure (d := 33) (by rfl) (by rfl) Z (by rfl) (wanted_not (by rfl)) ?hv2 ?rest2
  case hv2 => (intro ρ hρ; have E1 := (hρ.1 1).trans F1; have Ec := hρ.2.1; have Ef := hρ.2.2.1; clear hρ; intro w hw; (try dsimp only at hw); go_split_ands; go_simp; try with_reducible rfl)
  case' rest2 => intro af1 Zn Nx
  replace F1 := (Nx.2.2.1 1 rfl).trans F1
  replace F4 := (Nx.2.2.1 4 rfl).trans F4
  replace F6 := (Nx.2.2.1 6 rfl).trans F6
  replace F7 := (Nx.2.2.1 7 rfl).trans F7
  replace F8 := (Nx.2.2.1 8 rfl).trans F8
  have F33 := Nx.2.1
  replace D := Nx.2.2.2.trans D
  clear Z Nx
  have Z := Zn
  clear Zn af0
  refine' dqo_call (d := 34) (by rfl) (by rfl) Z (by rfl) (wanted_not (by rfl)) ?hv3 ?hc3 ?rest3
  case hv3 => (intro ρ hρ; have E33 := (hρ.1 33).trans F33; have Ec := hρ.2.1; have Ef := hρ.2.2.1; clear hρ; intro w; go_simp; exact ⟨rfl, rfl⟩)
  case hc3 => exact (fun w hw => by first | (with_reducible exact calls_gt (rOf_any _ hmi _)) | (with_reducible exact calls_gt (rOf_any _ hx3 _)) | (with_reducible exact calls_gt (rOf_any _ hy3 _)))
  case' rest3 => intro af2 Zn Nx
  replace F1 := (Nx.2.2.1 1 rfl).trans F1
  replace F4 := (Nx.2.2.1 4 rfl).trans F4
  replace F6 := (Nx.2.2.1 6 rfl).trans F6
  replace F7 := (Nx.2.2.1 7 rfl).trans F7
  replace F8 := (Nx.2.2.1 8 rfl).trans F8
  clear F33
  have F34 := Nx.2.1
  replace D := Nx.2.2.2.trans D
  clear Z Nx
  have Z := Zn
  clear Zn af1
  refine' dqo_pure (d := 35) (by rfl) (by rfl) Z (by rfl) (wanted_not (by rfl)) ?hv4 ?rest4
  case hv4 => (intro ρ hρ; have E8 := (hρ.1 8).trans F8; have Ec := hρ.2.1; have Ef := hρ.2.2.1; clear hρ; intro w hw; (try dsimp only at hw); go_split_ands; go_simp; try with_reducible rfl)
  case' rest4 => intro af3 Zn Nx
  replace F1 := (Nx.2.2.1 1 rfl).trans F1
  replace F4 := (Nx.2.2.1 4 rfl).trans F4
  replace F6 := (Nx.2.2.1 6 rfl).trans F6
  replace F7 := (Nx.2.2.1 7 rfl).trans F7
  replace F8 := (Nx.2.2.1 8 rfl).trans F8
  replace F34 := (Nx.2.2.1 34 rfl).trans F34
  have F35 := Nx.2.1
  replace D := Nx.2.2.2.trans D
  clear Z Nx
  have Z := Zn
  clear Zn af2
  refine' dqo_pure (d := 36) (by rfl) (by rfl) Z (by rfl) (wanted_not (by rfl)) ?hv5 ?rest5
  case hv5 => (intro ρ hρ; have E35 := (hρ.1 35).trans F35; have Ec := hρ.2.1; have Ef := hρ.2.2.1; clear hρ; intro w hw; (try dsimp only at hw); go_split_ands; go_simp; try with_reducible rfl)
  case' rest5 => intro af4 Zn Nx
  replace F1 := (Nx.2.2.1 1 rfl).trans F1
  replace F4 := (Nx.2.2.1 4 rfl).trans F4
  replace F6 := (Nx.2.2.1 6 rfl).trans F6
  replace F7 := (Nx.2.2.1 7 rfl).trans F7
  replace F8 := (Nx.2.2.1 8 rfl).trans F8
  replace F34 := (Nx.2.2.1 34 rfl).trans F34
  clear F35
  have F36 := Nx.2.1
  replace D := Nx.2.2.2.trans D
  clear Z Nx
  have Z := Zn
  clear Zn af3
  refine' dqo_call (d := 37) (by rfl) (by rfl) Z (by rfl) (wanted_not (by rfl)) ?hv6 ?hc6 ?rest6
  case hv6 => (intro ρ hρ; have E36 := (hρ.1 36).trans F36; have Ec := hρ.2.1; have Ef := hρ.2.2.1; clear hρ; intro w; go_simp; exact ⟨rfl, rfl⟩)
  case hc6 => exact (fun w hw => by first | (with_reducible exact calls_gt (rOf_any _ hmi _)) | (with_reducible exact calls_gt (rOf_any _ hx3 _)) | (with_reducible exact calls_gt (rOf_any _ hy3 _)))
  case' rest6 => intro af5 Zn Nx
  replace F1 := (Nx.2.2.1 1 rfl).trans F1
  replace F4 := (Nx.2.2.1 4 rfl).trans F4
  replace F6 := (Nx.2.2.1 6 rfl).trans F6
  replace F7 := (Nx.2.2.1 7 rfl).trans F7
  replace F8 := (Nx.2.2.1 8 rfl).trans F8
  replace F34 := (Nx.2.2.1 34 rfl).trans F34
  clear F36
  have F37 := Nx.2.1
  replace D := Nx.2.2.2.trans D
  clear Z Nx
  have Z := Zn
  clear Zn af4
  refine' dqo_call (d := 38) (by rfl) (by rfl) Z (by rfl) (wanted_not (by rfl)) ?hv7 ?hc7 ?rest7
  case hv7 => (intro ρ hρ; have E34 := (hρ.1 34).trans F34; have E37 := (hρ.1 37).trans F37; have Ec := hρ.2.1; have Ef := hρ.2.2.1; clear hρ; intro w; go_simp; exact ⟨rfl, rfl⟩)
  case hc7 => exact (fun w hw => by first | (with_reducible exact calls_gt (kM hC hx3 _)) | (with_reducible exact calls_gt (kM hC hy3 _)) | (with_reducible exact calls_gt (kMD hx1 hy1 hx2 hy2 hx3 hy3 hC hD _)))
  case' rest7 => intro af6 Zn Nx
  replace F1 := (Nx.2.2.1 1 rfl).trans F1
  replace F4 := (Nx.2.2.1 4 rfl).trans F4
  replace F6 := (Nx.2.2.1 6 rfl).trans F6
  replace F7 := (Nx.2.2.1 7 rfl).trans F7
  replace F8 := (Nx.2.2.1 8 rfl).trans F8
  clear F34
  clear F37
  have F38 := Nx.2.1
  replace D := Nx.2.2.2.trans D
  clear Z Nx
  have Z := Zn
  clear Zn af5
  refine' dqo_pure (d := 32) (by rfl) (by rfl) Z (by rfl) (wanted_not (by rfl)) ?hv8 ?rest8
  case hv8 => (intro ρ hρ; have E38 := (hρ.1 38).trans F38; have Ec := hρ.2.1; have Ef := hρ.2.2.1; clear hρ; intro w hw; (try dsimp only at hw); go_split_ands; go_simp; try with_reducible rfl)
  case' rest8 => intro af7 Zn Nx
  replace F1 := (Nx.2.2.1 1 rfl).trans F1
  replace F4 := (Nx.2.2.1 4 rfl).trans F4
  replace F6 := (Nx.2.2.1 6 rfl).trans F6
  replace F7 := (Nx.2.2.1 7 rfl).trans F7
  replace F8 := (Nx.2.2.1 8 rfl).trans F8
  clear F38
  have F32 := Nx.2.1
  replace D := Nx.2.2.2.trans D
  clear Z Nx
  have Z := Zn
  clear Zn af6
  refine' dqo_pure (d := 39) (by rfl) (by rfl) Z (by rfl) (wanted_not (by rfl)) ?hv9 ?rest9
  case hv9 => (intro ρ hρ; have E32 := (hρ.1 32).trans F32; have Ec := hρ.2.1; have Ef := hρ.2.2.1; clear hρ; intro w hw; (try dsimp only at hw); go_split_ands; go_simp; try with_reducible rfl)
  case' rest9 => intro af8 Zn Nx
  replace F1 := (Nx.2.2.1 1 rfl).trans F1
  replace F4 := (Nx.2.2.1 4 rfl).trans F4
  replace F6 := (Nx.2.2.1 6 rfl).trans F6
  replace F7 := (Nx.2.2.1 7 rfl).trans F7
  replace F8 := (Nx.2.2.1 8 rfl).trans F8
  replace F32 := (Nx.2.2.1 32 rfl).trans F32
  have F39 := Nx.2.1
  replace D := Nx.2.2.2.trans D
  clear Z Nx
  have Z := Zn
  clear Zn af7
  refine' dqo_late (d := 40) (by rfl) (by rfl) Z (by rfl) (wanted_not (by rfl)) ?hv10 ?rest10
  case hv10 => (intro ρ hρ; have E32 := (hρ.1 32).trans F32; have Ec := hρ.2.1; have Ef := hρ.2.2.1; clear hρ; intro w; go_simp; try with_reducible rfl)
  case' rest10 => intro af9 Zn Nx
  replace F1 := (Nx.2.2.1 1 rfl).trans F1
  replace F4 := (Nx.2.2.1 4 rfl).trans F4
  replace F6 := (Nx.2.2.1 6 rfl).trans F6
  replace F7 := (Nx.2.2.1 7 rfl).trans F7
  replace F8 := (Nx.2.2.1 8 rfl).trans F8
  clear F32
  replace F39 := (Nx.2.2.1 39 rfl).trans F39
  have F40 := Nx.2.1
  replace D := Nx.2.2.2.trans D
  clear Z Nx
  have Z := Zn
  clear Zn af8
  refine dq_nil ?_
  refine fa_box Z (by rfl) ?_
  intro p9 hp9 hd9 af10 Zn Nx
  replace F1 := (Nx.2.2.1 1 rfl).trans F1
  replace F4 := (Nx.2.2.1 4 rfl).trans F4
  replace F6 := (Nx.2.2.1 6 rfl).trans F6
  replace F7 := (Nx.2.2.1 7 rfl).trans F7
  replace F8 := (Nx.2.2.1 8 rfl).trans F8
  replace F39 := (Nx.2.2.1 39 rfl).trans F39
  replace F40 := (Nx.2.2.1 40 rfl).trans F40
  have F9 := Nx.2.1
  replace D := Nx.2.2.2.trans D
  clear Z Nx
  have Z := Zn
  clear Zn af9
  refine fa_nil ?_
  rintro W ⟨⟨hb0, hn0, ⟨B1, B1c, B1f, B1l⟩, ⟨B2, B2c, B2f, B2l⟩, ⟨B3, B3c, B3f, B3l⟩⟩, hgl⟩ hbs
  obtain ⟨P9, P9c, P9f, P9l⟩ := Bx.of (hbs (p9, #[.bool false, .int .u64 0, .int .u64 0, .int .u64 0, .int .u64 0]) (by simp))
  clear hd9
  clear hbs hgl
  obtain ⟨ρ, hρ⟩ := rho_of af10
  have hL := act_lit (l := [ρ (.tmp 0), _, ρ (.tmp 2), ρ (.tmp 3), _, ρ (.tmp 5), _, _, _, _, ρ (.tmp 10), ρ (.tmp 11), ρ (.tmp 12), ρ (.tmp 13), ρ (.tmp 14), ρ (.tmp 15), ρ (.tmp 16), ρ (.tmp 17), ρ (.tmp 18), ρ (.tmp 19), ρ (.tmp 20), ρ (.tmp 21), ρ (.tmp 22), ρ (.tmp 23), ρ (.tmp 24), ρ (.tmp 25), ρ (.tmp 26), ρ (.tmp 27), ρ (.tmp 28), ρ (.tmp 29), ρ (.tmp 30), ρ (.tmp 31), ρ (.tmp 32), ρ (.tmp 33), ρ (.tmp 34), ρ (.tmp 35), ρ (.tmp 36), ρ (.tmp 37), ρ (.tmp 38), _, _, ρ (.tmp 41), ρ (.tmp 42), ρ (.tmp 43), ρ (.tmp 44), ρ (.tmp 45), ρ (.tmp 46), ρ (.tmp 47), ρ (.tmp 48), ρ (.tmp 49), ρ (.tmp 50), ρ (.tmp 51), ρ (.tmp 52), ρ (.tmp 53), ρ (.tmp 54), ρ (.tmp 55), ρ (.tmp 56), ρ (.tmp 57), ρ (.tmp 58), ρ (.tmp 59), ρ (.tmp 60), ρ (.tmp 61), ρ (.tmp 62), ρ (.tmp 63), ρ (.tmp 64), ρ (.tmp 65), ρ (.tmp 66), ρ (.tmp 67), ρ (.tmp 68), ρ (.tmp 69), ρ (.tmp 70), ρ (.tmp 71), ρ (.tmp 72), ρ (.tmp 73), ρ (.tmp 74), ρ (.tmp 75), ρ (.tmp 76), ρ (.tmp 77), ρ (.tmp 78), ρ (.tmp 79), ρ (.tmp 80), ρ (.tmp 81), ρ (.tmp 82), ρ (.tmp 83), ρ (.tmp 84), ρ (.tmp 85), ρ (.tmp 86), ρ (.tmp 87), ρ (.tmp 88), ρ (.tmp 89), ρ (.tmp 90), ρ (.tmp 91), ρ (.tmp 92), ρ (.tmp 93), ρ (.tmp 94), ρ (.tmp 95), ρ (.tmp 96), ρ (.tmp 97), ρ (.tmp 98), ρ (.tmp 99), ρ (.tmp 100), ρ (.tmp 101), ρ (.tmp 102), ρ (.tmp 103), ρ (.tmp 104), ρ (.tmp 105), ρ (.tmp 106), ρ (.tmp 107), ρ (.tmp 108), ρ (.tmp 109), ρ (.tmp 110), ρ (.tmp 111)]) Z D (by rfl) ⟨hρ 0, F1, hρ 2, hρ 3, F4, hρ 5, F6, F7, F8, F9, hρ 10, hρ 11, hρ 12, hρ 13, hρ 14, hρ 15, hρ 16, hρ 17, hρ 18, hρ 19, hρ 20, hρ 21, hρ 22, hρ 23, hρ 24, hρ 25, hρ 26, hρ 27, hρ 28, hρ 29, hρ 30, hρ 31, hρ 32, hρ 33, hρ 34, hρ 35, hρ 36, hρ 37, hρ 38, F39, F40, hρ 41, hρ 42, hρ 43, hρ 44, hρ 45, hρ 46, hρ 47, hρ 48, hρ 49, hρ 50, hρ 51, hρ 52, hρ 53, hρ 54, hρ 55, hρ 56, hρ 57, hρ 58, hρ 59, hρ 60, hρ 61, hρ 62, hρ 63, hρ 64, hρ 65, hρ 66, hρ 67, hρ 68, hρ 69, hρ 70, hρ 71, hρ 72, hρ 73, hρ 74, hρ 75, hρ 76, hρ 77, hρ 78, hρ 79, hρ 80, hρ 81, hρ 82, hρ 83, hρ 84, hρ 85, hρ 86, hρ 87, hρ 88, hρ 89, hρ 90, hρ 91, hρ 92, hρ 93, hρ 94, hρ 95, hρ 96, hρ 97, hρ 98, hρ 99, hρ 100, hρ 101, hρ 102, hρ 103, hρ 104, hρ 105, hρ 106, hρ 107, hρ 108, hρ 109, hρ 110, hρ 111, trivial⟩
  clear hρ Z D F1 F4 F6 F7 F8 F9 F39 F40
  subst hL
  simp only [List.drop_succ_cons, List.drop_zero]
  rename World => V4
  (repeat' (first | go_values | go_skip | go_guarded | go_step | go_upon | (simp only [Int.not_lt, Int.not_le] at *; go_simp) | (go_values <;> (try go_simp)) | (go_ite <;> go_prune <;> (try go_simp)) | (split <;> (first | (rename_i hx; exact (hx _ rfl).elim) | go_prune))))
  (refine wp_region_dq (row := none) (S := (fun Wz => Below w.heap.size w Wz ∧ V4.heap.size ≤ Wz.heap.size ∧ Bx Wz (wp.heap.size) (#[.int .i64 x1, .int .i64 y1]) ∧ Bx Wz (wp.heap.size + 1) (#[.int .i64 x2, .int .i64 y2]) ∧ Bx Wz (wp.heap.size + 1 + 1) (#[.int .i64 x3, .int .i64 y3]) ∧ Bx Wz (p9) (#[.bool (sg (m * x3)), .int .u64 (lb0 (ab (m * x3))), .int .u64 (lb1 (ab (m * x3))), .int .u64 (lb2 (ab (m * x3))), .int .u64 (lb3 (ab (m * x3)))]))) (n0 := V4.heap.size) 10 [8] [(0, 0), (1, 0), (2, 0), (3, 0), (4, 0), (5, 0), (6, 0), (7, 0), (8, 2)] [(9, 11, #[.bool false, .int .u64 0, .int .u64 0, .int .u64 0, .int .u64 0])] (by kernel_rfl) (by kernel_rfl) (fun _ _ d _ _ h => by cases d <;> exact h) (by refine ⟨?b, ?n, ?_, ?_, ?_, ?_⟩; (case b => (repeat' (first | (with_reducible assumption) | (with_reducible exact Below.refl _ _) | (with_reducible refine Below.alloc ?_ ?_ _) | (with_reducible refine Below.setCell ?_ ?_ _) | (with_reducible refine Below.drew ?_) | (with_reducible refine below_more ?_ (by with_reducible assumption)) | go_size | omega | (with_reducible refine below_drewN ?_)))); (case n => (first | go_size | omega)); all_goals (refine Bx.of ?_; (repeat' (first | (with_reducible assumption) | ((with_reducible refine HB.new _ _ _ ?_) <;> (go_size; done)) | (with_reducible refine HB.old (by go_size) ?_) | (with_reducible refine HB.drew ?_) | (with_reducible refine HB.over5 ?_) | (with_reducible refine HB.over4 ?_) | (with_reducible refine HB.setne (by first | go_size | (dsimp only; omega)) ?_) | (with_reducible refine HN.set ?_) | (with_reducible refine HN.setne (by first | go_size | (dsimp only; omega)) ?_) | (with_reducible refine HN.drew ?_) | (with_reducible refine HN.old (by go_size) ?_) | (with_reducible exact HN.of5 (by assumption)) | (with_reducible exact HN.new5 _ _ (by go_size)) | (with_reducible exact HN.of4 (by assumption)) | (with_reducible exact HN.new4 _ _ (by go_size)))))) (fun _ _ h g => keep4 h (below_gt g) rfl) (fun _ h => h.2.1) (fun _ h => by cases h) (by intro x hx; simp only [List.mem_cons, List.not_mem_nil, or_false] at hx; rcases hx with rfl <;> exact ⟨_, rfl, rfl, rfl, rfl, fun ρ w => ⟨27, by kernel_rfl⟩⟩) ?_)
  refine dqo_start ?_
  intro af0 hA
  have Z := size_lit (n := 112) hA (by rfl)
  have D := defers_lit hA
  have F1 := ev_lit (t := 1) hA (by rfl)
  have F4 := ev_lit (t := 4) hA (by rfl)
  have F6 := ev_lit (t := 6) hA (by rfl)
  have F7 := ev_lit (t := 7) hA (by rfl)
  have F8 := ev_lit (t := 8) hA (by rfl)
  have F9 := ev_lit (t := 9) hA (by rfl)
  clear hA
  refine' dqo_pure (d := 42) (by rfl) (by rfl) Z (by rfl) (wanted_not (by rfl)) ?hv11 ?rest11
  case hv11 => (intro ρ hρ; have E1 := (hρ.1 1).trans F1; have Ec := hρ.2.1; have Ef := hρ.2.2.1; clear hρ; intro w hw; (try dsimp only at hw); go_split_ands; go_simp; try with_reducible rfl)
  case' rest11 => intro af1 Zn Nx
  replace F1 := (Nx.2.2.1 1 rfl).trans F1
  replace F4 := (Nx.2.2.1 4 rfl).trans F4
  replace F6 := (Nx.2.2.1 6 rfl).trans F6
  replace F7 := (Nx.2.2.1 7 rfl).trans F7
  replace F8 := (Nx.2.2.1 8 rfl).trans F8
  replace F9 := (Nx.2.2.1 9 rfl).trans F9
  have F42 := Nx.2.1
  replace D := Nx.2.2.2.trans D
  clear Z Nx
  have Z := Zn
  clear Zn af0
  refine' dqo_call (d := 43) (by rfl) (by rfl) Z (by rfl) (wanted_not (by rfl)) ?hv12 ?hc12 ?rest12
  case hv12 => (intro ρ hρ; have E42 := (hρ.1 42).trans F42; have Ec := hρ.2.1; have Ef := hρ.2.2.1; clear hρ; intro w; go_simp; exact ⟨rfl, rfl⟩)
  case hc12 => exact (fun w hw => by first | (with_reducible exact calls_gt (rOf_any _ hmi _)) | (with_reducible exact calls_gt (rOf_any _ hx3 _)) | (with_reducible exact calls_gt (rOf_any _ hy3 _)))
  case' rest12 => intro af2 Zn Nx
  replace F1 := (Nx.2.2.1 1 rfl).trans F1
  replace F4 := (Nx.2.2.1 4 rfl).trans F4
  replace F6 := (Nx.2.2.1 6 rfl).trans F6
  replace F7 := (Nx.2.2.1 7 rfl).trans F7
  replace F8 := (Nx.2.2.1 8 rfl).trans F8
  replace F9 := (Nx.2.2.1 9 rfl).trans F9
  clear F42
  have F43 := Nx.2.1
  replace D := Nx.2.2.2.trans D
  clear Z Nx
  have Z := Zn
  clear Zn af1
  refine' dqo_pure (d := 44) (by rfl) (by rfl) Z (by rfl) (wanted_not (by rfl)) ?hv13 ?rest13
  case hv13 => (intro ρ hρ; have E8 := (hρ.1 8).trans F8; have Ec := hρ.2.1; have Ef := hρ.2.2.1; clear hρ; intro w hw; (try dsimp only at hw); go_split_ands; go_simp; try with_reducible rfl)
  case' rest13 => intro af3 Zn Nx
  replace F1 := (Nx.2.2.1 1 rfl).trans F1
  replace F4 := (Nx.2.2.1 4 rfl).trans F4
  replace F6 := (Nx.2.2.1 6 rfl).trans F6
  replace F7 := (Nx.2.2.1 7 rfl).trans F7
  replace F8 := (Nx.2.2.1 8 rfl).trans F8
  replace F9 := (Nx.2.2.1 9 rfl).trans F9
  replace F43 := (Nx.2.2.1 43 rfl).trans F43
  have F44 := Nx.2.1
  replace D := Nx.2.2.2.trans D
  clear Z Nx
  have Z := Zn
  clear Zn af2
  refine' dqo_pure (d := 45) (by rfl) (by rfl) Z (by rfl) (wanted_not (by rfl)) ?hv14 ?rest14
  case hv14 => (intro ρ hρ; have E44 := (hρ.1 44).trans F44; have Ec := hρ.2.1; have Ef := hρ.2.2.1; clear hρ; intro w hw; (try dsimp only at hw); go_split_ands; go_simp; try with_reducible rfl)
  case' rest14 => intro af4 Zn Nx
  replace F1 := (Nx.2.2.1 1 rfl).trans F1
  replace F4 := (Nx.2.2.1 4 rfl).trans F4
  replace F6 := (Nx.2.2.1 6 rfl).trans F6
  replace F7 := (Nx.2.2.1 7 rfl).trans F7
  replace F8 := (Nx.2.2.1 8 rfl).trans F8
  replace F9 := (Nx.2.2.1 9 rfl).trans F9
  replace F43 := (Nx.2.2.1 43 rfl).trans F43
  clear F44
  have F45 := Nx.2.1
  replace D := Nx.2.2.2.trans D
  clear Z Nx
  have Z := Zn
  clear Zn af3
  refine' dqo_call (d := 46) (by rfl) (by rfl) Z (by rfl) (wanted_not (by rfl)) ?hv15 ?hc15 ?rest15
  case hv15 => (intro ρ hρ; have E45 := (hρ.1 45).trans F45; have Ec := hρ.2.1; have Ef := hρ.2.2.1; clear hρ; intro w; go_simp; exact ⟨rfl, rfl⟩)
  case hc15 => exact (fun w hw => by first | (with_reducible exact calls_gt (rOf_any _ hmi _)) | (with_reducible exact calls_gt (rOf_any _ hx3 _)) | (with_reducible exact calls_gt (rOf_any _ hy3 _)))
  case' rest15 => intro af5 Zn Nx
  replace F1 := (Nx.2.2.1 1 rfl).trans F1
  replace F4 := (Nx.2.2.1 4 rfl).trans F4
  replace F6 := (Nx.2.2.1 6 rfl).trans F6
  replace F7 := (Nx.2.2.1 7 rfl).trans F7
  replace F8 := (Nx.2.2.1 8 rfl).trans F8
  replace F9 := (Nx.2.2.1 9 rfl).trans F9
  replace F43 := (Nx.2.2.1 43 rfl).trans F43
  clear F45
  have F46 := Nx.2.1
  replace D := Nx.2.2.2.trans D
  clear Z Nx
  have Z := Zn
  clear Zn af4
  refine' dqo_call (d := 47) (by rfl) (by rfl) Z (by rfl) (wanted_not (by rfl)) ?hv16 ?hc16 ?rest16
  case hv16 => (intro ρ hρ; have E43 := (hρ.1 43).trans F43; have E46 := (hρ.1 46).trans F46; have Ec := hρ.2.1; have Ef := hρ.2.2.1; clear hρ; intro w; go_simp; exact ⟨rfl, rfl⟩)
  case hc16 => exact (fun w hw => by first | (with_reducible exact calls_gt (kM hC hx3 _)) | (with_reducible exact calls_gt (kM hC hy3 _)) | (with_reducible exact calls_gt (kMD hx1 hy1 hx2 hy2 hx3 hy3 hC hD _)))
  case' rest16 => intro af6 Zn Nx
  replace F1 := (Nx.2.2.1 1 rfl).trans F1
  replace F4 := (Nx.2.2.1 4 rfl).trans F4
  replace F6 := (Nx.2.2.1 6 rfl).trans F6
  replace F7 := (Nx.2.2.1 7 rfl).trans F7
  replace F8 := (Nx.2.2.1 8 rfl).trans F8
  replace F9 := (Nx.2.2.1 9 rfl).trans F9
  clear F43
  clear F46
  have F47 := Nx.2.1
  replace D := Nx.2.2.2.trans D
  clear Z Nx
  have Z := Zn
  clear Zn af5
  refine' dqo_pure (d := 41) (by rfl) (by rfl) Z (by rfl) (wanted_not (by rfl)) ?hv17 ?rest17
  case hv17 => (intro ρ hρ; have E47 := (hρ.1 47).trans F47; have Ec := hρ.2.1; have Ef := hρ.2.2.1; clear hρ; intro w hw; (try dsimp only at hw); go_split_ands; go_simp; try with_reducible rfl)
  case' rest17 => intro af7 Zn Nx
  replace F1 := (Nx.2.2.1 1 rfl).trans F1
  replace F4 := (Nx.2.2.1 4 rfl).trans F4
  replace F6 := (Nx.2.2.1 6 rfl).trans F6
  replace F7 := (Nx.2.2.1 7 rfl).trans F7
  replace F8 := (Nx.2.2.1 8 rfl).trans F8
  replace F9 := (Nx.2.2.1 9 rfl).trans F9
  clear F47
  have F41 := Nx.2.1
  replace D := Nx.2.2.2.trans D
  clear Z Nx
  have Z := Zn
  clear Zn af6
  refine' dqo_pure (d := 48) (by rfl) (by rfl) Z (by rfl) (wanted_not (by rfl)) ?hv18 ?rest18
  case hv18 => (intro ρ hρ; have E41 := (hρ.1 41).trans F41; have Ec := hρ.2.1; have Ef := hρ.2.2.1; clear hρ; intro w hw; (try dsimp only at hw); go_split_ands; go_simp; try with_reducible rfl)
  case' rest18 => intro af8 Zn Nx
  replace F1 := (Nx.2.2.1 1 rfl).trans F1
  replace F4 := (Nx.2.2.1 4 rfl).trans F4
  replace F6 := (Nx.2.2.1 6 rfl).trans F6
  replace F7 := (Nx.2.2.1 7 rfl).trans F7
  replace F8 := (Nx.2.2.1 8 rfl).trans F8
  replace F9 := (Nx.2.2.1 9 rfl).trans F9
  replace F41 := (Nx.2.2.1 41 rfl).trans F41
  have F48 := Nx.2.1
  replace D := Nx.2.2.2.trans D
  clear Z Nx
  have Z := Zn
  clear Zn af7
  refine' dqo_late (d := 49) (by rfl) (by rfl) Z (by rfl) (wanted_not (by rfl)) ?hv19 ?rest19
  case hv19 => (intro ρ hρ; have E41 := (hρ.1 41).trans F41; have Ec := hρ.2.1; have Ef := hρ.2.2.1; clear hρ; intro w; go_simp; try with_reducible rfl)
  case' rest19 => intro af9 Zn Nx
  replace F1 := (Nx.2.2.1 1 rfl).trans F1
  replace F4 := (Nx.2.2.1 4 rfl).trans F4
  replace F6 := (Nx.2.2.1 6 rfl).trans F6
  replace F7 := (Nx.2.2.1 7 rfl).trans F7
  replace F8 := (Nx.2.2.1 8 rfl).trans F8
  replace F9 := (Nx.2.2.1 9 rfl).trans F9
  clear F41
  replace F48 := (Nx.2.2.1 48 rfl).trans F48
  have F49 := Nx.2.1
  replace D := Nx.2.2.2.trans D
  clear Z Nx
  have Z := Zn
  clear Zn af8
  refine dq_nil ?_
  refine fa_box Z (by rfl) ?_
  intro p11 hp11 hd11 af10 Zn Nx
  replace F1 := (Nx.2.2.1 1 rfl).trans F1
  replace F4 := (Nx.2.2.1 4 rfl).trans F4
  replace F6 := (Nx.2.2.1 6 rfl).trans F6
  replace F7 := (Nx.2.2.1 7 rfl).trans F7
  replace F8 := (Nx.2.2.1 8 rfl).trans F8
  replace F9 := (Nx.2.2.1 9 rfl).trans F9
  replace F48 := (Nx.2.2.1 48 rfl).trans F48
  replace F49 := (Nx.2.2.1 49 rfl).trans F49
  have F11 := Nx.2.1
  replace D := Nx.2.2.2.trans D
  clear Z Nx
  have Z := Zn
  clear Zn af9
  refine fa_nil ?_
  rintro W ⟨⟨hb0, hn0, ⟨B1, B1c, B1f, B1l⟩, ⟨B2, B2c, B2f, B2l⟩, ⟨B3, B3c, B3f, B3l⟩, ⟨B4, B4c, B4f, B4l⟩⟩, hgl⟩ hbs
  obtain ⟨P11, P11c, P11f, P11l⟩ := Bx.of (hbs (p11, #[.bool false, .int .u64 0, .int .u64 0, .int .u64 0, .int .u64 0]) (by simp))
  clear hd11
  clear hbs hgl
  obtain ⟨ρ, hρ⟩ := rho_of af10
  have hL := act_lit (l := [ρ (.tmp 0), _, ρ (.tmp 2), ρ (.tmp 3), _, ρ (.tmp 5), _, _, _, _, ρ (.tmp 10), _, ρ (.tmp 12), ρ (.tmp 13), ρ (.tmp 14), ρ (.tmp 15), ρ (.tmp 16), ρ (.tmp 17), ρ (.tmp 18), ρ (.tmp 19), ρ (.tmp 20), ρ (.tmp 21), ρ (.tmp 22), ρ (.tmp 23), ρ (.tmp 24), ρ (.tmp 25), ρ (.tmp 26), ρ (.tmp 27), ρ (.tmp 28), ρ (.tmp 29), ρ (.tmp 30), ρ (.tmp 31), ρ (.tmp 32), ρ (.tmp 33), ρ (.tmp 34), ρ (.tmp 35), ρ (.tmp 36), ρ (.tmp 37), ρ (.tmp 38), ρ (.tmp 39), ρ (.tmp 40), ρ (.tmp 41), ρ (.tmp 42), ρ (.tmp 43), ρ (.tmp 44), ρ (.tmp 45), ρ (.tmp 46), ρ (.tmp 47), _, _, ρ (.tmp 50), ρ (.tmp 51), ρ (.tmp 52), ρ (.tmp 53), ρ (.tmp 54), ρ (.tmp 55), ρ (.tmp 56), ρ (.tmp 57), ρ (.tmp 58), ρ (.tmp 59), ρ (.tmp 60), ρ (.tmp 61), ρ (.tmp 62), ρ (.tmp 63), ρ (.tmp 64), ρ (.tmp 65), ρ (.tmp 66), ρ (.tmp 67), ρ (.tmp 68), ρ (.tmp 69), ρ (.tmp 70), ρ (.tmp 71), ρ (.tmp 72), ρ (.tmp 73), ρ (.tmp 74), ρ (.tmp 75), ρ (.tmp 76), ρ (.tmp 77), ρ (.tmp 78), ρ (.tmp 79), ρ (.tmp 80), ρ (.tmp 81), ρ (.tmp 82), ρ (.tmp 83), ρ (.tmp 84), ρ (.tmp 85), ρ (.tmp 86), ρ (.tmp 87), ρ (.tmp 88), ρ (.tmp 89), ρ (.tmp 90), ρ (.tmp 91), ρ (.tmp 92), ρ (.tmp 93), ρ (.tmp 94), ρ (.tmp 95), ρ (.tmp 96), ρ (.tmp 97), ρ (.tmp 98), ρ (.tmp 99), ρ (.tmp 100), ρ (.tmp 101), ρ (.tmp 102), ρ (.tmp 103), ρ (.tmp 104), ρ (.tmp 105), ρ (.tmp 106), ρ (.tmp 107), ρ (.tmp 108), ρ (.tmp 109), ρ (.tmp 110), ρ (.tmp 111)]) Z D (by rfl) ⟨hρ 0, F1, hρ 2, hρ 3, F4, hρ 5, F6, F7, F8, F9, hρ 10, F11, hρ 12, hρ 13, hρ 14, hρ 15, hρ 16, hρ 17, hρ 18, hρ 19, hρ 20, hρ 21, hρ 22, hρ 23, hρ 24, hρ 25, hρ 26, hρ 27, hρ 28, hρ 29, hρ 30, hρ 31, hρ 32, hρ 33, hρ 34, hρ 35, hρ 36, hρ 37, hρ 38, hρ 39, hρ 40, hρ 41, hρ 42, hρ 43, hρ 44, hρ 45, hρ 46, hρ 47, F48, F49, hρ 50, hρ 51, hρ 52, hρ 53, hρ 54, hρ 55, hρ 56, hρ 57, hρ 58, hρ 59, hρ 60, hρ 61, hρ 62, hρ 63, hρ 64, hρ 65, hρ 66, hρ 67, hρ 68, hρ 69, hρ 70, hρ 71, hρ 72, hρ 73, hρ 74, hρ 75, hρ 76, hρ 77, hρ 78, hρ 79, hρ 80, hρ 81, hρ 82, hρ 83, hρ 84, hρ 85, hρ 86, hρ 87, hρ 88, hρ 89, hρ 90, hρ 91, hρ 92, hρ 93, hρ 94, hρ 95, hρ 96, hρ 97, hρ 98, hρ 99, hρ 100, hρ 101, hρ 102, hρ 103, hρ 104, hρ 105, hρ 106, hρ 107, hρ 108, hρ 109, hρ 110, hρ 111, trivial⟩
  clear hρ Z D F1 F4 F6 F7 F8 F9 F11 F48 F49
  subst hL
  simp only [List.drop_succ_cons, List.drop_zero]
  rename World => V5
  (repeat' (first | go_values | go_skip | go_guarded | go_step | go_upon | (simp only [Int.not_lt, Int.not_le] at *; go_simp) | (go_values <;> (try go_simp)) | (go_ite <;> go_prune <;> (try go_simp)) | (split <;> (first | (rename_i hx; exact (hx _ rfl).elim) | go_prune))))
  (refine wp_region_dq (row := none) (S := (fun Wz => Below w.heap.size w Wz ∧ V5.heap.size ≤ Wz.heap.size ∧ Bx Wz (wp.heap.size) (#[.int .i64 x1, .int .i64 y1]) ∧ Bx Wz (wp.heap.size + 1) (#[.int .i64 x2, .int .i64 y2]) ∧ Bx Wz (wp.heap.size + 1 + 1) (#[.int .i64 x3, .int .i64 y3]) ∧ Bx Wz (p9) (#[.bool (sg (m * x3)), .int .u64 (lb0 (ab (m * x3))), .int .u64 (lb1 (ab (m * x3))), .int .u64 (lb2 (ab (m * x3))), .int .u64 (lb3 (ab (m * x3)))]) ∧ Bx Wz (p11) (#[.bool (sg (m * y3)), .int .u64 (lb0 (ab (m * y3))), .int .u64 (lb1 (ab (m * y3))), .int .u64 (lb2 (ab (m * y3))), .int .u64 (lb3 (ab (m * y3)))]))) (n0 := V5.heap.size) 11 [9] [(0, 0), (1, 0), (2, 0), (3, 0), (4, 0), (5, 0), (6, 0), (7, 0), (8, 0), (9, 2)] [(10, 13, #[.bool false, .int .u64 0, .int .u64 0, .int .u64 0, .int .u64 0])] (by kernel_rfl) (by kernel_rfl) (fun _ _ d _ _ h => by cases d <;> exact h) (by refine ⟨?b, ?n, ?_, ?_, ?_, ?_, ?_⟩; (case b => (repeat' (first | (with_reducible assumption) | (with_reducible exact Below.refl _ _) | (with_reducible refine Below.alloc ?_ ?_ _) | (with_reducible refine Below.setCell ?_ ?_ _) | (with_reducible refine Below.drew ?_) | (with_reducible refine below_more ?_ (by with_reducible assumption)) | go_size | omega | (with_reducible refine below_drewN ?_)))); (case n => (first | go_size | omega)); all_goals (refine Bx.of ?_; (repeat' (first | (with_reducible assumption) | ((with_reducible refine HB.new _ _ _ ?_) <;> (go_size; done)) | (with_reducible refine HB.old (by go_size) ?_) | (with_reducible refine HB.drew ?_) | (with_reducible refine HB.over5 ?_) | (with_reducible refine HB.over4 ?_) | (with_reducible refine HB.setne (by first | go_size | (dsimp only; omega)) ?_) | (with_reducible refine HN.set ?_) | (with_reducible refine HN.setne (by first | go_size | (dsimp only; omega)) ?_) | (with_reducible refine HN.drew ?_) | (with_reducible refine HN.old (by go_size) ?_) | (with_reducible exact HN.of5 (by assumption)) | (with_reducible exact HN.new5 _ _ (by go_size)) | (with_reducible exact HN.of4 (by assumption)) | (with_reducible exact HN.new4 _ _ (by go_size)))))) (fun _ _ h g => keep5 h (below_gt g) rfl) (fun _ h => h.2.1) (fun _ h => by cases h) (by intro x hx; simp only [List.mem_cons, List.not_mem_nil, or_false] at hx; rcases hx with rfl <;> exact ⟨_, rfl, rfl, rfl, rfl, fun ρ w => ⟨27, by kernel_rfl⟩⟩) ?_)
  refine dqo_start ?_
  intro af0 hA
  have Z := size_lit (n := 112) hA (by rfl)
  have D := defers_lit hA
  have F1 := ev_lit (t := 1) hA (by rfl)
  have F4 := ev_lit (t := 4) hA (by rfl)
  have F6 := ev_lit (t := 6) hA (by rfl)
  have F7 := ev_lit (t := 7) hA (by rfl)
  have F8 := ev_lit (t := 8) hA (by rfl)
  have F9 := ev_lit (t := 9) hA (by rfl)
  have F11 := ev_lit (t := 11) hA (by rfl)
  clear hA
  refine' dqo_pure (d := 51) (by rfl) (by rfl) Z (by rfl) (wanted_not (by rfl)) ?hv20 ?rest20
  case hv20 => (intro ρ hρ; have E1 := (hρ.1 1).trans F1; have Ec := hρ.2.1; have Ef := hρ.2.2.1; clear hρ; intro w hw; (try dsimp only at hw); go_split_ands; go_simp; try with_reducible rfl)
  case' rest20 => intro af1 Zn Nx
  replace F1 := (Nx.2.2.1 1 rfl).trans F1
  replace F4 := (Nx.2.2.1 4 rfl).trans F4
  replace F6 := (Nx.2.2.1 6 rfl).trans F6
  replace F7 := (Nx.2.2.1 7 rfl).trans F7
  replace F8 := (Nx.2.2.1 8 rfl).trans F8
  replace F9 := (Nx.2.2.1 9 rfl).trans F9
  replace F11 := (Nx.2.2.1 11 rfl).trans F11
  have F51 := Nx.2.1
  replace D := Nx.2.2.2.trans D
  clear Z Nx
  have Z := Zn
  clear Zn af0
  refine' dqo_call (d := 52) (by rfl) (by rfl) Z (by rfl) (wanted_not (by rfl)) ?hv21 ?hc21 ?rest21
  case hv21 => (intro ρ hρ; have E51 := (hρ.1 51).trans F51; have Ec := hρ.2.1; have Ef := hρ.2.2.1; clear hρ; intro w; go_simp; exact ⟨rfl, rfl⟩)
  case hc21 => exact (fun w hw => by first | (with_reducible exact calls_gt (rOf_any _ hmi _)) | (with_reducible exact calls_gt (rOf_any _ hx3 _)) | (with_reducible exact calls_gt (rOf_any _ hy3 _)))
  case' rest21 => intro af2 Zn Nx
  replace F1 := (Nx.2.2.1 1 rfl).trans F1
  replace F4 := (Nx.2.2.1 4 rfl).trans F4
  replace F6 := (Nx.2.2.1 6 rfl).trans F6
  replace F7 := (Nx.2.2.1 7 rfl).trans F7
  replace F8 := (Nx.2.2.1 8 rfl).trans F8
  replace F9 := (Nx.2.2.1 9 rfl).trans F9
  replace F11 := (Nx.2.2.1 11 rfl).trans F11
  clear F51
  have F52 := Nx.2.1
  replace D := Nx.2.2.2.trans D
  clear Z Nx
  have Z := Zn
  clear Zn af1
  refine' dqo_pure (d := 53) (by rfl) (by rfl) Z (by rfl) (wanted_not (by rfl)) ?hv22 ?rest22
  case hv22 => (intro ρ hρ; have E6 := (hρ.1 6).trans F6; have Ec := hρ.2.1; have Ef := hρ.2.2.1; clear hρ; intro w hw; (try dsimp only at hw); go_split_ands; go_simp; try with_reducible rfl)
  case' rest22 => intro af3 Zn Nx
  replace F1 := (Nx.2.2.1 1 rfl).trans F1
  replace F4 := (Nx.2.2.1 4 rfl).trans F4
  replace F6 := (Nx.2.2.1 6 rfl).trans F6
  replace F7 := (Nx.2.2.1 7 rfl).trans F7
  replace F8 := (Nx.2.2.1 8 rfl).trans F8
  replace F9 := (Nx.2.2.1 9 rfl).trans F9
  replace F11 := (Nx.2.2.1 11 rfl).trans F11
  replace F52 := (Nx.2.2.1 52 rfl).trans F52
  have F53 := Nx.2.1
  replace D := Nx.2.2.2.trans D
  clear Z Nx
  have Z := Zn
  clear Zn af2
  refine' dqo_pure (d := 54) (by rfl) (by rfl) Z (by rfl) (wanted_not (by rfl)) ?hv23 ?rest23
  case hv23 => (intro ρ hρ; have E7 := (hρ.1 7).trans F7; have Ec := hρ.2.1; have Ef := hρ.2.2.1; clear hρ; intro w hw; (try dsimp only at hw); go_split_ands; go_simp; try with_reducible rfl)
  case' rest23 => intro af4 Zn Nx
  replace F1 := (Nx.2.2.1 1 rfl).trans F1
  replace F4 := (Nx.2.2.1 4 rfl).trans F4
  replace F6 := (Nx.2.2.1 6 rfl).trans F6
  replace F7 := (Nx.2.2.1 7 rfl).trans F7
  replace F8 := (Nx.2.2.1 8 rfl).trans F8
  replace F9 := (Nx.2.2.1 9 rfl).trans F9
  replace F11 := (Nx.2.2.1 11 rfl).trans F11
  replace F52 := (Nx.2.2.1 52 rfl).trans F52
  replace F53 := (Nx.2.2.1 53 rfl).trans F53
  have F54 := Nx.2.1
  replace D := Nx.2.2.2.trans D
  clear Z Nx
  have Z := Zn
  clear Zn af3
  refine' dqo_pure (d := 55) (by rfl) (by rfl) Z (by rfl) (wanted_not (by rfl)) ?hv24 ?rest24
  case hv24 => (intro ρ hρ; have E8 := (hρ.1 8).trans F8; have Ec := hρ.2.1; have Ef := hρ.2.2.1; clear hρ; intro w hw; (try dsimp only at hw); go_split_ands; go_simp; try with_reducible rfl)
  case' rest24 => intro af5 Zn Nx
  replace F1 := (Nx.2.2.1 1 rfl).trans F1
  replace F4 := (Nx.2.2.1 4 rfl).trans F4
  replace F6 := (Nx.2.2.1 6 rfl).trans F6
  replace F7 := (Nx.2.2.1 7 rfl).trans F7
  replace F8 := (Nx.2.2.1 8 rfl).trans F8
  replace F9 := (Nx.2.2.1 9 rfl).trans F9
  replace F11 := (Nx.2.2.1 11 rfl).trans F11
  replace F52 := (Nx.2.2.1 52 rfl).trans F52
  replace F53 := (Nx.2.2.1 53 rfl).trans F53
  replace F54 := (Nx.2.2.1 54 rfl).trans F54
  have F55 := Nx.2.1
  replace D := Nx.2.2.2.trans D
  clear Z Nx
  have Z := Zn
  clear Zn af4
  refine' dqo_call (d := 56) (by rfl) (by rfl) Z (by rfl) (wanted_not (by rfl)) ?hv25 ?hc25 ?rest25
  case hv25 => (intro ρ hρ; have E53 := (hρ.1 53).trans F53; have E54 := (hρ.1 54).trans F54; have E55 := (hρ.1 55).trans F55; have Ec := hρ.2.1; have Ef := hρ.2.2.1; clear hρ; intro w; go_simp; exact ⟨rfl, rfl⟩)
  case hc25 => exact (fun w hw => calls_gt (kD hx1 hy1 hx2 hy2 hx3 hy3 hC hD _))
  case' rest25 => intro af6 Zn Nx
  replace F1 := (Nx.2.2.1 1 rfl).trans F1
  replace F4 := (Nx.2.2.1 4 rfl).trans F4
  replace F6 := (Nx.2.2.1 6 rfl).trans F6
  replace F7 := (Nx.2.2.1 7 rfl).trans F7
  replace F8 := (Nx.2.2.1 8 rfl).trans F8
  replace F9 := (Nx.2.2.1 9 rfl).trans F9
  replace F11 := (Nx.2.2.1 11 rfl).trans F11
  replace F52 := (Nx.2.2.1 52 rfl).trans F52
  clear F53
  clear F54
  clear F55
  have F56 := Nx.2.1
  replace D := Nx.2.2.2.trans D
  clear Z Nx
  have Z := Zn
  clear Zn af5
  refine' dqo_call (d := 57) (by rfl) (by rfl) Z (by rfl) (wanted_not (by rfl)) ?hv26 ?hc26 ?rest26
  case hv26 => (intro ρ hρ; have E52 := (hρ.1 52).trans F52; have E56 := (hρ.1 56).trans F56; have Ec := hρ.2.1; have Ef := hρ.2.2.1; clear hρ; intro w; go_simp; exact ⟨rfl, rfl⟩)
  case hc26 => exact (fun w hw => by first | (with_reducible exact calls_gt (kM hC hx3 _)) | (with_reducible exact calls_gt (kM hC hy3 _)) | (with_reducible exact calls_gt (kMD hx1 hy1 hx2 hy2 hx3 hy3 hC hD _)))
  case' rest26 => intro af7 Zn Nx
  replace F1 := (Nx.2.2.1 1 rfl).trans F1
  replace F4 := (Nx.2.2.1 4 rfl).trans F4
  replace F6 := (Nx.2.2.1 6 rfl).trans F6
  replace F7 := (Nx.2.2.1 7 rfl).trans F7
  replace F8 := (Nx.2.2.1 8 rfl).trans F8
  replace F9 := (Nx.2.2.1 9 rfl).trans F9
  replace F11 := (Nx.2.2.1 11 rfl).trans F11
  clear F52
  clear F56
  have F57 := Nx.2.1
  replace D := Nx.2.2.2.trans D
  clear Z Nx
  have Z := Zn
  clear Zn af6
  refine' dqo_pure (d := 50) (by rfl) (by rfl) Z (by rfl) (wanted_not (by rfl)) ?hv27 ?rest27
  case hv27 => (intro ρ hρ; have E57 := (hρ.1 57).trans F57; have Ec := hρ.2.1; have Ef := hρ.2.2.1; clear hρ; intro w hw; (try dsimp only at hw); go_split_ands; go_simp; try with_reducible rfl)
  case' rest27 => intro af8 Zn Nx
  replace F1 := (Nx.2.2.1 1 rfl).trans F1
  replace F4 := (Nx.2.2.1 4 rfl).trans F4
  replace F6 := (Nx.2.2.1 6 rfl).trans F6
  replace F7 := (Nx.2.2.1 7 rfl).trans F7
  replace F8 := (Nx.2.2.1 8 rfl).trans F8
  replace F9 := (Nx.2.2.1 9 rfl).trans F9
  replace F11 := (Nx.2.2.1 11 rfl).trans F11
  clear F57
  have F50 := Nx.2.1
  replace D := Nx.2.2.2.trans D
  clear Z Nx
  have Z := Zn
  clear Zn af7
  refine' dqo_pure (d := 58) (by rfl) (by rfl) Z (by rfl) (wanted_not (by rfl)) ?hv28 ?rest28
  case hv28 => (intro ρ hρ; have E50 := (hρ.1 50).trans F50; have Ec := hρ.2.1; have Ef := hρ.2.2.1; clear hρ; intro w hw; (try dsimp only at hw); go_split_ands; go_simp; try with_reducible rfl)
  case' rest28 => intro af9 Zn Nx
  replace F1 := (Nx.2.2.1 1 rfl).trans F1
  replace F4 := (Nx.2.2.1 4 rfl).trans F4
  replace F6 := (Nx.2.2.1 6 rfl).trans F6
  replace F7 := (Nx.2.2.1 7 rfl).trans F7
  replace F8 := (Nx.2.2.1 8 rfl).trans F8
  replace F9 := (Nx.2.2.1 9 rfl).trans F9
  replace F11 := (Nx.2.2.1 11 rfl).trans F11
  replace F50 := (Nx.2.2.1 50 rfl).trans F50
  have F58 := Nx.2.1
  replace D := Nx.2.2.2.trans D
  clear Z Nx
  have Z := Zn
  clear Zn af8
  refine' dqo_late (d := 59) (by rfl) (by rfl) Z (by rfl) (wanted_not (by rfl)) ?hv29 ?rest29
  case hv29 => (intro ρ hρ; have E50 := (hρ.1 50).trans F50; have Ec := hρ.2.1; have Ef := hρ.2.2.1; clear hρ; intro w; go_simp; try with_reducible rfl)
  case' rest29 => intro af10 Zn Nx
  replace F1 := (Nx.2.2.1 1 rfl).trans F1
  replace F4 := (Nx.2.2.1 4 rfl).trans F4
  replace F6 := (Nx.2.2.1 6 rfl).trans F6
  replace F7 := (Nx.2.2.1 7 rfl).trans F7
  replace F8 := (Nx.2.2.1 8 rfl).trans F8
  replace F9 := (Nx.2.2.1 9 rfl).trans F9
  replace F11 := (Nx.2.2.1 11 rfl).trans F11
  clear F50
  replace F58 := (Nx.2.2.1 58 rfl).trans F58
  have F59 := Nx.2.1
  replace D := Nx.2.2.2.trans D
  clear Z Nx
  have Z := Zn
  clear Zn af9
  refine dq_nil ?_
  refine fa_box Z (by rfl) ?_
  intro p13 hp13 hd13 af11 Zn Nx
  replace F1 := (Nx.2.2.1 1 rfl).trans F1
  replace F4 := (Nx.2.2.1 4 rfl).trans F4
  replace F6 := (Nx.2.2.1 6 rfl).trans F6
  replace F7 := (Nx.2.2.1 7 rfl).trans F7
  replace F8 := (Nx.2.2.1 8 rfl).trans F8
  replace F9 := (Nx.2.2.1 9 rfl).trans F9
  replace F11 := (Nx.2.2.1 11 rfl).trans F11
  replace F58 := (Nx.2.2.1 58 rfl).trans F58
  replace F59 := (Nx.2.2.1 59 rfl).trans F59
  have F13 := Nx.2.1
  replace D := Nx.2.2.2.trans D
  clear Z Nx
  have Z := Zn
  clear Zn af10
  refine fa_nil ?_
  rintro W ⟨⟨hb0, hn0, ⟨B1, B1c, B1f, B1l⟩, ⟨B2, B2c, B2f, B2l⟩, ⟨B3, B3c, B3f, B3l⟩, ⟨B4, B4c, B4f, B4l⟩, ⟨B5, B5c, B5f, B5l⟩⟩, hgl⟩ hbs
  obtain ⟨P13, P13c, P13f, P13l⟩ := Bx.of (hbs (p13, #[.bool false, .int .u64 0, .int .u64 0, .int .u64 0, .int .u64 0]) (by simp))
  clear hd13
  clear hbs hgl
  obtain ⟨ρ, hρ⟩ := rho_of af11
  have hL := act_lit (l := [ρ (.tmp 0), _, ρ (.tmp 2), ρ (.tmp 3), _, ρ (.tmp 5), _, _, _, _, ρ (.tmp 10), _, ρ (.tmp 12), _, ρ (.tmp 14), ρ (.tmp 15), ρ (.tmp 16), ρ (.tmp 17), ρ (.tmp 18), ρ (.tmp 19), ρ (.tmp 20), ρ (.tmp 21), ρ (.tmp 22), ρ (.tmp 23), ρ (.tmp 24), ρ (.tmp 25), ρ (.tmp 26), ρ (.tmp 27), ρ (.tmp 28), ρ (.tmp 29), ρ (.tmp 30), ρ (.tmp 31), ρ (.tmp 32), ρ (.tmp 33), ρ (.tmp 34), ρ (.tmp 35), ρ (.tmp 36), ρ (.tmp 37), ρ (.tmp 38), ρ (.tmp 39), ρ (.tmp 40), ρ (.tmp 41), ρ (.tmp 42), ρ (.tmp 43), ρ (.tmp 44), ρ (.tmp 45), ρ (.tmp 46), ρ (.tmp 47), ρ (.tmp 48), ρ (.tmp 49), ρ (.tmp 50), ρ (.tmp 51), ρ (.tmp 52), ρ (.tmp 53), ρ (.tmp 54), ρ (.tmp 55), ρ (.tmp 56), ρ (.tmp 57), _, _, ρ (.tmp 60), ρ (.tmp 61), ρ (.tmp 62), ρ (.tmp 63), ρ (.tmp 64), ρ (.tmp 65), ρ (.tmp 66), ρ (.tmp 67), ρ (.tmp 68), ρ (.tmp 69), ρ (.tmp 70), ρ (.tmp 71), ρ (.tmp 72), ρ (.tmp 73), ρ (.tmp 74), ρ (.tmp 75), ρ (.tmp 76), ρ (.tmp 77), ρ (.tmp 78), ρ (.tmp 79), ρ (.tmp 80), ρ (.tmp 81), ρ (.tmp 82), ρ (.tmp 83), ρ (.tmp 84), ρ (.tmp 85), ρ (.tmp 86), ρ (.tmp 87), ρ (.tmp 88), ρ (.tmp 89), ρ (.tmp 90), ρ (.tmp 91), ρ (.tmp 92), ρ (.tmp 93), ρ (.tmp 94), ρ (.tmp 95), ρ (.tmp 96), ρ (.tmp 97), ρ (.tmp 98), ρ (.tmp 99), ρ (.tmp 100), ρ (.tmp 101), ρ (.tmp 102), ρ (.tmp 103), ρ (.tmp 104), ρ (.tmp 105), ρ (.tmp 106), ρ (.tmp 107), ρ (.tmp 108), ρ (.tmp 109), ρ (.tmp 110), ρ (.tmp 111)]) Z D (by rfl) ⟨hρ 0, F1, hρ 2, hρ 3, F4, hρ 5, F6, F7, F8, F9, hρ 10, F11, hρ 12, F13, hρ 14, hρ 15, hρ 16, hρ 17, hρ 18, hρ 19, hρ 20, hρ 21, hρ 22, hρ 23, hρ 24, hρ 25, hρ 26, hρ 27, hρ 28, hρ 29, hρ 30, hρ 31, hρ 32, hρ 33, hρ 34, hρ 35, hρ 36, hρ 37, hρ 38, hρ 39, hρ 40, hρ 41, hρ 42, hρ 43, hρ 44, hρ 45, hρ 46, hρ 47, hρ 48, hρ 49, hρ 50, hρ 51, hρ 52, hρ 53, hρ 54, hρ 55, hρ 56, hρ 57, F58, F59, hρ 60, hρ 61, hρ 62, hρ 63, hρ 64, hρ 65, hρ 66, hρ 67, hρ 68, hρ 69, hρ 70, hρ 71, hρ 72, hρ 73, hρ 74, hρ 75, hρ 76, hρ 77, hρ 78, hρ 79, hρ 80, hρ 81, hρ 82, hρ 83, hρ 84, hρ 85, hρ 86, hρ 87, hρ 88, hρ 89, hρ 90, hρ 91, hρ 92, hρ 93, hρ 94, hρ 95, hρ 96, hρ 97, hρ 98, hρ 99, hρ 100, hρ 101, hρ 102, hρ 103, hρ 104, hρ 105, hρ 106, hρ 107, hρ 108, hρ 109, hρ 110, hρ 111, trivial⟩
  clear hρ Z D F1 F4 F6 F7 F8 F9 F11 F13 F58 F59
  subst hL
  simp only [List.drop_succ_cons, List.drop_zero]
  rename World => V6
  (repeat' (first | go_values | go_skip | go_guarded | go_step | go_upon | (simp only [Int.not_lt, Int.not_le] at *; go_simp) | (go_values <;> (try go_simp)) | (go_ite <;> go_prune <;> (try go_simp)) | (split <;> (first | (rename_i hx; exact (hx _ rfl).elim) | go_prune))))
  (refine wp_region_dq (row := none) (S := (fun Wz => Below w.heap.size w Wz ∧ V6.heap.size ≤ Wz.heap.size ∧ Bx Wz (wp.heap.size) (#[.int .i64 x1, .int .i64 y1]) ∧ Bx Wz (wp.heap.size + 1) (#[.int .i64 x2, .int .i64 y2]) ∧ Bx Wz (wp.heap.size + 1 + 1) (#[.int .i64 x3, .int .i64 y3]) ∧ Bx Wz (p9) (#[.bool (sg (m * x3)), .int .u64 (lb0 (ab (m * x3))), .int .u64 (lb1 (ab (m * x3))), .int .u64 (lb2 (ab (m * x3))), .int .u64 (lb3 (ab (m * x3)))]) ∧ Bx Wz (p11) (#[.bool (sg (m * y3)), .int .u64 (lb0 (ab (m * y3))), .int .u64 (lb1 (ab (m * y3))), .int .u64 (lb2 (ab (m * y3))), .int .u64 (lb3 (ab (m * y3)))]) ∧ Bx Wz (p13) (#[.bool (sg (m * D)), .int .u64 (lb0 (ab (m * D))), .int .u64 (lb1 (ab (m * D))), .int .u64 (lb2 (ab (m * D))), .int .u64 (lb3 (ab (m * D)))]))) (n0 := V6.heap.size) 9 [7] [(0, 0), (1, 0), (2, 0), (3, 0), (4, 0), (5, 0), (6, 0), (7, 2)] [(8, 15, #[.bool false, .int .u64 0, .int .u64 0, .int .u64 0, .int .u64 0])] (by kernel_rfl) (by kernel_rfl) (fun _ _ d _ _ h => by cases d <;> exact h) (by refine ⟨?b, ?n, ?_, ?_, ?_, ?_, ?_, ?_⟩; (case b => (repeat' (first | (with_reducible assumption) | (with_reducible exact Below.refl _ _) | (with_reducible refine Below.alloc ?_ ?_ _) | (with_reducible refine Below.setCell ?_ ?_ _) | (with_reducible refine Below.drew ?_) | (with_reducible refine below_more ?_ (by with_reducible assumption)) | go_size | omega | (with_reducible refine below_drewN ?_)))); (case n => (first | go_size | omega)); all_goals (refine Bx.of ?_; (repeat' (first | (with_reducible assumption) | ((with_reducible refine HB.new _ _ _ ?_) <;> (go_size; done)) | (with_reducible refine HB.old (by go_size) ?_) | (with_reducible refine HB.drew ?_) | (with_reducible refine HB.over5 ?_) | (with_reducible refine HB.over4 ?_) | (with_reducible refine HB.setne (by first | go_size | (dsimp only; omega)) ?_) | (with_reducible refine HN.set ?_) | (with_reducible refine HN.setne (by first | go_size | (dsimp only; omega)) ?_) | (with_reducible refine HN.drew ?_) | (with_reducible refine HN.old (by go_size) ?_) | (with_reducible exact HN.of5 (by assumption)) | (with_reducible exact HN.new5 _ _ (by go_size)) | (with_reducible exact HN.of4 (by assumption)) | (with_reducible exact HN.new4 _ _ (by go_size)))))) (fun _ _ h g => keep6 h (below_gt g) rfl) (fun _ h => h.2.1) (fun _ h => by cases h) (by intro x hx; simp only [List.mem_cons, List.not_mem_nil, or_false] at hx; rcases hx with rfl <;> exact ⟨_, rfl, rfl, rfl, rfl, fun ρ w => ⟨27, by kernel_rfl⟩⟩) ?_)
  refine dqo_start ?_
  intro af0 hA
  have Z := size_lit (n := 112) hA (by rfl)
  have D := defers_lit hA
  have F1 := ev_lit (t := 1) hA (by rfl)
  have F4 := ev_lit (t := 4) hA (by rfl)
  have F6 := ev_lit (t := 6) hA (by rfl)
  have F7 := ev_lit (t := 7) hA (by rfl)
  have F8 := ev_lit (t := 8) hA (by rfl)
  have F9 := ev_lit (t := 9) hA (by rfl)
  have F11 := ev_lit (t := 11) hA (by rfl)
  have F13 := ev_lit (t := 13) hA (by rfl)
  clear hA
  refine' dqo_pure (d := 61) (by rfl) (by rfl) Z (by rfl) (wanted_not (by rfl)) ?hv30 ?rest30
  case hv30 => (intro ρ hρ; have E9 := (hρ.1 9).trans F9; have Ec := hρ.2.1; have Ef := hρ.2.2.1; clear hρ; intro w hw; (try dsimp only at hw); go_split_ands; go_simp; try with_reducible rfl)
  case' rest30 => intro af1 Zn Nx
  replace F1 := (Nx.2.2.1 1 rfl).trans F1
  replace F4 := (Nx.2.2.1 4 rfl).trans F4
  replace F6 := (Nx.2.2.1 6 rfl).trans F6
  replace F7 := (Nx.2.2.1 7 rfl).trans F7
  replace F8 := (Nx.2.2.1 8 rfl).trans F8
  replace F9 := (Nx.2.2.1 9 rfl).trans F9
  replace F11 := (Nx.2.2.1 11 rfl).trans F11
  replace F13 := (Nx.2.2.1 13 rfl).trans F13
  have F61 := Nx.2.1
  replace D := Nx.2.2.2.trans D
  clear Z Nx
  have Z := Zn
  clear Zn af0
  refine' dqo_pure (d := 62) (by rfl) (by rfl) Z (by rfl) (wanted_not (by rfl)) ?hv31 ?rest31
  case hv31 => (intro ρ hρ; have E8 := (hρ.1 8).trans F8; have Ec := hρ.2.1; have Ef := hρ.2.2.1; clear hρ; intro w hw; (try dsimp only at hw); go_split_ands; go_simp; try with_reducible rfl)
  case' rest31 => intro af2 Zn Nx
  replace F1 := (Nx.2.2.1 1 rfl).trans F1
  replace F4 := (Nx.2.2.1 4 rfl).trans F4
  replace F6 := (Nx.2.2.1 6 rfl).trans F6
  replace F7 := (Nx.2.2.1 7 rfl).trans F7
  replace F8 := (Nx.2.2.1 8 rfl).trans F8
  replace F9 := (Nx.2.2.1 9 rfl).trans F9
  replace F11 := (Nx.2.2.1 11 rfl).trans F11
  replace F13 := (Nx.2.2.1 13 rfl).trans F13
  replace F61 := (Nx.2.2.1 61 rfl).trans F61
  have F62 := Nx.2.1
  replace D := Nx.2.2.2.trans D
  clear Z Nx
  have Z := Zn
  clear Zn af1
  refine' dqo_pure (d := 63) (by rfl) (by rfl) Z (by rfl) (wanted_not (by rfl)) ?hv32 ?rest32
  case hv32 => (intro ρ hρ; have E62 := (hρ.1 62).trans F62; have Ec := hρ.2.1; have Ef := hρ.2.2.1; clear hρ; intro w hw; (try dsimp only at hw); go_split_ands; go_simp; try with_reducible rfl)
  case' rest32 => intro af3 Zn Nx
  replace F1 := (Nx.2.2.1 1 rfl).trans F1
  replace F4 := (Nx.2.2.1 4 rfl).trans F4
  replace F6 := (Nx.2.2.1 6 rfl).trans F6
  replace F7 := (Nx.2.2.1 7 rfl).trans F7
  replace F8 := (Nx.2.2.1 8 rfl).trans F8
  replace F9 := (Nx.2.2.1 9 rfl).trans F9
  replace F11 := (Nx.2.2.1 11 rfl).trans F11
  replace F13 := (Nx.2.2.1 13 rfl).trans F13
  replace F61 := (Nx.2.2.1 61 rfl).trans F61
  clear F62
  have F63 := Nx.2.1
  replace D := Nx.2.2.2.trans D
  clear Z Nx
  have Z := Zn
  clear Zn af2
  refine' dqo_call (d := 64) (by rfl) (by rfl) Z (by rfl) (wanted_not (by rfl)) ?hv33 ?hc33 ?rest33
  case hv33 => (intro ρ hρ; have E63 := (hρ.1 63).trans F63; have Ec := hρ.2.1; have Ef := hρ.2.2.1; clear hρ; intro w; go_simp; exact ⟨rfl, rfl⟩)
  case hc33 => exact (fun w hw => by first | (with_reducible exact calls_gt (rOf_any _ hmi _)) | (with_reducible exact calls_gt (rOf_any _ hx3 _)) | (with_reducible exact calls_gt (rOf_any _ hy3 _)))
  case' rest33 => intro af4 Zn Nx
  replace F1 := (Nx.2.2.1 1 rfl).trans F1
  replace F4 := (Nx.2.2.1 4 rfl).trans F4
  replace F6 := (Nx.2.2.1 6 rfl).trans F6
  replace F7 := (Nx.2.2.1 7 rfl).trans F7
  replace F8 := (Nx.2.2.1 8 rfl).trans F8
  replace F9 := (Nx.2.2.1 9 rfl).trans F9
  replace F11 := (Nx.2.2.1 11 rfl).trans F11
  replace F13 := (Nx.2.2.1 13 rfl).trans F13
  replace F61 := (Nx.2.2.1 61 rfl).trans F61
  clear F63
  have F64 := Nx.2.1
  replace D := Nx.2.2.2.trans D
  clear Z Nx
  have Z := Zn
  clear Zn af3
  refine' dqo_call (d := 65) (by rfl) (by rfl) Z (by rfl) (wanted_not (by rfl)) ?hv34 ?hc34 ?rest34
  case hv34 => (intro ρ hρ; have E61 := (hρ.1 61).trans F61; have E64 := (hρ.1 64).trans F64; have Ec := hρ.2.1; have Ef := hρ.2.2.1; clear hρ; intro w; go_simp; exact ⟨rfl, rfl⟩)
  case hc34 => exact (fun w hw => by first | (with_reducible exact calls_gt (kA hC hx3 _)) | (with_reducible exact calls_gt (kA hC hy3 _)))
  case' rest34 => intro af5 Zn Nx
  replace F1 := (Nx.2.2.1 1 rfl).trans F1
  replace F4 := (Nx.2.2.1 4 rfl).trans F4
  replace F6 := (Nx.2.2.1 6 rfl).trans F6
  replace F7 := (Nx.2.2.1 7 rfl).trans F7
  replace F8 := (Nx.2.2.1 8 rfl).trans F8
  replace F9 := (Nx.2.2.1 9 rfl).trans F9
  replace F11 := (Nx.2.2.1 11 rfl).trans F11
  replace F13 := (Nx.2.2.1 13 rfl).trans F13
  clear F61
  clear F64
  have F65 := Nx.2.1
  replace D := Nx.2.2.2.trans D
  clear Z Nx
  have Z := Zn
  clear Zn af4
  refine' dqo_pure (d := 60) (by rfl) (by rfl) Z (by rfl) (wanted_not (by rfl)) ?hv35 ?rest35
  case hv35 => (intro ρ hρ; have E65 := (hρ.1 65).trans F65; have Ec := hρ.2.1; have Ef := hρ.2.2.1; clear hρ; intro w hw; (try dsimp only at hw); go_split_ands; go_simp; try with_reducible rfl)
  case' rest35 => intro af6 Zn Nx
  replace F1 := (Nx.2.2.1 1 rfl).trans F1
  replace F4 := (Nx.2.2.1 4 rfl).trans F4
  replace F6 := (Nx.2.2.1 6 rfl).trans F6
  replace F7 := (Nx.2.2.1 7 rfl).trans F7
  replace F8 := (Nx.2.2.1 8 rfl).trans F8
  replace F9 := (Nx.2.2.1 9 rfl).trans F9
  replace F11 := (Nx.2.2.1 11 rfl).trans F11
  replace F13 := (Nx.2.2.1 13 rfl).trans F13
  clear F65
  have F60 := Nx.2.1
  replace D := Nx.2.2.2.trans D
  clear Z Nx
  have Z := Zn
  clear Zn af5
  refine' dqo_pure (d := 66) (by rfl) (by rfl) Z (by rfl) (wanted_not (by rfl)) ?hv36 ?rest36
  case hv36 => (intro ρ hρ; have E60 := (hρ.1 60).trans F60; have Ec := hρ.2.1; have Ef := hρ.2.2.1; clear hρ; intro w hw; (try dsimp only at hw); go_split_ands; go_simp; try with_reducible rfl)
  case' rest36 => intro af7 Zn Nx
  replace F1 := (Nx.2.2.1 1 rfl).trans F1
  replace F4 := (Nx.2.2.1 4 rfl).trans F4
  replace F6 := (Nx.2.2.1 6 rfl).trans F6
  replace F7 := (Nx.2.2.1 7 rfl).trans F7
  replace F8 := (Nx.2.2.1 8 rfl).trans F8
  replace F9 := (Nx.2.2.1 9 rfl).trans F9
  replace F11 := (Nx.2.2.1 11 rfl).trans F11
  replace F13 := (Nx.2.2.1 13 rfl).trans F13
  replace F60 := (Nx.2.2.1 60 rfl).trans F60
  have F66 := Nx.2.1
  replace D := Nx.2.2.2.trans D
  clear Z Nx
  have Z := Zn
  clear Zn af6
  refine' dqo_late (d := 67) (by rfl) (by rfl) Z (by rfl) (wanted_not (by rfl)) ?hv37 ?rest37
  case hv37 => (intro ρ hρ; have E60 := (hρ.1 60).trans F60; have Ec := hρ.2.1; have Ef := hρ.2.2.1; clear hρ; intro w; go_simp; try with_reducible rfl)
  case' rest37 => intro af8 Zn Nx
  replace F1 := (Nx.2.2.1 1 rfl).trans F1
  replace F4 := (Nx.2.2.1 4 rfl).trans F4
  replace F6 := (Nx.2.2.1 6 rfl).trans F6
  replace F7 := (Nx.2.2.1 7 rfl).trans F7
  replace F8 := (Nx.2.2.1 8 rfl).trans F8
  replace F9 := (Nx.2.2.1 9 rfl).trans F9
  replace F11 := (Nx.2.2.1 11 rfl).trans F11
  replace F13 := (Nx.2.2.1 13 rfl).trans F13
  clear F60
  replace F66 := (Nx.2.2.1 66 rfl).trans F66
  have F67 := Nx.2.1
  replace D := Nx.2.2.2.trans D
  clear Z Nx
  have Z := Zn
  clear Zn af7
  refine dq_nil ?_
  refine fa_box Z (by rfl) ?_
  intro p15 hp15 hd15 af9 Zn Nx
  replace F1 := (Nx.2.2.1 1 rfl).trans F1
  replace F4 := (Nx.2.2.1 4 rfl).trans F4
  replace F6 := (Nx.2.2.1 6 rfl).trans F6
  replace F7 := (Nx.2.2.1 7 rfl).trans F7
  replace F8 := (Nx.2.2.1 8 rfl).trans F8
  replace F9 := (Nx.2.2.1 9 rfl).trans F9
  replace F11 := (Nx.2.2.1 11 rfl).trans F11
  replace F13 := (Nx.2.2.1 13 rfl).trans F13
  replace F66 := (Nx.2.2.1 66 rfl).trans F66
  replace F67 := (Nx.2.2.1 67 rfl).trans F67
  have F15 := Nx.2.1
  replace D := Nx.2.2.2.trans D
  clear Z Nx
  have Z := Zn
  clear Zn af8
  refine fa_nil ?_
  rintro W ⟨⟨hb0, hn0, ⟨B1, B1c, B1f, B1l⟩, ⟨B2, B2c, B2f, B2l⟩, ⟨B3, B3c, B3f, B3l⟩, ⟨B4, B4c, B4f, B4l⟩, ⟨B5, B5c, B5f, B5l⟩, ⟨B6, B6c, B6f, B6l⟩⟩, hgl⟩ hbs
  obtain ⟨P15, P15c, P15f, P15l⟩ := Bx.of (hbs (p15, #[.bool false, .int .u64 0, .int .u64 0, .int .u64 0, .int .u64 0]) (by simp))
  clear hd15
  clear hbs hgl
  obtain ⟨ρ, hρ⟩ := rho_of af9
  have hL := act_lit (l := [ρ (.tmp 0), _, ρ (.tmp 2), ρ (.tmp 3), _, ρ (.tmp 5), _, _, _, _, ρ (.tmp 10), _, ρ (.tmp 12), _, ρ (.tmp 14), _, ρ (.tmp 16), ρ (.tmp 17), ρ (.tmp 18), ρ (.tmp 19), ρ (.tmp 20), ρ (.tmp 21), ρ (.tmp 22), ρ (.tmp 23), ρ (.tmp 24), ρ (.tmp 25), ρ (.tmp 26), ρ (.tmp 27), ρ (.tmp 28), ρ (.tmp 29), ρ (.tmp 30), ρ (.tmp 31), ρ (.tmp 32), ρ (.tmp 33), ρ (.tmp 34), ρ (.tmp 35), ρ (.tmp 36), ρ (.tmp 37), ρ (.tmp 38), ρ (.tmp 39), ρ (.tmp 40), ρ (.tmp 41), ρ (.tmp 42), ρ (.tmp 43), ρ (.tmp 44), ρ (.tmp 45), ρ (.tmp 46), ρ (.tmp 47), ρ (.tmp 48), ρ (.tmp 49), ρ (.tmp 50), ρ (.tmp 51), ρ (.tmp 52), ρ (.tmp 53), ρ (.tmp 54), ρ (.tmp 55), ρ (.tmp 56), ρ (.tmp 57), ρ (.tmp 58), ρ (.tmp 59), ρ (.tmp 60), ρ (.tmp 61), ρ (.tmp 62), ρ (.tmp 63), ρ (.tmp 64), ρ (.tmp 65), _, _, ρ (.tmp 68), ρ (.tmp 69), ρ (.tmp 70), ρ (.tmp 71), ρ (.tmp 72), ρ (.tmp 73), ρ (.tmp 74), ρ (.tmp 75), ρ (.tmp 76), ρ (.tmp 77), ρ (.tmp 78), ρ (.tmp 79), ρ (.tmp 80), ρ (.tmp 81), ρ (.tmp 82), ρ (.tmp 83), ρ (.tmp 84), ρ (.tmp 85), ρ (.tmp 86), ρ (.tmp 87), ρ (.tmp 88), ρ (.tmp 89), ρ (.tmp 90), ρ (.tmp 91), ρ (.tmp 92), ρ (.tmp 93), ρ (.tmp 94), ρ (.tmp 95), ρ (.tmp 96), ρ (.tmp 97), ρ (.tmp 98), ρ (.tmp 99), ρ (.tmp 100), ρ (.tmp 101), ρ (.tmp 102), ρ (.tmp 103), ρ (.tmp 104), ρ (.tmp 105), ρ (.tmp 106), ρ (.tmp 107), ρ (.tmp 108), ρ (.tmp 109), ρ (.tmp 110), ρ (.tmp 111)]) Z D (by rfl) ⟨hρ 0, F1, hρ 2, hρ 3, F4, hρ 5, F6, F7, F8, F9, hρ 10, F11, hρ 12, F13, hρ 14, F15, hρ 16, hρ 17, hρ 18, hρ 19, hρ 20, hρ 21, hρ 22, hρ 23, hρ 24, hρ 25, hρ 26, hρ 27, hρ 28, hρ 29, hρ 30, hρ 31, hρ 32, hρ 33, hρ 34, hρ 35, hρ 36, hρ 37, hρ 38, hρ 39, hρ 40, hρ 41, hρ 42, hρ 43, hρ 44, hρ 45, hρ 46, hρ 47, hρ 48, hρ 49, hρ 50, hρ 51, hρ 52, hρ 53, hρ 54, hρ 55, hρ 56, hρ 57, hρ 58, hρ 59, hρ 60, hρ 61, hρ 62, hρ 63, hρ 64, hρ 65, F66, F67, hρ 68, hρ 69, hρ 70, hρ 71, hρ 72, hρ 73, hρ 74, hρ 75, hρ 76, hρ 77, hρ 78, hρ 79, hρ 80, hρ 81, hρ 82, hρ 83, hρ 84, hρ 85, hρ 86, hρ 87, hρ 88, hρ 89, hρ 90, hρ 91, hρ 92, hρ 93, hρ 94, hρ 95, hρ 96, hρ 97, hρ 98, hρ 99, hρ 100, hρ 101, hρ 102, hρ 103, hρ 104, hρ 105, hρ 106, hρ 107, hρ 108, hρ 109, hρ 110, hρ 111, trivial⟩
  clear hρ Z D F1 F4 F6 F7 F8 F9 F11 F13 F15 F66 F67
  subst hL
  simp only [List.drop_succ_cons, List.drop_zero]
  rename World => V7
  (repeat' (first | go_values | go_skip | go_guarded | go_step | go_upon | (simp only [Int.not_lt, Int.not_le] at *; go_simp) | (go_values <;> (try go_simp)) | (go_ite <;> go_prune <;> (try go_simp)) | (split <;> (first | (rename_i hx; exact (hx _ rfl).elim) | go_prune))))
  (refine wp_region_dq (row := none) (S := (fun Wz => Below w.heap.size w Wz ∧ V7.heap.size ≤ Wz.heap.size ∧ Bx Wz (wp.heap.size) (#[.int .i64 x1, .int .i64 y1]) ∧ Bx Wz (wp.heap.size + 1) (#[.int .i64 x2, .int .i64 y2]) ∧ Bx Wz (wp.heap.size + 1 + 1) (#[.int .i64 x3, .int .i64 y3]) ∧ Bx Wz (p9) (#[.bool (sg (m * x3)), .int .u64 (lb0 (ab (m * x3))), .int .u64 (lb1 (ab (m * x3))), .int .u64 (lb2 (ab (m * x3))), .int .u64 (lb3 (ab (m * x3)))]) ∧ Bx Wz (p11) (#[.bool (sg (m * y3)), .int .u64 (lb0 (ab (m * y3))), .int .u64 (lb1 (ab (m * y3))), .int .u64 (lb2 (ab (m * y3))), .int .u64 (lb3 (ab (m * y3)))]) ∧ Bx Wz (p13) (#[.bool (sg (m * D)), .int .u64 (lb0 (ab (m * D))), .int .u64 (lb1 (ab (m * D))), .int .u64 (lb2 (ab (m * D))), .int .u64 (lb3 (ab (m * D)))]) ∧ Bx Wz (p15) (#[.bool (sg (m * x3 + x3)), .int .u64 (lb0 (ab (m * x3 + x3))), .int .u64 (lb1 (ab (m * x3 + x3))), .int .u64 (lb2 (ab (m * x3 + x3))), .int .u64 (lb3 (ab (m * x3 + x3)))]))) (n0 := V7.heap.size) 9 [7] [(0, 0), (1, 0), (2, 0), (3, 0), (4, 0), (5, 0), (6, 0), (7, 2)] [(8, 17, #[.bool false, .int .u64 0, .int .u64 0, .int .u64 0, .int .u64 0])] (by kernel_rfl) (by kernel_rfl) (fun _ _ d _ _ h => by cases d <;> exact h) (by refine ⟨?b, ?n, ?_, ?_, ?_, ?_, ?_, ?_, ?_⟩; (case b => (repeat' (first | (with_reducible assumption) | (with_reducible exact Below.refl _ _) | (with_reducible refine Below.alloc ?_ ?_ _) | (with_reducible refine Below.setCell ?_ ?_ _) | (with_reducible refine Below.drew ?_) | (with_reducible refine below_more ?_ (by with_reducible assumption)) | go_size | omega | (with_reducible refine below_drewN ?_)))); (case n => (first | go_size | omega)); all_goals (refine Bx.of ?_; (repeat' (first | (with_reducible assumption) | ((with_reducible refine HB.new _ _ _ ?_) <;> (go_size; done)) | (with_reducible refine HB.old (by go_size) ?_) | (with_reducible refine HB.drew ?_) | (with_reducible refine HB.over5 ?_) | (with_reducible refine HB.over4 ?_) | (with_reducible refine HB.setne (by first | go_size | (dsimp only; omega)) ?_) | (with_reducible refine HN.set ?_) | (with_reducible refine HN.setne (by first | go_size | (dsimp only; omega)) ?_) | (with_reducible refine HN.drew ?_) | (with_reducible refine HN.old (by go_size) ?_) | (with_reducible exact HN.of5 (by assumption)) | (with_reducible exact HN.new5 _ _ (by go_size)) | (with_reducible exact HN.of4 (by assumption)) | (with_reducible exact HN.new4 _ _ (by go_size)))))) (fun _ _ h g => keep7 h (below_gt g) rfl) (fun _ h => h.2.1) (fun _ h => by cases h) (by intro x hx; simp only [List.mem_cons, List.not_mem_nil, or_false] at hx; rcases hx with rfl <;> exact ⟨_, rfl, rfl, rfl, rfl, fun ρ w => ⟨27, by kernel_rfl⟩⟩) ?_)
  refine dqo_start ?_
  intro af0 hA
  have Z := size_lit (n := 112) hA (by rfl)
  have D := defers_lit hA
  have F1 := ev_lit (t := 1) hA (by rfl)
  have F4 := ev_lit (t := 4) hA (by rfl)
  have F6 := ev_lit (t := 6) hA (by rfl)
  have F7 := ev_lit (t := 7) hA (by rfl)
  have F8 := ev_lit (t := 8) hA (by rfl)
  have F9 := ev_lit (t := 9) hA (by rfl)
  have F11 := ev_lit (t := 11) hA (by rfl)
  have F13 := ev_lit (t := 13) hA (by rfl)
  have F15 := ev_lit (t := 15) hA (by rfl)
  clear hA
  refine' dqo_pure (d := 69) (by rfl) (by rfl) Z (by rfl) (wanted_not (by rfl)) ?hv38 ?rest38
  case hv38 => (intro ρ hρ; have E11 := (hρ.1 11).trans F11; have Ec := hρ.2.1; have Ef := hρ.2.2.1; clear hρ; intro w hw; (try dsimp only at hw); go_split_ands; go_simp; try with_reducible rfl)
  case' rest38 => intro af1 Zn Nx
  replace F1 := (Nx.2.2.1 1 rfl).trans F1
  replace F4 := (Nx.2.2.1 4 rfl).trans F4
  replace F6 := (Nx.2.2.1 6 rfl).trans F6
  replace F7 := (Nx.2.2.1 7 rfl).trans F7
  replace F8 := (Nx.2.2.1 8 rfl).trans F8
  replace F9 := (Nx.2.2.1 9 rfl).trans F9
  replace F11 := (Nx.2.2.1 11 rfl).trans F11
  replace F13 := (Nx.2.2.1 13 rfl).trans F13
  replace F15 := (Nx.2.2.1 15 rfl).trans F15
  have F69 := Nx.2.1
  replace D := Nx.2.2.2.trans D
  clear Z Nx
  have Z := Zn
  clear Zn af0
  refine' dqo_pure (d := 70) (by rfl) (by rfl) Z (by rfl) (wanted_not (by rfl)) ?hv39 ?rest39
  case hv39 => (intro ρ hρ; have E8 := (hρ.1 8).trans F8; have Ec := hρ.2.1; have Ef := hρ.2.2.1; clear hρ; intro w hw; (try dsimp only at hw); go_split_ands; go_simp; try with_reducible rfl)
  case' rest39 => intro af2 Zn Nx
  replace F1 := (Nx.2.2.1 1 rfl).trans F1
  replace F4 := (Nx.2.2.1 4 rfl).trans F4
  replace F6 := (Nx.2.2.1 6 rfl).trans F6
  replace F7 := (Nx.2.2.1 7 rfl).trans F7
  replace F8 := (Nx.2.2.1 8 rfl).trans F8
  replace F9 := (Nx.2.2.1 9 rfl).trans F9
  replace F11 := (Nx.2.2.1 11 rfl).trans F11
  replace F13 := (Nx.2.2.1 13 rfl).trans F13
  replace F15 := (Nx.2.2.1 15 rfl).trans F15
  replace F69 := (Nx.2.2.1 69 rfl).trans F69
  have F70 := Nx.2.1
  replace D := Nx.2.2.2.trans D
  clear Z Nx
  have Z := Zn
  clear Zn af1
  refine' dqo_pure (d := 71) (by rfl) (by rfl) Z (by rfl) (wanted_not (by rfl)) ?hv40 ?rest40
  case hv40 => (intro ρ hρ; have E70 := (hρ.1 70).trans F70; have Ec := hρ.2.1; have Ef := hρ.2.2.1; clear hρ; intro w hw; (try dsimp only at hw); go_split_ands; go_simp; try with_reducible rfl)
  case' rest40 => intro af3 Zn Nx
  replace F1 := (Nx.2.2.1 1 rfl).trans F1
  replace F4 := (Nx.2.2.1 4 rfl).trans F4
  replace F6 := (Nx.2.2.1 6 rfl).trans F6
  replace F7 := (Nx.2.2.1 7 rfl).trans F7
  replace F8 := (Nx.2.2.1 8 rfl).trans F8
  replace F9 := (Nx.2.2.1 9 rfl).trans F9
  replace F11 := (Nx.2.2.1 11 rfl).trans F11
  replace F13 := (Nx.2.2.1 13 rfl).trans F13
  replace F15 := (Nx.2.2.1 15 rfl).trans F15
  replace F69 := (Nx.2.2.1 69 rfl).trans F69
  clear F70
  have F71 := Nx.2.1
  replace D := Nx.2.2.2.trans D
  clear Z Nx
  have Z := Zn
  clear Zn af2
  refine' dqo_call (d := 72) (by rfl) (by rfl) Z (by rfl) (wanted_not (by rfl)) ?hv41 ?hc41 ?rest41
  case hv41 => (intro ρ hρ; have E71 := (hρ.1 71).trans F71; have Ec := hρ.2.1; have Ef := hρ.2.2.1; clear hρ; intro w; go_simp; exact ⟨rfl, rfl⟩)
  case hc41 => exact (fun w hw => by first | (with_reducible exact calls_gt (rOf_any _ hmi _)) | (with_reducible exact calls_gt (rOf_any _ hx3 _)) | (with_reducible exact calls_gt (rOf_any _ hy3 _)))
  case' rest41 => intro af4 Zn Nx
  replace F1 := (Nx.2.2.1 1 rfl).trans F1
  replace F4 := (Nx.2.2.1 4 rfl).trans F4
  replace F6 := (Nx.2.2.1 6 rfl).trans F6
  replace F7 := (Nx.2.2.1 7 rfl).trans F7
  replace F8 := (Nx.2.2.1 8 rfl).trans F8
  replace F9 := (Nx.2.2.1 9 rfl).trans F9
  replace F11 := (Nx.2.2.1 11 rfl).trans F11
  replace F13 := (Nx.2.2.1 13 rfl).trans F13
  replace F15 := (Nx.2.2.1 15 rfl).trans F15
  replace F69 := (Nx.2.2.1 69 rfl).trans F69
  clear F71
  have F72 := Nx.2.1
  replace D := Nx.2.2.2.trans D
  clear Z Nx
  have Z := Zn
  clear Zn af3
  refine' dqo_call (d := 73) (by rfl) (by rfl) Z (by rfl) (wanted_not (by rfl)) ?hv42 ?hc42 ?rest42
  case hv42 => (intro ρ hρ; have E69 := (hρ.1 69).trans F69; have E72 := (hρ.1 72).trans F72; have Ec := hρ.2.1; have Ef := hρ.2.2.1; clear hρ; intro w; go_simp; exact ⟨rfl, rfl⟩)
  case hc42 => exact (fun w hw => by first | (with_reducible exact calls_gt (kA hC hx3 _)) | (with_reducible exact calls_gt (kA hC hy3 _)))
  case' rest42 => intro af5 Zn Nx
  replace F1 := (Nx.2.2.1 1 rfl).trans F1
  replace F4 := (Nx.2.2.1 4 rfl).trans F4
  replace F6 := (Nx.2.2.1 6 rfl).trans F6
  replace F7 := (Nx.2.2.1 7 rfl).trans F7
  replace F8 := (Nx.2.2.1 8 rfl).trans F8
  replace F9 := (Nx.2.2.1 9 rfl).trans F9
  replace F11 := (Nx.2.2.1 11 rfl).trans F11
  replace F13 := (Nx.2.2.1 13 rfl).trans F13
  replace F15 := (Nx.2.2.1 15 rfl).trans F15
  clear F69
  clear F72
  have F73 := Nx.2.1
  replace D := Nx.2.2.2.trans D
  clear Z Nx
  have Z := Zn
  clear Zn af4
  refine' dqo_pure (d := 68) (by rfl) (by rfl) Z (by rfl) (wanted_not (by rfl)) ?hv43 ?rest43
  case hv43 => (intro ρ hρ; have E73 := (hρ.1 73).trans F73; have Ec := hρ.2.1; have Ef := hρ.2.2.1; clear hρ; intro w hw; (try dsimp only at hw); go_split_ands; go_simp; try with_reducible rfl)
  case' rest43 => intro af6 Zn Nx
  replace F1 := (Nx.2.2.1 1 rfl).trans F1
  replace F4 := (Nx.2.2.1 4 rfl).trans F4
  replace F6 := (Nx.2.2.1 6 rfl).trans F6
  replace F7 := (Nx.2.2.1 7 rfl).trans F7
  replace F8 := (Nx.2.2.1 8 rfl).trans F8
  replace F9 := (Nx.2.2.1 9 rfl).trans F9
  replace F11 := (Nx.2.2.1 11 rfl).trans F11
  replace F13 := (Nx.2.2.1 13 rfl).trans F13
  replace F15 := (Nx.2.2.1 15 rfl).trans F15
  clear F73
  have F68 := Nx.2.1
  replace D := Nx.2.2.2.trans D
  clear Z Nx
  have Z := Zn
  clear Zn af5
  refine' dqo_pure (d := 74) (by rfl) (by rfl) Z (by rfl) (wanted_not (by rfl)) ?hv44 ?rest44
  case hv44 => (intro ρ hρ; have E68 := (hρ.1 68).trans F68; have Ec := hρ.2.1; have Ef := hρ.2.2.1; clear hρ; intro w hw; (try dsimp only at hw); go_split_ands; go_simp; try with_reducible rfl)
  case' rest44 => intro af7 Zn Nx
  replace F1 := (Nx.2.2.1 1 rfl).trans F1
  replace F4 := (Nx.2.2.1 4 rfl).trans F4
  replace F6 := (Nx.2.2.1 6 rfl).trans F6
  replace F7 := (Nx.2.2.1 7 rfl).trans F7
  replace F8 := (Nx.2.2.1 8 rfl).trans F8
  replace F9 := (Nx.2.2.1 9 rfl).trans F9
  replace F11 := (Nx.2.2.1 11 rfl).trans F11
  replace F13 := (Nx.2.2.1 13 rfl).trans F13
  replace F15 := (Nx.2.2.1 15 rfl).trans F15
  replace F68 := (Nx.2.2.1 68 rfl).trans F68
  have F74 := Nx.2.1
  replace D := Nx.2.2.2.trans D
  clear Z Nx
  have Z := Zn
  clear Zn af6
  refine' dqo_late (d := 75) (by rfl) (by rfl) Z (by rfl) (wanted_not (by rfl)) ?hv45 ?rest45
  case hv45 => (intro ρ hρ; have E68 := (hρ.1 68).trans F68; have Ec := hρ.2.1; have Ef := hρ.2.2.1; clear hρ; intro w; go_simp; try with_reducible rfl)
  case' rest45 => intro af8 Zn Nx
  replace F1 := (Nx.2.2.1 1 rfl).trans F1
  replace F4 := (Nx.2.2.1 4 rfl).trans F4
  replace F6 := (Nx.2.2.1 6 rfl).trans F6
  replace F7 := (Nx.2.2.1 7 rfl).trans F7
  replace F8 := (Nx.2.2.1 8 rfl).trans F8
  replace F9 := (Nx.2.2.1 9 rfl).trans F9
  replace F11 := (Nx.2.2.1 11 rfl).trans F11
  replace F13 := (Nx.2.2.1 13 rfl).trans F13
  replace F15 := (Nx.2.2.1 15 rfl).trans F15
  clear F68
  replace F74 := (Nx.2.2.1 74 rfl).trans F74
  have F75 := Nx.2.1
  replace D := Nx.2.2.2.trans D
  clear Z Nx
  have Z := Zn
  clear Zn af7
  refine dq_nil ?_
  refine fa_box Z (by rfl) ?_
  intro p17 hp17 hd17 af9 Zn Nx
  replace F1 := (Nx.2.2.1 1 rfl).trans F1
  replace F4 := (Nx.2.2.1 4 rfl).trans F4
  replace F6 := (Nx.2.2.1 6 rfl).trans F6
  replace F7 := (Nx.2.2.1 7 rfl).trans F7
  replace F8 := (Nx.2.2.1 8 rfl).trans F8
  replace F9 := (Nx.2.2.1 9 rfl).trans F9
  replace F11 := (Nx.2.2.1 11 rfl).trans F11
  replace F13 := (Nx.2.2.1 13 rfl).trans F13
  replace F15 := (Nx.2.2.1 15 rfl).trans F15
  replace F74 := (Nx.2.2.1 74 rfl).trans F74
  replace F75 := (Nx.2.2.1 75 rfl).trans F75
  have F17 := Nx.2.1
  replace D := Nx.2.2.2.trans D
  clear Z Nx
  have Z := Zn
  clear Zn af8
  refine fa_nil ?_
  rintro W ⟨⟨hb0, hn0, ⟨B1, B1c, B1f, B1l⟩, ⟨B2, B2c, B2f, B2l⟩, ⟨B3, B3c, B3f, B3l⟩, ⟨B4, B4c, B4f, B4l⟩, ⟨B5, B5c, B5f, B5l⟩, ⟨B6, B6c, B6f, B6l⟩, ⟨B7, B7c, B7f, B7l⟩⟩, hgl⟩ hbs
  obtain ⟨P17, P17c, P17f, P17l⟩ := Bx.of (hbs (p17, #[.bool false, .int .u64 0, .int .u64 0, .int .u64 0, .int .u64 0]) (by simp))
  clear hd17
  clear hbs hgl
  obtain ⟨ρ, hρ⟩ := rho_of af9
  have hL := act_lit (l := [ρ (.tmp 0), _, ρ (.tmp 2), ρ (.tmp 3), _, ρ (.tmp 5), _, _, _, _, ρ (.tmp 10), _, ρ (.tmp 12), _, ρ (.tmp 14), _, ρ (.tmp 16), _, ρ (.tmp 18), ρ (.tmp 19), ρ (.tmp 20), ρ (.tmp 21), ρ (.tmp 22), ρ (.tmp 23), ρ (.tmp 24), ρ (.tmp 25), ρ (.tmp 26), ρ (.tmp 27), ρ (.tmp 28), ρ (.tmp 29), ρ (.tmp 30), ρ (.tmp 31), ρ (.tmp 32), ρ (.tmp 33), ρ (.tmp 34), ρ (.tmp 35), ρ (.tmp 36), ρ (.tmp 37), ρ (.tmp 38), ρ (.tmp 39), ρ (.tmp 40), ρ (.tmp 41), ρ (.tmp 42), ρ (.tmp 43), ρ (.tmp 44), ρ (.tmp 45), ρ (.tmp 46), ρ (.tmp 47), ρ (.tmp 48), ρ (.tmp 49), ρ (.tmp 50), ρ (.tmp 51), ρ (.tmp 52), ρ (.tmp 53), ρ (.tmp 54), ρ (.tmp 55), ρ (.tmp 56), ρ (.tmp 57), ρ (.tmp 58), ρ (.tmp 59), ρ (.tmp 60), ρ (.tmp 61), ρ (.tmp 62), ρ (.tmp 63), ρ (.tmp 64), ρ (.tmp 65), ρ (.tmp 66), ρ (.tmp 67), ρ (.tmp 68), ρ (.tmp 69), ρ (.tmp 70), ρ (.tmp 71), ρ (.tmp 72), ρ (.tmp 73), _, _, ρ (.tmp 76), ρ (.tmp 77), ρ (.tmp 78), ρ (.tmp 79), ρ (.tmp 80), ρ (.tmp 81), ρ (.tmp 82), ρ (.tmp 83), ρ (.tmp 84), ρ (.tmp 85), ρ (.tmp 86), ρ (.tmp 87), ρ (.tmp 88), ρ (.tmp 89), ρ (.tmp 90), ρ (.tmp 91), ρ (.tmp 92), ρ (.tmp 93), ρ (.tmp 94), ρ (.tmp 95), ρ (.tmp 96), ρ (.tmp 97), ρ (.tmp 98), ρ (.tmp 99), ρ (.tmp 100), ρ (.tmp 101), ρ (.tmp 102), ρ (.tmp 103), ρ (.tmp 104), ρ (.tmp 105), ρ (.tmp 106), ρ (.tmp 107), ρ (.tmp 108), ρ (.tmp 109), ρ (.tmp 110), ρ (.tmp 111)]) Z D (by rfl) ⟨hρ 0, F1, hρ 2, hρ 3, F4, hρ 5, F6, F7, F8, F9, hρ 10, F11, hρ 12, F13, hρ 14, F15, hρ 16, F17, hρ 18, hρ 19, hρ 20, hρ 21, hρ 22, hρ 23, hρ 24, hρ 25, hρ 26, hρ 27, hρ 28, hρ 29, hρ 30, hρ 31, hρ 32, hρ 33, hρ 34, hρ 35, hρ 36, hρ 37, hρ 38, hρ 39, hρ 40, hρ 41, hρ 42, hρ 43, hρ 44, hρ 45, hρ 46, hρ 47, hρ 48, hρ 49, hρ 50, hρ 51, hρ 52, hρ 53, hρ 54, hρ 55, hρ 56, hρ 57, hρ 58, hρ 59, hρ 60, hρ 61, hρ 62, hρ 63, hρ 64, hρ 65, hρ 66, hρ 67, hρ 68, hρ 69, hρ 70, hρ 71, hρ 72, hρ 73, F74, F75, hρ 76, hρ 77, hρ 78, hρ 79, hρ 80, hρ 81, hρ 82, hρ 83, hρ 84, hρ 85, hρ 86, hρ 87, hρ 88, hρ 89, hρ 90, hρ 91, hρ 92, hρ 93, hρ 94, hρ 95, hρ 96, hρ 97, hρ 98, hρ 99, hρ 100, hρ 101, hρ 102, hρ 103, hρ 104, hρ 105, hρ 106, hρ 107, hρ 108, hρ 109, hρ 110, hρ 111, trivial⟩
  clear hρ Z D F1 F4 F6 F7 F8 F9 F11 F13 F15 F17 F74 F75
  subst hL
  simp only [List.drop_succ_cons, List.drop_zero]
  rename World => V8
  (repeat' (first | go_values | go_skip | go_guarded | go_step | go_upon | (simp only [Int.not_lt, Int.not_le] at *; go_simp) | (go_values <;> (try go_simp)) | (go_ite <;> go_prune <;> (try go_simp)) | (split <;> (first | (rename_i hx; exact (hx _ rfl).elim) | go_prune))))
  (refine wp_region_dq (row := none) (S := (fun Wz => Below w.heap.size w Wz ∧ V8.heap.size ≤ Wz.heap.size ∧ Bx Wz (wp.heap.size) (#[.int .i64 x1, .int .i64 y1]) ∧ Bx Wz (wp.heap.size + 1) (#[.int .i64 x2, .int .i64 y2]) ∧ Bx Wz (wp.heap.size + 1 + 1) (#[.int .i64 x3, .int .i64 y3]) ∧ Bx Wz (p9) (#[.bool (sg (m * x3)), .int .u64 (lb0 (ab (m * x3))), .int .u64 (lb1 (ab (m * x3))), .int .u64 (lb2 (ab (m * x3))), .int .u64 (lb3 (ab (m * x3)))]) ∧ Bx Wz (p11) (#[.bool (sg (m * y3)), .int .u64 (lb0 (ab (m * y3))), .int .u64 (lb1 (ab (m * y3))), .int .u64 (lb2 (ab (m * y3))), .int .u64 (lb3 (ab (m * y3)))]) ∧ Bx Wz (p13) (#[.bool (sg (m * D)), .int .u64 (lb0 (ab (m * D))), .int .u64 (lb1 (ab (m * D))), .int .u64 (lb2 (ab (m * D))), .int .u64 (lb3 (ab (m * D)))]) ∧ Bx Wz (p15) (#[.bool (sg (m * x3 + x3)), .int .u64 (lb0 (ab (m * x3 + x3))), .int .u64 (lb1 (ab (m * x3 + x3))), .int .u64 (lb2 (ab (m * x3 + x3))), .int .u64 (lb3 (ab (m * x3 + x3)))]) ∧ Bx Wz (p17) (#[.bool (sg (m * y3 + y3)), .int .u64 (lb0 (ab (m * y3 + y3))), .int .u64 (lb1 (ab (m * y3 + y3))), .int .u64 (lb2 (ab (m * y3 + y3))), .int .u64 (lb3 (ab (m * y3 + y3)))]))) (n0 := V8.heap.size) 18 [16] [(0, 0), (1, 0), (2, 0), (3, 0), (4, 0), (5, 0), (6, 0), (7, 0), (8, 0), (9, 0), (10, 0), (11, 0), (12, 0), (13, 0), (14, 0), (15, 0), (16, 2)] [(17, 19, #[.bool false, .int .u64 0, .int .u64 0, .int .u64 0, .int .u64 0])] (by kernel_rfl) (by kernel_rfl) (fun _ _ d _ _ h => by cases d <;> exact h) (by refine ⟨?b, ?n, ?_, ?_, ?_, ?_, ?_, ?_, ?_, ?_⟩; (case b => (repeat' (first | (with_reducible assumption) | (with_reducible exact Below.refl _ _) | (with_reducible refine Below.alloc ?_ ?_ _) | (with_reducible refine Below.setCell ?_ ?_ _) | (with_reducible refine Below.drew ?_) | (with_reducible refine below_more ?_ (by with_reducible assumption)) | go_size | omega | (with_reducible refine below_drewN ?_)))); (case n => (first | go_size | omega)); all_goals (refine Bx.of ?_; (repeat' (first | (with_reducible assumption) | ((with_reducible refine HB.new _ _ _ ?_) <;> (go_size; done)) | (with_reducible refine HB.old (by go_size) ?_) | (with_reducible refine HB.drew ?_) | (with_reducible refine HB.over5 ?_) | (with_reducible refine HB.over4 ?_) | (with_reducible refine HB.setne (by first | go_size | (dsimp only; omega)) ?_) | (with_reducible refine HN.set ?_) | (with_reducible refine HN.setne (by first | go_size | (dsimp only; omega)) ?_) | (with_reducible refine HN.drew ?_) | (with_reducible refine HN.old (by go_size) ?_) | (with_reducible exact HN.of5 (by assumption)) | (with_reducible exact HN.new5 _ _ (by go_size)) | (with_reducible exact HN.of4 (by assumption)) | (with_reducible exact HN.new4 _ _ (by go_size)))))) (fun _ _ h g => keep8 h (below_gt g) rfl) (fun _ h => h.2.1) (fun _ h => by cases h) (by intro x hx; simp only [List.mem_cons, List.not_mem_nil, or_false] at hx; rcases hx with rfl <;> exact ⟨_, rfl, rfl, rfl, rfl, fun ρ w => ⟨27, by kernel_rfl⟩⟩) ?_)
  refine dqo_start ?_
  intro af0 hA
  have Z := size_lit (n := 112) hA (by rfl)
  have D := defers_lit hA
  have F1 := ev_lit (t := 1) hA (by rfl)
  have F4 := ev_lit (t := 4) hA (by rfl)
  have F6 := ev_lit (t := 6) hA (by rfl)
  have F7 := ev_lit (t := 7) hA (by rfl)
  have F8 := ev_lit (t := 8) hA (by rfl)
  have F9 := ev_lit (t := 9) hA (by rfl)
  have F11 := ev_lit (t := 11) hA (by rfl)
  have F13 := ev_lit (t := 13) hA (by rfl)
  have F15 := ev_lit (t := 15) hA (by rfl)
  have F17 := ev_lit (t := 17) hA (by rfl)
  clear hA
  refine' dqo_pure (d := 77) (by rfl) (by rfl) Z (by rfl) (wanted_not (by rfl)) ?hv46 ?rest46
  case hv46 => (intro ρ hρ; have E6 := (hρ.1 6).trans F6; have Ec := hρ.2.1; have Ef := hρ.2.2.1; clear hρ; intro w hw; (try dsimp only at hw); go_split_ands; go_simp; try with_reducible rfl)
  case' rest46 => intro af1 Zn Nx
  replace F1 := (Nx.2.2.1 1 rfl).trans F1
  replace F4 := (Nx.2.2.1 4 rfl).trans F4
  replace F6 := (Nx.2.2.1 6 rfl).trans F6
  replace F7 := (Nx.2.2.1 7 rfl).trans F7
  replace F8 := (Nx.2.2.1 8 rfl).trans F8
  replace F9 := (Nx.2.2.1 9 rfl).trans F9
  replace F11 := (Nx.2.2.1 11 rfl).trans F11
  replace F13 := (Nx.2.2.1 13 rfl).trans F13
  replace F15 := (Nx.2.2.1 15 rfl).trans F15
  replace F17 := (Nx.2.2.1 17 rfl).trans F17
  have F77 := Nx.2.1
  replace D := Nx.2.2.2.trans D
  clear Z Nx
  have Z := Zn
  clear Zn af0
  refine' dqo_pure (d := 78) (by rfl) (by rfl) Z (by rfl) (wanted_not (by rfl)) ?hv47 ?rest47
  case hv47 => (intro ρ hρ; have E7 := (hρ.1 7).trans F7; have Ec := hρ.2.1; have Ef := hρ.2.2.1; clear hρ; intro w hw; (try dsimp only at hw); go_split_ands; go_simp; try with_reducible rfl)
  case' rest47 => intro af2 Zn Nx
  replace F1 := (Nx.2.2.1 1 rfl).trans F1
  replace F4 := (Nx.2.2.1 4 rfl).trans F4
  replace F6 := (Nx.2.2.1 6 rfl).trans F6
  replace F7 := (Nx.2.2.1 7 rfl).trans F7
  replace F8 := (Nx.2.2.1 8 rfl).trans F8
  replace F9 := (Nx.2.2.1 9 rfl).trans F9
  replace F11 := (Nx.2.2.1 11 rfl).trans F11
  replace F13 := (Nx.2.2.1 13 rfl).trans F13
  replace F15 := (Nx.2.2.1 15 rfl).trans F15
  replace F17 := (Nx.2.2.1 17 rfl).trans F17
  replace F77 := (Nx.2.2.1 77 rfl).trans F77
  have F78 := Nx.2.1
  replace D := Nx.2.2.2.trans D
  clear Z Nx
  have Z := Zn
  clear Zn af1
  refine' dqo_pure (d := 79) (by rfl) (by rfl) Z (by rfl) (wanted_not (by rfl)) ?hv48 ?rest48
  case hv48 => (intro ρ hρ; have E15 := (hρ.1 15).trans F15; have Ec := hρ.2.1; have Ef := hρ.2.2.1; clear hρ; intro w hw; (try dsimp only at hw); go_split_ands; go_simp; try with_reducible rfl)
  case' rest48 => intro af3 Zn Nx
  replace F1 := (Nx.2.2.1 1 rfl).trans F1
  replace F4 := (Nx.2.2.1 4 rfl).trans F4
  replace F6 := (Nx.2.2.1 6 rfl).trans F6
  replace F7 := (Nx.2.2.1 7 rfl).trans F7
  replace F8 := (Nx.2.2.1 8 rfl).trans F8
  replace F9 := (Nx.2.2.1 9 rfl).trans F9
  replace F11 := (Nx.2.2.1 11 rfl).trans F11
  replace F13 := (Nx.2.2.1 13 rfl).trans F13
  clear F15
  replace F17 := (Nx.2.2.1 17 rfl).trans F17
  replace F77 := (Nx.2.2.1 77 rfl).trans F77
  replace F78 := (Nx.2.2.1 78 rfl).trans F78
  have F79 := Nx.2.1
  replace D := Nx.2.2.2.trans D
  clear Z Nx
  have Z := Zn
  clear Zn af2
  refine' dqo_pure (d := 80) (by rfl) (by rfl) Z (by rfl) (wanted_not (by rfl)) ?hv49 ?rest49
  case hv49 => (intro ρ hρ; have E17 := (hρ.1 17).trans F17; have Ec := hρ.2.1; have Ef := hρ.2.2.1; clear hρ; intro w hw; (try dsimp only at hw); go_split_ands; go_simp; try with_reducible rfl)
  case' rest49 => intro af4 Zn Nx
  replace F1 := (Nx.2.2.1 1 rfl).trans F1
  replace F4 := (Nx.2.2.1 4 rfl).trans F4
  replace F6 := (Nx.2.2.1 6 rfl).trans F6
  replace F7 := (Nx.2.2.1 7 rfl).trans F7
  replace F8 := (Nx.2.2.1 8 rfl).trans F8
  replace F9 := (Nx.2.2.1 9 rfl).trans F9
  replace F11 := (Nx.2.2.1 11 rfl).trans F11
  replace F13 := (Nx.2.2.1 13 rfl).trans F13
  clear F17
  replace F77 := (Nx.2.2.1 77 rfl).trans F77
  replace F78 := (Nx.2.2.1 78 rfl).trans F78
  replace F79 := (Nx.2.2.1 79 rfl).trans F79
  have F80 := Nx.2.1
  replace D := Nx.2.2.2.trans D
  clear Z Nx
  have Z := Zn
  clear Zn af3
  refine' dqo_pure (d := 81) (by rfl) (by rfl) Z (by rfl) (wanted_not (by rfl)) ?hv50 ?rest50
  case hv50 => (intro ρ hρ; have E1 := (hρ.1 1).trans F1; have Ec := hρ.2.1; have Ef := hρ.2.2.1; clear hρ; intro w hw; (try dsimp only at hw); go_split_ands; go_simp; try with_reducible rfl)
  case' rest50 => intro af5 Zn Nx
  replace F1 := (Nx.2.2.1 1 rfl).trans F1
  replace F4 := (Nx.2.2.1 4 rfl).trans F4
  replace F6 := (Nx.2.2.1 6 rfl).trans F6
  replace F7 := (Nx.2.2.1 7 rfl).trans F7
  replace F8 := (Nx.2.2.1 8 rfl).trans F8
  replace F9 := (Nx.2.2.1 9 rfl).trans F9
  replace F11 := (Nx.2.2.1 11 rfl).trans F11
  replace F13 := (Nx.2.2.1 13 rfl).trans F13
  replace F77 := (Nx.2.2.1 77 rfl).trans F77
  replace F78 := (Nx.2.2.1 78 rfl).trans F78
  replace F79 := (Nx.2.2.1 79 rfl).trans F79
  replace F80 := (Nx.2.2.1 80 rfl).trans F80
  have F81 := Nx.2.1
  replace D := Nx.2.2.2.trans D
  clear Z Nx
  have Z := Zn
  clear Zn af4
  refine' dqo_pure (d := 82) (by rfl) (by rfl) Z (by rfl) (wanted_not (by rfl)) ?hv51 ?rest51
  case hv51 => (intro ρ hρ; have E81 := (hρ.1 81).trans F81; have Ec := hρ.2.1; have Ef := hρ.2.2.1; clear hρ; intro w hw; (try dsimp only at hw); go_split_ands; go_simp; try with_reducible rfl)
  case' rest51 => intro af6 Zn Nx
  replace F1 := (Nx.2.2.1 1 rfl).trans F1
  replace F4 := (Nx.2.2.1 4 rfl).trans F4
  replace F6 := (Nx.2.2.1 6 rfl).trans F6
  replace F7 := (Nx.2.2.1 7 rfl).trans F7
  replace F8 := (Nx.2.2.1 8 rfl).trans F8
  replace F9 := (Nx.2.2.1 9 rfl).trans F9
  replace F11 := (Nx.2.2.1 11 rfl).trans F11
  replace F13 := (Nx.2.2.1 13 rfl).trans F13
  replace F77 := (Nx.2.2.1 77 rfl).trans F77
  replace F78 := (Nx.2.2.1 78 rfl).trans F78
  replace F79 := (Nx.2.2.1 79 rfl).trans F79
  replace F80 := (Nx.2.2.1 80 rfl).trans F80
  clear F81
  have F82 := Nx.2.1
  replace D := Nx.2.2.2.trans D
  clear Z Nx
  have Z := Zn
  clear Zn af5
  refine' dqo_call (d := 83) (by rfl) (by rfl) Z (by rfl) (wanted_not (by rfl)) ?hv52 ?hc52 ?rest52
  case hv52 => (intro ρ hρ; have E77 := (hρ.1 77).trans F77; have E78 := (hρ.1 78).trans F78; have E79 := (hρ.1 79).trans F79; have E80 := (hρ.1 80).trans F80; have E82 := (hρ.1 82).trans F82; have Ec := hρ.2.1; have Ef := hρ.2.2.1; clear hρ; intro w; go_simp; exact ⟨rfl, rfl⟩)
  case hc52 => exact (fun w hw => (by with_reducible exact calls_gt (kW1 hx1 hy1 hx2 hy2 hx3 hy3 hC hD _)))
  case' rest52 => intro af7 Zn Nx
  replace F1 := (Nx.2.2.1 1 rfl).trans F1
  replace F4 := (Nx.2.2.1 4 rfl).trans F4
  replace F6 := (Nx.2.2.1 6 rfl).trans F6
  replace F7 := (Nx.2.2.1 7 rfl).trans F7
  replace F8 := (Nx.2.2.1 8 rfl).trans F8
  replace F9 := (Nx.2.2.1 9 rfl).trans F9
  replace F11 := (Nx.2.2.1 11 rfl).trans F11
  replace F13 := (Nx.2.2.1 13 rfl).trans F13
  clear F77
  clear F78
  clear F79
  clear F80
  clear F82
  have F83 := Nx.2.1
  replace D := Nx.2.2.2.trans D
  clear Z Nx
  have Z := Zn
  clear Zn af6
  refine' dqo_pure (d := 84) (by rfl) (by rfl) Z (by rfl) (wanted_not (by rfl)) ?hv53 ?rest53
  case hv53 => (intro ρ hρ; have E6 := (hρ.1 6).trans F6; have Ec := hρ.2.1; have Ef := hρ.2.2.1; clear hρ; intro w hw; (try dsimp only at hw); go_split_ands; go_simp; try with_reducible rfl)
  case' rest53 => intro af8 Zn Nx
  replace F1 := (Nx.2.2.1 1 rfl).trans F1
  replace F4 := (Nx.2.2.1 4 rfl).trans F4
  replace F6 := (Nx.2.2.1 6 rfl).trans F6
  replace F7 := (Nx.2.2.1 7 rfl).trans F7
  replace F8 := (Nx.2.2.1 8 rfl).trans F8
  replace F9 := (Nx.2.2.1 9 rfl).trans F9
  replace F11 := (Nx.2.2.1 11 rfl).trans F11
  replace F13 := (Nx.2.2.1 13 rfl).trans F13
  replace F83 := (Nx.2.2.1 83 rfl).trans F83
  have F84 := Nx.2.1
  replace D := Nx.2.2.2.trans D
  clear Z Nx
  have Z := Zn
  clear Zn af7
  refine' dqo_pure (d := 85) (by rfl) (by rfl) Z (by rfl) (wanted_not (by rfl)) ?hv54 ?rest54
  case hv54 => (intro ρ hρ; have E7 := (hρ.1 7).trans F7; have Ec := hρ.2.1; have Ef := hρ.2.2.1; clear hρ; intro w hw; (try dsimp only at hw); go_split_ands; go_simp; try with_reducible rfl)
  case' rest54 => intro af9 Zn Nx
  replace F1 := (Nx.2.2.1 1 rfl).trans F1
  replace F4 := (Nx.2.2.1 4 rfl).trans F4
  replace F6 := (Nx.2.2.1 6 rfl).trans F6
  replace F7 := (Nx.2.2.1 7 rfl).trans F7
  replace F8 := (Nx.2.2.1 8 rfl).trans F8
  replace F9 := (Nx.2.2.1 9 rfl).trans F9
  replace F11 := (Nx.2.2.1 11 rfl).trans F11
  replace F13 := (Nx.2.2.1 13 rfl).trans F13
  replace F83 := (Nx.2.2.1 83 rfl).trans F83
  replace F84 := (Nx.2.2.1 84 rfl).trans F84
  have F85 := Nx.2.1
  replace D := Nx.2.2.2.trans D
  clear Z Nx
  have Z := Zn
  clear Zn af8
  refine' dqo_pure (d := 86) (by rfl) (by rfl) Z (by rfl) (wanted_not (by rfl)) ?hv55 ?rest55
  case hv55 => (intro ρ hρ; have E9 := (hρ.1 9).trans F9; have Ec := hρ.2.1; have Ef := hρ.2.2.1; clear hρ; intro w hw; (try dsimp only at hw); go_split_ands; go_simp; try with_reducible rfl)
  case' rest55 => intro af10 Zn Nx
  replace F1 := (Nx.2.2.1 1 rfl).trans F1
  replace F4 := (Nx.2.2.1 4 rfl).trans F4
  replace F6 := (Nx.2.2.1 6 rfl).trans F6
  replace F7 := (Nx.2.2.1 7 rfl).trans F7
  replace F8 := (Nx.2.2.1 8 rfl).trans F8
  replace F9 := (Nx.2.2.1 9 rfl).trans F9
  replace F11 := (Nx.2.2.1 11 rfl).trans F11
  replace F13 := (Nx.2.2.1 13 rfl).trans F13
  replace F83 := (Nx.2.2.1 83 rfl).trans F83
  replace F84 := (Nx.2.2.1 84 rfl).trans F84
  replace F85 := (Nx.2.2.1 85 rfl).trans F85
  have F86 := Nx.2.1
  replace D := Nx.2.2.2.trans D
  clear Z Nx
  have Z := Zn
  clear Zn af9
  refine' dqo_pure (d := 87) (by rfl) (by rfl) Z (by rfl) (wanted_not (by rfl)) ?hv56 ?rest56
  case hv56 => (intro ρ hρ; have E11 := (hρ.1 11).trans F11; have Ec := hρ.2.1; have Ef := hρ.2.2.1; clear hρ; intro w hw; (try dsimp only at hw); go_split_ands; go_simp; try with_reducible rfl)
  case' rest56 => intro af11 Zn Nx
  replace F1 := (Nx.2.2.1 1 rfl).trans F1
  replace F4 := (Nx.2.2.1 4 rfl).trans F4
  replace F6 := (Nx.2.2.1 6 rfl).trans F6
  replace F7 := (Nx.2.2.1 7 rfl).trans F7
  replace F8 := (Nx.2.2.1 8 rfl).trans F8
  replace F9 := (Nx.2.2.1 9 rfl).trans F9
  replace F11 := (Nx.2.2.1 11 rfl).trans F11
  replace F13 := (Nx.2.2.1 13 rfl).trans F13
  replace F83 := (Nx.2.2.1 83 rfl).trans F83
  replace F84 := (Nx.2.2.1 84 rfl).trans F84
  replace F85 := (Nx.2.2.1 85 rfl).trans F85
  replace F86 := (Nx.2.2.1 86 rfl).trans F86
  have F87 := Nx.2.1
  replace D := Nx.2.2.2.trans D
  clear Z Nx
  have Z := Zn
  clear Zn af10
  refine' dqo_pure (d := 88) (by rfl) (by rfl) Z (by rfl) (wanted_not (by rfl)) ?hv57 ?rest57
  case hv57 => (intro ρ hρ; have E1 := (hρ.1 1).trans F1; have Ec := hρ.2.1; have Ef := hρ.2.2.1; clear hρ; intro w hw; (try dsimp only at hw); go_split_ands; go_simp; try with_reducible rfl)
  case' rest57 => intro af12 Zn Nx
  replace F1 := (Nx.2.2.1 1 rfl).trans F1
  replace F4 := (Nx.2.2.1 4 rfl).trans F4
  replace F6 := (Nx.2.2.1 6 rfl).trans F6
  replace F7 := (Nx.2.2.1 7 rfl).trans F7
  replace F8 := (Nx.2.2.1 8 rfl).trans F8
  replace F9 := (Nx.2.2.1 9 rfl).trans F9
  replace F11 := (Nx.2.2.1 11 rfl).trans F11
  replace F13 := (Nx.2.2.1 13 rfl).trans F13
  replace F83 := (Nx.2.2.1 83 rfl).trans F83
  replace F84 := (Nx.2.2.1 84 rfl).trans F84
  replace F85 := (Nx.2.2.1 85 rfl).trans F85
  replace F86 := (Nx.2.2.1 86 rfl).trans F86
  replace F87 := (Nx.2.2.1 87 rfl).trans F87
  have F88 := Nx.2.1
  replace D := Nx.2.2.2.trans D
  clear Z Nx
  have Z := Zn
  clear Zn af11
  refine' dqo_call (d := 89) (by rfl) (by rfl) Z (by rfl) (wanted_not (by rfl)) ?hv58 ?hc58 ?rest58
  case hv58 => (intro ρ hρ; have E84 := (hρ.1 84).trans F84; have E85 := (hρ.1 85).trans F85; have E86 := (hρ.1 86).trans F86; have E87 := (hρ.1 87).trans F87; have E88 := (hρ.1 88).trans F88; have Ec := hρ.2.1; have Ef := hρ.2.2.1; clear hρ; intro w; go_simp; exact ⟨rfl, rfl⟩)
  case hc58 => exact (fun w hw => (by with_reducible exact calls_gt (kW hx1 hy1 hx2 hy2 hx3 hy3 hC hD _)))
  case' rest58 => intro af13 Zn Nx
  replace F1 := (Nx.2.2.1 1 rfl).trans F1
  replace F4 := (Nx.2.2.1 4 rfl).trans F4
  replace F6 := (Nx.2.2.1 6 rfl).trans F6
  replace F7 := (Nx.2.2.1 7 rfl).trans F7
  replace F8 := (Nx.2.2.1 8 rfl).trans F8
  replace F9 := (Nx.2.2.1 9 rfl).trans F9
  replace F11 := (Nx.2.2.1 11 rfl).trans F11
  replace F13 := (Nx.2.2.1 13 rfl).trans F13
  replace F83 := (Nx.2.2.1 83 rfl).trans F83
  clear F84
  clear F85
  clear F86
  clear F87
  clear F88
  have F89 := Nx.2.1
  replace D := Nx.2.2.2.trans D
  clear Z Nx
  have Z := Zn
  clear Zn af12
  refine' dqo_call (d := 90) (by rfl) (by rfl) Z (by rfl) (wanted_not (by rfl)) ?hv59 ?hc59 ?rest59
  case hv59 => (intro ρ hρ; have E83 := (hρ.1 83).trans F83; have E89 := (hρ.1 89).trans F89; have Ec := hρ.2.1; have Ef := hρ.2.2.1; clear hρ; intro w; go_simp; exact ⟨rfl, rfl⟩)
  case hc59 => exact (fun w hw => calls_gt (kS hx1 hy1 hx2 hy2 hx3 hy3 hC hD _))
  case' rest59 => intro af14 Zn Nx
  replace F1 := (Nx.2.2.1 1 rfl).trans F1
  replace F4 := (Nx.2.2.1 4 rfl).trans F4
  replace F6 := (Nx.2.2.1 6 rfl).trans F6
  replace F7 := (Nx.2.2.1 7 rfl).trans F7
  replace F8 := (Nx.2.2.1 8 rfl).trans F8
  replace F9 := (Nx.2.2.1 9 rfl).trans F9
  replace F11 := (Nx.2.2.1 11 rfl).trans F11
  replace F13 := (Nx.2.2.1 13 rfl).trans F13
  clear F83
  clear F89
  have F90 := Nx.2.1
  replace D := Nx.2.2.2.trans D
  clear Z Nx
  have Z := Zn
  clear Zn af13
  refine' dqo_pure (d := 76) (by rfl) (by rfl) Z (by rfl) (wanted_not (by rfl)) ?hv60 ?rest60
  case hv60 => (intro ρ hρ; have E90 := (hρ.1 90).trans F90; have Ec := hρ.2.1; have Ef := hρ.2.2.1; clear hρ; intro w hw; (try dsimp only at hw); go_split_ands; go_simp; try with_reducible rfl)
  case' rest60 => intro af15 Zn Nx
  replace F1 := (Nx.2.2.1 1 rfl).trans F1
  replace F4 := (Nx.2.2.1 4 rfl).trans F4
  replace F6 := (Nx.2.2.1 6 rfl).trans F6
  replace F7 := (Nx.2.2.1 7 rfl).trans F7
  replace F8 := (Nx.2.2.1 8 rfl).trans F8
  replace F9 := (Nx.2.2.1 9 rfl).trans F9
  replace F11 := (Nx.2.2.1 11 rfl).trans F11
  replace F13 := (Nx.2.2.1 13 rfl).trans F13
  clear F90
  have F76 := Nx.2.1
  replace D := Nx.2.2.2.trans D
  clear Z Nx
  have Z := Zn
  clear Zn af14
  refine' dqo_pure (d := 91) (by rfl) (by rfl) Z (by rfl) (wanted_not (by rfl)) ?hv61 ?rest61
  case hv61 => (intro ρ hρ; have E76 := (hρ.1 76).trans F76; have Ec := hρ.2.1; have Ef := hρ.2.2.1; clear hρ; intro w hw; (try dsimp only at hw); go_split_ands; go_simp; try with_reducible rfl)
  case' rest61 => intro af16 Zn Nx
  replace F1 := (Nx.2.2.1 1 rfl).trans F1
  replace F4 := (Nx.2.2.1 4 rfl).trans F4
  replace F6 := (Nx.2.2.1 6 rfl).trans F6
  replace F7 := (Nx.2.2.1 7 rfl).trans F7
  replace F8 := (Nx.2.2.1 8 rfl).trans F8
  replace F9 := (Nx.2.2.1 9 rfl).trans F9
  replace F11 := (Nx.2.2.1 11 rfl).trans F11
  replace F13 := (Nx.2.2.1 13 rfl).trans F13
  replace F76 := (Nx.2.2.1 76 rfl).trans F76
  have F91 := Nx.2.1
  replace D := Nx.2.2.2.trans D
  clear Z Nx
  have Z := Zn
  clear Zn af15
  refine' dqo_late (d := 92) (by rfl) (by rfl) Z (by rfl) (wanted_not (by rfl)) ?hv62 ?rest62
  case hv62 => (intro ρ hρ; have E76 := (hρ.1 76).trans F76; have Ec := hρ.2.1; have Ef := hρ.2.2.1; clear hρ; intro w; go_simp; try with_reducible rfl)
  case' rest62 => intro af17 Zn Nx
  replace F1 := (Nx.2.2.1 1 rfl).trans F1
  replace F4 := (Nx.2.2.1 4 rfl).trans F4
  replace F6 := (Nx.2.2.1 6 rfl).trans F6
  replace F7 := (Nx.2.2.1 7 rfl).trans F7
  replace F8 := (Nx.2.2.1 8 rfl).trans F8
  replace F9 := (Nx.2.2.1 9 rfl).trans F9
  replace F11 := (Nx.2.2.1 11 rfl).trans F11
  replace F13 := (Nx.2.2.1 13 rfl).trans F13
  clear F76
  replace F91 := (Nx.2.2.1 91 rfl).trans F91
  have F92 := Nx.2.1
  replace D := Nx.2.2.2.trans D
  clear Z Nx
  have Z := Zn
  clear Zn af16
  refine dq_nil ?_
  refine fa_box Z (by rfl) ?_
  intro p19 hp19 hd19 af18 Zn Nx
  replace F1 := (Nx.2.2.1 1 rfl).trans F1
  replace F4 := (Nx.2.2.1 4 rfl).trans F4
  replace F6 := (Nx.2.2.1 6 rfl).trans F6
  replace F7 := (Nx.2.2.1 7 rfl).trans F7
  replace F8 := (Nx.2.2.1 8 rfl).trans F8
  replace F9 := (Nx.2.2.1 9 rfl).trans F9
  replace F11 := (Nx.2.2.1 11 rfl).trans F11
  replace F13 := (Nx.2.2.1 13 rfl).trans F13
  replace F91 := (Nx.2.2.1 91 rfl).trans F91
  replace F92 := (Nx.2.2.1 92 rfl).trans F92
  have F19 := Nx.2.1
  replace D := Nx.2.2.2.trans D
  clear Z Nx
  have Z := Zn
  clear Zn af17
  refine fa_nil ?_
  rintro W ⟨⟨hb0, hn0, ⟨B1, B1c, B1f, B1l⟩, ⟨B2, B2c, B2f, B2l⟩, ⟨B3, B3c, B3f, B3l⟩, ⟨B4, B4c, B4f, B4l⟩, ⟨B5, B5c, B5f, B5l⟩, ⟨B6, B6c, B6f, B6l⟩, ⟨B7, B7c, B7f, B7l⟩, ⟨B8, B8c, B8f, B8l⟩⟩, hgl⟩ hbs
  obtain ⟨P19, P19c, P19f, P19l⟩ := Bx.of (hbs (p19, #[.bool false, .int .u64 0, .int .u64 0, .int .u64 0, .int .u64 0]) (by simp))
  clear hd19
  clear hbs hgl
  obtain ⟨ρ, hρ⟩ := rho_of af18
  have hL := act_lit (l := [ρ (.tmp 0), _, ρ (.tmp 2), ρ (.tmp 3), _, ρ (.tmp 5), _, _, _, _, ρ (.tmp 10), _, ρ (.tmp 12), _, ρ (.tmp 14), ρ (.tmp 15), ρ (.tmp 16), ρ (.tmp 17), ρ (.tmp 18), _, ρ (.tmp 20), ρ (.tmp 21), ρ (.tmp 22), ρ (.tmp 23), ρ (.tmp 24), ρ (.tmp 25), ρ (.tmp 26), ρ (.tmp 27), ρ (.tmp 28), ρ (.tmp 29), ρ (.tmp 30), ρ (.tmp 31), ρ (.tmp 32), ρ (.tmp 33), ρ (.tmp 34), ρ (.tmp 35), ρ (.tmp 36), ρ (.tmp 37), ρ (.tmp 38), ρ (.tmp 39), ρ (.tmp 40), ρ (.tmp 41), ρ (.tmp 42), ρ (.tmp 43), ρ (.tmp 44), ρ (.tmp 45), ρ (.tmp 46), ρ (.tmp 47), ρ (.tmp 48), ρ (.tmp 49), ρ (.tmp 50), ρ (.tmp 51), ρ (.tmp 52), ρ (.tmp 53), ρ (.tmp 54), ρ (.tmp 55), ρ (.tmp 56), ρ (.tmp 57), ρ (.tmp 58), ρ (.tmp 59), ρ (.tmp 60), ρ (.tmp 61), ρ (.tmp 62), ρ (.tmp 63), ρ (.tmp 64), ρ (.tmp 65), ρ (.tmp 66), ρ (.tmp 67), ρ (.tmp 68), ρ (.tmp 69), ρ (.tmp 70), ρ (.tmp 71), ρ (.tmp 72), ρ (.tmp 73), ρ (.tmp 74), ρ (.tmp 75), ρ (.tmp 76), ρ (.tmp 77), ρ (.tmp 78), ρ (.tmp 79), ρ (.tmp 80), ρ (.tmp 81), ρ (.tmp 82), ρ (.tmp 83), ρ (.tmp 84), ρ (.tmp 85), ρ (.tmp 86), ρ (.tmp 87), ρ (.tmp 88), ρ (.tmp 89), ρ (.tmp 90), _, _, ρ (.tmp 93), ρ (.tmp 94), ρ (.tmp 95), ρ (.tmp 96), ρ (.tmp 97), ρ (.tmp 98), ρ (.tmp 99), ρ (.tmp 100), ρ (.tmp 101), ρ (.tmp 102), ρ (.tmp 103), ρ (.tmp 104), ρ (.tmp 105), ρ (.tmp 106), ρ (.tmp 107), ρ (.tmp 108), ρ (.tmp 109), ρ (.tmp 110), ρ (.tmp 111)]) Z D (by rfl) ⟨hρ 0, F1, hρ 2, hρ 3, F4, hρ 5, F6, F7, F8, F9, hρ 10, F11, hρ 12, F13, hρ 14, hρ 15, hρ 16, hρ 17, hρ 18, F19, hρ 20, hρ 21, hρ 22, hρ 23, hρ 24, hρ 25, hρ 26, hρ 27, hρ 28, hρ 29, hρ 30, hρ 31, hρ 32, hρ 33, hρ 34, hρ 35, hρ 36, hρ 37, hρ 38, hρ 39, hρ 40, hρ 41, hρ 42, hρ 43, hρ 44, hρ 45, hρ 46, hρ 47, hρ 48, hρ 49, hρ 50, hρ 51, hρ 52, hρ 53, hρ 54, hρ 55, hρ 56, hρ 57, hρ 58, hρ 59, hρ 60, hρ 61, hρ 62, hρ 63, hρ 64, hρ 65, hρ 66, hρ 67, hρ 68, hρ 69, hρ 70, hρ 71, hρ 72, hρ 73, hρ 74, hρ 75, hρ 76, hρ 77, hρ 78, hρ 79, hρ 80, hρ 81, hρ 82, hρ 83, hρ 84, hρ 85, hρ 86, hρ 87, hρ 88, hρ 89, hρ 90, F91, F92, hρ 93, hρ 94, hρ 95, hρ 96, hρ 97, hρ 98, hρ 99, hρ 100, hρ 101, hρ 102, hρ 103, hρ 104, hρ 105, hρ 106, hρ 107, hρ 108, hρ 109, hρ 110, hρ 111, trivial⟩
  clear hρ Z D F1 F4 F6 F7 F8 F9 F11 F13 F19 F91 F92
  subst hL
  simp only [List.drop_succ_cons, List.drop_zero]
  rename World => V9
  (repeat' (first | go_values | go_skip | go_guarded | go_step | go_upon | (simp only [Int.not_lt, Int.not_le] at *; go_simp) | (go_values <;> (try go_simp)) | (go_ite <;> go_prune <;> (try go_simp)) | (split <;> (first | (rename_i hx; exact (hx _ rfl).elim) | go_prune))))
  (refine wp_region_dq (row := none) (S := (fun Wz => Below w.heap.size w Wz ∧ V9.heap.size ≤ Wz.heap.size ∧ Bx Wz (wp.heap.size) (#[.int .i64 x1, .int .i64 y1]) ∧ Bx Wz (wp.heap.size + 1) (#[.int .i64 x2, .int .i64 y2]) ∧ Bx Wz (wp.heap.size + 1 + 1) (#[.int .i64 x3, .int .i64 y3]) ∧ Bx Wz (p9) (#[.bool (sg (m * x3)), .int .u64 (lb0 (ab (m * x3))), .int .u64 (lb1 (ab (m * x3))), .int .u64 (lb2 (ab (m * x3))), .int .u64 (lb3 (ab (m * x3)))]) ∧ Bx Wz (p11) (#[.bool (sg (m * y3)), .int .u64 (lb0 (ab (m * y3))), .int .u64 (lb1 (ab (m * y3))), .int .u64 (lb2 (ab (m * y3))), .int .u64 (lb3 (ab (m * y3)))]) ∧ Bx Wz (p13) (#[.bool (sg (m * D)), .int .u64 (lb0 (ab (m * D))), .int .u64 (lb1 (ab (m * D))), .int .u64 (lb2 (ab (m * D))), .int .u64 (lb3 (ab (m * D)))]) ∧ Bx Wz (p15) (#[.bool (sg (m * x3 + x3)), .int .u64 (lb0 (ab (m * x3 + x3))), .int .u64 (lb1 (ab (m * x3 + x3))), .int .u64 (lb2 (ab (m * x3 + x3))), .int .u64 (lb3 (ab (m * x3 + x3)))]) ∧ Bx Wz (p17) (#[.bool (sg (m * y3 + y3)), .int .u64 (lb0 (ab (m * y3 + y3))), .int .u64 (lb1 (ab (m * y3 + y3))), .int .u64 (lb2 (ab (m * y3 + y3))), .int .u64 (lb3 (ab (m * y3 + y3)))]) ∧ Bx Wz (p19) (#[.bool (sg (D)), .int .u64 (lb0 (ab (D))), .int .u64 (lb1 (ab (D))), .int .u64 (lb2 (ab (D))), .int .u64 (lb3 (ab (D)))]))) (n0 := V9.heap.size) 19 [] [(0, 0), (1, 0), (2, 0), (3, 0), (4, 0), (5, 0), (6, 0), (7, 0), (8, 0), (9, 0), (10, 0), (11, 0), (12, 0), (13, 0), (14, 0), (15, 0), (16, 0), (17, 0), (18, 0)] [] (by kernel_rfl) (by kernel_rfl) (fun _ _ d _ _ h => by cases d <;> exact h) (by refine ⟨?b, ?n, ?_, ?_, ?_, ?_, ?_, ?_, ?_, ?_, ?_⟩; (case b => (repeat' (first | (with_reducible assumption) | (with_reducible exact Below.refl _ _) | (with_reducible refine Below.alloc ?_ ?_ _) | (with_reducible refine Below.setCell ?_ ?_ _) | (with_reducible refine Below.drew ?_) | (with_reducible refine below_more ?_ (by with_reducible assumption)) | go_size | omega | (with_reducible refine below_drewN ?_)))); (case n => (first | go_size | omega)); all_goals (refine Bx.of ?_; (repeat' (first | (with_reducible assumption) | ((with_reducible refine HB.new _ _ _ ?_) <;> (go_size; done)) | (with_reducible refine HB.old (by go_size) ?_) | (with_reducible refine HB.drew ?_) | (with_reducible refine HB.over5 ?_) | (with_reducible refine HB.over4 ?_) | (with_reducible refine HB.setne (by first | go_size | (dsimp only; omega)) ?_) | (with_reducible refine HN.set ?_) | (with_reducible refine HN.setne (by first | go_size | (dsimp only; omega)) ?_) | (with_reducible refine HN.drew ?_) | (with_reducible refine HN.old (by go_size) ?_) | (with_reducible exact HN.of5 (by assumption)) | (with_reducible exact HN.new5 _ _ (by go_size)) | (with_reducible exact HN.of4 (by assumption)) | (with_reducible exact HN.new4 _ _ (by go_size)))))) (fun _ _ h g => keep9 h (below_gt g) rfl) (fun _ h => h.2.1) (fun _ h => by cases h) (by simp) ?_)
  refine dqo_start ?_
  intro af0 hA
  have Z := size_lit (n := 112) hA (by rfl)
  have D := defers_lit hA
  have F1 := ev_lit (t := 1) hA (by rfl)
  have F4 := ev_lit (t := 4) hA (by rfl)
  have F6 := ev_lit (t := 6) hA (by rfl)
  have F7 := ev_lit (t := 7) hA (by rfl)
  have F8 := ev_lit (t := 8) hA (by rfl)
  have F9 := ev_lit (t := 9) hA (by rfl)
  have F11 := ev_lit (t := 11) hA (by rfl)
  have F13 := ev_lit (t := 13) hA (by rfl)
  have F19 := ev_lit (t := 19) hA (by rfl)
  clear hA
  refine' dqo_call (d := 93) (by rfl) (by rfl) Z (by rfl) (wanted_not (by rfl)) ?hv63 ?hc63 ?rest63
  case hv63 => (intro ρ hρ; have Ec := hρ.2.1; have Ef := hρ.2.2.1; clear hρ; intro w; go_simp; exact ⟨rfl, rfl⟩)
  case hc63 => exact (fun w hw => calls_gt (known23_any _))
  case' rest63 => intro af1 Zn Nx
  replace F1 := (Nx.2.2.1 1 rfl).trans F1
  replace F4 := (Nx.2.2.1 4 rfl).trans F4
  replace F6 := (Nx.2.2.1 6 rfl).trans F6
  replace F7 := (Nx.2.2.1 7 rfl).trans F7
  replace F8 := (Nx.2.2.1 8 rfl).trans F8
  replace F9 := (Nx.2.2.1 9 rfl).trans F9
  replace F11 := (Nx.2.2.1 11 rfl).trans F11
  replace F13 := (Nx.2.2.1 13 rfl).trans F13
  replace F19 := (Nx.2.2.1 19 rfl).trans F19
  have F93 := Nx.2.1
  replace D := Nx.2.2.2.trans D
  clear Z Nx
  have Z := Zn
  clear Zn af0
  refine' dqo_pure (d := 94) (by rfl) (by rfl) Z (by rfl) (wanted_not (by rfl)) ?hv64 ?rest64
  case hv64 => (intro ρ hρ; have E93 := (hρ.1 93).trans F93; have Ec := hρ.2.1; have Ef := hρ.2.2.1; clear hρ; intro w hw; (try dsimp only at hw); go_split_ands; go_simp; try with_reducible rfl)
  case' rest64 => intro af2 Zn Nx
  replace F1 := (Nx.2.2.1 1 rfl).trans F1
  replace F4 := (Nx.2.2.1 4 rfl).trans F4
  replace F6 := (Nx.2.2.1 6 rfl).trans F6
  replace F7 := (Nx.2.2.1 7 rfl).trans F7
  replace F8 := (Nx.2.2.1 8 rfl).trans F8
  replace F9 := (Nx.2.2.1 9 rfl).trans F9
  replace F11 := (Nx.2.2.1 11 rfl).trans F11
  replace F13 := (Nx.2.2.1 13 rfl).trans F13
  replace F19 := (Nx.2.2.1 19 rfl).trans F19
  clear F93
  have F94 := Nx.2.1
  replace D := Nx.2.2.2.trans D
  clear Z Nx
  have Z := Zn
  clear Zn af1
  refine' dqo_pure (d := 95) (by rfl) (by rfl) Z (by rfl) (wanted_yes (by rfl) (by rfl) F94) ?hv65 ?rest65
  case hv65 => (intro ρ hρ; have E6 := (hρ.1 6).trans F6; have Ec := hρ.2.1; have Ef := hρ.2.2.1; clear hρ; intro w hw; (try dsimp only at hw); go_split_ands; go_simp; try with_reducible rfl)
  case' rest65 => intro af3 Zn Nx
  replace F1 := (Nx.2.2.1 1 rfl).trans F1
  replace F4 := (Nx.2.2.1 4 rfl).trans F4
  replace F6 := (Nx.2.2.1 6 rfl).trans F6
  replace F7 := (Nx.2.2.1 7 rfl).trans F7
  replace F8 := (Nx.2.2.1 8 rfl).trans F8
  replace F9 := (Nx.2.2.1 9 rfl).trans F9
  replace F11 := (Nx.2.2.1 11 rfl).trans F11
  replace F13 := (Nx.2.2.1 13 rfl).trans F13
  replace F19 := (Nx.2.2.1 19 rfl).trans F19
  replace F94 := (Nx.2.2.1 94 rfl).trans F94
  have F95 := Nx.2.1
  replace D := Nx.2.2.2.trans D
  clear Z Nx
  have Z := Zn
  clear Zn af2
  refine' dqo_pure (d := 96) (by rfl) (by rfl) Z (by rfl) (wanted_yes (by rfl) (by rfl) F94) ?hv66 ?rest66
  case hv66 => (intro ρ hρ; have E7 := (hρ.1 7).trans F7; have Ec := hρ.2.1; have Ef := hρ.2.2.1; clear hρ; intro w hw; (try dsimp only at hw); go_split_ands; go_simp; try with_reducible rfl)
  case' rest66 => intro af4 Zn Nx
  replace F1 := (Nx.2.2.1 1 rfl).trans F1
  replace F4 := (Nx.2.2.1 4 rfl).trans F4
  replace F6 := (Nx.2.2.1 6 rfl).trans F6
  replace F7 := (Nx.2.2.1 7 rfl).trans F7
  replace F8 := (Nx.2.2.1 8 rfl).trans F8
  replace F9 := (Nx.2.2.1 9 rfl).trans F9
  replace F11 := (Nx.2.2.1 11 rfl).trans F11
  replace F13 := (Nx.2.2.1 13 rfl).trans F13
  replace F19 := (Nx.2.2.1 19 rfl).trans F19
  replace F94 := (Nx.2.2.1 94 rfl).trans F94
  replace F95 := (Nx.2.2.1 95 rfl).trans F95
  have F96 := Nx.2.1
  replace D := Nx.2.2.2.trans D
  clear Z Nx
  have Z := Zn
  clear Zn af3
  refine' dqo_pure (d := 97) (by rfl) (by rfl) Z (by rfl) (wanted_yes (by rfl) (by rfl) F94) ?hv67 ?rest67
  case hv67 => (intro ρ hρ; have E9 := (hρ.1 9).trans F9; have Ec := hρ.2.1; have Ef := hρ.2.2.1; clear hρ; intro w hw; (try dsimp only at hw); go_split_ands; go_simp; try with_reducible rfl)
  case' rest67 => intro af5 Zn Nx
  replace F1 := (Nx.2.2.1 1 rfl).trans F1
  replace F4 := (Nx.2.2.1 4 rfl).trans F4
  replace F6 := (Nx.2.2.1 6 rfl).trans F6
  replace F7 := (Nx.2.2.1 7 rfl).trans F7
  replace F8 := (Nx.2.2.1 8 rfl).trans F8
  clear F9
  replace F11 := (Nx.2.2.1 11 rfl).trans F11
  replace F13 := (Nx.2.2.1 13 rfl).trans F13
  replace F19 := (Nx.2.2.1 19 rfl).trans F19
  replace F94 := (Nx.2.2.1 94 rfl).trans F94
  replace F95 := (Nx.2.2.1 95 rfl).trans F95
  replace F96 := (Nx.2.2.1 96 rfl).trans F96
  have F97 := Nx.2.1
  replace D := Nx.2.2.2.trans D
  clear Z Nx
  have Z := Zn
  clear Zn af4
  refine' dqo_pure (d := 98) (by rfl) (by rfl) Z (by rfl) (wanted_yes (by rfl) (by rfl) F94) ?hv68 ?rest68
  case hv68 => (intro ρ hρ; have E11 := (hρ.1 11).trans F11; have Ec := hρ.2.1; have Ef := hρ.2.2.1; clear hρ; intro w hw; (try dsimp only at hw); go_split_ands; go_simp; try with_reducible rfl)
  case' rest68 => intro af6 Zn Nx
  replace F1 := (Nx.2.2.1 1 rfl).trans F1
  replace F4 := (Nx.2.2.1 4 rfl).trans F4
  replace F6 := (Nx.2.2.1 6 rfl).trans F6
  replace F7 := (Nx.2.2.1 7 rfl).trans F7
  replace F8 := (Nx.2.2.1 8 rfl).trans F8
  clear F11
  replace F13 := (Nx.2.2.1 13 rfl).trans F13
  replace F19 := (Nx.2.2.1 19 rfl).trans F19
  replace F94 := (Nx.2.2.1 94 rfl).trans F94
  replace F95 := (Nx.2.2.1 95 rfl).trans F95
  replace F96 := (Nx.2.2.1 96 rfl).trans F96
  replace F97 := (Nx.2.2.1 97 rfl).trans F97
  have F98 := Nx.2.1
  replace D := Nx.2.2.2.trans D
  clear Z Nx
  have Z := Zn
  clear Zn af5
  refine' dqo_pure (d := 99) (by rfl) (by rfl) Z (by rfl) (wanted_yes (by rfl) (by rfl) F94) ?hv69 ?rest69
  case hv69 => (intro ρ hρ; have E1 := (hρ.1 1).trans F1; have Ec := hρ.2.1; have Ef := hρ.2.2.1; clear hρ; intro w hw; (try dsimp only at hw); go_split_ands; go_simp; try with_reducible rfl)
  case' rest69 => intro af7 Zn Nx
  clear F1
  replace F4 := (Nx.2.2.1 4 rfl).trans F4
  replace F6 := (Nx.2.2.1 6 rfl).trans F6
  replace F7 := (Nx.2.2.1 7 rfl).trans F7
  replace F8 := (Nx.2.2.1 8 rfl).trans F8
  replace F13 := (Nx.2.2.1 13 rfl).trans F13
  replace F19 := (Nx.2.2.1 19 rfl).trans F19
  replace F94 := (Nx.2.2.1 94 rfl).trans F94
  replace F95 := (Nx.2.2.1 95 rfl).trans F95
  replace F96 := (Nx.2.2.1 96 rfl).trans F96
  replace F97 := (Nx.2.2.1 97 rfl).trans F97
  replace F98 := (Nx.2.2.1 98 rfl).trans F98
  have F99 := Nx.2.1
  replace D := Nx.2.2.2.trans D
  clear Z Nx
  have Z := Zn
  clear Zn af6
  refine' dqo_call (d := 100) (by rfl) (by rfl) Z (by rfl) (wanted_yes (by rfl) (by rfl) F94) ?hv70 ?hc70 ?rest70
  case hv70 => (intro ρ hρ; have E95 := (hρ.1 95).trans F95; have E96 := (hρ.1 96).trans F96; have E97 := (hρ.1 97).trans F97; have E98 := (hρ.1 98).trans F98; have E99 := (hρ.1 99).trans F99; have Ec := hρ.2.1; have Ef := hρ.2.2.1; clear hρ; intro w; go_simp; exact ⟨rfl, rfl⟩)
  case hc70 => exact (fun w hw => (by with_reducible exact calls_gt (kW hx1 hy1 hx2 hy2 hx3 hy3 hC hD _)))
  case' rest70 => intro af8 Zn Nx
  replace F4 := (Nx.2.2.1 4 rfl).trans F4
  replace F6 := (Nx.2.2.1 6 rfl).trans F6
  replace F7 := (Nx.2.2.1 7 rfl).trans F7
  replace F8 := (Nx.2.2.1 8 rfl).trans F8
  replace F13 := (Nx.2.2.1 13 rfl).trans F13
  replace F19 := (Nx.2.2.1 19 rfl).trans F19
  replace F94 := (Nx.2.2.1 94 rfl).trans F94
  clear F95
  clear F96
  clear F97
  clear F98
  clear F99
  have F100 := Nx.2.1
  replace D := Nx.2.2.2.trans D
  clear Z Nx
  have Z := Zn
  clear Zn af7
  refine' dqo_pure (d := 101) (by rfl) (by rfl) Z (by rfl) (wanted_yes (by rfl) (by rfl) F94) ?hv71 ?rest71
  case hv71 => (intro ρ hρ; have E13 := (hρ.1 13).trans F13; have Ec := hρ.2.1; have Ef := hρ.2.2.1; clear hρ; intro w hw; (try dsimp only at hw); go_split_ands; go_simp; try with_reducible rfl)
  case' rest71 => intro af9 Zn Nx
  replace F4 := (Nx.2.2.1 4 rfl).trans F4
  replace F6 := (Nx.2.2.1 6 rfl).trans F6
  replace F7 := (Nx.2.2.1 7 rfl).trans F7
  replace F8 := (Nx.2.2.1 8 rfl).trans F8
  clear F13
  replace F19 := (Nx.2.2.1 19 rfl).trans F19
  replace F94 := (Nx.2.2.1 94 rfl).trans F94
  replace F100 := (Nx.2.2.1 100 rfl).trans F100
  have F101 := Nx.2.1
  replace D := Nx.2.2.2.trans D
  clear Z Nx
  have Z := Zn
  clear Zn af8
  refine' dqo_pure (d := 102) (by rfl) (by rfl) Z (by rfl) (wanted_yes (by rfl) (by rfl) F94) ?hv72 ?rest72
  case hv72 => (intro ρ hρ; have E100 := (hρ.1 100).trans F100; have E101 := (hρ.1 101).trans F101; have Ec := hρ.2.1; have Ef := hρ.2.2.1; clear hρ; intro w hw; (try dsimp only at hw); go_split_ands; go_simp; try with_reducible rfl)
  case' rest72 => intro af10 Zn Nx
  replace F4 := (Nx.2.2.1 4 rfl).trans F4
  replace F6 := (Nx.2.2.1 6 rfl).trans F6
  replace F7 := (Nx.2.2.1 7 rfl).trans F7
  replace F8 := (Nx.2.2.1 8 rfl).trans F8
  replace F19 := (Nx.2.2.1 19 rfl).trans F19
  replace F94 := (Nx.2.2.1 94 rfl).trans F94
  clear F100
  clear F101
  have F102 := Nx.2.1
  replace D := Nx.2.2.2.trans D
  clear Z Nx
  have Z := Zn
  clear Zn af9
  refine' dqo_pure (d := 103) (by rfl) (by rfl) Z (by rfl) (wanted_not (by rfl)) ?hv73 ?rest73
  case hv73 => (intro ρ hρ; have E94 := (hρ.1 94).trans F94; have E102 := (hρ.1 102).trans F102; have Ec := hρ.2.1; have Ef := hρ.2.2.1; clear hρ; intro w hw; (try dsimp only at hw); go_split_ands; go_simp; try with_reducible rfl)
  case' rest73 => intro af11 Zn Nx
  replace F4 := (Nx.2.2.1 4 rfl).trans F4
  replace F6 := (Nx.2.2.1 6 rfl).trans F6
  replace F7 := (Nx.2.2.1 7 rfl).trans F7
  replace F8 := (Nx.2.2.1 8 rfl).trans F8
  replace F19 := (Nx.2.2.1 19 rfl).trans F19
  clear F94
  clear F102
  have F103 := Nx.2.1
  replace D := Nx.2.2.2.trans D
  clear Z Nx
  have Z := Zn
  clear Zn af10
  refine' dqo_pure (d := 104) (by rfl) (by rfl) Z (by rfl) (wanted_not (by rfl)) ?hv74 ?rest74
  case hv74 => (intro ρ hρ; have E103 := (hρ.1 103).trans F103; have Ec := hρ.2.1; have Ef := hρ.2.2.1; clear hρ; intro w hw; (try dsimp only at hw); go_split_ands; go_simp; try with_reducible rfl)
  case' rest74 => intro af12 Zn Nx
  replace F4 := (Nx.2.2.1 4 rfl).trans F4
  replace F6 := (Nx.2.2.1 6 rfl).trans F6
  replace F7 := (Nx.2.2.1 7 rfl).trans F7
  replace F8 := (Nx.2.2.1 8 rfl).trans F8
  replace F19 := (Nx.2.2.1 19 rfl).trans F19
  clear F103
  have F104 := Nx.2.1
  replace D := Nx.2.2.2.trans D
  clear Z Nx
  have Z := Zn
  clear Zn af11
  refine' dqo_pure (d := 105) (by rfl) (by rfl) Z (by rfl) (wanted_yes (by rfl) (by rfl) F104) ?hv75 ?rest75
  case hv75 => (intro ρ hρ; have E19 := (hρ.1 19).trans F19; have Ec := hρ.2.1; have Ef := hρ.2.2.1; clear hρ; intro w hw; (try dsimp only at hw); go_split_ands; go_simp; try with_reducible rfl)
  case' rest75 => intro af13 Zn Nx
  replace F4 := (Nx.2.2.1 4 rfl).trans F4
  replace F6 := (Nx.2.2.1 6 rfl).trans F6
  replace F7 := (Nx.2.2.1 7 rfl).trans F7
  replace F8 := (Nx.2.2.1 8 rfl).trans F8
  clear F19
  replace F104 := (Nx.2.2.1 104 rfl).trans F104
  have F105 := Nx.2.1
  replace D := Nx.2.2.2.trans D
  clear Z Nx
  have Z := Zn
  clear Zn af12
  refine' dqo_pure (d := 106) (by rfl) (by rfl) Z (by rfl) (wanted_yes (by rfl) (by rfl) F104) ?hv76 ?rest76
  case hv76 => (intro ρ hρ; have E6 := (hρ.1 6).trans F6; have Ec := hρ.2.1; have Ef := hρ.2.2.1; clear hρ; intro w hw; (try dsimp only at hw); go_split_ands; go_simp; try with_reducible rfl)
  case' rest76 => intro af14 Zn Nx
  replace F4 := (Nx.2.2.1 4 rfl).trans F4
  clear F6
  replace F7 := (Nx.2.2.1 7 rfl).trans F7
  replace F8 := (Nx.2.2.1 8 rfl).trans F8
  replace F104 := (Nx.2.2.1 104 rfl).trans F104
  replace F105 := (Nx.2.2.1 105 rfl).trans F105
  have F106 := Nx.2.1
  replace D := Nx.2.2.2.trans D
  clear Z Nx
  have Z := Zn
  clear Zn af13
  refine' dqo_pure (d := 107) (by rfl) (by rfl) Z (by rfl) (wanted_yes (by rfl) (by rfl) F104) ?hv77 ?rest77
  case hv77 => (intro ρ hρ; have E7 := (hρ.1 7).trans F7; have Ec := hρ.2.1; have Ef := hρ.2.2.1; clear hρ; intro w hw; (try dsimp only at hw); go_split_ands; go_simp; try with_reducible rfl)
  case' rest77 => intro af15 Zn Nx
  replace F4 := (Nx.2.2.1 4 rfl).trans F4
  clear F7
  replace F8 := (Nx.2.2.1 8 rfl).trans F8
  replace F104 := (Nx.2.2.1 104 rfl).trans F104
  replace F105 := (Nx.2.2.1 105 rfl).trans F105
  replace F106 := (Nx.2.2.1 106 rfl).trans F106
  have F107 := Nx.2.1
  replace D := Nx.2.2.2.trans D
  clear Z Nx
  have Z := Zn
  clear Zn af14
  refine' dqo_pure (d := 108) (by rfl) (by rfl) Z (by rfl) (wanted_yes (by rfl) (by rfl) F104) ?hv78 ?rest78
  case hv78 => (intro ρ hρ; have E8 := (hρ.1 8).trans F8; have Ec := hρ.2.1; have Ef := hρ.2.2.1; clear hρ; intro w hw; (try dsimp only at hw); go_split_ands; go_simp; try with_reducible rfl)
  case' rest78 => intro af16 Zn Nx
  replace F4 := (Nx.2.2.1 4 rfl).trans F4
  clear F8
  replace F104 := (Nx.2.2.1 104 rfl).trans F104
  replace F105 := (Nx.2.2.1 105 rfl).trans F105
  replace F106 := (Nx.2.2.1 106 rfl).trans F106
  replace F107 := (Nx.2.2.1 107 rfl).trans F107
  have F108 := Nx.2.1
  replace D := Nx.2.2.2.trans D
  clear Z Nx
  have Z := Zn
  clear Zn af15
  refine' dqo_call (d := 109) (by rfl) (by rfl) Z (by rfl) (wanted_yes (by rfl) (by rfl) F104) ?hv79 ?hc79 ?rest79
  case hv79 => (intro ρ hρ; have E106 := (hρ.1 106).trans F106; have E107 := (hρ.1 107).trans F107; have E108 := (hρ.1 108).trans F108; have Ec := hρ.2.1; have Ef := hρ.2.2.1; clear hρ; intro w; go_simp; exact ⟨rfl, rfl⟩)
  case hc79 => exact (fun w hw => calls_gt (kD hx1 hy1 hx2 hy2 hx3 hy3 hC hD _))
  case' rest79 => intro af17 Zn Nx
  replace F4 := (Nx.2.2.1 4 rfl).trans F4
  replace F104 := (Nx.2.2.1 104 rfl).trans F104
  replace F105 := (Nx.2.2.1 105 rfl).trans F105
  clear F106
  clear F107
  clear F108
  have F109 := Nx.2.1
  replace D := Nx.2.2.2.trans D
  clear Z Nx
  have Z := Zn
  clear Zn af16
  refine' dqo_pure (d := 110) (by rfl) (by rfl) Z (by rfl) (wanted_yes (by rfl) (by rfl) F104) ?hv80 ?rest80
  case hv80 => (intro ρ hρ; have E105 := (hρ.1 105).trans F105; have E109 := (hρ.1 109).trans F109; have Ec := hρ.2.1; have Ef := hρ.2.2.1; clear hρ; intro w hw; (try dsimp only at hw); go_split_ands; go_simp; try with_reducible rfl)
  case' rest80 => intro af18 Zn Nx
  replace F4 := (Nx.2.2.1 4 rfl).trans F4
  replace F104 := (Nx.2.2.1 104 rfl).trans F104
  clear F105
  clear F109
  have F110 := Nx.2.1
  replace D := Nx.2.2.2.trans D
  clear Z Nx
  have Z := Zn
  clear Zn af17
  refine' dqo_pure (d := 111) (by rfl) (by rfl) Z (by rfl) (wanted_not (by rfl)) ?hv81 ?rest81
  case hv81 => (intro ρ hρ; have E104 := (hρ.1 104).trans F104; have E110 := (hρ.1 110).trans F110; have Ec := hρ.2.1; have Ef := hρ.2.2.1; clear hρ; intro w hw; (try dsimp only at hw); go_split_ands; go_simp; try with_reducible rfl)
  case' rest81 => intro af19 Zn Nx
  replace F4 := (Nx.2.2.1 4 rfl).trans F4
  clear F104
  clear F110
  have F111 := Nx.2.1
  replace D := Nx.2.2.2.trans D
  clear Z Nx
  have Z := Zn
  clear Zn af18
  refine dq_nil ?_
  refine fa_nil ?_
  rintro W ⟨⟨hb0, hn0, ⟨B1, B1c, B1f, B1l⟩, ⟨B2, B2c, B2f, B2l⟩, ⟨B3, B3c, B3f, B3l⟩, ⟨B4, B4c, B4f, B4l⟩, ⟨B5, B5c, B5f, B5l⟩, ⟨B6, B6c, B6f, B6l⟩, ⟨B7, B7c, B7f, B7l⟩, ⟨B8, B8c, B8f, B8l⟩, ⟨B9, B9c, B9f, B9l⟩⟩, hgl⟩ hbs
  clear hbs hgl
  obtain ⟨ρ, hρ⟩ := rho_of af19
  have hL := act_lit (l := [ρ (.tmp 0), ρ (.tmp 1), ρ (.tmp 2), ρ (.tmp 3), _, ρ (.tmp 5), ρ (.tmp 6), ρ (.tmp 7), ρ (.tmp 8), ρ (.tmp 9), ρ (.tmp 10), ρ (.tmp 11), ρ (.tmp 12), ρ (.tmp 13), ρ (.tmp 14), ρ (.tmp 15), ρ (.tmp 16), ρ (.tmp 17), ρ (.tmp 18), ρ (.tmp 19), ρ (.tmp 20), ρ (.tmp 21), ρ (.tmp 22), ρ (.tmp 23), ρ (.tmp 24), ρ (.tmp 25), ρ (.tmp 26), ρ (.tmp 27), ρ (.tmp 28), ρ (.tmp 29), ρ (.tmp 30), ρ (.tmp 31), ρ (.tmp 32), ρ (.tmp 33), ρ (.tmp 34), ρ (.tmp 35), ρ (.tmp 36), ρ (.tmp 37), ρ (.tmp 38), ρ (.tmp 39), ρ (.tmp 40), ρ (.tmp 41), ρ (.tmp 42), ρ (.tmp 43), ρ (.tmp 44), ρ (.tmp 45), ρ (.tmp 46), ρ (.tmp 47), ρ (.tmp 48), ρ (.tmp 49), ρ (.tmp 50), ρ (.tmp 51), ρ (.tmp 52), ρ (.tmp 53), ρ (.tmp 54), ρ (.tmp 55), ρ (.tmp 56), ρ (.tmp 57), ρ (.tmp 58), ρ (.tmp 59), ρ (.tmp 60), ρ (.tmp 61), ρ (.tmp 62), ρ (.tmp 63), ρ (.tmp 64), ρ (.tmp 65), ρ (.tmp 66), ρ (.tmp 67), ρ (.tmp 68), ρ (.tmp 69), ρ (.tmp 70), ρ (.tmp 71), ρ (.tmp 72), ρ (.tmp 73), ρ (.tmp 74), ρ (.tmp 75), ρ (.tmp 76), ρ (.tmp 77), ρ (.tmp 78), ρ (.tmp 79), ρ (.tmp 80), ρ (.tmp 81), ρ (.tmp 82), ρ (.tmp 83), ρ (.tmp 84), ρ (.tmp 85), ρ (.tmp 86), ρ (.tmp 87), ρ (.tmp 88), ρ (.tmp 89), ρ (.tmp 90), ρ (.tmp 91), ρ (.tmp 92), ρ (.tmp 93), ρ (.tmp 94), ρ (.tmp 95), ρ (.tmp 96), ρ (.tmp 97), ρ (.tmp 98), ρ (.tmp 99), ρ (.tmp 100), ρ (.tmp 101), ρ (.tmp 102), ρ (.tmp 103), ρ (.tmp 104), ρ (.tmp 105), ρ (.tmp 106), ρ (.tmp 107), ρ (.tmp 108), ρ (.tmp 109), ρ (.tmp 110), _]) Z D (by rfl) ⟨hρ 0, hρ 1, hρ 2, hρ 3, F4, hρ 5, hρ 6, hρ 7, hρ 8, hρ 9, hρ 10, hρ 11, hρ 12, hρ 13, hρ 14, hρ 15, hρ 16, hρ 17, hρ 18, hρ 19, hρ 20, hρ 21, hρ 22, hρ 23, hρ 24, hρ 25, hρ 26, hρ 27, hρ 28, hρ 29, hρ 30, hρ 31, hρ 32, hρ 33, hρ 34, hρ 35, hρ 36, hρ 37, hρ 38, hρ 39, hρ 40, hρ 41, hρ 42, hρ 43, hρ 44, hρ 45, hρ 46, hρ 47, hρ 48, hρ 49, hρ 50, hρ 51, hρ 52, hρ 53, hρ 54, hρ 55, hρ 56, hρ 57, hρ 58, hρ 59, hρ 60, hρ 61, hρ 62, hρ 63, hρ 64, hρ 65, hρ 66, hρ 67, hρ 68, hρ 69, hρ 70, hρ 71, hρ 72, hρ 73, hρ 74, hρ 75, hρ 76, hρ 77, hρ 78, hρ 79, hρ 80, hρ 81, hρ 82, hρ 83, hρ 84, hρ 85, hρ 86, hρ 87, hρ 88, hρ 89, hρ 90, hρ 91, hρ 92, hρ 93, hρ 94, hρ 95, hρ 96, hρ 97, hρ 98, hρ 99, hρ 100, hρ 101, hρ 102, hρ 103, hρ 104, hρ 105, hρ 106, hρ 107, hρ 108, hρ 109, hρ 110, F111, trivial⟩
  clear hρ Z D F4 F111
  subst hL
  simp only [List.drop_succ_cons, List.drop_zero]
  (repeat' (first | go_values | go_skip | go_guarded | go_step | go_upon | (simp only [Int.not_lt, Int.not_le] at *; go_simp) | (go_values <;> (try go_simp)) | (go_ite <;> go_prune <;> (try go_simp)) | (split <;> (first | (rename_i hx; exact (hx _ rfl).elim) | go_prune))))
  refine bodyPost_ret (v := .bool true) ?_ rfl ⟨rfl, by (repeat' (first | (with_reducible assumption) | (with_reducible exact Below.refl _ _) | (with_reducible refine Below.alloc ?_ ?_ _) | (with_reducible refine Below.setCell ?_ ?_ _) | (with_reducible refine Below.drew ?_) | (with_reducible refine below_more ?_ (by with_reducible assumption)) | go_size | omega | (with_reducible refine below_drewN ?_)))⟩
  simp [results, Try.results6, go_sem]

/-! ### The row -/
set_option maxRecDepth 100000 in
theorem lifted (os : Os) (started : os.Started) (H : Type) (enc : TypeId × Value → H) :
    ReturnsInHanded {} Try.checked os 6 .any (Rows.triangleWeighsSpec.pre6 enc Try.prog Try.f6 Rows.triangleWeighsRow.domain false) (Rows.triangleWeighsSpec.post enc Try.prog Try.f6 false true false false) := by
  refine returnsInHanded_of_change_sized (C := Try.checked) own started (by kernel_rfl) Try.func6
    (ChangeSpec.witness6 (enc := enc) (C := Try.checked) false ⟨#[], #[.slice none 0 0, .int .i64 0], []⟩ 8 (by kernel_rfl) (by kernel_rfl) (by kernel_rfl) (by kernel_rfl)) ?_
  intro W base args ds gs before hval0 hW hcnd hsz _
  have hval : ∀ (j : Nat) t v, Try.f6.params[j]? = some t → args[j]? = some v → Value.okWide Try.prog W .any base t v := hval0
  have hW' := hW
  obtain ⟨p, q, hA0, hV, rfl, hfz, hnd⟩ := hW
  have hA : DataW.TrodAll enc Try.prog W 0 (fun _ => true) true Try.f6.params.toList args.toList ds p := hA0
  rw [Try.params6] at hA hval
  obtain ⟨v0, vs0, d0, ds0, p0, q0, hargs, rfl, rfl, g0, r0⟩ := trodAll_cons hA
  obtain ⟨v1, vs1, d1, ds1, p1, q1, rfl, rfl, rfl, g1, r1⟩ := trodAll_cons r0
  obtain ⟨rfl, rfl, rfl⟩ := trodAll_nil r1
  obtain rfl : args = #[v0, v1] := by cases args; simp_all
  obtain ⟨rfl, rfl⟩ := trodVars_none hV
  have hlt : ∀ x ∈ (p0 ++ (p1 ++ [])) ++ [], x.block < W.heap.size := fun x hx => hW'.lt x hx
  obtain ⟨z0, hs0⟩ := open_slz Try.underlying28 Try.underlying3 (by kernel_rfl) (hval 0 28 v0 rfl rfl) g0 (fun x hx => hlt x (by simp [hx]))
  have hs0' := hs0
  obtain ⟨s0, l0, c0, rfl, _⟩ := hs0'
  obtain ⟨a1, rfl, rfl, rfl, w1⟩ := open_int Try.underlying3 (hval 1 3 v1 rfl rfl) g1
  refine (walk W s0 l0 c0 z0 hs0 a1 (I64.of_wf w1)).mono fun e W' ⟨he, hb⟩ => ?_
  subst he
  exact ⟨_, rfl, law_post laidOut (by kernel_rfl) rfl rfl Try.underlying4 hW' rfl rfl rfl hb⟩

theorem over : Rows.triangleWeighsRow.holds Try.pinned (OpenSpec.ofChange Rows.triangleWeighsSpec) :=
  OpenClaim.holds_of_wide 6 Try.f6 rfl rfl rfl rfl rfl rfl rfl ⟨rfl, rfl, rfl, rfl, rfl⟩ rfl rfl rfl rfl rfl (by kernel_rfl) Try.func6 (by kernel_rfl)
    (of_decide_eq_true (by kernel_rfl)) (by unfold Func.isWrapper; first | (rw [if_pos (by decide +kernel)]; kernel_rfl) | (rw [if_neg (by decide +kernel)]; exact ⟨rfl, rfl⟩))
    (fun os started H enc _ => lifted os started H enc)

/-- The given statement. -/
theorem proved : Rows.TriangleWeighsSaid :=
  over
#print axioms proved
end Go.Proofs.Ythcboomdkpiflaa.triangleWeighs
