/- The package wide: the product of absolute values. -/
import Derived.Test.YthcboomdkpiflaaRows
import Derived.Test.YthcboomdkpiflaaShelf
import Derived.Test.YthcboomdkpiflaaWideB
import Derived.Test.YthcboomdkpiflaaTool
import Derived.WalkKit
import Derived.ProofKit
import Derived.WalkLawsBesides
import Derived.WalkSpells
import Derived.RegionTactic
import Derived.ChangeAlike
import Derived.BigRegion
import Derived.Laws.IdiomCopy
import Derived.Deep.DeepCutAuto
import Derived.Outline
import Derived.Handy
namespace Go.Proofs.Ythcboomdkpiflaa
open Go.ChangeShapes Go.WideShapes Go.ChangeAt Go.RowKit
set_option linter.unusedVariables false
set_option linter.unusedSimpArgs false

theorem wmul64_any (x y : Int) (hx : U64 x) (hy : U64 y) (w : World) :
    Calls Try.prog 66 #[.int .u64 x, .int .u64 y] w fun e w' => e = .returned (.tuple #[.int .u64 (hi64 x y), .int .u64 (lo64 x y)]) ∧ w = w' := by
  obtain ⟨x1, x2⟩ := hx; obtain ⟨y1, y2⟩ := hy
  obtain ⟨n, rfl⟩ := Int.eq_ofNat_of_zero_le x1
  obtain ⟨m, rfl⟩ := Int.eq_ofNat_of_zero_le y1
  refine (Try.bits_Mul64 n m (by omega) (by omega) w).mono ?_
  rintro e w' ⟨rfl, rfl⟩
  exact ⟨by rw [hilo_nat n m, lo_nat n m], rfl⟩

theorem mstep {x y acc cy : Int} (hx : U64 x) (hy : U64 y) (ha : U64 acc) (hc : U64 cy) : ∃ r0 c0 h1 r1 c1 cy' : Int, U64 r1 ∧ U64 cy' ∧ r1 + 18446744073709551616 * cy' = x * y + acc + cy ∧ IntKind.u64.wrap (hi64 x y + c0) = h1 ∧ IntKind.u64.wrap (h1 + c1) = cy' ∧
    (∀ W, (callFunc 67 #[.int .u64 acc, .int .u64 (lo64 x y), .int .u64 0]).run Try.prog W = .ok (.value (.tuple #[.int .u64 r0, .int .u64 c0])) W) ∧
    (∀ W, (callFunc 67 #[.int .u64 r0, .int .u64 cy, .int .u64 0]).run Try.prog W = .ok (.value (.tuple #[.int .u64 r1, .int .u64 c1])) W) := by
  have hl : U64 (lo64 x y) := ⟨by unfold lo64; omega, by unfold lo64; omega⟩
  have hr : U64 (s64 acc (lo64 x y) 0) := s64_in _ _ _
  have e : lo64 x y + 18446744073709551616 * hi64 x y = x * y := by unfold lo64 hi64; omega
  have hp : 0 ≤ x * y := Int.mul_nonneg hx.1 hy.1
  have hp2 : x * y ≤ 18446744073709551615 * 18446744073709551615 := Int.mul_le_mul (by have := hx.2; omega) (by have := hy.2; omega) hy.1 (by decide)
  have b1 := c64_bit ha hl Bit.zero
  have b2 := c64_bit hr hc Bit.zero
  have e1 : s64 acc (lo64 x y) 0 + 18446744073709551616 * c64 acc (lo64 x y) 0 = acc + lo64 x y := by unfold s64 c64; omega
  have e2 : s64 (s64 acc (lo64 x y) 0) cy 0 + 18446744073709551616 * c64 (s64 acc (lo64 x y) 0) cy 0 = s64 acc (lo64 x y) 0 + cy := by unfold s64 c64; omega
  have A1 := fun W => add64 ha hl Bit.zero W
  have A2 := fun W => add64 hr hc Bit.zero W
  have hr1 : U64 (s64 (s64 acc (lo64 x y) 0) cy 0) := s64_in _ _ _
  generalize s64 (s64 acc (lo64 x y) 0) cy 0 = r1 at *
  generalize c64 (s64 acc (lo64 x y) 0) cy 0 = c1 at *
  generalize s64 acc (lo64 x y) 0 = r0 at *
  generalize c64 acc (lo64 x y) 0 = c0 at *
  have hh : 0 ≤ hi64 x y := by unfold hi64; omega
  obtain ⟨x1, x2⟩ := hr1; obtain ⟨y1, y2⟩ := ha; obtain ⟨z1, z2⟩ := hc; obtain ⟨u1, u2⟩ := b1; obtain ⟨v1, v2⟩ := b2; obtain ⟨l1, l2⟩ := hl; obtain ⟨s1, s2⟩ := hr
  generalize hi64 x y = h at *
  generalize lo64 x y = l at *
  generalize x * y = p at *
  have k : r1 + 18446744073709551616 * (h + c0 + c1) = p + acc + cy := by omega
  have k1 : h + c0 + c1 < 18446744073709551616 := by omega
  have w1 : IntKind.u64.wrap (h + c0) = h + c0 := u64_wrap_id _ ⟨by omega, by omega⟩
  have w2 : IntKind.u64.wrap (h + c0 + c1) = h + c0 + c1 := u64_wrap_id _ ⟨by omega, by omega⟩
  exact ⟨r0, c0, h + c0, r1, c1, h + c0 + c1, ⟨x1, x2⟩, ⟨by omega, by omega⟩, k, w1, w2, A1, A2⟩

/-- A row of the product. -/
theorem mrow {x b0 b1 b2 b3 v0 v1 v2 v3 r0 r1 r2 r3 c1 c2 c3 c4 : Int} (e0 : r0 + 18446744073709551616 * c1 = x * b0 + v0 + 0) (e1 : r1 + 18446744073709551616 * c2 = x * b1 + v1 + c1) (e2 : r2 + 18446744073709551616 * c3 = x * b2 + v2 + c2) (e3 : r3 + 18446744073709551616 * c4 = x * b3 + v3 + c3) :
    r0 + 18446744073709551616 * MV r1 r2 r3 c4 = x * MV b0 b1 b2 b3 + MV v0 v1 v2 v3 := by
  have D : ∀ u v : Int, x * (u + 18446744073709551616 * v) = x * u + 18446744073709551616 * (x * v) := fun u v => by rw [Int.mul_add, Int.mul_left_comm]
  have R : ∀ a b c d : Int, a + 18446744073709551616 * b + (c + 18446744073709551616 * d) = (a + c) + 18446744073709551616 * (b + d) := fun a b c d => by omega
  unfold MV
  rw [D, D, D, R, R, R]
  generalize x * b0 = p0 at *
  generalize x * b1 = p1 at *
  generalize x * b2 = p2 at *
  generalize x * b3 = p3 at *
  rw [e3]
  have s2 : r2 + 18446744073709551616 * (p3 + v3 + c3) = (p2 + v2 + 18446744073709551616 * (p3 + v3)) + c2 := by omega
  rw [s2]
  generalize p2 + v2 + 18446744073709551616 * (p3 + v3) = q2
  have s1 : r1 + 18446744073709551616 * (q2 + c2) = (p1 + v1 + 18446744073709551616 * q2) + c1 := by omega
  rw [s1]
  generalize p1 + v1 + 18446744073709551616 * q2 = q1
  omega
theorem mzeros : MV 0 0 0 0 = 0 := rfl
/-- The product from its rows. -/
theorem mrows {a0 a1 a2 a3 N l0 l1 l2 l3 U1 U2 U3 H : Int} (t0 : l0 + 18446744073709551616 * U1 = a0 * N + 0) (t1 : l1 + 18446744073709551616 * U2 = a1 * N + U1) (t2 : l2 + 18446744073709551616 * U3 = a2 * N + U2) (t3 : l3 + 18446744073709551616 * H = a3 * N + U3) :
    MV a0 a1 a2 a3 * N = l0 + 18446744073709551616 * (l1 + 18446744073709551616 * (l2 + 18446744073709551616 * (l3 + 18446744073709551616 * H))) := by
  have D : ∀ u v : Int, (u + 18446744073709551616 * v) * N = u * N + 18446744073709551616 * (v * N) := fun u v => by rw [Int.add_mul, Int.mul_assoc]
  unfold MV
  rw [D, D, D, t3]
  generalize a0 * N = p0 at *
  generalize a1 * N = p1 at *
  generalize a2 * N = p2 at *
  generalize a3 * N = p3 at *
  have s2 : l2 + 18446744073709551616 * (p3 + U3) = (p2 + 18446744073709551616 * p3) + U2 := by omega
  rw [s2]
  generalize p2 + 18446744073709551616 * p3 = q2
  have s1 : l1 + 18446744073709551616 * (q2 + U2) = (p1 + 18446744073709551616 * q2) + U1 := by omega
  rw [s1]
  generalize p1 + 18446744073709551616 * q2 = q1
  omega
theorem mwords {l0 l1 l2 l3 H : Int} (h0 : U64 l0) (h1 : U64 l1) (h2 : U64 l2) (h3 : U64 l3) :
    lb0 (l0 + 18446744073709551616 * (l1 + 18446744073709551616 * (l2 + 18446744073709551616 * (l3 + 18446744073709551616 * H)))) = l0 ∧ lb1 (l0 + 18446744073709551616 * (l1 + 18446744073709551616 * (l2 + 18446744073709551616 * (l3 + 18446744073709551616 * H)))) = l1 ∧
    lb2 (l0 + 18446744073709551616 * (l1 + 18446744073709551616 * (l2 + 18446744073709551616 * (l3 + 18446744073709551616 * H)))) = l2 ∧ lb3 (l0 + 18446744073709551616 * (l1 + 18446744073709551616 * (l2 + 18446744073709551616 * (l3 + 18446744073709551616 * H)))) = l3 ∧
    up4 (l0 + 18446744073709551616 * (l1 + 18446744073709551616 * (l2 + 18446744073709551616 * (l3 + 18446744073709551616 * H)))) = H := by
  refine ⟨?_, ?_, ?_, ?_, ?_⟩
  · rw [lb0_add, lb0_id h0]
  · unfold lb1; rw [up1_add, up1_id h0, Int.zero_add, lb0_add, lb0_id h1]
  · unfold lb2; rw [up1_add, up1_id h0, Int.zero_add, up1_add, up1_id h1, Int.zero_add, lb0_add, lb0_id h2]
  · unfold lb3; rw [up1_add, up1_id h0, Int.zero_add, up1_add, up1_id h1, Int.zero_add, up1_add, up1_id h2, Int.zero_add, lb0_add, lb0_id h3]
  · unfold up4; rw [up1_add, up1_id h0, Int.zero_add, up1_add, up1_id h1, Int.zero_add, up1_add, up1_id h2, Int.zero_add, up1_add, up1_id h3, Int.zero_add]

theorem copy4 (b g : Nat) {l0 l1 l2 l3 l4 l5 l6 l7 : Int} {W : World} (hd : HN W b 4) (hs : HB W g #[.int .u64 l0, .int .u64 l1, .int .u64 l2, .int .u64 l3, .int .u64 l4, .int .u64 l5, .int .u64 l6, .int .u64 l7]) :
    (Builtin.copy_ #[66, 66] 3 #[.slice (some ⟨b, 0, none⟩) 4 4, .slice (some ⟨g, 0, none⟩) 4 8]).run Try.prog W = .ok (.int .i64 4) ((((W.setCell ⟨b, 0, none⟩ (.int .u64 l0)).setCell ⟨b, 1, none⟩ (.int .u64 l1)).setCell ⟨b, 2, none⟩ (.int .u64 l2)).setCell ⟨b, 3, none⟩ (.int .u64 l3)) := by
  have hb := Bx.of hs
  refine (run_copy_cells W _ _ _ 24 b 0 4 4 ⟨g, 0, none⟩ 4 8 [.int .u64 l0, .int .u64 l1, .int .u64 l2, .int .u64 l3] Try.underlying66 (by kernel_rfl) rfl ?_ ?_ ?_ ?_).trans rfl
  · intro j v hv
    have e : (⟨g, 0, none⟩ : Addr).add j = ⟨g, j, none⟩ := by
      unfold Addr.add
      by_cases h : j = 0
      · rw [if_pos h, h]
      · rw [if_neg h]; simp
    rw [e, hb.2.1 j]
    match j, hv with
    | 0, hv => exact hv
    | 1, hv => exact hv
    | 2, hv => exact hv
    | 3, hv => exact hv
    | j + 4, hv => simp at hv
  · intro j hj
    have hj' : j < 4 := hj
    rw [Nat.zero_add, hd.cell hj']; rfl
  · intro j hj
    exact hd.froz _
  · intro v hv
    simp at hv
    rcases hv with rfl | rfl | rfl | rfl <;> rfl

theorem arr4 (g o : Nat) (W : World) : (Instr.arrayAt 25 (.slice (some ⟨g, o, none⟩) 4 4)).run Try.prog W = .ok (.pointer (some ⟨g, o, none⟩)) W := by
  simp [Instr.arrayAt, run_underlying Try.underlying25, go_sem]

theorem mz_b {a b c d : Int} (h : U64 a) (h1 : U64 b) (h2 : U64 c) (h3 : U64 d) : (MV a b c d == 0) = mz a b c d := by
  cases e : mz a b c d
  · refine beq_eq_false_iff_ne.2 fun h0 => ?_
    rw [(mz_iff h h1 h2 h3).2 h0] at e; cases e
  · exact beq_iff_eq.2 ((mz_iff h h1 h2 h3).1 e)

theorem idx4 (a b c d : Int) (W : World) :
    (Instr.index 25 (MG a b c d) (.int .i64 0)).run Try.prog W = .ok (.int .u64 a) W ∧ (Instr.index 25 (MG a b c d) (.int .i64 1)).run Try.prog W = .ok (.int .u64 b) W ∧
    (Instr.index 25 (MG a b c d) (.int .i64 2)).run Try.prog W = .ok (.int .u64 c) W ∧ (Instr.index 25 (MG a b c d) (.int .i64 3)).run Try.prog W = .ok (.int .u64 d) W := by
  have h := Try.underlying25
  refine ⟨?_, ?_, ?_, ?_⟩ <;> simp [Instr.index, run_underlying h, asIntOf, go_sem]

set_option maxHeartbeats 8000000 in
set_option maxRecDepth 100000 in
theorem wmul_any (a0 a1 a2 a3 b0 b1 b2 b3 : Int) (ha0 : U64 a0) (ha1 : U64 a1) (ha2 : U64 a2) (ha3 : U64 a3) (hb0 : U64 b0) (hb1 : U64 b1) (hb2 : U64 b2) (hb3 : U64 b3) (w : World) :
    Calls Try.prog 79 #[MG a0 a1 a2 a3, MG b0 b1 b2 b3] w fun e w' => e = .returned (.tuple #[MG (lb0 (MV a0 a1 a2 a3 * MV b0 b1 b2 b3)) (lb1 (MV a0 a1 a2 a3 * MV b0 b1 b2 b3)) (lb2 (MV a0 a1 a2 a3 * MV b0 b1 b2 b3)) (lb3 (MV a0 a1 a2 a3 * MV b0 b1 b2 b3)), .bool (up4 (MV a0 a1 a2 a3 * MV b0 b1 b2 b3) == 0)]) ∧ Below w.heap.size w w' := by
  obtain ⟨p00, q00, h00, r00, d00, c00, ur00, uc00, e00, w00, x00, A00, B00⟩ := mstep ha0 hb0 U64.zero U64.zero
  have X00 := hid (And.intro w00 (And.intro x00 (And.intro A00 B00)))
  clear w00 x00 A00 B00
  obtain ⟨p01, q01, h01, r01, d01, c01, ur01, uc01, e01, w01, x01, A01, B01⟩ := mstep ha0 hb1 U64.zero uc00
  have X01 := hid (And.intro w01 (And.intro x01 (And.intro A01 B01)))
  clear w01 x01 A01 B01
  obtain ⟨p02, q02, h02, r02, d02, c02, ur02, uc02, e02, w02, x02, A02, B02⟩ := mstep ha0 hb2 U64.zero uc01
  have X02 := hid (And.intro w02 (And.intro x02 (And.intro A02 B02)))
  clear w02 x02 A02 B02
  obtain ⟨p03, q03, h03, r03, d03, c03, ur03, uc03, e03, w03, x03, A03, B03⟩ := mstep ha0 hb3 U64.zero uc02
  have X03 := hid (And.intro w03 (And.intro x03 (And.intro A03 B03)))
  clear w03 x03 A03 B03
  have R0 := mrow e00 e01 e02 e03
  obtain ⟨p10, q10, h10, r10, d10, c10, ur10, uc10, e10, w10, x10, A10, B10⟩ := mstep ha1 hb0 ur01 U64.zero
  have X10 := hid (And.intro w10 (And.intro x10 (And.intro A10 B10)))
  clear w10 x10 A10 B10
  obtain ⟨p11, q11, h11, r11, d11, c11, ur11, uc11, e11, w11, x11, A11, B11⟩ := mstep ha1 hb1 ur02 uc10
  have X11 := hid (And.intro w11 (And.intro x11 (And.intro A11 B11)))
  clear w11 x11 A11 B11
  obtain ⟨p12, q12, h12, r12, d12, c12, ur12, uc12, e12, w12, x12, A12, B12⟩ := mstep ha1 hb2 ur03 uc11
  have X12 := hid (And.intro w12 (And.intro x12 (And.intro A12 B12)))
  clear w12 x12 A12 B12
  obtain ⟨p13, q13, h13, r13, d13, c13, ur13, uc13, e13, w13, x13, A13, B13⟩ := mstep ha1 hb3 uc03 uc12
  have X13 := hid (And.intro w13 (And.intro x13 (And.intro A13 B13)))
  clear w13 x13 A13 B13
  have R1 := mrow e10 e11 e12 e13
  obtain ⟨p20, q20, h20, r20, d20, c20, ur20, uc20, e20, w20, x20, A20, B20⟩ := mstep ha2 hb0 ur11 U64.zero
  have X20 := hid (And.intro w20 (And.intro x20 (And.intro A20 B20)))
  clear w20 x20 A20 B20
  obtain ⟨p21, q21, h21, r21, d21, c21, ur21, uc21, e21, w21, x21, A21, B21⟩ := mstep ha2 hb1 ur12 uc20
  have X21 := hid (And.intro w21 (And.intro x21 (And.intro A21 B21)))
  clear w21 x21 A21 B21
  obtain ⟨p22, q22, h22, r22, d22, c22, ur22, uc22, e22, w22, x22, A22, B22⟩ := mstep ha2 hb2 ur13 uc21
  have X22 := hid (And.intro w22 (And.intro x22 (And.intro A22 B22)))
  clear w22 x22 A22 B22
  obtain ⟨p23, q23, h23, r23, d23, c23, ur23, uc23, e23, w23, x23, A23, B23⟩ := mstep ha2 hb3 uc13 uc22
  have X23 := hid (And.intro w23 (And.intro x23 (And.intro A23 B23)))
  clear w23 x23 A23 B23
  have R2 := mrow e20 e21 e22 e23
  obtain ⟨p30, q30, h30, r30, d30, c30, ur30, uc30, e30, w30, x30, A30, B30⟩ := mstep ha3 hb0 ur21 U64.zero
  have X30 := hid (And.intro w30 (And.intro x30 (And.intro A30 B30)))
  clear w30 x30 A30 B30
  obtain ⟨p31, q31, h31, r31, d31, c31, ur31, uc31, e31, w31, x31, A31, B31⟩ := mstep ha3 hb1 ur22 uc30
  have X31 := hid (And.intro w31 (And.intro x31 (And.intro A31 B31)))
  clear w31 x31 A31 B31
  obtain ⟨p32, q32, h32, r32, d32, c32, ur32, uc32, e32, w32, x32, A32, B32⟩ := mstep ha3 hb2 ur23 uc31
  have X32 := hid (And.intro w32 (And.intro x32 (And.intro A32 B32)))
  clear w32 x32 A32 B32
  obtain ⟨p33, q33, h33, r33, d33, c33, ur33, uc33, e33, w33, x33, A33, B33⟩ := mstep ha3 hb3 uc23 uc32
  have X33 := hid (And.intro w33 (And.intro x33 (And.intro A33 B33)))
  clear w33 x33 A33 B33
  have R3 := mrow e30 e31 e32 e33
  have P := mrows R0 R1 R2 R3
  obtain ⟨P0, P1, P2, P3, P4⟩ := mwords (H := MV r31 r32 r33 c33) ur00 ur10 ur20 ur30
  rw [← P] at P0 P1 P2 P3 P4
  rw [P0, P1, P2, P3, P4, mz_b ur31 ur32 ur33 uc33]
  clear P0 P1 P2 P3 P4 P R0 R1 R2 R3 e00 ur00 uc00 e01 ur01 uc01 e02 ur02 uc02 e03 ur03 uc03 e10 ur10 uc10 e11 ur11 uc11 e12 ur12 uc12 e13 ur13 uc13 e20 ur20 uc20 e21 ur21 uc21 e22 ur22 uc22 e23 ur23 uc23 e30 ur30 uc30 e31 ur31 uc31 e32 ur32 uc32 e33 ur33 uc33
  have IA := fun W => idx4 a0 a1 a2 a3 W
  have IB := fun W => idx4 b0 b1 b2 b3 W
  simp only [forall_and] at IA IB
  obtain ⟨IA0, IA1, IA2, IA3⟩ := IA
  obtain ⟨IB0, IB1, IB2, IB3⟩ := IB
  go_enter Try.func79, Try.ntmps79
  go_wp2
  refine wp_loop_rounds 5 ?_
  rw [rounds_succ]
  go_wp2
  refine wp_gen (fun Wz => Below w.heap.size w Wz ∧ w.heap.size + 4 ≤ Wz.heap.size ∧ Bx Wz (w.heap.size) (#[.int .u64 a0, .int .u64 a1, .int .u64 a2, .int .u64 a3]) ∧ Bx Wz (w.heap.size + 1) (#[.int .u64 b0, .int .u64 b1, .int .u64 b2, .int .u64 b3]) ∧ Bx Wz (w.heap.size + 1 + 1) (#[.int .u64 0, .int .u64 0, .int .u64 0, .int .u64 0]) ∧ Bx Wz (w.heap.size + 1 + 1 + 1) (#[.int .u64 0, .int .u64 0, .int .u64 0, .int .u64 0, .int .u64 0, .int .u64 0, .int .u64 0, .int .u64 0])) ⟨by (repeat' (first | (with_reducible assumption) | (with_reducible exact Below.refl _ _) | (with_reducible refine Below.alloc ?_ ?_ _) | (with_reducible refine Below.setCell ?_ ?_ _) | (with_reducible refine Below.drew ?_) | (with_reducible refine below_more ?_ (by with_reducible assumption)) | go_size | omega | (with_reducible refine below_drewN ?_))), (by first | go_size | omega), Bx.of (by (repeat' (first | (with_reducible assumption) | ((with_reducible refine HB.new _ _ _ ?_) <;> (go_size; done)) | (with_reducible refine HB.old (by go_size) ?_) | (with_reducible refine HB.drew ?_) | (with_reducible refine HB.over5 ?_) | (with_reducible refine HB.over4 ?_) | (with_reducible refine HB.setne (by first | go_size | (dsimp only; omega)) ?_) | (with_reducible refine HN.set ?_) | (with_reducible refine HN.setne (by first | go_size | (dsimp only; omega)) ?_) | (with_reducible refine HN.drew ?_) | (with_reducible refine HN.old (by go_size) ?_) | (with_reducible exact HN.of5 (by assumption)) | (with_reducible exact HN.new5 _ _ (by go_size)) | (with_reducible exact HN.of4 (by assumption)) | (with_reducible exact HN.new4 _ _ (by go_size))))), Bx.of (by (repeat' (first | (with_reducible assumption) | ((with_reducible refine HB.new _ _ _ ?_) <;> (go_size; done)) | (with_reducible refine HB.old (by go_size) ?_) | (with_reducible refine HB.drew ?_) | (with_reducible refine HB.over5 ?_) | (with_reducible refine HB.over4 ?_) | (with_reducible refine HB.setne (by first | go_size | (dsimp only; omega)) ?_) | (with_reducible refine HN.set ?_) | (with_reducible refine HN.setne (by first | go_size | (dsimp only; omega)) ?_) | (with_reducible refine HN.drew ?_) | (with_reducible refine HN.old (by go_size) ?_) | (with_reducible exact HN.of5 (by assumption)) | (with_reducible exact HN.new5 _ _ (by go_size)) | (with_reducible exact HN.of4 (by assumption)) | (with_reducible exact HN.new4 _ _ (by go_size))))), Bx.of (by (repeat' (first | (with_reducible assumption) | ((with_reducible refine HB.new _ _ _ ?_) <;> (go_size; done)) | (with_reducible refine HB.old (by go_size) ?_) | (with_reducible refine HB.drew ?_) | (with_reducible refine HB.over5 ?_) | (with_reducible refine HB.over4 ?_) | (with_reducible refine HB.setne (by first | go_size | (dsimp only; omega)) ?_) | (with_reducible refine HN.set ?_) | (with_reducible refine HN.setne (by first | go_size | (dsimp only; omega)) ?_) | (with_reducible refine HN.drew ?_) | (with_reducible refine HN.old (by go_size) ?_) | (with_reducible exact HN.of5 (by assumption)) | (with_reducible exact HN.new5 _ _ (by go_size)) | (with_reducible exact HN.of4 (by assumption)) | (with_reducible exact HN.new4 _ _ (by go_size))))), Bx.of (by (repeat' (first | (with_reducible assumption) | ((with_reducible refine HB.new _ _ _ ?_) <;> (go_size; done)) | (with_reducible refine HB.old (by go_size) ?_) | (with_reducible refine HB.drew ?_) | (with_reducible refine HB.over5 ?_) | (with_reducible refine HB.over4 ?_) | (with_reducible refine HB.setne (by first | go_size | (dsimp only; omega)) ?_) | (with_reducible refine HN.set ?_) | (with_reducible refine HN.setne (by first | go_size | (dsimp only; omega)) ?_) | (with_reducible refine HN.drew ?_) | (with_reducible refine HN.old (by go_size) ?_) | (with_reducible exact HN.of5 (by assumption)) | (with_reducible exact HN.new5 _ _ (by go_size)) | (with_reducible exact HN.of4 (by assumption)) | (with_reducible exact HN.new4 _ _ (by go_size)))))⟩ ?_; rintro W0 ⟨hbw0, hnw0, ⟨B01, B01c, B01f, B01l⟩, ⟨B02, B02c, B02f, B02l⟩, ⟨B03, B03c, B03f, B03l⟩, ⟨B04, B04c, B04f, B04l⟩⟩
  refine wp_loop_rounds 5 ?_
  obtain ⟨w00, x00, A00, B00⟩ := X00.out
  rw [rounds_succ]
  go_wp2_with (go_at_call 66; refine (wmul64_any _ _ ha0 hb0 _).mono ?_; rintro e w' ⟨rfl, rfl⟩)
  clear w00 x00 A00 B00 X00
  obtain ⟨w01, x01, A01, B01⟩ := X01.out
  rw [rounds_succ]
  go_wp2_with (go_at_call 66; refine (wmul64_any _ _ ha0 hb1 _).mono ?_; rintro e w' ⟨rfl, rfl⟩)
  clear w01 x01 A01 B01 X01
  obtain ⟨w02, x02, A02, B02⟩ := X02.out
  rw [rounds_succ]
  go_wp2_with (go_at_call 66; refine (wmul64_any _ _ ha0 hb2 _).mono ?_; rintro e w' ⟨rfl, rfl⟩)
  clear w02 x02 A02 B02 X02
  obtain ⟨w03, x03, A03, B03⟩ := X03.out
  rw [rounds_succ]
  go_wp2_with (go_at_call 66; refine (wmul64_any _ _ ha0 hb3 _).mono ?_; rintro e w' ⟨rfl, rfl⟩)
  clear w03 x03 A03 B03 X03
  rw [rounds_succ]
  go_wp2
  rw [rounds_succ]
  go_wp2
  refine wp_gen (fun Wz => Below w.heap.size w Wz ∧ w.heap.size + 4 ≤ Wz.heap.size ∧ Bx Wz (w.heap.size) (#[.int .u64 a0, .int .u64 a1, .int .u64 a2, .int .u64 a3]) ∧ Bx Wz (w.heap.size + 1) (#[.int .u64 b0, .int .u64 b1, .int .u64 b2, .int .u64 b3]) ∧ Bx Wz (w.heap.size + 1 + 1) (#[.int .u64 0, .int .u64 0, .int .u64 0, .int .u64 0]) ∧ Bx Wz (w.heap.size + 1 + 1 + 1) (#[.int .u64 r00, .int .u64 r01, .int .u64 r02, .int .u64 r03, .int .u64 c03, .int .u64 0, .int .u64 0, .int .u64 0])) ⟨by (repeat' (first | (with_reducible assumption) | (with_reducible exact Below.refl _ _) | (with_reducible refine Below.alloc ?_ ?_ _) | (with_reducible refine Below.setCell ?_ ?_ _) | (with_reducible refine Below.drew ?_) | (with_reducible refine below_more ?_ (by with_reducible assumption)) | go_size | omega | (with_reducible refine below_drewN ?_))), (by first | go_size | omega), Bx.of (by (repeat' (first | (with_reducible assumption) | ((with_reducible refine HB.new _ _ _ ?_) <;> (go_size; done)) | (with_reducible refine HB.old (by go_size) ?_) | (with_reducible refine HB.drew ?_) | (with_reducible refine HB.over5 ?_) | (with_reducible refine HB.over4 ?_) | (with_reducible refine HB.setne (by first | go_size | (dsimp only; omega)) ?_) | (with_reducible refine HN.set ?_) | (with_reducible refine HN.setne (by first | go_size | (dsimp only; omega)) ?_) | (with_reducible refine HN.drew ?_) | (with_reducible refine HN.old (by go_size) ?_) | (with_reducible exact HN.of5 (by assumption)) | (with_reducible exact HN.new5 _ _ (by go_size)) | (with_reducible exact HN.of4 (by assumption)) | (with_reducible exact HN.new4 _ _ (by go_size))))), Bx.of (by (repeat' (first | (with_reducible assumption) | ((with_reducible refine HB.new _ _ _ ?_) <;> (go_size; done)) | (with_reducible refine HB.old (by go_size) ?_) | (with_reducible refine HB.drew ?_) | (with_reducible refine HB.over5 ?_) | (with_reducible refine HB.over4 ?_) | (with_reducible refine HB.setne (by first | go_size | (dsimp only; omega)) ?_) | (with_reducible refine HN.set ?_) | (with_reducible refine HN.setne (by first | go_size | (dsimp only; omega)) ?_) | (with_reducible refine HN.drew ?_) | (with_reducible refine HN.old (by go_size) ?_) | (with_reducible exact HN.of5 (by assumption)) | (with_reducible exact HN.new5 _ _ (by go_size)) | (with_reducible exact HN.of4 (by assumption)) | (with_reducible exact HN.new4 _ _ (by go_size))))), Bx.of (by (repeat' (first | (with_reducible assumption) | ((with_reducible refine HB.new _ _ _ ?_) <;> (go_size; done)) | (with_reducible refine HB.old (by go_size) ?_) | (with_reducible refine HB.drew ?_) | (with_reducible refine HB.over5 ?_) | (with_reducible refine HB.over4 ?_) | (with_reducible refine HB.setne (by first | go_size | (dsimp only; omega)) ?_) | (with_reducible refine HN.set ?_) | (with_reducible refine HN.setne (by first | go_size | (dsimp only; omega)) ?_) | (with_reducible refine HN.drew ?_) | (with_reducible refine HN.old (by go_size) ?_) | (with_reducible exact HN.of5 (by assumption)) | (with_reducible exact HN.new5 _ _ (by go_size)) | (with_reducible exact HN.of4 (by assumption)) | (with_reducible exact HN.new4 _ _ (by go_size))))), Bx.of (by have h2 := (HB.set (i := 4) (v := .int .u64 c03) (HB.set (i := 3) (v := .int .u64 r03) (HB.set (i := 2) (v := .int .u64 r02) (HB.set (i := 1) (v := .int .u64 r01) (HB.set (i := 0) (v := .int .u64 r00) B04 rfl) rfl) rfl) rfl) rfl); simpa only [List.setIfInBounds_toArray, List.set_cons_zero, List.set_cons_succ] using h2)⟩ ?_; rintro W1 ⟨hbw1, hnw1, ⟨B11, B11c, B11f, B11l⟩, ⟨B12, B12c, B12f, B12l⟩, ⟨B13, B13c, B13f, B13l⟩, ⟨B14, B14c, B14f, B14l⟩⟩
  clear B01 B01c B01f B01l B02 B02c B02f B02l B03 B03c B03f B03l B04 B04c B04f B04l
  refine wp_loop_rounds 5 ?_
  obtain ⟨w10, x10, A10, B10⟩ := X10.out
  rw [rounds_succ]
  go_wp2_with (go_at_call 66; refine (wmul64_any _ _ ha1 hb0 _).mono ?_; rintro e w' ⟨rfl, rfl⟩)
  clear w10 x10 A10 B10 X10
  obtain ⟨w11, x11, A11, B11⟩ := X11.out
  rw [rounds_succ]
  go_wp2_with (go_at_call 66; refine (wmul64_any _ _ ha1 hb1 _).mono ?_; rintro e w' ⟨rfl, rfl⟩)
  clear w11 x11 A11 B11 X11
  obtain ⟨w12, x12, A12, B12⟩ := X12.out
  rw [rounds_succ]
  go_wp2_with (go_at_call 66; refine (wmul64_any _ _ ha1 hb2 _).mono ?_; rintro e w' ⟨rfl, rfl⟩)
  clear w12 x12 A12 B12 X12
  obtain ⟨w13, x13, A13, B13⟩ := X13.out
  rw [rounds_succ]
  go_wp2_with (go_at_call 66; refine (wmul64_any _ _ ha1 hb3 _).mono ?_; rintro e w' ⟨rfl, rfl⟩)
  clear w13 x13 A13 B13 X13
  rw [rounds_succ]
  go_wp2
  rw [rounds_succ]
  go_wp2
  refine wp_gen (fun Wz => Below w.heap.size w Wz ∧ w.heap.size + 4 ≤ Wz.heap.size ∧ Bx Wz (w.heap.size) (#[.int .u64 a0, .int .u64 a1, .int .u64 a2, .int .u64 a3]) ∧ Bx Wz (w.heap.size + 1) (#[.int .u64 b0, .int .u64 b1, .int .u64 b2, .int .u64 b3]) ∧ Bx Wz (w.heap.size + 1 + 1) (#[.int .u64 0, .int .u64 0, .int .u64 0, .int .u64 0]) ∧ Bx Wz (w.heap.size + 1 + 1 + 1) (#[.int .u64 r00, .int .u64 r10, .int .u64 r11, .int .u64 r12, .int .u64 r13, .int .u64 c13, .int .u64 0, .int .u64 0])) ⟨by (repeat' (first | (with_reducible assumption) | (with_reducible exact Below.refl _ _) | (with_reducible refine Below.alloc ?_ ?_ _) | (with_reducible refine Below.setCell ?_ ?_ _) | (with_reducible refine Below.drew ?_) | (with_reducible refine below_more ?_ (by with_reducible assumption)) | go_size | omega | (with_reducible refine below_drewN ?_))), (by first | go_size | omega), Bx.of (by (repeat' (first | (with_reducible assumption) | ((with_reducible refine HB.new _ _ _ ?_) <;> (go_size; done)) | (with_reducible refine HB.old (by go_size) ?_) | (with_reducible refine HB.drew ?_) | (with_reducible refine HB.over5 ?_) | (with_reducible refine HB.over4 ?_) | (with_reducible refine HB.setne (by first | go_size | (dsimp only; omega)) ?_) | (with_reducible refine HN.set ?_) | (with_reducible refine HN.setne (by first | go_size | (dsimp only; omega)) ?_) | (with_reducible refine HN.drew ?_) | (with_reducible refine HN.old (by go_size) ?_) | (with_reducible exact HN.of5 (by assumption)) | (with_reducible exact HN.new5 _ _ (by go_size)) | (with_reducible exact HN.of4 (by assumption)) | (with_reducible exact HN.new4 _ _ (by go_size))))), Bx.of (by (repeat' (first | (with_reducible assumption) | ((with_reducible refine HB.new _ _ _ ?_) <;> (go_size; done)) | (with_reducible refine HB.old (by go_size) ?_) | (with_reducible refine HB.drew ?_) | (with_reducible refine HB.over5 ?_) | (with_reducible refine HB.over4 ?_) | (with_reducible refine HB.setne (by first | go_size | (dsimp only; omega)) ?_) | (with_reducible refine HN.set ?_) | (with_reducible refine HN.setne (by first | go_size | (dsimp only; omega)) ?_) | (with_reducible refine HN.drew ?_) | (with_reducible refine HN.old (by go_size) ?_) | (with_reducible exact HN.of5 (by assumption)) | (with_reducible exact HN.new5 _ _ (by go_size)) | (with_reducible exact HN.of4 (by assumption)) | (with_reducible exact HN.new4 _ _ (by go_size))))), Bx.of (by (repeat' (first | (with_reducible assumption) | ((with_reducible refine HB.new _ _ _ ?_) <;> (go_size; done)) | (with_reducible refine HB.old (by go_size) ?_) | (with_reducible refine HB.drew ?_) | (with_reducible refine HB.over5 ?_) | (with_reducible refine HB.over4 ?_) | (with_reducible refine HB.setne (by first | go_size | (dsimp only; omega)) ?_) | (with_reducible refine HN.set ?_) | (with_reducible refine HN.setne (by first | go_size | (dsimp only; omega)) ?_) | (with_reducible refine HN.drew ?_) | (with_reducible refine HN.old (by go_size) ?_) | (with_reducible exact HN.of5 (by assumption)) | (with_reducible exact HN.new5 _ _ (by go_size)) | (with_reducible exact HN.of4 (by assumption)) | (with_reducible exact HN.new4 _ _ (by go_size))))), Bx.of (by have h2 := (HB.set (i := 5) (v := .int .u64 c13) (HB.set (i := 4) (v := .int .u64 r13) (HB.set (i := 3) (v := .int .u64 r12) (HB.set (i := 2) (v := .int .u64 r11) (HB.set (i := 1) (v := .int .u64 r10) B14 rfl) rfl) rfl) rfl) rfl); simpa only [List.setIfInBounds_toArray, List.set_cons_zero, List.set_cons_succ] using h2)⟩ ?_; rintro W2 ⟨hbw2, hnw2, ⟨B21, B21c, B21f, B21l⟩, ⟨B22, B22c, B22f, B22l⟩, ⟨B23, B23c, B23f, B23l⟩, ⟨B24, B24c, B24f, B24l⟩⟩
  clear B11 B11c B11f B11l B12 B12c B12f B12l B13 B13c B13f B13l B14 B14c B14f B14l
  refine wp_loop_rounds 5 ?_
  obtain ⟨w20, x20, A20, B20⟩ := X20.out
  rw [rounds_succ]
  go_wp2_with (go_at_call 66; refine (wmul64_any _ _ ha2 hb0 _).mono ?_; rintro e w' ⟨rfl, rfl⟩)
  clear w20 x20 A20 B20 X20
  obtain ⟨w21, x21, A21, B21⟩ := X21.out
  rw [rounds_succ]
  go_wp2_with (go_at_call 66; refine (wmul64_any _ _ ha2 hb1 _).mono ?_; rintro e w' ⟨rfl, rfl⟩)
  clear w21 x21 A21 B21 X21
  obtain ⟨w22, x22, A22, B22⟩ := X22.out
  rw [rounds_succ]
  go_wp2_with (go_at_call 66; refine (wmul64_any _ _ ha2 hb2 _).mono ?_; rintro e w' ⟨rfl, rfl⟩)
  clear w22 x22 A22 B22 X22
  obtain ⟨w23, x23, A23, B23⟩ := X23.out
  rw [rounds_succ]
  go_wp2_with (go_at_call 66; refine (wmul64_any _ _ ha2 hb3 _).mono ?_; rintro e w' ⟨rfl, rfl⟩)
  clear w23 x23 A23 B23 X23
  rw [rounds_succ]
  go_wp2
  rw [rounds_succ]
  go_wp2
  refine wp_gen (fun Wz => Below w.heap.size w Wz ∧ w.heap.size + 4 ≤ Wz.heap.size ∧ Bx Wz (w.heap.size) (#[.int .u64 a0, .int .u64 a1, .int .u64 a2, .int .u64 a3]) ∧ Bx Wz (w.heap.size + 1) (#[.int .u64 b0, .int .u64 b1, .int .u64 b2, .int .u64 b3]) ∧ Bx Wz (w.heap.size + 1 + 1) (#[.int .u64 0, .int .u64 0, .int .u64 0, .int .u64 0]) ∧ Bx Wz (w.heap.size + 1 + 1 + 1) (#[.int .u64 r00, .int .u64 r10, .int .u64 r20, .int .u64 r21, .int .u64 r22, .int .u64 r23, .int .u64 c23, .int .u64 0])) ⟨by (repeat' (first | (with_reducible assumption) | (with_reducible exact Below.refl _ _) | (with_reducible refine Below.alloc ?_ ?_ _) | (with_reducible refine Below.setCell ?_ ?_ _) | (with_reducible refine Below.drew ?_) | (with_reducible refine below_more ?_ (by with_reducible assumption)) | go_size | omega | (with_reducible refine below_drewN ?_))), (by first | go_size | omega), Bx.of (by (repeat' (first | (with_reducible assumption) | ((with_reducible refine HB.new _ _ _ ?_) <;> (go_size; done)) | (with_reducible refine HB.old (by go_size) ?_) | (with_reducible refine HB.drew ?_) | (with_reducible refine HB.over5 ?_) | (with_reducible refine HB.over4 ?_) | (with_reducible refine HB.setne (by first | go_size | (dsimp only; omega)) ?_) | (with_reducible refine HN.set ?_) | (with_reducible refine HN.setne (by first | go_size | (dsimp only; omega)) ?_) | (with_reducible refine HN.drew ?_) | (with_reducible refine HN.old (by go_size) ?_) | (with_reducible exact HN.of5 (by assumption)) | (with_reducible exact HN.new5 _ _ (by go_size)) | (with_reducible exact HN.of4 (by assumption)) | (with_reducible exact HN.new4 _ _ (by go_size))))), Bx.of (by (repeat' (first | (with_reducible assumption) | ((with_reducible refine HB.new _ _ _ ?_) <;> (go_size; done)) | (with_reducible refine HB.old (by go_size) ?_) | (with_reducible refine HB.drew ?_) | (with_reducible refine HB.over5 ?_) | (with_reducible refine HB.over4 ?_) | (with_reducible refine HB.setne (by first | go_size | (dsimp only; omega)) ?_) | (with_reducible refine HN.set ?_) | (with_reducible refine HN.setne (by first | go_size | (dsimp only; omega)) ?_) | (with_reducible refine HN.drew ?_) | (with_reducible refine HN.old (by go_size) ?_) | (with_reducible exact HN.of5 (by assumption)) | (with_reducible exact HN.new5 _ _ (by go_size)) | (with_reducible exact HN.of4 (by assumption)) | (with_reducible exact HN.new4 _ _ (by go_size))))), Bx.of (by (repeat' (first | (with_reducible assumption) | ((with_reducible refine HB.new _ _ _ ?_) <;> (go_size; done)) | (with_reducible refine HB.old (by go_size) ?_) | (with_reducible refine HB.drew ?_) | (with_reducible refine HB.over5 ?_) | (with_reducible refine HB.over4 ?_) | (with_reducible refine HB.setne (by first | go_size | (dsimp only; omega)) ?_) | (with_reducible refine HN.set ?_) | (with_reducible refine HN.setne (by first | go_size | (dsimp only; omega)) ?_) | (with_reducible refine HN.drew ?_) | (with_reducible refine HN.old (by go_size) ?_) | (with_reducible exact HN.of5 (by assumption)) | (with_reducible exact HN.new5 _ _ (by go_size)) | (with_reducible exact HN.of4 (by assumption)) | (with_reducible exact HN.new4 _ _ (by go_size))))), Bx.of (by have h2 := (HB.set (i := 6) (v := .int .u64 c23) (HB.set (i := 5) (v := .int .u64 r23) (HB.set (i := 4) (v := .int .u64 r22) (HB.set (i := 3) (v := .int .u64 r21) (HB.set (i := 2) (v := .int .u64 r20) B24 rfl) rfl) rfl) rfl) rfl); simpa only [List.setIfInBounds_toArray, List.set_cons_zero, List.set_cons_succ] using h2)⟩ ?_; rintro W3 ⟨hbw3, hnw3, ⟨B31, B31c, B31f, B31l⟩, ⟨B32, B32c, B32f, B32l⟩, ⟨B33, B33c, B33f, B33l⟩, ⟨B34, B34c, B34f, B34l⟩⟩
  clear B21 B21c B21f B21l B22 B22c B22f B22l B23 B23c B23f B23l B24 B24c B24f B24l
  refine wp_loop_rounds 5 ?_
  obtain ⟨w30, x30, A30, B30⟩ := X30.out
  rw [rounds_succ]
  go_wp2_with (go_at_call 66; refine (wmul64_any _ _ ha3 hb0 _).mono ?_; rintro e w' ⟨rfl, rfl⟩)
  clear w30 x30 A30 B30 X30
  obtain ⟨w31, x31, A31, B31⟩ := X31.out
  rw [rounds_succ]
  go_wp2_with (go_at_call 66; refine (wmul64_any _ _ ha3 hb1 _).mono ?_; rintro e w' ⟨rfl, rfl⟩)
  clear w31 x31 A31 B31 X31
  obtain ⟨w32, x32, A32, B32⟩ := X32.out
  rw [rounds_succ]
  go_wp2_with (go_at_call 66; refine (wmul64_any _ _ ha3 hb2 _).mono ?_; rintro e w' ⟨rfl, rfl⟩)
  clear w32 x32 A32 B32 X32
  obtain ⟨w33, x33, A33, B33⟩ := X33.out
  rw [rounds_succ]
  go_wp2_with (go_at_call 66; refine (wmul64_any _ _ ha3 hb3 _).mono ?_; rintro e w' ⟨rfl, rfl⟩)
  clear w33 x33 A33 B33 X33
  rw [rounds_succ]
  go_wp2
  rw [rounds_succ]
  go_wp2
  refine wp_gen (fun Wz => Below w.heap.size w Wz ∧ w.heap.size + 4 ≤ Wz.heap.size ∧ Bx Wz (w.heap.size + 1 + 1) (#[.int .u64 0, .int .u64 0, .int .u64 0, .int .u64 0]) ∧ Bx Wz (w.heap.size + 1 + 1 + 1) (#[.int .u64 r00, .int .u64 r10, .int .u64 r20, .int .u64 r30, .int .u64 r31, .int .u64 r32, .int .u64 r33, .int .u64 c33])) ⟨by (repeat' (first | (with_reducible assumption) | (with_reducible exact Below.refl _ _) | (with_reducible refine Below.alloc ?_ ?_ _) | (with_reducible refine Below.setCell ?_ ?_ _) | (with_reducible refine Below.drew ?_) | (with_reducible refine below_more ?_ (by with_reducible assumption)) | go_size | omega | (with_reducible refine below_drewN ?_))), (by first | go_size | omega), Bx.of (by (repeat' (first | (with_reducible assumption) | ((with_reducible refine HB.new _ _ _ ?_) <;> (go_size; done)) | (with_reducible refine HB.old (by go_size) ?_) | (with_reducible refine HB.drew ?_) | (with_reducible refine HB.over5 ?_) | (with_reducible refine HB.over4 ?_) | (with_reducible refine HB.setne (by first | go_size | (dsimp only; omega)) ?_) | (with_reducible refine HN.set ?_) | (with_reducible refine HN.setne (by first | go_size | (dsimp only; omega)) ?_) | (with_reducible refine HN.drew ?_) | (with_reducible refine HN.old (by go_size) ?_) | (with_reducible exact HN.of5 (by assumption)) | (with_reducible exact HN.new5 _ _ (by go_size)) | (with_reducible exact HN.of4 (by assumption)) | (with_reducible exact HN.new4 _ _ (by go_size))))), Bx.of (by have h2 := (HB.set (i := 7) (v := .int .u64 c33) (HB.set (i := 6) (v := .int .u64 r33) (HB.set (i := 5) (v := .int .u64 r32) (HB.set (i := 4) (v := .int .u64 r31) (HB.set (i := 3) (v := .int .u64 r30) B34 rfl) rfl) rfl) rfl) rfl); simpa only [List.setIfInBounds_toArray, List.set_cons_zero, List.set_cons_succ] using h2)⟩ ?_; rintro W4 ⟨hbw4, hnw4, ⟨B41, B41c, B41f, B41l⟩, ⟨B42, B42c, B42f, B42l⟩⟩
  clear B31 B31c B31f B31l B32 B32c B32f B32l B33 B33c B33f B33l B34 B34c B34f B34l
  clear IA0 IA1 IA2 IA3 IB0 IB1 IB2 IB3
  have CP := copy4 (W := W4.drew) (w.heap.size + 1 + 1) (w.heap.size + 1 + 1 + 1) (HN.of4 (HB.drew B41)) (HB.drew B42)
  go_region
  clear CP
  go_wp2_with fail
  refine wp_gen (fun Wz => Below w.heap.size w Wz ∧ w.heap.size + 4 ≤ Wz.heap.size ∧ Bx Wz (w.heap.size + 1 + 1) (#[.int .u64 r00, .int .u64 r10, .int .u64 r20, .int .u64 r30]) ∧ Bx Wz (w.heap.size + 1 + 1 + 1) (#[.int .u64 r00, .int .u64 r10, .int .u64 r20, .int .u64 r30, .int .u64 r31, .int .u64 r32, .int .u64 r33, .int .u64 c33])) ⟨by (repeat' (first | (with_reducible assumption) | (with_reducible exact Below.refl _ _) | (with_reducible refine Below.alloc ?_ ?_ _) | (with_reducible refine Below.setCell ?_ ?_ _) | (with_reducible refine Below.drew ?_) | (with_reducible refine below_more ?_ (by with_reducible assumption)) | go_size | omega | (with_reducible refine below_drewN ?_))), (by first | go_size | omega), Bx.of (by (repeat' (first | (with_reducible assumption) | ((with_reducible refine HB.new _ _ _ ?_) <;> (go_size; done)) | (with_reducible refine HB.old (by go_size) ?_) | (with_reducible refine HB.drew ?_) | (with_reducible refine HB.over5 ?_) | (with_reducible refine HB.over4 ?_) | (with_reducible refine HB.setne (by first | go_size | (dsimp only; omega)) ?_) | (with_reducible refine HN.set ?_) | (with_reducible refine HN.setne (by first | go_size | (dsimp only; omega)) ?_) | (with_reducible refine HN.drew ?_) | (with_reducible refine HN.old (by go_size) ?_) | (with_reducible exact HN.of5 (by assumption)) | (with_reducible exact HN.new5 _ _ (by go_size)) | (with_reducible exact HN.of4 (by assumption)) | (with_reducible exact HN.new4 _ _ (by go_size))))), Bx.of (by (repeat' (first | (with_reducible assumption) | ((with_reducible refine HB.new _ _ _ ?_) <;> (go_size; done)) | (with_reducible refine HB.old (by go_size) ?_) | (with_reducible refine HB.drew ?_) | (with_reducible refine HB.over5 ?_) | (with_reducible refine HB.over4 ?_) | (with_reducible refine HB.setne (by first | go_size | (dsimp only; omega)) ?_) | (with_reducible refine HN.set ?_) | (with_reducible refine HN.setne (by first | go_size | (dsimp only; omega)) ?_) | (with_reducible refine HN.drew ?_) | (with_reducible refine HN.old (by go_size) ?_) | (with_reducible exact HN.of5 (by assumption)) | (with_reducible exact HN.new5 _ _ (by go_size)) | (with_reducible exact HN.of4 (by assumption)) | (with_reducible exact HN.new4 _ _ (by go_size)))))⟩ ?_; rintro W5 ⟨hbw5, hnw5, ⟨B51, B51c, B51f, B51l⟩, ⟨B52, B52c, B52f, B52l⟩⟩
  clear B41 B41c B41f B41l B42 B42c B42f B42l
  have E := fun W => eq_mag r31 r32 r33 c33 0 0 0 0 9998 W
  have AR := fun W => arr4 (w.heap.size + 1 + 1 + 1) 4 W
  go_region
  clear E AR
  (repeat' (first | go_values | go_skip | go_guarded | go_step | go_upon | (simp only [Int.not_lt, Int.not_le] at *; go_simp) | (go_values <;> (try go_simp)) | (go_ite <;> go_prune <;> (try go_simp)) | (split <;> (first | (rename_i hx; exact (hx _ rfl).elim) | go_prune))))
  refine bodyPost_ret (v := .tuple #[MG r00 r10 r20 r30, .bool (mz r31 r32 r33 c33)]) ?_ rfl ⟨rfl, by (repeat' (first | (with_reducible assumption) | (with_reducible exact Below.refl _ _) | (with_reducible refine Below.alloc ?_ ?_ _) | (with_reducible refine Below.setCell ?_ ?_ _) | (with_reducible refine Below.drew ?_) | (with_reducible refine below_more ?_ (by with_reducible assumption)) | go_size | omega | (with_reducible refine below_drewN ?_)))⟩
  simp [results, Try.results79, go_sem, B51c, B51f, B51l, mz]
end Go.Proofs.Ythcboomdkpiflaa
