/- Several texts in one: WideM, RefB, CdV, WideC, RefC, WideD, LtC, Gw, Gd, Ha, Hb, DvK, Hc, Hd, Ge, Gf, Gg, He. -/
import Derived.Test.YtncmmbacoknefaaGreatRows
import Derived.WalkKit
import Derived.ProofKit
import Derived.WalkLawsBesides
import Derived.WalkSpells
import Derived.RegionTactic
import Derived.ChangeAlike
import Derived.BigRegion
import Derived.Laws.IdiomCopy
import Derived.Deep.DeepCutAuto
import Derived.Outline
import Derived.Handy
import Derived.Test.YtncmmbacoknefaaGreatProg
import Derived.Test.YtncmmbacoknefaaGreatRg21
import Derived.Test.YtncmmbacoknefaaGreatRg22
set_option linter.defProp false

/- WideM: The package wide: the product of absolute values. -/
namespace Go.Proofs.YtncmmbacoknefaaGreat
open Go.ChangeShapes Go.WideShapes Go.ChangeAt Go.RowKit
set_option linter.unusedVariables false
set_option linter.unusedSimpArgs false
theorem wmul64_any (x y:Int) (hx:U64 x) (hy:U64 y) (w:World) :
  Calls Tryz.prog 164 #[.int .u64 x,.int .u64 y] w fun e w'=>e = .returned (.tuple #[.int .u64 (hi64 x y),.int .u64 (lo64 x y)])∧w = w':=by
 obtain ⟨x1,x2⟩:=hx; obtain ⟨y1,y2⟩:=hy
 obtain ⟨n,rfl⟩:=Int.eq_ofNat_of_zero_le x1
 obtain ⟨m,rfl⟩:=Int.eq_ofNat_of_zero_le y1
 refine (Tryz.bits_Mul64 n m (by omega) (by omega) w).mono ?_
 rintro e w' ⟨rfl,rfl⟩
 exact ⟨by rw [hilo_nat n m,lo_nat n m],rfl⟩
theorem mstep {x y acc cy:Int} (hx:U64 x) (hy:U64 y) (ha:U64 acc) (hc:U64 cy):∃ r0 c0 h1 r1 c1 cy':Int,U64 r1∧U64 cy'∧r1 + 18446744073709551616 * cy' = x * y + acc + cy∧IntKind.u64.wrap (hi64 x y + c0) = h1∧IntKind.u64.wrap (h1 + c1) = cy' ∧
  (∀ W,(callFunc 155 #[.int .u64 acc,.int .u64 (lo64 x y),.int .u64 0]).run Tryz.prog W = .ok (.value (.tuple #[.int .u64 r0,.int .u64 c0])) W) ∧
  (∀ W,(callFunc 155 #[.int .u64 r0,.int .u64 cy,.int .u64 0]).run Tryz.prog W = .ok (.value (.tuple #[.int .u64 r1,.int .u64 c1])) W):=by
 have hl:U64 (lo64 x y):=⟨by unfold lo64; omega,by unfold lo64; omega⟩
 have hr:U64 (s64 acc (lo64 x y) 0):=s64_in _ _ _
 have e:lo64 x y + 18446744073709551616 * hi64 x y = x * y:=by unfold lo64 hi64; omega
 have hp:0≤x * y:=Int.mul_nonneg hx.1 hy.1
 have hp2:x * y≤18446744073709551615 * 18446744073709551615:=Int.mul_le_mul (by have:=hx.2; omega) (by have:=hy.2; omega) hy.1 (by decide)
 have b1:=c64_bit ha hl Bit.zero
 have b2:=c64_bit hr hc Bit.zero
 have e1:s64 acc (lo64 x y) 0 + 18446744073709551616 * c64 acc (lo64 x y) 0 = acc + lo64 x y:=by unfold s64 c64; omega
 have e2:s64 (s64 acc (lo64 x y) 0) cy 0 + 18446744073709551616 * c64 (s64 acc (lo64 x y) 0) cy 0 = s64 acc (lo64 x y) 0 + cy:=by unfold s64 c64; omega
 have A1:=fun W=>add64 ha hl Bit.zero W
 have A2:=fun W=>add64 hr hc Bit.zero W
 have hr1:U64 (s64 (s64 acc (lo64 x y) 0) cy 0):=s64_in _ _ _
 generalize s64 (s64 acc (lo64 x y) 0) cy 0 = r1 at *
 generalize c64 (s64 acc (lo64 x y) 0) cy 0 = c1 at *
 generalize s64 acc (lo64 x y) 0 = r0 at *
 generalize c64 acc (lo64 x y) 0 = c0 at *
 have hh:0≤hi64 x y:=by unfold hi64; omega
 obtain ⟨x1,x2⟩:=hr1; obtain ⟨y1,y2⟩:=ha; obtain ⟨z1,z2⟩:=hc; obtain ⟨u1,u2⟩:=b1; obtain ⟨v1,v2⟩:=b2; obtain ⟨l1,l2⟩:=hl; obtain ⟨s1,s2⟩:=hr
 generalize hi64 x y = h at *
 generalize lo64 x y = l at *
 generalize x * y = p at *
 have k:r1 + 18446744073709551616 * (h + c0 + c1) = p + acc + cy:=by omega
 have k1:h + c0 + c1 < 18446744073709551616:=by omega
 have w1:IntKind.u64.wrap (h + c0) = h + c0:=u64_wrap_id _ ⟨by omega,by omega⟩
 have w2:IntKind.u64.wrap (h + c0 + c1) = h + c0 + c1:=u64_wrap_id _ ⟨by omega,by omega⟩
 exact ⟨r0,c0,h + c0,r1,c1,h + c0 + c1,⟨x1,x2⟩,⟨by omega,by omega⟩,k,w1,w2,A1,A2⟩
theorem mrow {x b0 b1 b2 b3 v0 v1 v2 v3 r0 r1 r2 r3 c1 c2 c3 c4:Int} (e0:r0 + 18446744073709551616 * c1 = x * b0 + v0 + 0) (e1:r1 + 18446744073709551616 * c2 = x * b1 + v1 + c1) (e2:r2 + 18446744073709551616 * c3 = x * b2 + v2 + c2) (e3:r3 + 18446744073709551616 * c4 = x * b3 + v3 + c3) :
  r0 + 18446744073709551616 * MV r1 r2 r3 c4 = x * MV b0 b1 b2 b3 + MV v0 v1 v2 v3:=by
 have D:∀ u v:Int,x * (u + 18446744073709551616 * v) = x * u + 18446744073709551616 * (x * v):=fun u v=>by rw [Int.mul_add,Int.mul_left_comm]
 have R:∀ a b c d:Int,a + 18446744073709551616 * b + (c + 18446744073709551616 * d) = (a + c) + 18446744073709551616 * (b + d):=fun a b c d=>by omega
 unfold MV
 rw [D,D,D,R,R,R]
 generalize x * b0 = p0 at *
 generalize x * b1 = p1 at *
 generalize x * b2 = p2 at *
 generalize x * b3 = p3 at *
 rw [e3]
 have s2:r2 + 18446744073709551616 * (p3 + v3 + c3) = (p2 + v2 + 18446744073709551616 * (p3 + v3)) + c2:=by omega
 rw [s2]
 generalize p2 + v2 + 18446744073709551616 * (p3 + v3) = q2
 have s1:r1 + 18446744073709551616 * (q2 + c2) = (p1 + v1 + 18446744073709551616 * q2) + c1:=by omega
 rw [s1]
 generalize p1 + v1 + 18446744073709551616 * q2 = q1
 omega
theorem mrows {a0 a1 a2 a3 N l0 l1 l2 l3 U1 U2 U3 H:Int} (t0:l0 + 18446744073709551616 * U1 = a0 * N + 0) (t1:l1 + 18446744073709551616 * U2 = a1 * N + U1) (t2:l2 + 18446744073709551616 * U3 = a2 * N + U2) (t3:l3 + 18446744073709551616 * H = a3 * N + U3) :
  MV a0 a1 a2 a3 * N = l0 + 18446744073709551616 * (l1 + 18446744073709551616 * (l2 + 18446744073709551616 * (l3 + 18446744073709551616 * H))):=by
 have D:∀ u v:Int,(u + 18446744073709551616 * v) * N = u * N + 18446744073709551616 * (v * N):=fun u v=>by rw [Int.add_mul,Int.mul_assoc]
 unfold MV
 rw [D,D,D,t3]
 generalize a0 * N = p0 at *
 generalize a1 * N = p1 at *
 generalize a2 * N = p2 at *
 generalize a3 * N = p3 at *
 have s2:l2 + 18446744073709551616 * (p3 + U3) = (p2 + 18446744073709551616 * p3) + U2:=by omega
 rw [s2]
 generalize p2 + 18446744073709551616 * p3 = q2
 have s1:l1 + 18446744073709551616 * (q2 + U2) = (p1 + 18446744073709551616 * q2) + U1:=by omega
 rw [s1]
 generalize p1 + 18446744073709551616 * q2 = q1
 omega
theorem mwords {l0 l1 l2 l3 H:Int} (h0:U64 l0) (h1:U64 l1) (h2:U64 l2) (h3:U64 l3) :
  lb0 (l0 + 18446744073709551616 * (l1 + 18446744073709551616 * (l2 + 18446744073709551616 * (l3 + 18446744073709551616 * H)))) = l0∧lb1 (l0 + 18446744073709551616 * (l1 + 18446744073709551616 * (l2 + 18446744073709551616 * (l3 + 18446744073709551616 * H)))) = l1 ∧
  lb2 (l0 + 18446744073709551616 * (l1 + 18446744073709551616 * (l2 + 18446744073709551616 * (l3 + 18446744073709551616 * H)))) = l2∧lb3 (l0 + 18446744073709551616 * (l1 + 18446744073709551616 * (l2 + 18446744073709551616 * (l3 + 18446744073709551616 * H)))) = l3 ∧
  up4 (l0 + 18446744073709551616 * (l1 + 18446744073709551616 * (l2 + 18446744073709551616 * (l3 + 18446744073709551616 * H)))) = H:=by
 refine ⟨?_,?_,?_,?_,?_⟩
 ·rw [lb0_add,lb0_id h0]
 ·unfold lb1; rw [up1_add,up1_id h0,Int.zero_add,lb0_add,lb0_id h1]
 ·unfold lb2; rw [up1_add,up1_id h0,Int.zero_add,up1_add,up1_id h1,Int.zero_add,lb0_add,lb0_id h2]
 ·unfold lb3; rw [up1_add,up1_id h0,Int.zero_add,up1_add,up1_id h1,Int.zero_add,up1_add,up1_id h2,Int.zero_add,lb0_add,lb0_id h3]
 ·unfold up4; rw [up1_add,up1_id h0,Int.zero_add,up1_add,up1_id h1,Int.zero_add,up1_add,up1_id h2,Int.zero_add,up1_add,up1_id h3,Int.zero_add]
theorem copy4 (b g:Nat) {l0 l1 l2 l3 l4 l5 l6 l7:Int} {W:World} (hd:HN W b 4) (hs:HB W g #[.int .u64 l0,.int .u64 l1,.int .u64 l2,.int .u64 l3,.int .u64 l4,.int .u64 l5,.int .u64 l6,.int .u64 l7]) :
  (Builtin.copy_ #[161,161] 3 #[.slice (some ⟨b,0,none⟩) 4 4,.slice (some ⟨g,0,none⟩) 4 8]).run Tryz.prog W = .ok (.int .i64 4) ((((W.setCell ⟨b,0,none⟩ (.int .u64 l0)).setCell ⟨b,1,none⟩ (.int .u64 l1)).setCell ⟨b,2,none⟩ (.int .u64 l2)).setCell ⟨b,3,none⟩ (.int .u64 l3)):=by
 have hb:=Bx.of hs
 refine (run_copy_cells W _ _ _ 34 b 0 4 4 ⟨g,0,none⟩ 4 8 [.int .u64 l0,.int .u64 l1,.int .u64 l2,.int .u64 l3] Tryz.underlying161 (by kernel_rfl) rfl ?_ ?_ ?_ ?_).trans rfl
 ·intro j v hv
  have e:(⟨g,0,none⟩:Addr).add j = ⟨g,j,none⟩:=by
   unfold Addr.add
   by_cases h:j = 0
   ·rw [if_pos h,h]
   ·rw [if_neg h]; simp
  rw [e,hb.2.1 j]
  match j,hv with
  | 0,hv=>exact hv
  | 1,hv=>exact hv
  | 2,hv=>exact hv
  | 3,hv=>exact hv
  | j + 4,hv=>simp at hv
 ·intro j hj
  have hj':j < 4:=hj
  rw [Nat.zero_add,hd.cell hj']; rfl
 ·intro j hj
  exact hd.froz _
 ·intro v hv
  simp at hv
  rcases hv with rfl | rfl | rfl | rfl <;> rfl
theorem arr4 (g o:Nat) (W:World):(Instr.arrayAt 35 (.slice (some ⟨g,o,none⟩) 4 4)).run Tryz.prog W = .ok (.pointer (some ⟨g,o,none⟩)) W:=by
 simp [Instr.arrayAt,run_underlying Tryz.underlying35,go_sem]
theorem mz_b {a b c d:Int} (h:U64 a) (h1:U64 b) (h2:U64 c) (h3:U64 d):(MV a b c d == 0) = mz a b c d:=by
 cases e:mz a b c d
 ·refine beq_eq_false_iff_ne.2 fun h0=>?_
  rw [(mz_iff h h1 h2 h3).2 h0] at e; cases e
 ·exact beq_iff_eq.2 ((mz_iff h h1 h2 h3).1 e)
theorem idx4 (a b c d:Int) (W:World) :
  (Instr.index 35 (MG a b c d) (.int .i64 0)).run Tryz.prog W = .ok (.int .u64 a) W∧(Instr.index 35 (MG a b c d) (.int .i64 1)).run Tryz.prog W = .ok (.int .u64 b) W ∧
  (Instr.index 35 (MG a b c d) (.int .i64 2)).run Tryz.prog W = .ok (.int .u64 c) W∧(Instr.index 35 (MG a b c d) (.int .i64 3)).run Tryz.prog W = .ok (.int .u64 d) W:=by
 have h:=Tryz.underlying35
 refine ⟨?_,?_,?_,?_⟩ <;> simp [Instr.index,run_underlying h,asIntOf,go_sem]
set_option maxHeartbeats 8000000 in
set_option maxRecDepth 100000 in
theorem wmul_any (a0 a1 a2 a3 b0 b1 b2 b3:Int) (ha0:U64 a0) (ha1:U64 a1) (ha2:U64 a2) (ha3:U64 a3) (hb0:U64 b0) (hb1:U64 b1) (hb2:U64 b2) (hb3:U64 b3) (w:World) :
  Calls Tryz.prog 162 #[MG a0 a1 a2 a3,MG b0 b1 b2 b3] w fun e w'=>e = .returned (.tuple #[MG (lb0 (MV a0 a1 a2 a3 * MV b0 b1 b2 b3)) (lb1 (MV a0 a1 a2 a3 * MV b0 b1 b2 b3)) (lb2 (MV a0 a1 a2 a3 * MV b0 b1 b2 b3)) (lb3 (MV a0 a1 a2 a3 * MV b0 b1 b2 b3)),.bool (up4 (MV a0 a1 a2 a3 * MV b0 b1 b2 b3) == 0)])∧Below w.heap.size w w':=by
 obtain ⟨p00,q00,h00,r00,d00,c00,ur00,uc00,e00,w00,x00,A00,B00⟩:=mstep ha0 hb0 U64.zero U64.zero
 have X00:=hid (And.intro w00 (And.intro x00 (And.intro A00 B00)))
 clear w00 x00 A00 B00
 obtain ⟨p01,q01,h01,r01,d01,c01,ur01,uc01,e01,w01,x01,A01,B01⟩:=mstep ha0 hb1 U64.zero uc00
 have X01:=hid (And.intro w01 (And.intro x01 (And.intro A01 B01)))
 clear w01 x01 A01 B01
 obtain ⟨p02,q02,h02,r02,d02,c02,ur02,uc02,e02,w02,x02,A02,B02⟩:=mstep ha0 hb2 U64.zero uc01
 have X02:=hid (And.intro w02 (And.intro x02 (And.intro A02 B02)))
 clear w02 x02 A02 B02
 obtain ⟨p03,q03,h03,r03,d03,c03,ur03,uc03,e03,w03,x03,A03,B03⟩:=mstep ha0 hb3 U64.zero uc02
 have X03:=hid (And.intro w03 (And.intro x03 (And.intro A03 B03)))
 clear w03 x03 A03 B03
 have R0:=mrow e00 e01 e02 e03
 obtain ⟨p10,q10,h10,r10,d10,c10,ur10,uc10,e10,w10,x10,A10,B10⟩:=mstep ha1 hb0 ur01 U64.zero
 have X10:=hid (And.intro w10 (And.intro x10 (And.intro A10 B10)))
 clear w10 x10 A10 B10
 obtain ⟨p11,q11,h11,r11,d11,c11,ur11,uc11,e11,w11,x11,A11,B11⟩:=mstep ha1 hb1 ur02 uc10
 have X11:=hid (And.intro w11 (And.intro x11 (And.intro A11 B11)))
 clear w11 x11 A11 B11
 obtain ⟨p12,q12,h12,r12,d12,c12,ur12,uc12,e12,w12,x12,A12,B12⟩:=mstep ha1 hb2 ur03 uc11
 have X12:=hid (And.intro w12 (And.intro x12 (And.intro A12 B12)))
 clear w12 x12 A12 B12
 obtain ⟨p13,q13,h13,r13,d13,c13,ur13,uc13,e13,w13,x13,A13,B13⟩:=mstep ha1 hb3 uc03 uc12
 have X13:=hid (And.intro w13 (And.intro x13 (And.intro A13 B13)))
 clear w13 x13 A13 B13
 have R1:=mrow e10 e11 e12 e13
 obtain ⟨p20,q20,h20,r20,d20,c20,ur20,uc20,e20,w20,x20,A20,B20⟩:=mstep ha2 hb0 ur11 U64.zero
 have X20:=hid (And.intro w20 (And.intro x20 (And.intro A20 B20)))
 clear w20 x20 A20 B20
 obtain ⟨p21,q21,h21,r21,d21,c21,ur21,uc21,e21,w21,x21,A21,B21⟩:=mstep ha2 hb1 ur12 uc20
 have X21:=hid (And.intro w21 (And.intro x21 (And.intro A21 B21)))
 clear w21 x21 A21 B21
 obtain ⟨p22,q22,h22,r22,d22,c22,ur22,uc22,e22,w22,x22,A22,B22⟩:=mstep ha2 hb2 ur13 uc21
 have X22:=hid (And.intro w22 (And.intro x22 (And.intro A22 B22)))
 clear w22 x22 A22 B22
 obtain ⟨p23,q23,h23,r23,d23,c23,ur23,uc23,e23,w23,x23,A23,B23⟩:=mstep ha2 hb3 uc13 uc22
 have X23:=hid (And.intro w23 (And.intro x23 (And.intro A23 B23)))
 clear w23 x23 A23 B23
 have R2:=mrow e20 e21 e22 e23
 obtain ⟨p30,q30,h30,r30,d30,c30,ur30,uc30,e30,w30,x30,A30,B30⟩:=mstep ha3 hb0 ur21 U64.zero
 have X30:=hid (And.intro w30 (And.intro x30 (And.intro A30 B30)))
 clear w30 x30 A30 B30
 obtain ⟨p31,q31,h31,r31,d31,c31,ur31,uc31,e31,w31,x31,A31,B31⟩:=mstep ha3 hb1 ur22 uc30
 have X31:=hid (And.intro w31 (And.intro x31 (And.intro A31 B31)))
 clear w31 x31 A31 B31
 obtain ⟨p32,q32,h32,r32,d32,c32,ur32,uc32,e32,w32,x32,A32,B32⟩:=mstep ha3 hb2 ur23 uc31
 have X32:=hid (And.intro w32 (And.intro x32 (And.intro A32 B32)))
 clear w32 x32 A32 B32
 obtain ⟨p33,q33,h33,r33,d33,c33,ur33,uc33,e33,w33,x33,A33,B33⟩:=mstep ha3 hb3 uc23 uc32
 have X33:=hid (And.intro w33 (And.intro x33 (And.intro A33 B33)))
 clear w33 x33 A33 B33
 have R3:=mrow e30 e31 e32 e33
 have P:=mrows R0 R1 R2 R3
 obtain ⟨P0,P1,P2,P3,P4⟩:=mwords (H:=MV r31 r32 r33 c33) ur00 ur10 ur20 ur30
 rw [← P] at P0 P1 P2 P3 P4
 rw [P0,P1,P2,P3,P4,mz_b ur31 ur32 ur33 uc33]
 clear P0 P1 P2 P3 P4 P R0 R1 R2 R3 e00 ur00 uc00 e01 ur01 uc01 e02 ur02 uc02 e03 ur03 uc03 e10 ur10 uc10 e11 ur11 uc11 e12 ur12 uc12 e13 ur13 uc13 e20 ur20 uc20 e21 ur21 uc21 e22 ur22 uc22 e23 ur23 uc23 e30 ur30 uc30 e31 ur31 uc31 e32 ur32 uc32 e33 ur33 uc33
 have IA:=fun W=>idx4 a0 a1 a2 a3 W
 have IB:=fun W=>idx4 b0 b1 b2 b3 W
 simp only [forall_and] at IA IB
 obtain ⟨IA0,IA1,IA2,IA3⟩:=IA
 obtain ⟨IB0,IB1,IB2,IB3⟩:=IB
 go_enter Tryz.func162,Tryz.ntmps162
 go_wp2
 refine wp_loop_rounds 5 ?_
 rw [rounds_succ]
 go_wp2
 refine wp_gen (fun Wz=>Below w.heap.size w Wz∧w.heap.size + 4≤Wz.heap.size∧Bx Wz (w.heap.size) (#[.int .u64 a0,.int .u64 a1,.int .u64 a2,.int .u64 a3])∧Bx Wz (w.heap.size + 1) (#[.int .u64 b0,.int .u64 b1,.int .u64 b2,.int .u64 b3])∧Bx Wz (w.heap.size + 1 + 1) (#[.int .u64 0,.int .u64 0,.int .u64 0,.int .u64 0])∧Bx Wz (w.heap.size + 1 + 1 + 1) (#[.int .u64 0,.int .u64 0,.int .u64 0,.int .u64 0,.int .u64 0,.int .u64 0,.int .u64 0,.int .u64 0])) ⟨by (repeat' (first | (with_reducible assumption) | (with_reducible exact Below.refl _ _) | (with_reducible refine Below.alloc ?_ ?_ _) | (with_reducible refine Below.setCell ?_ ?_ _) | (with_reducible refine Below.drew ?_) | (with_reducible refine below_more ?_ (by with_reducible assumption)) | go_size | omega | (with_reducible refine below_drewN ?_))),(by first | go_size | omega),Bx.of (by (repeat' (first | (with_reducible assumption) | ((with_reducible refine HB.new _ _ _ ?_) <;> (go_size; done)) | (with_reducible refine HB.old (by go_size) ?_) | (with_reducible refine HB.drew ?_) | (with_reducible refine HB.over5 ?_) | (with_reducible refine HB.over4 ?_) | (with_reducible refine HB.setne (by first | go_size | (dsimp only; omega)) ?_) | (with_reducible refine HN.set ?_) | (with_reducible refine HN.setne (by first | go_size | (dsimp only; omega)) ?_) | (with_reducible refine HN.drew ?_) | (with_reducible refine HN.old (by go_size) ?_) | (with_reducible exact HN.of5 (by assumption)) | (with_reducible exact HN.new5 _ _ (by go_size)) | (with_reducible exact HN.of4 (by assumption)) | (with_reducible exact HN.new4 _ _ (by go_size))))),Bx.of (by (repeat' (first | (with_reducible assumption) | ((with_reducible refine HB.new _ _ _ ?_) <;> (go_size; done)) | (with_reducible refine HB.old (by go_size) ?_) | (with_reducible refine HB.drew ?_) | (with_reducible refine HB.over5 ?_) | (with_reducible refine HB.over4 ?_) | (with_reducible refine HB.setne (by first | go_size | (dsimp only; omega)) ?_) | (with_reducible refine HN.set ?_) | (with_reducible refine HN.setne (by first | go_size | (dsimp only; omega)) ?_) | (with_reducible refine HN.drew ?_) | (with_reducible refine HN.old (by go_size) ?_) | (with_reducible exact HN.of5 (by assumption)) | (with_reducible exact HN.new5 _ _ (by go_size)) | (with_reducible exact HN.of4 (by assumption)) | (with_reducible exact HN.new4 _ _ (by go_size))))),Bx.of (by (repeat' (first | (with_reducible assumption) | ((with_reducible refine HB.new _ _ _ ?_) <;> (go_size; done)) | (with_reducible refine HB.old (by go_size) ?_) | (with_reducible refine HB.drew ?_) | (with_reducible refine HB.over5 ?_) | (with_reducible refine HB.over4 ?_) | (with_reducible refine HB.setne (by first | go_size | (dsimp only; omega)) ?_) | (with_reducible refine HN.set ?_) | (with_reducible refine HN.setne (by first | go_size | (dsimp only; omega)) ?_) | (with_reducible refine HN.drew ?_) | (with_reducible refine HN.old (by go_size) ?_) | (with_reducible exact HN.of5 (by assumption)) | (with_reducible exact HN.new5 _ _ (by go_size)) | (with_reducible exact HN.of4 (by assumption)) | (with_reducible exact HN.new4 _ _ (by go_size))))),Bx.of (by (repeat' (first | (with_reducible assumption) | ((with_reducible refine HB.new _ _ _ ?_) <;> (go_size; done)) | (with_reducible refine HB.old (by go_size) ?_) | (with_reducible refine HB.drew ?_) | (with_reducible refine HB.over5 ?_) | (with_reducible refine HB.over4 ?_) | (with_reducible refine HB.setne (by first | go_size | (dsimp only; omega)) ?_) | (with_reducible refine HN.set ?_) | (with_reducible refine HN.setne (by first | go_size | (dsimp only; omega)) ?_) | (with_reducible refine HN.drew ?_) | (with_reducible refine HN.old (by go_size) ?_) | (with_reducible exact HN.of5 (by assumption)) | (with_reducible exact HN.new5 _ _ (by go_size)) | (with_reducible exact HN.of4 (by assumption)) | (with_reducible exact HN.new4 _ _ (by go_size)))))⟩ ?_; rintro W0 ⟨hbw0,hnw0,⟨B01,B01c,B01f,B01l⟩,⟨B02,B02c,B02f,B02l⟩,⟨B03,B03c,B03f,B03l⟩,⟨B04,B04c,B04f,B04l⟩⟩
 refine wp_loop_rounds 5 ?_
 obtain ⟨w00,x00,A00,B00⟩:=X00.out
 rw [rounds_succ]
 go_wp2_with (go_at_call 164; refine (wmul64_any _ _ ha0 hb0 _).mono ?_; rintro e w' ⟨rfl,rfl⟩)
 clear w00 x00 A00 B00 X00
 obtain ⟨w01,x01,A01,B01⟩:=X01.out
 rw [rounds_succ]
 go_wp2_with (go_at_call 164; refine (wmul64_any _ _ ha0 hb1 _).mono ?_; rintro e w' ⟨rfl,rfl⟩)
 clear w01 x01 A01 B01 X01
 obtain ⟨w02,x02,A02,B02⟩:=X02.out
 rw [rounds_succ]
 go_wp2_with (go_at_call 164; refine (wmul64_any _ _ ha0 hb2 _).mono ?_; rintro e w' ⟨rfl,rfl⟩)
 clear w02 x02 A02 B02 X02
 obtain ⟨w03,x03,A03,B03⟩:=X03.out
 rw [rounds_succ]
 go_wp2_with (go_at_call 164; refine (wmul64_any _ _ ha0 hb3 _).mono ?_; rintro e w' ⟨rfl,rfl⟩)
 clear w03 x03 A03 B03 X03
 rw [rounds_succ]
 go_wp2
 rw [rounds_succ]
 go_wp2
 refine wp_gen (fun Wz=>Below w.heap.size w Wz∧w.heap.size + 4≤Wz.heap.size∧Bx Wz (w.heap.size) (#[.int .u64 a0,.int .u64 a1,.int .u64 a2,.int .u64 a3])∧Bx Wz (w.heap.size + 1) (#[.int .u64 b0,.int .u64 b1,.int .u64 b2,.int .u64 b3])∧Bx Wz (w.heap.size + 1 + 1) (#[.int .u64 0,.int .u64 0,.int .u64 0,.int .u64 0])∧Bx Wz (w.heap.size + 1 + 1 + 1) (#[.int .u64 r00,.int .u64 r01,.int .u64 r02,.int .u64 r03,.int .u64 c03,.int .u64 0,.int .u64 0,.int .u64 0])) ⟨by (repeat' (first | (with_reducible assumption) | (with_reducible exact Below.refl _ _) | (with_reducible refine Below.alloc ?_ ?_ _) | (with_reducible refine Below.setCell ?_ ?_ _) | (with_reducible refine Below.drew ?_) | (with_reducible refine below_more ?_ (by with_reducible assumption)) | go_size | omega | (with_reducible refine below_drewN ?_))),(by first | go_size | omega),Bx.of (by (repeat' (first | (with_reducible assumption) | ((with_reducible refine HB.new _ _ _ ?_) <;> (go_size; done)) | (with_reducible refine HB.old (by go_size) ?_) | (with_reducible refine HB.drew ?_) | (with_reducible refine HB.over5 ?_) | (with_reducible refine HB.over4 ?_) | (with_reducible refine HB.setne (by first | go_size | (dsimp only; omega)) ?_) | (with_reducible refine HN.set ?_) | (with_reducible refine HN.setne (by first | go_size | (dsimp only; omega)) ?_) | (with_reducible refine HN.drew ?_) | (with_reducible refine HN.old (by go_size) ?_) | (with_reducible exact HN.of5 (by assumption)) | (with_reducible exact HN.new5 _ _ (by go_size)) | (with_reducible exact HN.of4 (by assumption)) | (with_reducible exact HN.new4 _ _ (by go_size))))),Bx.of (by (repeat' (first | (with_reducible assumption) | ((with_reducible refine HB.new _ _ _ ?_) <;> (go_size; done)) | (with_reducible refine HB.old (by go_size) ?_) | (with_reducible refine HB.drew ?_) | (with_reducible refine HB.over5 ?_) | (with_reducible refine HB.over4 ?_) | (with_reducible refine HB.setne (by first | go_size | (dsimp only; omega)) ?_) | (with_reducible refine HN.set ?_) | (with_reducible refine HN.setne (by first | go_size | (dsimp only; omega)) ?_) | (with_reducible refine HN.drew ?_) | (with_reducible refine HN.old (by go_size) ?_) | (with_reducible exact HN.of5 (by assumption)) | (with_reducible exact HN.new5 _ _ (by go_size)) | (with_reducible exact HN.of4 (by assumption)) | (with_reducible exact HN.new4 _ _ (by go_size))))),Bx.of (by (repeat' (first | (with_reducible assumption) | ((with_reducible refine HB.new _ _ _ ?_) <;> (go_size; done)) | (with_reducible refine HB.old (by go_size) ?_) | (with_reducible refine HB.drew ?_) | (with_reducible refine HB.over5 ?_) | (with_reducible refine HB.over4 ?_) | (with_reducible refine HB.setne (by first | go_size | (dsimp only; omega)) ?_) | (with_reducible refine HN.set ?_) | (with_reducible refine HN.setne (by first | go_size | (dsimp only; omega)) ?_) | (with_reducible refine HN.drew ?_) | (with_reducible refine HN.old (by go_size) ?_) | (with_reducible exact HN.of5 (by assumption)) | (with_reducible exact HN.new5 _ _ (by go_size)) | (with_reducible exact HN.of4 (by assumption)) | (with_reducible exact HN.new4 _ _ (by go_size))))),Bx.of (by have h2:=(HB.set (i:=4) (v:=.int .u64 c03) (HB.set (i:=3) (v:=.int .u64 r03) (HB.set (i:=2) (v:=.int .u64 r02) (HB.set (i:=1) (v:=.int .u64 r01) (HB.set (i:=0) (v:=.int .u64 r00) B04 rfl) rfl) rfl) rfl) rfl); simpa only [List.setIfInBounds_toArray,List.set_cons_zero,List.set_cons_succ] using h2)⟩ ?_; rintro W1 ⟨hbw1,hnw1,⟨B11,B11c,B11f,B11l⟩,⟨B12,B12c,B12f,B12l⟩,⟨B13,B13c,B13f,B13l⟩,⟨B14,B14c,B14f,B14l⟩⟩
 clear B01 B01c B01f B01l B02 B02c B02f B02l B03 B03c B03f B03l B04 B04c B04f B04l
 refine wp_loop_rounds 5 ?_
 obtain ⟨w10,x10,A10,B10⟩:=X10.out
 rw [rounds_succ]
 go_wp2_with (go_at_call 164; refine (wmul64_any _ _ ha1 hb0 _).mono ?_; rintro e w' ⟨rfl,rfl⟩)
 clear w10 x10 A10 B10 X10
 obtain ⟨w11,x11,A11,B11⟩:=X11.out
 rw [rounds_succ]
 go_wp2_with (go_at_call 164; refine (wmul64_any _ _ ha1 hb1 _).mono ?_; rintro e w' ⟨rfl,rfl⟩)
 clear w11 x11 A11 B11 X11
 obtain ⟨w12,x12,A12,B12⟩:=X12.out
 rw [rounds_succ]
 go_wp2_with (go_at_call 164; refine (wmul64_any _ _ ha1 hb2 _).mono ?_; rintro e w' ⟨rfl,rfl⟩)
 clear w12 x12 A12 B12 X12
 obtain ⟨w13,x13,A13,B13⟩:=X13.out
 rw [rounds_succ]
 go_wp2_with (go_at_call 164; refine (wmul64_any _ _ ha1 hb3 _).mono ?_; rintro e w' ⟨rfl,rfl⟩)
 clear w13 x13 A13 B13 X13
 rw [rounds_succ]
 go_wp2
 rw [rounds_succ]
 go_wp2
 refine wp_gen (fun Wz=>Below w.heap.size w Wz∧w.heap.size + 4≤Wz.heap.size∧Bx Wz (w.heap.size) (#[.int .u64 a0,.int .u64 a1,.int .u64 a2,.int .u64 a3])∧Bx Wz (w.heap.size + 1) (#[.int .u64 b0,.int .u64 b1,.int .u64 b2,.int .u64 b3])∧Bx Wz (w.heap.size + 1 + 1) (#[.int .u64 0,.int .u64 0,.int .u64 0,.int .u64 0])∧Bx Wz (w.heap.size + 1 + 1 + 1) (#[.int .u64 r00,.int .u64 r10,.int .u64 r11,.int .u64 r12,.int .u64 r13,.int .u64 c13,.int .u64 0,.int .u64 0])) ⟨by (repeat' (first | (with_reducible assumption) | (with_reducible exact Below.refl _ _) | (with_reducible refine Below.alloc ?_ ?_ _) | (with_reducible refine Below.setCell ?_ ?_ _) | (with_reducible refine Below.drew ?_) | (with_reducible refine below_more ?_ (by with_reducible assumption)) | go_size | omega | (with_reducible refine below_drewN ?_))),(by first | go_size | omega),Bx.of (by (repeat' (first | (with_reducible assumption) | ((with_reducible refine HB.new _ _ _ ?_) <;> (go_size; done)) | (with_reducible refine HB.old (by go_size) ?_) | (with_reducible refine HB.drew ?_) | (with_reducible refine HB.over5 ?_) | (with_reducible refine HB.over4 ?_) | (with_reducible refine HB.setne (by first | go_size | (dsimp only; omega)) ?_) | (with_reducible refine HN.set ?_) | (with_reducible refine HN.setne (by first | go_size | (dsimp only; omega)) ?_) | (with_reducible refine HN.drew ?_) | (with_reducible refine HN.old (by go_size) ?_) | (with_reducible exact HN.of5 (by assumption)) | (with_reducible exact HN.new5 _ _ (by go_size)) | (with_reducible exact HN.of4 (by assumption)) | (with_reducible exact HN.new4 _ _ (by go_size))))),Bx.of (by (repeat' (first | (with_reducible assumption) | ((with_reducible refine HB.new _ _ _ ?_) <;> (go_size; done)) | (with_reducible refine HB.old (by go_size) ?_) | (with_reducible refine HB.drew ?_) | (with_reducible refine HB.over5 ?_) | (with_reducible refine HB.over4 ?_) | (with_reducible refine HB.setne (by first | go_size | (dsimp only; omega)) ?_) | (with_reducible refine HN.set ?_) | (with_reducible refine HN.setne (by first | go_size | (dsimp only; omega)) ?_) | (with_reducible refine HN.drew ?_) | (with_reducible refine HN.old (by go_size) ?_) | (with_reducible exact HN.of5 (by assumption)) | (with_reducible exact HN.new5 _ _ (by go_size)) | (with_reducible exact HN.of4 (by assumption)) | (with_reducible exact HN.new4 _ _ (by go_size))))),Bx.of (by (repeat' (first | (with_reducible assumption) | ((with_reducible refine HB.new _ _ _ ?_) <;> (go_size; done)) | (with_reducible refine HB.old (by go_size) ?_) | (with_reducible refine HB.drew ?_) | (with_reducible refine HB.over5 ?_) | (with_reducible refine HB.over4 ?_) | (with_reducible refine HB.setne (by first | go_size | (dsimp only; omega)) ?_) | (with_reducible refine HN.set ?_) | (with_reducible refine HN.setne (by first | go_size | (dsimp only; omega)) ?_) | (with_reducible refine HN.drew ?_) | (with_reducible refine HN.old (by go_size) ?_) | (with_reducible exact HN.of5 (by assumption)) | (with_reducible exact HN.new5 _ _ (by go_size)) | (with_reducible exact HN.of4 (by assumption)) | (with_reducible exact HN.new4 _ _ (by go_size))))),Bx.of (by have h2:=(HB.set (i:=5) (v:=.int .u64 c13) (HB.set (i:=4) (v:=.int .u64 r13) (HB.set (i:=3) (v:=.int .u64 r12) (HB.set (i:=2) (v:=.int .u64 r11) (HB.set (i:=1) (v:=.int .u64 r10) B14 rfl) rfl) rfl) rfl) rfl); simpa only [List.setIfInBounds_toArray,List.set_cons_zero,List.set_cons_succ] using h2)⟩ ?_; rintro W2 ⟨hbw2,hnw2,⟨B21,B21c,B21f,B21l⟩,⟨B22,B22c,B22f,B22l⟩,⟨B23,B23c,B23f,B23l⟩,⟨B24,B24c,B24f,B24l⟩⟩
 clear B11 B11c B11f B11l B12 B12c B12f B12l B13 B13c B13f B13l B14 B14c B14f B14l
 refine wp_loop_rounds 5 ?_
 obtain ⟨w20,x20,A20,B20⟩:=X20.out
 rw [rounds_succ]
 go_wp2_with (go_at_call 164; refine (wmul64_any _ _ ha2 hb0 _).mono ?_; rintro e w' ⟨rfl,rfl⟩)
 clear w20 x20 A20 B20 X20
 obtain ⟨w21,x21,A21,B21⟩:=X21.out
 rw [rounds_succ]
 go_wp2_with (go_at_call 164; refine (wmul64_any _ _ ha2 hb1 _).mono ?_; rintro e w' ⟨rfl,rfl⟩)
 clear w21 x21 A21 B21 X21
 obtain ⟨w22,x22,A22,B22⟩:=X22.out
 rw [rounds_succ]
 go_wp2_with (go_at_call 164; refine (wmul64_any _ _ ha2 hb2 _).mono ?_; rintro e w' ⟨rfl,rfl⟩)
 clear w22 x22 A22 B22 X22
 obtain ⟨w23,x23,A23,B23⟩:=X23.out
 rw [rounds_succ]
 go_wp2_with (go_at_call 164; refine (wmul64_any _ _ ha2 hb3 _).mono ?_; rintro e w' ⟨rfl,rfl⟩)
 clear w23 x23 A23 B23 X23
 rw [rounds_succ]
 go_wp2
 rw [rounds_succ]
 go_wp2
 refine wp_gen (fun Wz=>Below w.heap.size w Wz∧w.heap.size + 4≤Wz.heap.size∧Bx Wz (w.heap.size) (#[.int .u64 a0,.int .u64 a1,.int .u64 a2,.int .u64 a3])∧Bx Wz (w.heap.size + 1) (#[.int .u64 b0,.int .u64 b1,.int .u64 b2,.int .u64 b3])∧Bx Wz (w.heap.size + 1 + 1) (#[.int .u64 0,.int .u64 0,.int .u64 0,.int .u64 0])∧Bx Wz (w.heap.size + 1 + 1 + 1) (#[.int .u64 r00,.int .u64 r10,.int .u64 r20,.int .u64 r21,.int .u64 r22,.int .u64 r23,.int .u64 c23,.int .u64 0])) ⟨by (repeat' (first | (with_reducible assumption) | (with_reducible exact Below.refl _ _) | (with_reducible refine Below.alloc ?_ ?_ _) | (with_reducible refine Below.setCell ?_ ?_ _) | (with_reducible refine Below.drew ?_) | (with_reducible refine below_more ?_ (by with_reducible assumption)) | go_size | omega | (with_reducible refine below_drewN ?_))),(by first | go_size | omega),Bx.of (by (repeat' (first | (with_reducible assumption) | ((with_reducible refine HB.new _ _ _ ?_) <;> (go_size; done)) | (with_reducible refine HB.old (by go_size) ?_) | (with_reducible refine HB.drew ?_) | (with_reducible refine HB.over5 ?_) | (with_reducible refine HB.over4 ?_) | (with_reducible refine HB.setne (by first | go_size | (dsimp only; omega)) ?_) | (with_reducible refine HN.set ?_) | (with_reducible refine HN.setne (by first | go_size | (dsimp only; omega)) ?_) | (with_reducible refine HN.drew ?_) | (with_reducible refine HN.old (by go_size) ?_) | (with_reducible exact HN.of5 (by assumption)) | (with_reducible exact HN.new5 _ _ (by go_size)) | (with_reducible exact HN.of4 (by assumption)) | (with_reducible exact HN.new4 _ _ (by go_size))))),Bx.of (by (repeat' (first | (with_reducible assumption) | ((with_reducible refine HB.new _ _ _ ?_) <;> (go_size; done)) | (with_reducible refine HB.old (by go_size) ?_) | (with_reducible refine HB.drew ?_) | (with_reducible refine HB.over5 ?_) | (with_reducible refine HB.over4 ?_) | (with_reducible refine HB.setne (by first | go_size | (dsimp only; omega)) ?_) | (with_reducible refine HN.set ?_) | (with_reducible refine HN.setne (by first | go_size | (dsimp only; omega)) ?_) | (with_reducible refine HN.drew ?_) | (with_reducible refine HN.old (by go_size) ?_) | (with_reducible exact HN.of5 (by assumption)) | (with_reducible exact HN.new5 _ _ (by go_size)) | (with_reducible exact HN.of4 (by assumption)) | (with_reducible exact HN.new4 _ _ (by go_size))))),Bx.of (by (repeat' (first | (with_reducible assumption) | ((with_reducible refine HB.new _ _ _ ?_) <;> (go_size; done)) | (with_reducible refine HB.old (by go_size) ?_) | (with_reducible refine HB.drew ?_) | (with_reducible refine HB.over5 ?_) | (with_reducible refine HB.over4 ?_) | (with_reducible refine HB.setne (by first | go_size | (dsimp only; omega)) ?_) | (with_reducible refine HN.set ?_) | (with_reducible refine HN.setne (by first | go_size | (dsimp only; omega)) ?_) | (with_reducible refine HN.drew ?_) | (with_reducible refine HN.old (by go_size) ?_) | (with_reducible exact HN.of5 (by assumption)) | (with_reducible exact HN.new5 _ _ (by go_size)) | (with_reducible exact HN.of4 (by assumption)) | (with_reducible exact HN.new4 _ _ (by go_size))))),Bx.of (by have h2:=(HB.set (i:=6) (v:=.int .u64 c23) (HB.set (i:=5) (v:=.int .u64 r23) (HB.set (i:=4) (v:=.int .u64 r22) (HB.set (i:=3) (v:=.int .u64 r21) (HB.set (i:=2) (v:=.int .u64 r20) B24 rfl) rfl) rfl) rfl) rfl); simpa only [List.setIfInBounds_toArray,List.set_cons_zero,List.set_cons_succ] using h2)⟩ ?_; rintro W3 ⟨hbw3,hnw3,⟨B31,B31c,B31f,B31l⟩,⟨B32,B32c,B32f,B32l⟩,⟨B33,B33c,B33f,B33l⟩,⟨B34,B34c,B34f,B34l⟩⟩
 clear B21 B21c B21f B21l B22 B22c B22f B22l B23 B23c B23f B23l B24 B24c B24f B24l
 refine wp_loop_rounds 5 ?_
 obtain ⟨w30,x30,A30,B30⟩:=X30.out
 rw [rounds_succ]
 go_wp2_with (go_at_call 164; refine (wmul64_any _ _ ha3 hb0 _).mono ?_; rintro e w' ⟨rfl,rfl⟩)
 clear w30 x30 A30 B30 X30
 obtain ⟨w31,x31,A31,B31⟩:=X31.out
 rw [rounds_succ]
 go_wp2_with (go_at_call 164; refine (wmul64_any _ _ ha3 hb1 _).mono ?_; rintro e w' ⟨rfl,rfl⟩)
 clear w31 x31 A31 B31 X31
 obtain ⟨w32,x32,A32,B32⟩:=X32.out
 rw [rounds_succ]
 go_wp2_with (go_at_call 164; refine (wmul64_any _ _ ha3 hb2 _).mono ?_; rintro e w' ⟨rfl,rfl⟩)
 clear w32 x32 A32 B32 X32
 obtain ⟨w33,x33,A33,B33⟩:=X33.out
 rw [rounds_succ]
 go_wp2_with (go_at_call 164; refine (wmul64_any _ _ ha3 hb3 _).mono ?_; rintro e w' ⟨rfl,rfl⟩)
 clear w33 x33 A33 B33 X33
 rw [rounds_succ]
 go_wp2
 rw [rounds_succ]
 go_wp2
 refine wp_gen (fun Wz=>Below w.heap.size w Wz∧w.heap.size + 4≤Wz.heap.size∧Bx Wz (w.heap.size + 1 + 1) (#[.int .u64 0,.int .u64 0,.int .u64 0,.int .u64 0])∧Bx Wz (w.heap.size + 1 + 1 + 1) (#[.int .u64 r00,.int .u64 r10,.int .u64 r20,.int .u64 r30,.int .u64 r31,.int .u64 r32,.int .u64 r33,.int .u64 c33])) ⟨by (repeat' (first | (with_reducible assumption) | (with_reducible exact Below.refl _ _) | (with_reducible refine Below.alloc ?_ ?_ _) | (with_reducible refine Below.setCell ?_ ?_ _) | (with_reducible refine Below.drew ?_) | (with_reducible refine below_more ?_ (by with_reducible assumption)) | go_size | omega | (with_reducible refine below_drewN ?_))),(by first | go_size | omega),Bx.of (by (repeat' (first | (with_reducible assumption) | ((with_reducible refine HB.new _ _ _ ?_) <;> (go_size; done)) | (with_reducible refine HB.old (by go_size) ?_) | (with_reducible refine HB.drew ?_) | (with_reducible refine HB.over5 ?_) | (with_reducible refine HB.over4 ?_) | (with_reducible refine HB.setne (by first | go_size | (dsimp only; omega)) ?_) | (with_reducible refine HN.set ?_) | (with_reducible refine HN.setne (by first | go_size | (dsimp only; omega)) ?_) | (with_reducible refine HN.drew ?_) | (with_reducible refine HN.old (by go_size) ?_) | (with_reducible exact HN.of5 (by assumption)) | (with_reducible exact HN.new5 _ _ (by go_size)) | (with_reducible exact HN.of4 (by assumption)) | (with_reducible exact HN.new4 _ _ (by go_size))))),Bx.of (by have h2:=(HB.set (i:=7) (v:=.int .u64 c33) (HB.set (i:=6) (v:=.int .u64 r33) (HB.set (i:=5) (v:=.int .u64 r32) (HB.set (i:=4) (v:=.int .u64 r31) (HB.set (i:=3) (v:=.int .u64 r30) B34 rfl) rfl) rfl) rfl) rfl); simpa only [List.setIfInBounds_toArray,List.set_cons_zero,List.set_cons_succ] using h2)⟩ ?_; rintro W4 ⟨hbw4,hnw4,⟨B41,B41c,B41f,B41l⟩,⟨B42,B42c,B42f,B42l⟩⟩
 clear B31 B31c B31f B31l B32 B32c B32f B32l B33 B33c B33f B33l B34 B34c B34f B34l
 clear IA0 IA1 IA2 IA3 IB0 IB1 IB2 IB3
 have CP:=copy4 (W:=W4.drew) (w.heap.size + 1 + 1) (w.heap.size + 1 + 1 + 1) (HN.of4 (HB.drew B41)) (HB.drew B42)
 go_region
 clear CP
 go_wp2_with fail
 refine wp_gen (fun Wz=>Below w.heap.size w Wz∧w.heap.size + 4≤Wz.heap.size∧Bx Wz (w.heap.size + 1 + 1) (#[.int .u64 r00,.int .u64 r10,.int .u64 r20,.int .u64 r30])∧Bx Wz (w.heap.size + 1 + 1 + 1) (#[.int .u64 r00,.int .u64 r10,.int .u64 r20,.int .u64 r30,.int .u64 r31,.int .u64 r32,.int .u64 r33,.int .u64 c33])) ⟨by (repeat' (first | (with_reducible assumption) | (with_reducible exact Below.refl _ _) | (with_reducible refine Below.alloc ?_ ?_ _) | (with_reducible refine Below.setCell ?_ ?_ _) | (with_reducible refine Below.drew ?_) | (with_reducible refine below_more ?_ (by with_reducible assumption)) | go_size | omega | (with_reducible refine below_drewN ?_))),(by first | go_size | omega),Bx.of (by (repeat' (first | (with_reducible assumption) | ((with_reducible refine HB.new _ _ _ ?_) <;> (go_size; done)) | (with_reducible refine HB.old (by go_size) ?_) | (with_reducible refine HB.drew ?_) | (with_reducible refine HB.over5 ?_) | (with_reducible refine HB.over4 ?_) | (with_reducible refine HB.setne (by first | go_size | (dsimp only; omega)) ?_) | (with_reducible refine HN.set ?_) | (with_reducible refine HN.setne (by first | go_size | (dsimp only; omega)) ?_) | (with_reducible refine HN.drew ?_) | (with_reducible refine HN.old (by go_size) ?_) | (with_reducible exact HN.of5 (by assumption)) | (with_reducible exact HN.new5 _ _ (by go_size)) | (with_reducible exact HN.of4 (by assumption)) | (with_reducible exact HN.new4 _ _ (by go_size))))),Bx.of (by (repeat' (first | (with_reducible assumption) | ((with_reducible refine HB.new _ _ _ ?_) <;> (go_size; done)) | (with_reducible refine HB.old (by go_size) ?_) | (with_reducible refine HB.drew ?_) | (with_reducible refine HB.over5 ?_) | (with_reducible refine HB.over4 ?_) | (with_reducible refine HB.setne (by first | go_size | (dsimp only; omega)) ?_) | (with_reducible refine HN.set ?_) | (with_reducible refine HN.setne (by first | go_size | (dsimp only; omega)) ?_) | (with_reducible refine HN.drew ?_) | (with_reducible refine HN.old (by go_size) ?_) | (with_reducible exact HN.of5 (by assumption)) | (with_reducible exact HN.new5 _ _ (by go_size)) | (with_reducible exact HN.of4 (by assumption)) | (with_reducible exact HN.new4 _ _ (by go_size)))))⟩ ?_; rintro W5 ⟨hbw5,hnw5,⟨B51,B51c,B51f,B51l⟩,⟨B52,B52c,B52f,B52l⟩⟩
 clear B41 B41c B41f B41l B42 B42c B42f B42l
 have E:=fun W=>eq_mag r31 r32 r33 c33 0 0 0 0 9998 W
 have AR:=fun W=>arr4 (w.heap.size + 1 + 1 + 1) 4 W
 go_region
 clear E AR
 (repeat' (first | go_values | go_skip | go_guarded | go_step | go_upon | (simp only [Int.not_lt,Int.not_le] at *; go_simp) | (go_values <;> (try go_simp)) | (go_ite <;> go_prune <;> (try go_simp)) | (split <;> (first | (rename_i hx; exact (hx _ rfl).elim) | go_prune))))
 refine bodyPost_ret (v:=.tuple #[MG r00 r10 r20 r30,.bool (mz r31 r32 r33 c33)]) ?_ rfl ⟨rfl,by (repeat' (first | (with_reducible assumption) | (with_reducible exact Below.refl _ _) | (with_reducible refine Below.alloc ?_ ?_ _) | (with_reducible refine Below.setCell ?_ ?_ _) | (with_reducible refine Below.drew ?_) | (with_reducible refine below_more ?_ (by with_reducible assumption)) | go_size | omega | (with_reducible refine below_drewN ?_)))⟩
 simp [results,Tryz.results162,go_sem,B51c,B51f,B51l,mz]
end Go.Proofs.YtncmmbacoknefaaGreat

/- RefB: The reference of wide, continued: sums, differences, products of lists of words. -/
namespace Go.Proofs.YtncmmbacoknefaaGreat
open Go.ChangeShapes Go.WideShapes Go.ChangeAt Go.RowKit
set_option linter.unusedVariables false
set_option linter.unusedSimpArgs false
theorem OwnU.slice {w:World} {base:Nat} {v:Value} {ws:List Int} (h:OwnU w base v ws):∃ a cap,v = .slice a ws.length cap:=by
 rcases h.form with ⟨rfl,rfl⟩ | ⟨g,cap,rfl,_⟩
 ·exact ⟨none,0,rfl⟩
 ·exact ⟨_,cap,rfl⟩
theorem OwnU.at_ {w:World} {base:Nat} {a:Option Addr} {n cap:Nat} {ws:List Int} (h:OwnU w base (.slice a n cap) ws) (hp:0 < ws.length) :
  ∃ g,a = some ⟨g,0,none⟩∧n = ws.length∧base≤g∧g < w.heap.size∧n≤cap∧cap≤9223372036854775807∧(∀ j,j < ws.length→w.cell? ⟨g,j,none⟩ = some (.int .u64 (ws.getD j 0)))∧(∀ j,w.frozen? ⟨g,j,none⟩ = false):=by
 rcases h.form with ⟨_,rfl⟩ | ⟨g,cap',e,h1,h2,h3,h4,h5,h6⟩
 ·simp at hp
 ·injection e with e1 e2 e3
  subst e1 e2 e3
  exact ⟨g,rfl,rfl,h1,h2,h3,by simpa [maxLen] using h4,h5,h6⟩
theorem SlU.at_ {w:World} {a:Option Addr} {n cap:Nat} {ws:List Int} (h:SlU w (.slice a n cap) ws) {i:Nat} (hi:i < n) :
  ∃ b off,a = some ⟨b,off,none⟩∧b < w.heap.size∧n≤cap∧cap≤9223372036854775807∧w.cell? ⟨b,off + i,none⟩ = some (.int .u64 (ws.getD i 0)):=by
 obtain ⟨a',len,cap',e,h1,h2,h3,h4,h5⟩:=h
 cases e
 obtain ⟨b,off,rfl,hlt,hc⟩:=h5 (by omega)
 exact ⟨b,off,rfl,hlt,h2,h3,hc i hi⟩
theorem SlU.len {w:World} {a:Option Addr} {n cap:Nat} {ws:List Int} (h:SlU w (.slice a n cap) ws):ws.length = n∧n≤cap∧cap≤9223372036854775807:=by
 obtain ⟨a',len,cap',e,h1,h2,h3,h4,h5⟩:=h
 cases e
 exact ⟨h1,h2,h3⟩
def AddI (A B os:List Int) (i:Nat) (c:Int):Prop:=Bit c∧os.length = A.length∧VL (os.take i) + pw i * c = TV A i + TV B i∧∀ j,i≤j→os.getD j 0 = A.getD j 0
theorem take_set_succ (os:List Int) {i:Nat} (hi:i < os.length) (s:Int):(os.set i s).take (i + 1) = os.take i ++ [s]:=by
 rw [take_snocD _ i (by rw [List.length_set]; exact hi),List.take_set_of_le (Nat.le_refl _)]
 congr 1
 rw [List.getD_eq_getElem?_getD,List.getElem?_set_self hi]; rfl
theorem getD_set_gt (os:List Int) {i j:Nat} (h:i < j) (s:Int):(os.set i s).getD j 0 = os.getD j 0:=by
 rw [List.getD_eq_getElem?_getD,List.getD_eq_getElem?_getD,List.getElem?_set_ne (by omega)]
theorem AddI.step {A B os:List Int} {i:Nat} {c:Int} (hA:Ws A) (hB:Ws B) (h:AddI A B os i c) (hi:i < A.length):AddI A B (os.set i (s64 (os.getD i 0) (B.getD i 0) c)) (i + 1) (c64 (os.getD i 0) (B.getD i 0) c):=by
 obtain ⟨h1,h2,h3,h4⟩:=h
 have e:=h4 i (Nat.le_refl _)
 refine ⟨c64_bit (by rw [e]; exact hA.getD i) (hB.getD i) h1,by rw [List.length_set]; exact h2,?_,fun j hj=>by rw [getD_set_gt os (by omega)]; exact h4 j (by omega)⟩
 rw [take_set_succ os (by omega),VL_snoc,List.length_take,Nat.min_eq_left (by omega),TV_succ,TV_succ,pw_succ]
 have:=add_round (s64_sum (os.getD i 0) (B.getD i 0) c) h3
 rw [e] at this ⊢
 exact this
theorem AddI.done {A B os:List Int} {c:Int} (h:AddI A B os A.length c) (hl:B.length≤A.length):VL (os ++ [c]) = VL A + VL B:=by
 obtain ⟨h1,h2,h3,h4⟩:=h
 rw [VL_snoc,h2,← TV_all A A.length (Nat.le_refl _),← TV_all B A.length hl]
 rw [List.take_of_length_le (by omega)] at h3
 exact h3
set_option maxHeartbeats 1000000 in
set_option maxRecDepth 100000 in
theorem radd_any (a a':Option Addr) (len cap len' cap':Nat) (m n:Int) (hm:0≤m) (hn:0≤n) (hs:len≤1000) (hs':len'≤1000) (w:World) (h:SlU w (.slice a len cap) (wl m)) (h':SlU w (.slice a' len' cap') (wl n)) :
  Calls Tryz.prog 112 #[.slice a len cap,.slice a' len' cap'] w (MagP w (m + n)):=by
 obtain ⟨i0,hi,hz0,hz1,hz2⟩:=info_u
 obtain ⟨l1,l2,l3⟩:=h.len
 obtain ⟨g1,g2,g3⟩:=h'.len
 by_cases hlt:len < len'
 ·have t1:decide ((len:Int) < (len':Int)) = true:=dT (by omega)
  have t2:decide (len < len') = true:=dT hlt
  have H:=hid (And.intro h' (And.intro h (And.intro g1 (And.intro l1 (And.intro l2 (And.intro l3 (And.intro g2 g3)))))))
  clear h h' l1 g1 l2 l3 g2 g3
  go_enter Tryz.func112,Tryz.ntmps112
  go_wp2_with (at_builtin; (refine wpList_append_u (ws:=[]) (ms:=wl n) (v:=.slice (some ⟨w.heap.size,0,none⟩) 0 0) (src:=.slice a' len' cap') _ rfl (.tmp 16) (.tmp 17) 162 162 rfl w.heap.size Tryz.underlying162 Tryz.underlying162 hi hz0 hz1 hz2 rfl rfl ?own ?src ?small ?base ?_); rotate_right; intro v1 w1 hown hg hat)
  case own=>exact OwnU.empty w _ rfl rfl (Nat.le_refl _)
  case src=>exact H.out.1.alloc _
  case small=>have:=H.out.2.2.1; simp only [List.length_nil]; omega
  case base=>simp
  have hb1:Below w.heap.size w w1:=((Below.refl _ w).alloc (Nat.le_refl _) _).grown hg (by simp) (fun k e=>by simp [Value.ownBlock] at e; omega)
  clear hg hat
  simp only [List.nil_append] at hown
  obtain ⟨a1,c1,rfl⟩:=hown.slice
  rw [H.out.2.2.1] at hown ⊢
  have HO:=hid (And.intro hown hb1)
  clear hown hb1
  have hxl:(0:Int)≤(len':Int):=Int.natCast_nonneg _
  go_loopw [6,7,8] (fun c i x wr=>∃ (q:Nat) (cy:Int) (os:List Int),q≤len'∧c = .int .u64 cy∧i = .int .i64 q∧Hid (AddI (wl n) (wl m) os q cy∧OwnU wr w.heap.size (.slice a1 len' c1) os∧Below w.heap.size w wr)) (fun _ i _ _=>len' - (intOf i).toNat)
  case atStart=>exact ⟨0,0,wl n,Nat.zero_le _,rfl,rfl,hid ⟨⟨Bit.zero,rfl,by simp [TV_zero,pw,VL],fun j _=>rfl⟩,HO.out.1,HO.out.2⟩⟩
  case round =>
   obtain ⟨q,cy,os,hq,rfl,rfl,HI⟩:=hrel
   by_cases hql:q < len'
   ·obtain ⟨hI,hown,hb0⟩:=HI.out
    have hol:os.length = len':=hI.2.1.trans H.out.2.2.1
    obtain ⟨g,rfl,-,e3,e4,e5,e6,e7,e8⟩:=hown.at_ (by omega)
    have hc:=e7 q (by omega)
    have hf:=e8 q
    clear e7 e8
    have hq0:(0:Int)≤(q:Int):=Int.natCast_nonneg _
    have hq1:(q:Int) < (len':Int):=by omega
    have hST:=hI.step (wl_words _) (wl_words _) (by rw [H.out.2.2.1]; exact hql)
    have A1:=fun W=>add64 (x:=os.getD q 0) (y:=(wl m).getD q 0) (c:=cy) (hown.2.getD q) ((wl_words _).getD q) hI.1 W
    have hOS:=hown.stored (x:=s64 (os.getD q 0) ((wl m).getD q 0) cy) (by omega) q (by omega) (s64_in _ _ _)
    have HN:=hid (And.intro hST (And.intro hOS hb0))
    clear hST hOS hI hown hol
    by_cases hqy:q < len
    ·obtain ⟨b,off,rfl,f1,f2,f3,f4⟩:=(H.out.2.1).at_ hqy
     have hcy:=(hb0.cell (p:=⟨b,off + q,none⟩) f1).trans f4
     have hq2:(q:Int) < (len:Int):=by omega
     clear f4
     generalize s64 (os.getD q 0) ((wl m).getD q 0) cy = s at *
     generalize c64 (os.getD q 0) ((wl m).getD q 0) cy = cz at *
     generalize os.getD q 0 = x at *
     generalize (wl m).getD q 0 = y at *
     clear hb0
     go_wp2
     go_roundw
     case rel=>exact ⟨q + 1,_,os.set q s,by omega,rfl,by go_num,hid ⟨HN.out.1,HN.out.2.1,by have hb0:=HN.out.2.2; (repeat' (first | (with_reducible assumption) | (with_reducible exact Below.refl _ _) | (with_reducible refine Below.alloc ?_ ?_ _) | (with_reducible refine Below.setCell ?_ ?_ _) | (with_reducible refine Below.drew ?_) | (with_reducible refine below_more ?_ (by with_reducible assumption)) | go_size | omega | (with_reducible refine below_drewN ?_)))⟩⟩
     case measure=>simp [intOf]; omega
    ·have e0:(wl m).getD q 0 = 0:=by
      rw [List.getD_eq_getElem?_getD,List.getElem?_eq_none (by rw [H.out.2.2.2.1]; omega)]; rfl
     rw [e0] at A1 HN
     clear e0 hb0
     have hq2:decide ((q:Int) < (len:Int)) = false:=dF (by omega)
     have hq3:decide (q < len) = false:=dF (by omega)
     generalize s64 (os.getD q 0) 0 cy = s at *
     generalize c64 (os.getD q 0) 0 cy = cz at *
     generalize os.getD q 0 = x at *
     go_wp2
     go_roundw
     case rel=>exact ⟨q + 1,_,os.set q s,by omega,rfl,by go_num,hid ⟨HN.out.1,HN.out.2.1,by have hb0:=HN.out.2.2; (repeat' (first | (with_reducible assumption) | (with_reducible exact Below.refl _ _) | (with_reducible refine Below.alloc ?_ ?_ _) | (with_reducible refine Below.setCell ?_ ?_ _) | (with_reducible refine Below.drew ?_) | (with_reducible refine below_more ?_ (by with_reducible assumption)) | go_size | omega | (with_reducible refine below_drewN ?_)))⟩⟩
     case measure=>simp [intOf]; omega
   ·obtain rfl:q = len':=by omega
    obtain ⟨hI,hown,hb0⟩:=HI.out
    have hol:os.length = q:=hI.2.1.trans H.out.2.2.1
    have hbit:=hI.1
    have eV:VL (os ++ [cy]) = m + n:=by
     rw [AddI.done (A:=wl n) (B:=wl m) (by rw [H.out.2.2.1]; exact hI) (by rw [H.out.2.2.1,H.out.2.2.2.1]; omega),VL_wl (by omega),VL_wl (by omega)]
     try omega
    have HV:=hid (And.intro eV hol)
    have HO2:=hid (And.intro hown (And.intro hb0 hbit))
    clear eV hol
    have hsz:=hb0.size
    clear HO HI hI hown hb0 hbit
    go_wp2_with (at_builtin; (refine wpList_append_u (ws:=os) (ms:=[cy]) (v:=.slice a1 q c1) (src:=.slice (some ⟨wr.heap.size,0,none⟩) 1 1) _ rfl (.tmp 46) (.tmp 48) 162 162 rfl w.heap.size Tryz.underlying162 Tryz.underlying162 hi hz0 hz1 hz2 rfl rfl ?own ?src ?small ?base ?_); rotate_right; intro v2 w2 hown hg hat)
    case own=>exact HO2.out.1.below ((Below.refl _ _).alloc (Nat.le_refl _) _)
    case src=>exact (OwnU.lit wr [cy] (Ws.one ⟨by have:=HO2.out.2.2.1; omega,by have:=HO2.out.2.2.2; omega⟩) _ rfl (by simp [maxLen])).sl
    case small=>have:=HV.out.2; simp; omega
    case base=>simp; omega
    have hb2:Below w.heap.size w w2:=((HO2.out.2.1).alloc hsz _).grown hg (by simp; omega) (fun k e=>by
     have:=((HO2.out.1).1.lt k e).1; exact this)
    clear hg hat
    obtain ⟨a2,c2,rfl⟩:=hown.slice
    have hs2:=hown.sl
    have eV:=HV.out.1
    have HC:=hid (And.intro (SlF.canon (base:=w.heap.size) ⟨hs2,hown.fr (by first | exact Nat.le_refl _ | (simp; done) | (simp; omega))⟩) (And.intro hb2 eV))
    clear hown hb2 eV HV HO2
    (repeat' (first | (go_big_may; (first | (go_at_call 154; refine (rtrim_any _ _ _ _ _ hs2).mono ?_; rintro e w' ⟨rfl,rfl⟩))) | go_values | go_skip | go_guarded | go_step | go_upon | (simp only [Int.not_lt,Int.not_le] at *; go_simp) | (go_values <;> (try go_simp)) | (go_ite <;> go_prune <;> (try go_simp)) | (split <;> (first | (rename_i hx; exact (hx _ rfl).elim) | go_prune))))
    go_ret
    obtain ⟨hc,hb2,eV⟩:=HC.out
    refine ⟨.slice a2 (wl (VL (os ++ [cy]))).length c2,rfl,?_,hb2⟩
    rw [eV] at hc ⊢
    exact hc
 ·have t1:decide ((len:Int) < (len':Int)) = false:=dF (by omega)
  have t2:decide (len < len') = false:=dF hlt
  have H:=hid (And.intro h (And.intro h' (And.intro l1 (And.intro g1 (And.intro l2 (And.intro l3 (And.intro g2 g3)))))))
  clear h h' l1 g1 l2 l3 g2 g3
  go_enter Tryz.func112,Tryz.ntmps112
  go_wp2_with (at_builtin; (refine wpList_append_u (ws:=[]) (ms:=wl m) (v:=.slice (some ⟨w.heap.size,0,none⟩) 0 0) (src:=.slice a len cap) _ rfl (.tmp 16) (.tmp 17) 162 162 rfl w.heap.size Tryz.underlying162 Tryz.underlying162 hi hz0 hz1 hz2 rfl rfl ?own ?src ?small ?base ?_); rotate_right; intro v1 w1 hown hg hat)
  case own=>exact OwnU.empty w _ rfl rfl (Nat.le_refl _)
  case src=>exact H.out.1.alloc _
  case small=>have:=H.out.2.2.1; simp only [List.length_nil]; omega
  case base=>simp
  have hb1:Below w.heap.size w w1:=((Below.refl _ w).alloc (Nat.le_refl _) _).grown hg (by simp) (fun k e=>by simp [Value.ownBlock] at e; omega)
  clear hg hat
  simp only [List.nil_append] at hown
  obtain ⟨a1,c1,rfl⟩:=hown.slice
  rw [H.out.2.2.1] at hown ⊢
  have HO:=hid (And.intro hown hb1)
  clear hown hb1
  have hxl:(0:Int)≤(len:Int):=Int.natCast_nonneg _
  go_loopw [6,7,8] (fun c i x wr=>∃ (q:Nat) (cy:Int) (os:List Int),q≤len∧c = .int .u64 cy∧i = .int .i64 q∧Hid (AddI (wl m) (wl n) os q cy∧OwnU wr w.heap.size (.slice a1 len c1) os∧Below w.heap.size w wr)) (fun _ i _ _=>len - (intOf i).toNat)
  case atStart=>exact ⟨0,0,wl m,Nat.zero_le _,rfl,rfl,hid ⟨⟨Bit.zero,rfl,by simp [TV_zero,pw,VL],fun j _=>rfl⟩,HO.out.1,HO.out.2⟩⟩
  case round =>
   obtain ⟨q,cy,os,hq,rfl,rfl,HI⟩:=hrel
   by_cases hql:q < len
   ·obtain ⟨hI,hown,hb0⟩:=HI.out
    have hol:os.length = len:=hI.2.1.trans H.out.2.2.1
    obtain ⟨g,rfl,-,e3,e4,e5,e6,e7,e8⟩:=hown.at_ (by omega)
    have hc:=e7 q (by omega)
    have hf:=e8 q
    clear e7 e8
    have hq0:(0:Int)≤(q:Int):=Int.natCast_nonneg _
    have hq1:(q:Int) < (len:Int):=by omega
    have hST:=hI.step (wl_words _) (wl_words _) (by rw [H.out.2.2.1]; exact hql)
    have A1:=fun W=>add64 (x:=os.getD q 0) (y:=(wl n).getD q 0) (c:=cy) (hown.2.getD q) ((wl_words _).getD q) hI.1 W
    have hOS:=hown.stored (x:=s64 (os.getD q 0) ((wl n).getD q 0) cy) (by omega) q (by omega) (s64_in _ _ _)
    have HN:=hid (And.intro hST (And.intro hOS hb0))
    clear hST hOS hI hown hol
    by_cases hqy:q < len'
    ·obtain ⟨b,off,rfl,f1,f2,f3,f4⟩:=(H.out.2.1).at_ hqy
     have hcy:=(hb0.cell (p:=⟨b,off + q,none⟩) f1).trans f4
     have hq2:(q:Int) < (len':Int):=by omega
     clear f4
     generalize s64 (os.getD q 0) ((wl n).getD q 0) cy = s at *
     generalize c64 (os.getD q 0) ((wl n).getD q 0) cy = cz at *
     generalize os.getD q 0 = x at *
     generalize (wl n).getD q 0 = y at *
     clear hb0
     go_wp2
     go_roundw
     case rel=>exact ⟨q + 1,_,os.set q s,by omega,rfl,by go_num,hid ⟨HN.out.1,HN.out.2.1,by have hb0:=HN.out.2.2; (repeat' (first | (with_reducible assumption) | (with_reducible exact Below.refl _ _) | (with_reducible refine Below.alloc ?_ ?_ _) | (with_reducible refine Below.setCell ?_ ?_ _) | (with_reducible refine Below.drew ?_) | (with_reducible refine below_more ?_ (by with_reducible assumption)) | go_size | omega | (with_reducible refine below_drewN ?_)))⟩⟩
     case measure=>simp [intOf]; omega
    ·have e0:(wl n).getD q 0 = 0:=by
      rw [List.getD_eq_getElem?_getD,List.getElem?_eq_none (by rw [H.out.2.2.2.1]; omega)]; rfl
     rw [e0] at A1 HN
     clear e0 hb0
     have hq2:decide ((q:Int) < (len':Int)) = false:=dF (by omega)
     have hq3:decide (q < len') = false:=dF (by omega)
     generalize s64 (os.getD q 0) 0 cy = s at *
     generalize c64 (os.getD q 0) 0 cy = cz at *
     generalize os.getD q 0 = x at *
     go_wp2
     go_roundw
     case rel=>exact ⟨q + 1,_,os.set q s,by omega,rfl,by go_num,hid ⟨HN.out.1,HN.out.2.1,by have hb0:=HN.out.2.2; (repeat' (first | (with_reducible assumption) | (with_reducible exact Below.refl _ _) | (with_reducible refine Below.alloc ?_ ?_ _) | (with_reducible refine Below.setCell ?_ ?_ _) | (with_reducible refine Below.drew ?_) | (with_reducible refine below_more ?_ (by with_reducible assumption)) | go_size | omega | (with_reducible refine below_drewN ?_)))⟩⟩
     case measure=>simp [intOf]; omega
   ·obtain rfl:q = len:=by omega
    obtain ⟨hI,hown,hb0⟩:=HI.out
    have hol:os.length = q:=hI.2.1.trans H.out.2.2.1
    have hbit:=hI.1
    have eV:VL (os ++ [cy]) = m + n:=by
     rw [AddI.done (A:=wl m) (B:=wl n) (by rw [H.out.2.2.1]; exact hI) (by rw [H.out.2.2.1,H.out.2.2.2.1]; omega),VL_wl (by omega),VL_wl (by omega)]
     try omega
    have HV:=hid (And.intro eV hol)
    have HO2:=hid (And.intro hown (And.intro hb0 hbit))
    clear eV hol
    have hsz:=hb0.size
    clear HO HI hI hown hb0 hbit
    go_wp2_with (at_builtin; (refine wpList_append_u (ws:=os) (ms:=[cy]) (v:=.slice a1 q c1) (src:=.slice (some ⟨wr.heap.size,0,none⟩) 1 1) _ rfl (.tmp 46) (.tmp 48) 162 162 rfl w.heap.size Tryz.underlying162 Tryz.underlying162 hi hz0 hz1 hz2 rfl rfl ?own ?src ?small ?base ?_); rotate_right; intro v2 w2 hown hg hat)
    case own=>exact HO2.out.1.below ((Below.refl _ _).alloc (Nat.le_refl _) _)
    case src=>exact (OwnU.lit wr [cy] (Ws.one ⟨by have:=HO2.out.2.2.1; omega,by have:=HO2.out.2.2.2; omega⟩) _ rfl (by simp [maxLen])).sl
    case small=>have:=HV.out.2; simp; omega
    case base=>simp; omega
    have hb2:Below w.heap.size w w2:=((HO2.out.2.1).alloc hsz _).grown hg (by simp; omega) (fun k e=>by
     have:=((HO2.out.1).1.lt k e).1; exact this)
    clear hg hat
    obtain ⟨a2,c2,rfl⟩:=hown.slice
    have hs2:=hown.sl
    have eV:=HV.out.1
    have HC:=hid (And.intro (SlF.canon (base:=w.heap.size) ⟨hs2,hown.fr (by first | exact Nat.le_refl _ | (simp; done) | (simp; omega))⟩) (And.intro hb2 eV))
    clear hown hb2 eV HV HO2
    (repeat' (first | (go_big_may; (first | (go_at_call 154; refine (rtrim_any _ _ _ _ _ hs2).mono ?_; rintro e w' ⟨rfl,rfl⟩))) | go_values | go_skip | go_guarded | go_step | go_upon | (simp only [Int.not_lt,Int.not_le] at *; go_simp) | (go_values <;> (try go_simp)) | (go_ite <;> go_prune <;> (try go_simp)) | (split <;> (first | (rename_i hx; exact (hx _ rfl).elim) | go_prune))))
    go_ret
    obtain ⟨hc,hb2,eV⟩:=HC.out
    refine ⟨.slice a2 (wl (VL (os ++ [cy]))).length c2,rfl,?_,hb2⟩
    rw [eV] at hc ⊢
    exact hc
def SubI (A B os:List Int) (i:Nat) (c:Int):Prop:=Bit c∧os.length = A.length∧VL (os.take i) - pw i * c = TV A i - TV B i∧∀ j,i≤j→os.getD j 0 = A.getD j 0
theorem SubI.step {A B os:List Int} {i:Nat} {c:Int} (hA:Ws A) (hB:Ws B) (h:SubI A B os i c) (hi:i < A.length):SubI A B (os.set i (d64 (os.getD i 0) (B.getD i 0) c)) (i + 1) (b64 (os.getD i 0) (B.getD i 0) c):=by
 obtain ⟨h1,h2,h3,h4⟩:=h
 have e:=h4 i (Nat.le_refl _)
 refine ⟨b64_bit _ _ _,by rw [List.length_set]; exact h2,?_,fun j hj=>by rw [getD_set_gt os (by omega)]; exact h4 j (by omega)⟩
 rw [take_set_succ os (by omega),VL_snoc,List.length_take,Nat.min_eq_left (by omega),TV_succ,TV_succ,pw_succ]
 have hu:U64 (os.getD i 0):=by rw [e]; exact hA.getD i
 have:=sub_round (d64_diff hu (hB.getD i) h1) h3
 rw [e] at this ⊢
 exact this
theorem SubI.done {A B os:List Int} {c:Int} (hw:Ws os) (h:SubI A B os A.length c) (hl:B.length≤A.length) (hle:VL B≤VL A):VL os = VL A - VL B:=by
 obtain ⟨⟨c0,c1⟩,h2,h3,h4⟩:=h
 rw [TV_all A A.length (Nat.le_refl _),TV_all B A.length hl,List.take_of_length_le (by omega)] at h3
 have h5:=VL_lt hw
 rw [h2] at h5
 rcases (show c = 0∨c = 1 by omega) with rfl | rfl
 ·rw [Int.mul_zero] at h3; omega
 ·rw [Int.mul_one] at h3; omega
set_option maxHeartbeats 1000000 in
set_option maxRecDepth 100000 in
theorem rsub_any (a a':Option Addr) (len cap len' cap':Nat) (m n:Int) (hn:0≤n) (hle:n≤m) (hs:len≤1000) (w:World) (h:SlU w (.slice a len cap) (wl m)) (h':SlU w (.slice a' len' cap') (wl n)) :
  Calls Tryz.prog 114 #[.slice a len cap,.slice a' len' cap'] w (MagP w (m - n)):=by
 obtain ⟨i0,hi,hz0,hz1,hz2⟩:=info_u
 obtain ⟨l1,l2,l3⟩:=h.len
 obtain ⟨g1,g2,g3⟩:=h'.len
 have hll:len'≤len:=by
  have h1:=(wl_len_lt (show 0≤m by omega) len).1 (by omega)
  have h2:=(wl_len_lt hn len).2 (by omega)
  omega
 have H:=hid (And.intro h (And.intro h' (And.intro l1 (And.intro g1 (And.intro l2 (And.intro l3 (And.intro g2 g3)))))))
 clear h h' l1 g1 l2 l3 g2 g3
 go_enter Tryz.func114,Tryz.ntmps114
 go_wp2_with (at_builtin; (refine wpList_append_u (ws:=[]) (ms:=wl m) (v:=.slice (some ⟨w.heap.size,0,none⟩) 0 0) (src:=.slice a len cap) _ rfl (.tmp 9) (.tmp 10) 162 162 rfl w.heap.size Tryz.underlying162 Tryz.underlying162 hi hz0 hz1 hz2 rfl rfl ?own ?src ?small ?base ?_); rotate_right; intro v1 w1 hown hg hat)
 case own=>exact OwnU.empty w _ rfl rfl (Nat.le_refl _)
 case src=>exact H.out.1.alloc _
 case small=>have:=H.out.2.2.1; simp only [List.length_nil]; omega
 case base=>simp
 have hb1:Below w.heap.size w w1:=((Below.refl _ w).alloc (Nat.le_refl _) _).grown hg (by simp) (fun k e=>by simp [Value.ownBlock] at e; omega)
 clear hg hat
 simp only [List.nil_append] at hown
 obtain ⟨a1,c1,rfl⟩:=hown.slice
 rw [H.out.2.2.1] at hown ⊢
 have HO:=hid (And.intro hown hb1)
 clear hown hb1
 have hxl:(0:Int)≤(len:Int):=Int.natCast_nonneg _
 go_loopw [6,7,8] (fun c i x wr=>∃ (q:Nat) (cy:Int) (os:List Int),q≤len∧c = .int .u64 cy∧i = .int .i64 q∧Hid (SubI (wl m) (wl n) os q cy∧OwnU wr w.heap.size (.slice a1 len c1) os∧Below w.heap.size w wr)) (fun _ i _ _=>len - (intOf i).toNat)
 case atStart=>exact ⟨0,0,wl m,Nat.zero_le _,rfl,rfl,hid ⟨⟨Bit.zero,rfl,by simp [TV_zero,pw,VL],fun j _=>rfl⟩,HO.out.1,HO.out.2⟩⟩
 case round =>
  obtain ⟨q,cy,os,hq,rfl,rfl,HI⟩:=hrel
  by_cases hql:q < len
  ·obtain ⟨hI,hown,hb0⟩:=HI.out
   have hol:os.length = len:=hI.2.1.trans H.out.2.2.1
   obtain ⟨g,rfl,-,e3,e4,e5,e6,e7,e8⟩:=hown.at_ (by omega)
   have hc:=e7 q (by omega)
   have hf:=e8 q
   clear e7 e8
   have hq0:(0:Int)≤(q:Int):=Int.natCast_nonneg _
   have hq1:(q:Int) < (len:Int):=by omega
   have hST:=hI.step (wl_words _) (wl_words _) (by rw [H.out.2.2.1]; exact hql)
   have A1:=fun W=>sub64 (x:=os.getD q 0) (y:=(wl n).getD q 0) (b:=cy) (hown.2.getD q) ((wl_words _).getD q) hI.1 W
   have hOS:=hown.stored (x:=d64 (os.getD q 0) ((wl n).getD q 0) cy) (by omega) q (by omega) (d64_in _ _ _)
   have HN:=hid (And.intro hST (And.intro hOS hb0))
   clear hST hOS hI hown hol
   by_cases hqy:q < len'
   ·obtain ⟨b,off,rfl,f1,f2,f3,f4⟩:=(H.out.2.1).at_ hqy
    have hcy:=(hb0.cell (p:=⟨b,off + q,none⟩) f1).trans f4
    have hq2:(q:Int) < (len':Int):=by omega
    clear f4
    generalize d64 (os.getD q 0) ((wl n).getD q 0) cy = s at *
    generalize b64 (os.getD q 0) ((wl n).getD q 0) cy = cz at *
    generalize os.getD q 0 = x at *
    generalize (wl n).getD q 0 = y at *
    clear hb0
    go_wp2
    go_roundw
    case rel=>exact ⟨q + 1,_,os.set q s,by omega,rfl,by go_num,hid ⟨HN.out.1,HN.out.2.1,by have hb0:=HN.out.2.2; (repeat' (first | (with_reducible assumption) | (with_reducible exact Below.refl _ _) | (with_reducible refine Below.alloc ?_ ?_ _) | (with_reducible refine Below.setCell ?_ ?_ _) | (with_reducible refine Below.drew ?_) | (with_reducible refine below_more ?_ (by with_reducible assumption)) | go_size | omega | (with_reducible refine below_drewN ?_)))⟩⟩
    case measure=>simp [intOf]; omega
   ·have e0:(wl n).getD q 0 = 0:=by
     rw [List.getD_eq_getElem?_getD,List.getElem?_eq_none (by rw [H.out.2.2.2.1]; omega)]; rfl
    rw [e0] at A1 HN
    clear e0 hb0
    have hq2:decide ((q:Int) < (len':Int)) = false:=dF (by omega)
    have hq3:decide (q < len') = false:=dF (by omega)
    generalize d64 (os.getD q 0) 0 cy = s at *
    generalize b64 (os.getD q 0) 0 cy = cz at *
    generalize os.getD q 0 = x at *
    go_wp2
    go_roundw
    case rel=>exact ⟨q + 1,_,os.set q s,by omega,rfl,by go_num,hid ⟨HN.out.1,HN.out.2.1,by have hb0:=HN.out.2.2; (repeat' (first | (with_reducible assumption) | (with_reducible exact Below.refl _ _) | (with_reducible refine Below.alloc ?_ ?_ _) | (with_reducible refine Below.setCell ?_ ?_ _) | (with_reducible refine Below.drew ?_) | (with_reducible refine below_more ?_ (by with_reducible assumption)) | go_size | omega | (with_reducible refine below_drewN ?_)))⟩⟩
    case measure=>simp [intOf]; omega
  ·obtain rfl:q = len:=by omega
   obtain ⟨hI,hown,hb0⟩:=HI.out
   have eV:VL os = m - n:=by
    rw [SubI.done (A:=wl m) (B:=wl n) hown.2 (by rw [H.out.2.2.1]; exact hI) (by rw [H.out.2.2.1,H.out.2.2.2.1]; omega) (by rw [VL_wl hn,VL_wl (show 0≤m by omega)]; exact hle),VL_wl (show 0≤m by omega),VL_wl hn]
   have hs2:=hown.sl
   have HC:=hid (And.intro (SlF.canon (base:=w.heap.size) ⟨hs2,hown.fr (by first | exact Nat.le_refl _ | (simp; done) | (simp; omega))⟩) (And.intro hb0 eV))
   clear HO HI hI hown hb0 eV
   (repeat' (first | (go_big_may; (first | (go_at_call 154; refine (rtrim_any _ _ _ _ _ hs2).mono ?_; rintro e w' ⟨rfl,rfl⟩))) | go_values | go_skip | go_guarded | go_step | go_upon | (simp only [Int.not_lt,Int.not_le] at *; go_simp) | (go_values <;> (try go_simp)) | (go_ite <;> go_prune <;> (try go_simp)) | (split <;> (first | (rename_i hx; exact (hx _ rfl).elim) | go_prune))))
   go_ret
   obtain ⟨hc,hb2,eV⟩:=HC.out
   refine ⟨.slice a1 (wl (VL os)).length c1,rfl,?_,hb2⟩
   rw [eV] at hc ⊢
   exact hc
theorem quiet_l {P:Program} {f:FuncId} {args:Array Value} {w:World} {n:Nat} {v:Value} (h:Calls P f args (w.drewN n) fun e w'=>e = .returned v∧w.drewN n = w'):Calls P f args (w.drewN n) fun e w'=>e = .returned v∧∃ m,w' = w.drewN m :=
 h.mono fun _ _ ⟨he,hm⟩=>⟨he,n,hm.symm⟩
theorem OwnU.zeros {w:World} {base n:Nat} {v:Value} (h:w.ownsRow base 34 1 v n (madeCells (Value.int .u64 0).cells (n * 1)).toList):OwnU w base v (List.replicate n 0):=by
 have e:(madeCells (Value.int .u64 0).cells (n * 1)).toList = uw (List.replicate n 0):=by
  rw [show (Value.int .u64 0).cells = #[Value.int .u64 0] from rfl,toList_madeCells_one,Nat.mul_one]
  simp [uw]
 rw [e] at h
 exact ⟨by rw [List.length_replicate]; exact h,Ws.zeros n⟩
theorem rstep {x y acc cy:Int} (hx:U64 x) (hy:U64 y) (ha:U64 acc) (hc:U64 cy):∃ r0 c0 h1 r1 c1 cy':Int,U64 r1∧U64 cy'∧r1 + 18446744073709551616 * cy' = x * y + acc + cy∧IntKind.u64.wrap (hi64 x y + c0) = h1∧IntKind.u64.wrap (h1 + c1) = cy' ∧
  (∀ W,(callFunc 155 #[.int .u64 (lo64 x y),.int .u64 acc,.int .u64 0]).run Tryz.prog W = .ok (.value (.tuple #[.int .u64 r0,.int .u64 c0])) W) ∧
  (∀ W,(callFunc 155 #[.int .u64 r0,.int .u64 cy,.int .u64 0]).run Tryz.prog W = .ok (.value (.tuple #[.int .u64 r1,.int .u64 c1])) W):=by
 have hl:U64 (lo64 x y):=⟨by unfold lo64; omega,by unfold lo64; omega⟩
 have A1:=fun W=>add64 hl ha Bit.zero W
 have e1:s64 (lo64 x y) acc 0 = s64 acc (lo64 x y) 0:=by unfold s64; rw [Int.add_comm (lo64 x y) acc]
 have e2:c64 (lo64 x y) acc 0 = c64 acc (lo64 x y) 0:=by unfold c64; rw [Int.add_comm (lo64 x y) acc]
 rw [e1,e2] at A1
 obtain ⟨r0,c0,h1,r1,c1,cy',m1,m2,m3,m4,m5,m6,m7⟩:=mstep hx hy ha hc
 have A2:=fun W=>add64 ha hl Bit.zero W
 have k:r0 = s64 acc (lo64 x y) 0∧c0 = c64 acc (lo64 x y) 0:=by
  have:=(m6 default).symm.trans (A2 default)
  simp at this
  exact this
 obtain ⟨rfl,rfl⟩:=k
 exact ⟨_,_,h1,r1,c1,cy',m1,m2,m3,m4,m5,A1,m7⟩
def MulO (A B os:List Int) (i:Nat):Prop:=os.length = A.length + B.length + 1∧VL os = TV A i * VL B∧∀ j,i + B.length≤j→os.getD j 0 = 0
def MulK (A B os:List Int) (i k:Nat) (c:Int):Prop:=U64 c∧os.length = A.length + B.length + 1∧VL os + pw (i + k) * c = TV A i * VL B + pw i * A.getD i 0 * TV B k∧∀ j,i + B.length≤j→os.getD j 0 = 0
theorem MulK.start {A B os:List Int} {i:Nat} (h:MulO A B os i):MulK A B os i 0 0 :=
 ⟨U64.zero,h.1,by rw [TV_zero,Int.mul_zero,Int.mul_zero,h.2.1],h.2.2⟩
theorem MulK.step {A B os:List Int} {i k:Nat} {c r c':Int} (h:MulK A B os i k c) (hk:k < B.length) (hi:i < A.length) (hc:U64 c') (e:r + 18446744073709551616 * c' = A.getD i 0 * B.getD k 0 + os.getD (i + k) 0 + c):MulK A B (os.set (i + k) r) i (k + 1) c':=by
 obtain ⟨h1,h2,h3,h4⟩:=h
 refine ⟨hc,by rw [List.length_set]; exact h2,?_,fun j hj=>by rw [getD_set_gt os (by omega)]; exact h4 j hj⟩
 rw [VL_set os (i + k) (by omega),TV_succ,show i + (k + 1) = (i + k) + 1 by omega,pw_succ,Int.mul_add,← Int.add_assoc,← h3]
 generalize os.getD (i + k) 0 = o at *
 generalize A.getD i 0 = x at *
 generalize B.getD k 0 = y at *
 have e3:pw i * x * (pw k * y) = pw (i + k) * (x * y):=by rw [pw_add]; simp only [Int.mul_assoc]; rw [Int.mul_left_comm x (pw k) y]
 rw [e3]
 generalize pw (i + k) = p
 have e4:p * (r - o) + 18446744073709551616 * p * c' = p * (r + 18446744073709551616 * c' - o):=by
  rw [Int.mul_sub,Int.mul_sub,Int.mul_add,Int.mul_comm 18446744073709551616 p,Int.mul_assoc]; omega
 rw [e] at e4
 have e5:p * (x * y + o + c - o) = p * (x * y) + p * c:=by rw [← Int.mul_add]; congr 1; omega
 omega
theorem MulK.done {A B os:List Int} {i:Nat} {c:Int} (h:MulK A B os i B.length c) (hi:i < A.length):MulO A B (os.set (i + B.length) c) (i + 1):=by
 obtain ⟨h1,h2,h3,h4⟩:=h
 refine ⟨by rw [List.length_set]; exact h2,?_,fun j hj=>by rw [getD_set_gt os (by omega)]; exact h4 j (by omega)⟩
 rw [VL_set os _ (by omega),h4 _ (Nat.le_refl _),Int.sub_zero,h3,TV_all B B.length (Nat.le_refl _),TV_succ,Int.add_mul]
theorem MulO.start (A B:List Int):MulO A B (List.replicate (A.length + B.length + 1) 0) 0 :=
 ⟨by simp,by rw [VL_zeros,TV_zero,Int.zero_mul],fun j hj=>by
  rw [List.getD_eq_getElem?_getD]
  rcases Nat.lt_or_ge j (A.length + B.length + 1) with h | h
  ·rw [List.getElem?_replicate,if_pos h]; rfl
  ·rw [List.getElem?_eq_none (by simpa using h)]; rfl⟩
set_option maxHeartbeats 1000000 in
set_option maxRecDepth 100000 in
theorem rmul_any (a a':Option Addr) (len cap len' cap':Nat) (m n:Int) (hm:0≤m) (hn:0≤n) (hs:len≤1000) (hs':len'≤1000) (w:World) (h:SlU w (.slice a len cap) (wl m)) (h':SlU w (.slice a' len' cap') (wl n)) :
  Calls Tryz.prog 134 #[.slice a len cap,.slice a' len' cap'] w (MagP w (m * n)):=by
 obtain ⟨i0,hi,hz0,hz1,hz2⟩:=info_u
 obtain ⟨l1,l2,l3⟩:=h.len
 obtain ⟨g1,g2,g3⟩:=h'.len
 obtain ⟨w1,hmk,hown,hg1⟩:=run_make_full (P:=Tryz.prog) w w.heap.size 162 34 i0 (.int .u64 0) 1 Tryz.underlying162 hi hz0 hz1 .i64 .i64 (len + len' + 1) (by rw [hz2]; omega) (by unfold maxLen; omega) (Nat.le_refl _)
 have hcast:((len + len' + 1:Nat):Int) = (len:Int) + (len':Int) + 1:=by omega
 rw [hcast] at hmk
 have H:=hid (And.intro h (And.intro h' (And.intro l1 (And.intro g1 (And.intro l2 (And.intro l3 (And.intro g2 g3)))))))
 have HO:=hid (And.intro (OwnU.zeros hown) (below_gt hg1))
 clear h h' l1 g1 l2 l3 g2 g3 hown hg1 hcast
 go_enter Tryz.func134,Tryz.ntmps134
 go_wp2_with fail
 clear hmk
 go_loopw [6,7,8,9,10,11] (fun i c k h l cc wr=>∃ (q:Nat) (os:List Int),q≤len∧i = .int .i64 q∧Hid (MulO (wl m) (wl n) os q∧OwnU wr w.heap.size (.slice (some ⟨w.heap.size,0,none⟩) (len + len' + 1) (len + len' + 1)) os∧Below w.heap.size w wr)) (fun i _ _ _ _ _ _=>len - (intOf i).toNat)
 case atStart=>exact ⟨0,_,Nat.zero_le _,rfl,hid ⟨by have:=MulO.start (wl m) (wl n); rw [H.out.2.2.1,H.out.2.2.2.1] at this; exact this,HO.out.1,HO.out.2⟩⟩
 case round =>
  obtain ⟨q,os,hq,rfl,HI⟩:=hrel
  have hq0:(0:Int)≤(q:Int):=Int.natCast_nonneg _
  by_cases hql:q < len
  ·have hq1:(q:Int) < (len:Int):=by omega
   go_wp2
   obtain ⟨wo,rfl⟩:∃ wo:World,wo = wr:=⟨_,rfl⟩
   go_loopw [7,8,9,10,11] (fun c k h l cc wr=>∃ (p:Nat) (cy:Int) (os:List Int),p≤len'∧k = .int .i64 p∧c = .int .u64 cy∧Hid (MulK (wl m) (wl n) os q p cy∧OwnU wr w.heap.size (.slice (some ⟨w.heap.size,0,none⟩) (len + len' + 1) (len + len' + 1)) os∧Below w.heap.size w wr)) (fun _ k _ _ _ _=>len' - (intOf k).toNat)
   case atStart=>exact ⟨0,0,os,Nat.zero_le _,rfl,rfl,hid ⟨MulK.start HI.out.1,HI.out.2.1,HI.out.2.2⟩⟩
   case round =>
    obtain ⟨p,cy,os,hp,rfl,rfl,HK⟩:=hrel
    have hp0:(0:Int)≤(p:Int):=Int.natCast_nonneg _
    obtain ⟨hK,hown,hb0⟩:=HK.out
    have hol:os.length = len + len' + 1:=by rw [hK.2.1,H.out.2.2.1,H.out.2.2.2.1]
    obtain ⟨g,e0,-,e3,e4,e5,e6,e7,e8⟩:=hown.at_ (by omega)
    obtain rfl:w.heap.size = g:=by simpa using e0
    clear e0
    by_cases hpl:p < len'
    ·have hp1:(p:Int) < (len':Int):=by omega
     have ho:=e7 (q + p) (by omega)
     have hf:=e8 (q + p)
     clear e7 e8
     obtain ⟨b,off,rfl,f1,f2,f3,f4⟩:=(H.out.1).at_ hql
     obtain ⟨b',off',rfl,k1,k2,k3,k4⟩:=(H.out.2.1).at_ hpl
     have hcx:=(hb0.cell (p:=⟨b,off + q,none⟩) f1).trans f4
     have hcy:=(hb0.cell (p:=⟨b',off' + p,none⟩) k1).trans k4
     clear f4 k4
     obtain ⟨r0,c0,h1,r1,c1,cy',m1,m2,m3,m4,m5,m6,m7⟩:=rstep ((wl_words m).getD q) ((wl_words n).getD p) (hown.2.getD (q + p)) hK.1
     have hux:=(wl_words m).getD q
     have huy:=(wl_words n).getD p
     have hN:=hK.step (r:=r1) (by rw [H.out.2.2.2.1]; exact hpl) (by rw [H.out.2.2.1]; exact hql) m2 m3
     have hOS:=hown.stored (x:=r1) (by omega) (q + p) (by omega) m1
     have HN:=hid (And.intro hN (And.intro hOS (And.intro hb0 (And.intro hux huy))))
     clear hN hOS hK hown hol m1 m2 m3 hux huy
     generalize (wl m).getD q 0 = x at *
     generalize (wl n).getD p 0 = y at *
     generalize os.getD (q + p) 0 = acc at *
     have i1:(0:Int)≤(q:Int) + (p:Int):=by omega
     have i2:(q:Int) + (p:Int) < (len:Int) + (len':Int) + 1:=by omega
     have i3:((q:Int) + (p:Int)).toNat = q + p:=by omega
     have i4:(q:Int) + (p:Int)≤9223372036854775807:=by omega
     clear hb0
     go_wp2
     go_quiet ((go_at_call 164; exact quiet_l (wmul64_any x y HN.out.2.2.2.1 HN.out.2.2.2.2 _)))
     go_wp2
     go_roundw
     case rel=>exact ⟨p + 1,_,os.set (q + p) r1,by omega,by go_num,rfl,hid ⟨HN.out.1,HN.out.2.1,by have hb0:=HN.out.2.2.1; (repeat' (first | (with_reducible assumption) | (with_reducible exact Below.refl _ _) | (with_reducible refine Below.alloc ?_ ?_ _) | (with_reducible refine Below.setCell ?_ ?_ _) | (with_reducible refine Below.drew ?_) | (with_reducible refine below_more ?_ (by with_reducible assumption)) | go_size | omega | (with_reducible refine below_drewN ?_)))⟩⟩
     case measure=>simp [intOf]; omega
    ·obtain rfl:p = len':=by omega
     have ho:=e7 (q + p) (by omega)
     have hf:=e8 (q + p)
     clear e7 e8
     have hN:=MulK.done (A:=wl m) (B:=wl n) (os:=os) (i:=q) (c:=cy) (by rw [H.out.2.2.2.1]; exact hK) (by rw [H.out.2.2.1]; exact hql)
     rw [H.out.2.2.2.1] at hN
     have hOS:=hown.stored (x:=cy) (by omega) (q + p) (by omega) hK.1
     have HN:=hid (And.intro hN (And.intro hOS hb0))
     clear hN hOS hK hown hol hb0
     generalize os.getD (q + p) 0 = acc at *
     have i1:(0:Int)≤(q:Int) + (p:Int):=by omega
     have i2:(q:Int) + (p:Int) < (len:Int) + (p:Int) + 1:=by omega
     have i3:((q:Int) + (p:Int)).toNat = q + p:=by omega
     have i4:(q:Int) + (p:Int)≤9223372036854775807:=by omega
     go_wp2
     go_roundw
     case rel=>exact ⟨q + 1,os.set (q + p) cy,by omega,by go_num,hid ⟨HN.out.1,HN.out.2.1,by have hb0:=HN.out.2.2; (repeat' (first | (with_reducible assumption) | (with_reducible exact Below.refl _ _) | (with_reducible refine Below.alloc ?_ ?_ _) | (with_reducible refine Below.setCell ?_ ?_ _) | (with_reducible refine Below.drew ?_) | (with_reducible refine below_more ?_ (by with_reducible assumption)) | go_size | omega | (with_reducible refine below_drewN ?_)))⟩⟩
     case measure=>simp [intOf]; omega
  ·obtain rfl:q = len:=by omega
   obtain ⟨hO,hown,hb0⟩:=HI.out
   have eV:VL os = m * n:=by
    rw [hO.2.1,← H.out.2.2.1,TV_all _ _ (Nat.le_refl _),VL_wl hm,VL_wl hn]
   have hol:os.length = q + len' + 1:=by rw [hO.1,H.out.2.2.1,H.out.2.2.2.1]
   have hs2:SlU wr (.slice (some ⟨w.heap.size,0,none⟩) (q + len' + 1) (q + len' + 1)) os:=hown.sl
   have HC:=hid (And.intro (SlF.canon (base:=w.heap.size) ⟨hs2,hown.fr (by first | exact Nat.le_refl _ | (simp; done) | (simp; omega))⟩) (And.intro hb0 eV))
   clear HI hO hown hb0 eV hol
   (repeat' (first | (go_big_may; (first | (go_at_call 154; refine (rtrim_any _ _ _ _ _ hs2).mono ?_; rintro e w' ⟨rfl,rfl⟩))) | go_values | go_skip | go_guarded | go_step | go_upon | (simp only [Int.not_lt,Int.not_le] at *; go_simp) | (go_values <;> (try go_simp)) | (go_ite <;> go_prune <;> (try go_simp)) | (split <;> (first | (rename_i hx; exact (hx _ rfl).elim) | go_prune))))
   go_ret
   obtain ⟨hc,hb2,eV⟩:=HC.out
   refine ⟨.slice (some ⟨w.heap.size,0,none⟩) (wl (VL os)).length (q + len' + 1),rfl,?_,hb2⟩
   rw [eV] at hc ⊢
   exact hc
end Go.Proofs.YtncmmbacoknefaaGreat

/- CdV: MADE BY PROGRAM (sxgen.py): the small code of some functions, points of it and their equations. -/
namespace Go.Proofs.YtncmmbacoknefaaGreat
open Go Go.RowKit Sx Sx.Q
set_option linter.unusedVariables false
variable (C:Cx) (R L1 L2 L3 L4:St→Prop)
namespace r02_clean
abbrev q0:=[1,2]
abbrev r0:List G:=[e 1 (.box true 5 (t 0)),e 2 (.new zW)]
abbrev q1:=[1,2,5]
abbrev r1:List G:=[L 3 5 1,K1 4 100 3,e 5 (.un .not (t 4))]
abbrev r2:List G:=[e 6 (.bd zW []),V 5 2 6]
abbrev r3:List G:=[L 7 5 1,V 5 2 7]
abbrev c:MC:=sq [g r0 q0,sq [g r1 q1,ci 5 (sq [g r2 [2],.ret]) .skip],g r3 [2],.ret]
theorem ok:compF Tryz.prog Tryz.f109 (an (rg 4) c []) = some (8,c,[(2,some (true,5))]):=by kernel_rfl
abbrev p1:=P C r3 [2] R
abbrev p3:=P C r2 [2] R
abbrev p2:=cd (t 5) (p3 C R) (p1 C R)
abbrev p4:=P C r1 q1 (p2 C R)
abbrev p5:=P C r0 q0 (p4 C R)
theorem s (S:St):X C c (retK R) S = p5 C R S:=by kernel_rfl
theorem E:type_of% @s:=@s
end r02_clean
namespace wide_Add
abbrev q0:=[2,3,4]
abbrev r0:List G:=[e 2 (.box true 5 (t 0)),e 3 (.box true 5 (t 1)),e 4 (.new zW),Mb 5 false]
abbrev r1:List G:=[L 8 5 2,k1 9 161 8,L 10 5 3,k1 11 161 10]
abbrev t1:List G:=[V 5 2 9,V 5 3 11]
abbrev q1:=[2,3,4,16]
abbrev r2:List G:=[a 12 0 2,l 13 12,a 14 0 3,l 15 14,e 16 (.bq false (t 13) (t 15))]
abbrev q2:=[2,4,6,7]
abbrev r3:List G:=[a 18 1 2,L 19 4 18,a 20 1 3,L 21 4 20,K2 22 165 19 21,m 17 22,x 23 17 0,x 24 17 1,e 6 (.new [.int .u64 0,.int .u64 0,.int .u64 0,.int .u64 0]),V 4 6 23,m 7 24]
abbrev q3:=[2,4,6,26]
abbrev r4:List G:=[m 25 7,bu 26 .neq 25 0]
abbrev q4:=[4,5]
abbrev r5:List G:=[e 27 (.bd zW []),V 5 4 27,Mb 5 false]
abbrev r6:List G:=[a 28 0 2,l 29 28,L 30 4 6,K2 31 163 29 30,V 5 4 31,Mb 5 true]
abbrev q5:=[2,3,4,37]
abbrev r7:List G:=[a 32 1 2,L 33 4 32,a 34 1 3,L 35 4 34,K2 36 166 33 35,bi 37 .geq 36 0]
abbrev r8:List G:=[a 38 0 2,l 39 38,a 40 1 2,L 41 4 40,a 42 1 3,L 43 4 42,k2 44 167 41 43,k2 45 163 39 44]
abbrev t8:List G:=[V 5 4 45,Mb 5 true]
abbrev r9:List G:=[a 46 0 3,l 47 46,a 48 1 3,L 49 4 48,a 50 1 2,L 51 4 50,k2 52 167 49 51,k2 53 163 47 52]
abbrev t9:List G:=[V 5 4 53,Mb 5 true]
abbrev c:MC:=sq [g r0 q0,gd r1 t1 q0,sq [g r2 q1,ci 16 (sq [g r3 q2,sq [g r4 q3,ci 26 (sq [g r5 q4,.ret]) .skip],g r6 q4,.ret]) .skip],sq [g r7 q5,ci 37 (sq [gd r8 t8 q4,.ret]) .skip],gd r9 t9 q4,.ret]
theorem ok:compF Tryz.prog Tryz.f137 (an (rg 10) c [(1,4,[],(up 4),[]),(8,8,[],(up 8),[]),(9,8,[],(up 8),[])]) = some (54,c,[(4,some (true,5)),(5,none)]):=by kernel_rfl
abbrev p1:=Pd C r9 t9 q4 R
abbrev p3:=Pd C r8 t8 q4 R
abbrev p2:=cd (t 37) (p3 C R) (p1 C R)
abbrev p4:=P C r7 q5 (p2 C R)
abbrev p6:=P C r6 q4 R
abbrev p8:=P C r5 q4 R
abbrev p7:=cd (t 26) (p8 C R) (p6 C R)
abbrev p9:=P C r4 q3 (p7 C R)
abbrev p10:=P C r3 q2 (p9 C R)
abbrev p5:=cd (t 16) (p10 C R) (p4 C R)
abbrev p11:=P C r2 q1 (p5 C R)
abbrev p12:=Pd C r1 t1 q0 (p11 C R)
abbrev p13:=P C r0 q0 (p12 C R)
theorem s (S:St):X C c (retK R) S = p13 C R S:=by kernel_rfl
theorem E:type_of% @s:=@s
end wide_Add
namespace wide_Mul
abbrev q0:=[2,3,4]
abbrev r0:List G:=[e 2 (.box true 5 (t 0)),e 3 (.box true 5 (t 1)),e 4 (.new zW),Mb 5 false]
abbrev r1:List G:=[L 8 5 2,k1 9 161 8,L 10 5 3,k1 11 161 10]
abbrev t1:List G:=[V 5 2 9,V 5 3 11]
abbrev q1:=[2,3,4,6,7]
abbrev r2:List G:=[a 13 1 2,L 14 4 13,a 15 1 3,L 16 4 15,K2 17 162 14 16,m 12 17,x 18 12 0,x 19 12 1,e 6 (.new [.int .u64 0,.int .u64 0,.int .u64 0,.int .u64 0]),V 4 6 18,m 7 19]
abbrev q2:=[2,3,4,6,21]
abbrev r3:List G:=[m 20 7,e 21 (.un .not (t 20))]
abbrev q3:=[4,5]
abbrev r4:List G:=[e 22 (.bd zW []),V 5 4 22,Mb 5 false]
abbrev r5:List G:=[a 23 0 2,l 24 23,a 25 0 3,l 26 25,e 27 (.bq true (t 24) (t 26)),L 28 4 6,K2 29 163 27 28,V 5 4 29,Mb 5 true]
abbrev c:MC:=sq [g r0 q0,gd r1 t1 q0,g r2 q1,sq [g r3 q2,ci 21 (sq [g r4 q3,.ret]) .skip],g r5 q3,.ret]
theorem ok:compF Tryz.prog Tryz.f126 (an (rg 6) c [(1,4,[],(up 4),[])]) = some (30,c,[(4,some (true,5)),(5,none)]):=by kernel_rfl
abbrev p1:=P C r5 q3 R
abbrev p3:=P C r4 q3 R
abbrev p2:=cd (t 21) (p3 C R) (p1 C R)
abbrev p4:=P C r3 q2 (p2 C R)
abbrev p5:=P C r2 q1 (p4 C R)
abbrev p6:=Pd C r1 t1 q0 (p5 C R)
abbrev p7:=P C r0 q0 (p6 C R)
theorem s (S:St):X C c (retK R) S = p7 C R S:=by kernel_rfl
theorem E:type_of% @s:=@s
end wide_Mul
namespace r02_Add
abbrev q0:=[2,3,4]
abbrev r0:List G:=[e 2 (.box true 5 (t 0)),e 3 (.box true 5 (t 1)),e 4 (.new zW),Mb 5 false]
abbrev r1:List G:=[L 8 5 2,k1 9 109 8,L 10 5 3,k1 11 109 10]
abbrev t1:List G:=[V 5 2 9,V 5 3 11]
abbrev q1:=[2,3,4,6,7]
abbrev r2:List G:=[L 12 5 2,L 14 5 3,K1 13 110 12,K1 15 110 14]
abbrev t2:List G:=[m 6 13,m 7 15]
abbrev q2:=[2,3,4,6,7,16]
abbrev r3:List G:=[a 17 0 2,l 18 17,a 19 0 3,l 20 19,e 21 (.bq false (t 18) (t 20)),m 16 21]
abbrev q3:=[4,5]
abbrev r4:List G:=[a 22 0 2,l 23 22,m 24 6,m 25 7,K2 26 112 24 25,K2 27 111 23 26,x 28 27 0,x 29 27 1]
abbrev t4:List G:=[V 5 4 28,m 5 29]
abbrev q4:=[2,3,4,6,7,30]
abbrev r5:List G:=[m 31 6,m 32 7,K2 33 113 31 32,bi 34 .geq 33 0,m 30 34]
abbrev r6:List G:=[a 35 0 2,l 36 35,m 37 6,m 38 7,K2 39 114 37 38,K2 40 111 36 39,x 41 40 0,x 42 40 1]
abbrev t6:List G:=[V 5 4 41,m 5 42]
abbrev r7:List G:=[a 43 0 3,l 44 43,m 45 7,m 46 6,K2 47 114 45 46,K2 48 111 44 47,x 49 48 0,x 50 48 1]
abbrev t7:List G:=[V 5 4 49,m 5 50]
abbrev c:MC:=sq [g r0 q0,gd r1 t1 q0,gk true false r2 t2 q1,.block 0 (sq [g r3 q2,ci 16 (sq [gk true false r4 t4 q3,.ret]) (sq [g r5 q4,ci 30 (sq [gk true false r6 t6 q3,.ret]) .skip])]),gk true false r7 t7 q3,.ret]
theorem ok:compF Tryz.prog Tryz.f51 (an (rg 8) c [(1,4,[],(up 4),[]),(2,200004,[],[(0,0),(2,0),(1,1),(3,1)],[]),(4,200008,[],(up 4 ++ [(4,1),(5,1),(6,0),(7,0)]),[]),(6,200008,[],(up 4 ++ [(4,1),(5,1),(6,0),(7,0)]),[]),(7,200008,[],(up 4 ++ [(4,1),(5,1),(6,0),(7,0)]),[])]) = some (51,c,[(4,some (true,5)),(5,none)]):=by kernel_rfl
abbrev p1:=Pc C true false r7 t7 q3 R
abbrev p3:=Pc C true false r4 t4 q3 R
abbrev p5:=Pc C true false r6 t6 q3 R
abbrev p4:=cd (t 30) (p5 C R) (p1 C R)
abbrev p6:=P C r5 q4 (p4 C R)
abbrev p2:=cd (t 16) (p3 C R) (p6 C R)
abbrev p7:=P C r3 q2 (p2 C R)
abbrev p8:=Pc C true false r2 t2 q1 (p7 C R)
abbrev p9:=Pd C r1 t1 q0 (p8 C R)
abbrev p10:=P C r0 q0 (p9 C R)
theorem s (S:St):X C c (retK R) S = p10 C R S:=by kernel_rfl
theorem E:type_of% @s:=@s
end r02_Add
namespace r02_Mul
abbrev q0:=[2,3,4]
abbrev r0:List G:=[e 2 (.box true 5 (t 0)),e 3 (.box true 5 (t 1)),e 4 (.new zW),Mb 5 false]
abbrev r1:List G:=[L 6 5 2,k1 7 109 6,L 8 5 3,k1 9 109 8]
abbrev t1:List G:=[V 5 2 7,V 5 3 9]
abbrev q1:=[4,5]
abbrev r2:List G:=[a 10 0 2,l 11 10,a 12 0 3,l 13 12,e 14 (.bq true (t 11) (t 13)),L 15 5 2,L 17 5 3,K1 16 110 15,K1 18 110 17,K2 19 134 16 18,K2 20 111 14 19,x 21 20 0,x 22 20 1]
abbrev t2:List G:=[V 5 4 21,m 5 22]
abbrev c:MC:=sq [g r0 q0,gd r1 t1 q0,gk true false r2 t2 q1,.ret]
theorem ok:compF Tryz.prog Tryz.f76 (an (rg 3) c [(1,4,[],(up 4),[]),(2,200013,[],(up 6 ++ [(7,0),(6,1),(8,1),(9,1),(10,1),(11,0),(12,0)]),[])]) = some (23,c,[(4,some (true,5)),(5,none)]):=by kernel_rfl
abbrev p1:=Pc C true false r2 t2 q1 R
abbrev p2:=Pd C r1 t1 q0 (p1 C R)
abbrev p3:=P C r0 q0 (p2 C R)
theorem s (S:St):X C c (retK R) S = p3 C R S:=by kernel_rfl
theorem E:type_of% @s:=@s
end r02_Mul
end Go.Proofs.YtncmmbacoknefaaGreat

/- WideC: The package wide, continued: sums, differences, products (a symbolic run). -/
namespace Go.Proofs.YtncmmbacoknefaaGreat
open Go Go.RowKit Sx
set_option linter.unusedVariables false
set_option linter.unusedSimpArgs false
set_option maxRecDepth 100000 in
set_option maxHeartbeats 1000000 in
theorem add_any (n:Bool) (a b c d:Int) (n':Bool) (a' b' c' d':Int) (ha:U64 a) (hb:U64 b) (hc:U64 c) (hd:U64 d) (ha':U64 a') (hb':U64 b') (hc':U64 c') (hd':U64 d') (w:World) :
  Calls Tryz.prog 137 #[WV n a b c d,WV n' a' b' c' d'] w fun e w'=>e = .returned (.tuple #[WE (cl (wv n a b c d + wv n' a' b' c' d')),.bool (fb (wv n a b c d + wv n' a' b' c' d'))])∧Below w.heap.size w w':=by
 have cA:=fun W=>gives_known en_wide_clean (clean_any n a b c d W)
 have cB:=fun W=>gives_known en_wide_clean (clean_any n' a' b' c' d' W)
 rw [wv_sv n a b c d,wv_sv n' a' b' c' d']
 have m1:=mv_nonneg ha hb hc hd
 have m2:=mv_nonneg ha' hb' hc' hd'
 have u1:=mv_up4 ha hb hc hd
 have u2:=mv_up4 ha' hb' hc' hd'
 have C1:=cm4_mv (a3:=d) (b3:=d') ha hb hc ha' hb' hc'
 generalize cn n a b c d = p at *
 generalize cn n' a' b' c' d' = q at *
 by_cases hpq:p = q
 ·subst hpq
  rw [sv_add]
  have k1:=fun W=>gives_known en_wide_add (wadd_any a b c d a' b' c' d' ha hb hc hd ha' hb' hc' hd' W)
  have h0:0≤MV a b c d + MV a' b' c' d':=by omega
  generalize MV a b c d + MV a' b' c' d' = S at *
  clear m1 m2 u1 u2 C1 ha hb hc hd ha' hb' hc' hd'
  by_cases hu:up4 S = 0
  ·have hf:Fits (sv p S):=(fits_sv h0).2 hu
   have k2:=fun W=>gives_known en_wide_signed (signed_any p (lb0 S) (lb1 S) (lb2 S) (lb3 S) W)
   rw [sv_signed h0 hu] at k2
   rw [hu] at k1
   rw [cl_fit hf,fb_fit hf]
   clear hf hu h0
   generalize sv p S = y at *
   refine known_of (enter Tryz.func137 wide_Add.ok (args:=[_,_]) (by simp) ?_)
   repeat' (first | simp (disch:=omega) only [sxE,wide_Add.E,Nat.reduceAdd,Nat.reduceEqDiff,Nat.reduceMul,Nat.reduceSub,Int.reduceAdd,Int.reduceSub,Int.reduceMul,Int.reduceNeg,Int.reduceLT,Int.reduceLE,Int.reduceEq,Int.reduceToNat,↓reduceIte,Int.reducePow,Nat.reduceLeDiff,Nat.reduceLT,ne_eq,eq_self,List.length_cons,List.length_nil,beq_self_eq_true] | (with_reducible refine Sx.call_at (f:=161) (fun W hW=>cA W) ?_) | (with_reducible refine Sx.call_at (f:=161) (fun W hW=>cB W) ?_) | (with_reducible refine Sx.call_at (f:=165) (fun W hW=>k1 W) ?_) | (with_reducible refine Sx.call_at (f:=163) (fun W hW=>k2 W) ?_) | (with_reducible refine cregF ?_))
  ·have hf:¬Fits (sv p S):=fun h=>hu ((fits_sv h0).1 h)
   rw [cl_not hf,fb_not hf,we_zero]
   have hu':up4 S≠0:=hu
   clear hf
   generalize up4 S = U at *
   refine known_of (enter Tryz.func137 wide_Add.ok (args:=[_,_]) (by simp) ?_)
   repeat' (first | simp (disch:=omega) only [sxE,wide_Add.E,Nat.reduceAdd,Nat.reduceEqDiff,Nat.reduceMul,Nat.reduceSub,Int.reduceAdd,Int.reduceSub,Int.reduceMul,Int.reduceNeg,Int.reduceLT,Int.reduceLE,Int.reduceEq,Int.reduceToNat,↓reduceIte,Int.reducePow,Nat.reduceLeDiff,Nat.reduceLT,ne_eq,eq_self,List.length_cons,List.length_nil,beq_self_eq_true] | (with_reducible refine Sx.call_at (f:=161) (fun W hW=>cA W) ?_) | (with_reducible refine Sx.call_at (f:=161) (fun W hW=>cB W) ?_) | (with_reducible refine Sx.call_at (f:=165) (fun W hW=>k1 W) ?_) | (with_reducible refine cregF ?_))
 ·have T0:(p == q) = false:=beq_eq_false_iff_ne.2 hpq
  have k3:=fun W=>gives_known en_wide_compare (wcompare_any a b c d a' b' c' d' W)
  have k1:=fun W=>gives_known en_wide_sub (wsub_any a b c d a' b' c' d' ha hb hc hd ha' hb' hc' hd' W)
  have k1':=fun W=>gives_known en_wide_sub (wsub_any a' b' c' d' a b c d ha' hb' hc' hd' ha hb hc hd W)
  by_cases hle:MV a' b' c' d'≤MV a b c d
  ·have hu:up4 (MV a b c d - MV a' b' c' d') = 0:=up4_le (by omega) (by omega) u1
   have T:0≤cm4 a b c d a' b' c' d':=by rw [C1]; exact (cm_ge _ _).2 hle
   have h0:0≤MV a b c d - MV a' b' c' d':=by omega
   rw [sv_sub hpq]
   clear m1 m2 u1 u2 C1 hle ha hb hc hd ha' hb' hc' hd' k1' hpq
   generalize MV a b c d - MV a' b' c' d' = S at *
   generalize cm4 a b c d a' b' c' d' = Z at *
   have hf:Fits (sv p S):=(fits_sv h0).2 hu
   have k2:=fun W=>gives_known en_wide_signed (signed_any p (lb0 S) (lb1 S) (lb2 S) (lb3 S) W)
   rw [sv_signed h0 hu] at k2
   rw [cl_fit hf,fb_fit hf]
   clear hf hu h0
   generalize sv p S = y at *
   refine known_of (enter Tryz.func137 wide_Add.ok (args:=[_,_]) (by simp) ?_)
   repeat' (first | simp (disch:=omega) only [sxE,wide_Add.E,Nat.reduceAdd,Nat.reduceEqDiff,Nat.reduceMul,Nat.reduceSub,Int.reduceAdd,Int.reduceSub,Int.reduceMul,Int.reduceNeg,Int.reduceLT,Int.reduceLE,Int.reduceEq,Int.reduceToNat,↓reduceIte,Int.reducePow,Nat.reduceLeDiff,Nat.reduceLT,ne_eq,eq_self,List.length_cons,List.length_nil,T0] | (with_reducible refine Sx.call_at (f:=161) (fun W hW=>cA W) ?_) | (with_reducible refine Sx.call_at (f:=161) (fun W hW=>cB W) ?_) | (with_reducible refine Sx.call_at (f:=166) (fun W hW=>k3 W) ?_) | (with_reducible refine Sx.call_at (f:=167) (fun W hW=>k1 W) ?_) | (with_reducible refine Sx.call_at (f:=163) (fun W hW=>k2 W) ?_) | (with_reducible refine cregF ?_))
  ·have hu:up4 (MV a' b' c' d' - MV a b c d) = 0:=up4_le (by omega) (by omega) u2
   have T:¬ 0≤cm4 a b c d a' b' c' d':=by rw [C1]; exact fun h=>hle ((cm_ge _ _).1 h)
   have h0:0≤MV a' b' c' d' - MV a b c d:=by omega
   rw [sv_sub' hpq]
   clear m1 m2 u1 u2 C1 hle ha hb hc hd ha' hb' hc' hd' k1 hpq
   generalize MV a' b' c' d' - MV a b c d = S at *
   generalize cm4 a b c d a' b' c' d' = Z at *
   have hf:Fits (sv q S):=(fits_sv h0).2 hu
   have k2:=fun W=>gives_known en_wide_signed (signed_any q (lb0 S) (lb1 S) (lb2 S) (lb3 S) W)
   rw [sv_signed h0 hu] at k2
   rw [cl_fit hf,fb_fit hf]
   clear hf hu h0
   generalize sv q S = y at *
   refine known_of (enter Tryz.func137 wide_Add.ok (args:=[_,_]) (by simp) ?_)
   repeat' (first | simp (disch:=omega) only [sxE,wide_Add.E,Nat.reduceAdd,Nat.reduceEqDiff,Nat.reduceMul,Nat.reduceSub,Int.reduceAdd,Int.reduceSub,Int.reduceMul,Int.reduceNeg,Int.reduceLT,Int.reduceLE,Int.reduceEq,Int.reduceToNat,↓reduceIte,Int.reducePow,Nat.reduceLeDiff,Nat.reduceLT,ne_eq,eq_self,List.length_cons,List.length_nil,T0] | (with_reducible refine Sx.call_at (f:=161) (fun W hW=>cA W) ?_) | (with_reducible refine Sx.call_at (f:=161) (fun W hW=>cB W) ?_) | (with_reducible refine Sx.call_at (f:=166) (fun W hW=>k3 W) ?_) | (with_reducible refine Sx.call_at (f:=167) (fun W hW=>k1' W) ?_) | (with_reducible refine Sx.call_at (f:=163) (fun W hW=>k2 W) ?_) | (with_reducible refine cregF ?_))
set_option maxRecDepth 100000 in
set_option maxHeartbeats 1000000 in
theorem mul_any (n:Bool) (a b c d:Int) (n':Bool) (a' b' c' d':Int) (ha:U64 a) (hb:U64 b) (hc:U64 c) (hd:U64 d) (ha':U64 a') (hb':U64 b') (hc':U64 c') (hd':U64 d') (w:World) :
  Calls Tryz.prog 126 #[WV n a b c d,WV n' a' b' c' d'] w fun e w'=>e = .returned (.tuple #[WE (cl (wv n a b c d * wv n' a' b' c' d')),.bool (fb (wv n a b c d * wv n' a' b' c' d'))])∧Below w.heap.size w w':=by
 have cA:=fun W=>gives_known en_wide_clean (clean_any n a b c d W)
 have cB:=fun W=>gives_known en_wide_clean (clean_any n' a' b' c' d' W)
 rw [wv_sv n a b c d,wv_sv n' a' b' c' d',sv_mul]
 have h0:=Int.mul_nonneg (mv_nonneg ha hb hc hd) (mv_nonneg ha' hb' hc' hd')
 have k1:=fun W=>gives_known en_wide_mul (wmul_any a b c d a' b' c' d' ha hb hc hd ha' hb' hc' hd' W)
 clear ha hb hc hd ha' hb' hc' hd'
 generalize cn n a b c d = p at *
 generalize cn n' a' b' c' d' = q at *
 generalize MV a b c d * MV a' b' c' d' = S at *
 rw [show (p != q) = !(p == q) from rfl]
 by_cases hu:up4 S = 0
 ·have hf:Fits (sv (!(p == q)) S):=(fits_sv h0).2 hu
  have k2:=fun W=>gives_known en_wide_signed (signed_any (!(p == q)) (lb0 S) (lb1 S) (lb2 S) (lb3 S) W)
  rw [sv_signed h0 hu] at k2
  rw [hu,show ((0:Int) == 0) = true from rfl] at k1
  rw [cl_fit hf,fb_fit hf]
  clear hf hu h0
  generalize sv (!(p == q)) S = y at *
  refine known_of (enter Tryz.func126 wide_Mul.ok (args:=[_,_]) (by simp) ?_)
  repeat' (first | simp (disch:=omega) only [sxE,wide_Mul.E,Nat.reduceAdd,Nat.reduceEqDiff,Nat.reduceMul,Nat.reduceSub,Int.reduceAdd,Int.reduceSub,Int.reduceMul,Int.reduceNeg,Int.reduceLT,Int.reduceLE,Int.reduceEq,Int.reduceToNat,↓reduceIte,Int.reducePow,Nat.reduceLeDiff,Nat.reduceLT,ne_eq,eq_self,List.length_cons,List.length_nil] | (with_reducible refine Sx.call_at (f:=161) (fun W hW=>cA W) ?_) | (with_reducible refine Sx.call_at (f:=161) (fun W hW=>cB W) ?_) | (with_reducible refine Sx.call_at (f:=162) (fun W hW=>k1 W) ?_) | (with_reducible refine Sx.call_at (f:=163) (fun W hW=>k2 W) ?_) | (with_reducible refine cregF ?_))
 ·have hf:¬Fits (sv (!(p == q)) S):=fun h=>hu ((fits_sv h0).1 h)
  rw [beq_eq_false_iff_ne.2 hu] at k1
  rw [cl_not hf,fb_not hf,we_zero]
  clear hf hu
  refine known_of (enter Tryz.func126 wide_Mul.ok (args:=[_,_]) (by simp) ?_)
  repeat' (first | simp (disch:=omega) only [sxE,wide_Mul.E,Nat.reduceAdd,Nat.reduceEqDiff,Nat.reduceMul,Nat.reduceSub,Int.reduceAdd,Int.reduceSub,Int.reduceMul,Int.reduceNeg,Int.reduceLT,Int.reduceLE,Int.reduceEq,Int.reduceToNat,↓reduceIte,Int.reducePow,Nat.reduceLeDiff,Nat.reduceLT,ne_eq,eq_self,List.length_cons,List.length_nil] | (with_reducible refine Sx.call_at (f:=161) (fun W hW=>cA W) ?_) | (with_reducible refine Sx.call_at (f:=161) (fun W hW=>cB W) ?_) | (with_reducible refine Sx.call_at (f:=162) (fun W hW=>k1 W) ?_) | (with_reducible refine cregF ?_))
end Go.Proofs.YtncmmbacoknefaaGreat

/- RefC: The reference of wide, continued: its functions on Wides. -/
namespace Go.Proofs.YtncmmbacoknefaaGreat
open Go Go.ChangeShapes Go.WideShapes Go.ChangeAt Go.RowKit Sx
set_option linter.unusedVariables false
set_option linter.unusedSimpArgs false
theorem mz_len {a b c d:Int} (ha:U64 a) (hb:U64 b) (hc:U64 c) (hd:U64 d):decide (0 < (wl (MV a b c d)).length) = !mz a b c d:=by
 have h1:=mz_iff ha hb hc hd
 by_cases hm:MV a b c d = 0
 ·rw [h1.2 hm,hm,wl_nil (Int.le_refl _)]; rfl
 ·have h0:=mv_nonneg ha hb hc hd
  have h2:(wl (MV a b c d)).length≠0:=fun h=>wl_ne (show 0 < MV a b c d by omega) (List.length_eq_zero_iff.1 h)
  have h3:mz a b c d = false:=by
   cases hz:mz a b c d
   ·rfl
   ·exact absurd (h1.1 hz) hm
  rw [h3]; exact dT (by omega)
theorem MagP.open {w w':World} {m:Int} {e:Ending} (h:MagP w m e w'):∃ a len cap,e = .returned (.slice a len cap)∧(wl m).length = len∧SlU w' (.slice a len cap) (wl m)∧Below w.heap.size w w':=by
 obtain ⟨v,rfl,⟨hs,-⟩,hb⟩:=h
 have hs':=hs
 obtain ⟨a,len,cap,rfl,hl,_⟩:=hs
 exact ⟨a,len,cap,rfl,hl,hs',hb⟩
theorem mag_ask {P:Program} {f:FuncId} {args:Array Value} {w:World} {m:Int} (h:Calls P f args w (MagP w m)):Calls P f args w fun e w'=>∃ v,e = .returned v∧SlU w' v (wl m)∧w.grownBy w' none :=
 h.mono fun e w' ⟨v,he,hs,hb⟩=>⟨v,he,hs.1,gt_below hb _⟩
theorem rvalid_any (n:Bool) (a b c d:Int) (ha:U64 a) (hb:U64 b) (hc:U64 c) (hd:U64 d) (w:World) :
  Calls Tryz.prog 100 #[WV n a b c d] w fun e w'=>e = .returned (.bool (!n || !mz a b c d))∧Below w.heap.size w w':=by
 cases n
 ·clear ha hb hc hd
  go_enter Tryz.func100,Tryz.ntmps100
  go_wp2
  go_returns
  exact ⟨ret_b rfl,by (repeat' (first | (with_reducible assumption) | (with_reducible exact Below.refl _ _) | (with_reducible refine Below.alloc ?_ ?_ _) | (with_reducible refine Below.setCell ?_ ?_ _) | (with_reducible refine Below.drew ?_) | (with_reducible refine below_more ?_ (by with_reducible assumption)) | go_size | omega | (with_reducible refine below_drewN ?_)))⟩
 ·have hz:=hid (mz_len ha hb hc hd)
  go_enter Tryz.func100,Tryz.ntmps100
  (repeat' (first | (go_big_may; (first | (go_at_call 110; refine (rof_any true a b c d ha hb hc hd _).mono ?_; rintro e w' hmag; obtain ⟨a1,l1,c1,rfl,hl1,hs1,hb1⟩:=hmag.open; have HL:=hid hl1; clear hl1 hmag))) | go_values | go_skip | go_guarded | go_step | go_upon | (simp only [Int.not_lt,Int.not_le] at *; go_simp) | (go_values <;> (try go_simp)) | (go_ite <;> go_prune <;> (try go_simp)) | (split <;> (first | (rename_i hx; exact (hx _ rfl).elim) | go_prune))))
  go_ret
  refine ⟨ret_b ?_,by (repeat' (first | (with_reducible assumption) | (with_reducible exact Below.refl _ _) | (with_reducible refine Below.alloc ?_ ?_ _) | (with_reducible refine Below.setCell ?_ ?_ _) | (with_reducible refine Below.drew ?_) | (with_reducible refine below_more ?_ (by with_reducible assumption)) | go_size | omega | (with_reducible refine below_drewN ?_)))⟩
  have:=hz.out
  rw [HL.out] at this
  simp [this]
theorem rclean_any (n:Bool) (a b c d:Int) (ha:U64 a) (hb:U64 b) (hc:U64 c) (hd:U64 d) (w:World) :
  Calls Tryz.prog 109 #[WV n a b c d] w fun e w'=>e = .returned (WV (cn n a b c d) a b c d)∧Below w.heap.size w w':=by
 cases hz:(n && mz a b c d)
 ·have hv:(!n || !mz a b c d) = true:=by revert hz; cases n <;> cases mz a b c d <;> simp
  have hcn:cn n a b c d = n:=by revert hz; unfold cn; cases n <;> cases mz a b c d <;> simp
  rw [hcn]
  have C:=fun W=>rvalid_any n a b c d ha hb hc hd W
  simp only [hv] at C
  clear hz hcn hv ha hb hc hd
  have C:=fun W=>gives_known en_r02_Valid (C W)
  refine known_of (enter Tryz.func109 r02_clean.ok (args:=[_]) (by simp) ?_)
  repeat' (first | simp (disch:=omega) only [sxE,r02_clean.E,Nat.reduceAdd,Nat.reduceEqDiff,Nat.reduceMul,Nat.reduceSub,Int.reduceAdd,Int.reduceSub,Int.reduceMul,Int.reduceNeg,Int.reduceLT,Int.reduceLE,Int.reduceEq,Int.reduceToNat,↓reduceIte,Int.reducePow,Nat.reduceLeDiff,Nat.reduceLT,ne_eq,eq_self,List.length_cons,List.length_nil] | (with_reducible refine Sx.call_at (f:=100) (fun W hW=>C W) ?_) | (with_reducible refine cregF ?_))
 ·have hv:(!n || !mz a b c d) = false:=by revert hz; cases n <;> cases mz a b c d <;> simp
  have hzz:mz a b c d = true:=by revert hz; cases n <;> simp
  have hcn:cn n a b c d = false:=by unfold cn; rw [hzz]; simp
  have hw:a = 0∧b = 0∧c = 0∧d = 0:=by simpa [mz,meq] using hzz
  have C:=fun W=>rvalid_any n a b c d ha hb hc hd W
  simp only [hv] at C
  obtain ⟨rfl,rfl,rfl,rfl⟩:=hw
  rw [hcn]
  clear hz hcn hzz hv ha hb hc hd
  have C:=fun W=>gives_known en_r02_Valid (C W)
  refine known_of (enter Tryz.func109 r02_clean.ok (args:=[_]) (by simp) ?_)
  repeat' (first | simp (disch:=omega) only [sxE,r02_clean.E,Nat.reduceAdd,Nat.reduceEqDiff,Nat.reduceMul,Nat.reduceSub,Int.reduceAdd,Int.reduceSub,Int.reduceMul,Int.reduceNeg,Int.reduceLT,Int.reduceLE,Int.reduceEq,Int.reduceToNat,↓reduceIte,Int.reducePow,Nat.reduceLeDiff,Nat.reduceLT,ne_eq,eq_self,List.length_cons,List.length_nil] | (with_reducible refine Sx.call_at (f:=100) (fun W hW=>C W) ?_) | (with_reducible refine cregF ?_))
theorem rOf_any (v:Int) (hv:I64 v) (w:World) :
  Calls Tryz.prog 50 #[.int .i64 v] w fun e w'=>e = .returned (WE v)∧Below w.heap.size w w':=by
 obtain ⟨v1,v2⟩:=hv
 generalize hR:WE v = R
 have HR:=hid hR
 by_cases h:v < 0
 ·have e:WE v = WV true (IntKind.u64.wrap (-IntKind.u64.wrap v)) 0 0 0:=we_of_neg v ⟨v1,v2⟩ h
  have E:=hid (e.symm.trans hR)
  clear e hR
  go_enter Tryz.func50,Tryz.ntmps50
  (repeat' (first | go_values | go_skip | go_guarded | go_step | go_upon | (simp only [Int.not_lt,Int.not_le] at *; go_simp) | (go_values <;> (try go_simp)) | (go_ite <;> go_prune <;> (try go_simp)) | (split <;> (first | (rename_i hx; exact (hx _ rfl).elim) | go_prune))))
  refine bodyPost_ret (v:=WV true (IntKind.u64.wrap (-IntKind.u64.wrap v)) 0 0 0) ?_ rfl ⟨congrArg Ending.returned E.out,by (repeat' (first | (with_reducible assumption) | (with_reducible exact Below.refl _ _) | (with_reducible refine Below.alloc ?_ ?_ _) | (with_reducible refine Below.setCell ?_ ?_ _) | (with_reducible refine Below.drew ?_) | (with_reducible refine below_more ?_ (by with_reducible assumption)) | go_size | omega | (with_reducible refine below_drewN ?_)))⟩
  simp [results,Tryz.results50,go_sem]
 ·have e:WE v = WV false v 0 0 0:=we_uns v ⟨by omega,by omega⟩
  have E:=hid (e.symm.trans hR)
  clear e hR
  go_enter Tryz.func50,Tryz.ntmps50
  (repeat' (first | go_values | go_skip | go_guarded | go_step | go_upon | (simp only [Int.not_lt,Int.not_le] at *; go_simp) | (go_values <;> (try go_simp)) | (go_ite <;> go_prune <;> (try go_simp)) | (split <;> (first | (rename_i hx; exact (hx _ rfl).elim) | go_prune))))
  refine bodyPost_ret (v:=WV false v 0 0 0) ?_ rfl ⟨congrArg Ending.returned E.out,by (repeat' (first | (with_reducible assumption) | (with_reducible exact Below.refl _ _) | (with_reducible refine Below.alloc ?_ ?_ _) | (with_reducible refine Below.setCell ?_ ?_ _) | (with_reducible refine Below.drew ?_) | (with_reducible refine below_more ?_ (by with_reducible assumption)) | go_size | omega | (with_reducible refine below_drewN ?_)))⟩
  simp [results,Tryz.results50,go_sem]
theorem rneg_any (n:Bool) (a b c d:Int) (ha:U64 a) (hb:U64 b) (hc:U64 c) (hd:U64 d) (w:World) :
  Calls Tryz.prog 117 #[WV n a b c d] w fun e w'=>e = .returned (WE (-wv n a b c d))∧Below w.heap.size w w':=by
 have m1:=mv_nonneg ha hb hc hd
 have e1:sv (!n) (MV a b c d) = -wv n a b c d:=by unfold sv wv; cases n <;> simp
 have f1:Fits (-wv n a b c d):=by rw [← e1]; exact (fits_sv m1).2 (mv_up4 ha hb hc hd)
 have C:=fun (W:World) (a0:Option Addr) (len cap:Nat) (h:SlU W (.slice a0 len cap) (wl (MV a b c d)))=>rwide_any (!n) a0 len cap _ W h
 rw [VL_wl m1,e1,cl_fit f1,fb_fit f1] at C
 have O:=fun W=>mag_ask (rof_any n a b c d ha hb hc hd W)
 generalize -wv n a b c d = z at *
 clear m1 e1 f1 ha hb hc hd
 generalize hR:WE z = R
 have HR:=hid hR
 clear hR
 go_enter Tryz.func117,Tryz.ntmps117
 go_wp2_with fail
 
 
 (refine wp_region_dq (row:=none) (S:=(fun Wz=>Below w.heap.size w Wz∧w.heap.size + 2≤Wz.heap.size∧Bx Wz (w.heap.size) (#[.bool n,.int .u64 a,.int .u64 b,.int .u64 c,.int .u64 d])∧Bx Wz (w.heap.size + 1) (#[.bool false,.int .u64 0,.int .u64 0,.int .u64 0,.int .u64 0]))) (n0:=w.heap.size + 2) 10 [8] [(0,0),(1,0),(2,0),(3,0),(4,1),(5,1),(6,0),(7,0),(8,2)] [(9,3,#[.bool false,.int .u64 0,.int .u64 0,.int .u64 0,.int .u64 0])] (by kernel_rfl) (by kernel_rfl) (fun _ _ d _ _ h=>by cases d <;> exact h) ⟨by (repeat' (first | (with_reducible assumption) | (with_reducible exact Below.refl _ _) | (with_reducible refine Below.alloc ?_ ?_ _) | (with_reducible refine Below.setCell ?_ ?_ _) | (with_reducible refine Below.drew ?_) | (with_reducible refine below_more ?_ (by with_reducible assumption)) | go_size | omega | (with_reducible refine below_drewN ?_))),(by first | go_size | omega),Bx.of (by (repeat' (first | (with_reducible assumption) | ((with_reducible refine HB.new _ _ _ ?_) <;> (go_size; done)) | (with_reducible refine HB.old (by go_size) ?_) | (with_reducible refine HB.drew ?_) | (with_reducible refine HB.over5 ?_) | (with_reducible refine HB.over4 ?_) | (with_reducible refine HB.setne (by first | go_size | (dsimp only; omega)) ?_) | (with_reducible refine HN.set ?_) | (with_reducible refine HN.setne (by first | go_size | (dsimp only; omega)) ?_) | (with_reducible refine HN.drew ?_) | (with_reducible refine HN.old (by go_size) ?_) | (with_reducible exact HN.of5 (by assumption)) | (with_reducible exact HN.new5 _ _ (by go_size)) | (with_reducible exact HN.of4 (by assumption)) | (with_reducible exact HN.new4 _ _ (by go_size))))),Bx.of (by (repeat' (first | (with_reducible assumption) | ((with_reducible refine HB.new _ _ _ ?_) <;> (go_size; done)) | (with_reducible refine HB.old (by go_size) ?_) | (with_reducible refine HB.drew ?_) | (with_reducible refine HB.over5 ?_) | (with_reducible refine HB.over4 ?_) | (with_reducible refine HB.setne (by first | go_size | (dsimp only; omega)) ?_) | (with_reducible refine HN.set ?_) | (with_reducible refine HN.setne (by first | go_size | (dsimp only; omega)) ?_) | (with_reducible refine HN.drew ?_) | (with_reducible refine HN.old (by go_size) ?_) | (with_reducible exact HN.of5 (by assumption)) | (with_reducible exact HN.new5 _ _ (by go_size)) | (with_reducible exact HN.of4 (by assumption)) | (with_reducible exact HN.new4 _ _ (by go_size)))))⟩ (fun _ _ h g=>keep2 h (below_gt g) rfl) (fun _ h=>h.2.1) (fun _ h=>by cases h) (by intro x hx; simp only [List.mem_cons,List.not_mem_nil,or_false] at hx; rcases hx with rfl <;> exact ⟨_,rfl,rfl,rfl,rfl,fun ρ w=>⟨37,by kernel_rfl⟩⟩) ?_)
 refine' dq_pure (by rfl) (by rfl) ?hv1 ?rest1
 case hv1=>(intro w hw; (try dsimp only at hw); go_split_ands; go_simp; try with_reducible rfl)
 case' rest1=>try simp only [Act.put,List.setIfInBounds_toArray,List.set_cons_zero,List.set_cons_succ]
 refine' dq_pure (by rfl) (by rfl) ?hv2 ?rest2
 case hv2=>(intro w hw; (try dsimp only at hw); go_split_ands; go_simp; try with_reducible rfl)
 case' rest2=>try simp only [Act.put,List.setIfInBounds_toArray,List.set_cons_zero,List.set_cons_succ]
 refine' dq_pure (by rfl) (by rfl) ?hv3 ?rest3
 case hv3=>(intro w hw; (try dsimp only at hw); go_split_ands; go_simp; try with_reducible rfl)
 case' rest3=>try simp only [Act.put,List.setIfInBounds_toArray,List.set_cons_zero,List.set_cons_succ]
 refine' dq_pure (by rfl) (by rfl) ?hv4 ?rest4
 case hv4=>(intro w hw; (try dsimp only at hw); go_split_ands; go_simp; try with_reducible rfl)
 case' rest4=>try simp only [Act.put,List.setIfInBounds_toArray,List.set_cons_zero,List.set_cons_succ]
 refine' dq_ask (R:=fun v w'=>SlU w' v (wl (MV a b c d))) (by rfl) (by rfl) ?hv5 ?hc5 ?rest5 (fun _ _ h g=>keep2 h (below_gt g) rfl)
 case hv5=>(intro w; go_simp; exact ⟨rfl,rfl⟩)
 case hc5=>exact (fun wq hsq htq=>O wq)
 case' rest5=>try simp only [Act.put,List.setIfInBounds_toArray,List.set_cons_zero,List.set_cons_succ]
 (rintro v1 x1 hS1 hg1 hs1; have hs1':=hs1; obtain ⟨a1,l1,c1,rfl,-⟩:=hs1')
 refine' dq_ask (R:=fun v _=>v = .tuple #[WE z,.bool true]) (by rfl) (by rfl) ?hv6 ?hc6 ?rest6 (fun _ _ h g=>keep2 h (below_gt g) rfl)
 case hv6=>(intro w; go_simp; exact ⟨rfl,rfl⟩)
 case hc6=>exact (fun wq hsq htq=>(C _ a1 l1 c1 (hs1.below (below_gt htq))).mono (fun e w' ⟨he,hb⟩=>⟨_,he,rfl,gt_below hb _⟩))
 case' rest6=>try simp only [Act.put,List.setIfInBounds_toArray,List.set_cons_zero,List.set_cons_succ]
 (rintro v2 x2 hS2 hg2 rfl; clear hs1)
 refine' dq_pure (by rfl) (by rfl) ?hv7 ?rest7
 case hv7=>(intro w hw; (try dsimp only at hw); go_split_ands; go_simp; try with_reducible rfl)
 case' rest7=>try simp only [Act.put,List.setIfInBounds_toArray,List.set_cons_zero,List.set_cons_succ]
 refine' dq_pure (by rfl) (by rfl) ?hv8 ?rest8
 case hv8=>(intro w hw; (try dsimp only at hw); go_split_ands; go_simp; try with_reducible rfl)
 case' rest8=>try simp only [Act.put,List.setIfInBounds_toArray,List.set_cons_zero,List.set_cons_succ]
 refine' dq_late (by rfl) (by rfl) ?hv9 ?rest9
 case hv9=>(intro w; go_simp; try with_reducible rfl)
 case' rest9=>try simp only [Act.put,List.setIfInBounds_toArray,List.set_cons_zero,List.set_cons_succ]
 refine dq_nil ?_
 simp only [fa,List.drop_succ_cons,List.drop_zero]
 intro p3 hp3 hd3
 rintro W ⟨⟨hb0,hn0,⟨B1,B1c,B1f,B1l⟩,⟨B2,B2c,B2f,B2l⟩⟩,hgl⟩ hbs
 obtain ⟨P3,P3c,P3f,P3l⟩:=Bx.of (hbs (p3,#[.bool false,.int .u64 0,.int .u64 0,.int .u64 0,.int .u64 0]) (by simp))
 clear hd3
 clear hbs
 (repeat' (first | go_values | go_skip | go_guarded | go_step | go_upon | (simp only [Int.not_lt,Int.not_le] at *; go_simp) | (go_values <;> (try go_simp)) | (go_ite <;> go_prune <;> (try go_simp)) | (split <;> (first | (rename_i hx; exact (hx _ rfl).elim) | go_prune))))
 refine bodyPost_ret (v:=WE z) ?_ rfl ⟨congrArg Ending.returned HR.out,by (repeat' (first | (with_reducible assumption) | (with_reducible exact Below.refl _ _) | (with_reducible refine Below.alloc ?_ ?_ _) | (with_reducible refine Below.setCell ?_ ?_ _) | (with_reducible refine Below.drew ?_) | (with_reducible refine below_more ?_ (by with_reducible assumption)) | go_size | omega | (with_reducible refine below_drewN ?_)))⟩
 simp [results,Tryz.results117,go_sem,B1c,B1f,B1l,B2c,B2f,B2l]
set_option maxHeartbeats 1000000 in
set_option maxRecDepth 100000 in
theorem rmul2_any (n:Bool) (a b c d:Int) (n':Bool) (a' b' c' d':Int) (ha:U64 a) (hb:U64 b) (hc:U64 c) (hd:U64 d) (ha':U64 a') (hb':U64 b') (hc':U64 c') (hd':U64 d') (w:World) :
  Calls Tryz.prog 76 #[WV n a b c d,WV n' a' b' c' d'] w fun e w'=>e = .returned (.tuple #[WE (cl (wv n a b c d * wv n' a' b' c' d')),.bool (fb (wv n a b c d * wv n' a' b' c' d'))])∧Below w.heap.size w w':=by
 rw [wv_sv n a b c d,wv_sv n' a' b' c' d',sv_mul]
 have m1:=mv_nonneg ha hb hc hd
 have m2:=mv_nonneg ha' hb' hc' hd'
 have k1:=(wl_fit m1).2 (mv_up4 ha hb hc hd)
 have k2:=(wl_fit m2).2 (mv_up4 ha' hb' hc' hd')
 have cA:=fun W=>gives_known en_r02_clean (rclean_any n a b c d ha hb hc hd W)
 have cB:=fun W=>gives_known en_r02_clean (rclean_any n' a' b' c' d' ha' hb' hc' hd' W)
 generalize cn n a b c d = p at *
 generalize cn n' a' b' c' d' = q at *
 have OA:=fun W=>rof_any p a b c d ha hb hc hd W
 have OB:=fun W=>rof_any q a' b' c' d' ha' hb' hc' hd' W
 clear ha hb hc hd ha' hb' hc' hd'
 generalize MV a b c d = m at *
 generalize MV a' b' c' d' = m' at *
 have mm:=Int.mul_nonneg m1 m2
 rw [show (p != q) = !(p == q) from rfl]
 obtain ⟨Y,hY⟩:∃ Y,cl (sv (!(p == q)) (m * m')) = Y:=⟨_,rfl⟩
 obtain ⟨B,hB⟩:∃ B,fb (sv (!(p == q)) (m * m')) = B:=⟨_,rfl⟩
 rw [hY,hB]
 refine known_of (enter Tryz.func76 r02_Mul.ok (args:=[_,_]) (by simp) ?_)
 repeat' (first | simp (disch:=omega) only [sxE,r02_Mul.E,Nat.reduceAdd,Nat.reduceEqDiff,Nat.reduceMul,Nat.reduceSub,Int.reduceAdd,Int.reduceSub,Int.reduceMul,Int.reduceNeg,Int.reduceLT,Int.reduceLE,Int.reduceEq,Int.reduceToNat,↓reduceIte,Int.reducePow,Nat.reduceLeDiff,Nat.reduceLT,ne_eq,eq_self,List.length_cons,List.length_nil] | (with_reducible refine Sx.call_at (f:=109) (fun W hW=>cA W) ?_) | (with_reducible refine Sx.call_at (f:=109) (fun W hW=>cB W) ?_) | (with_reducible refine cregF ?_))
 refine asks_r (L:=[]) (ws:=wl m) en_r02_of (kX_nil _) (fun W hW _=>OA W) fun a1 c1 hs1 hn1=>?_
 simp (disch:=omega) only [sxE,r02_Mul.E,Nat.reduceAdd,Nat.reduceEqDiff,Nat.reduceMul,Nat.reduceSub,Int.reduceAdd,Int.reduceSub,Int.reduceMul,Int.reduceNeg,Int.reduceLT,Int.reduceLE,Int.reduceEq,Int.reduceToNat,↓reduceIte,Int.reducePow,Nat.reduceLeDiff,Nat.reduceLT,ne_eq,eq_self,List.length_cons,List.length_nil]
 refine asks_r (L:=[.r (.slice a1 (wl m).length c1) (wl m)]) (ws:=wl m') en_r02_of rfl (fun W hW _=>OB W) fun a2 c2 hs2 hn2=>?_
 clear hs1 hs2 hn1 hn2 cA cB OA OB
 repeat' (first | simp (disch:=omega) only [sxE,r02_Mul.E,Nat.reduceAdd,Nat.reduceEqDiff,Nat.reduceMul,Nat.reduceSub,Int.reduceAdd,Int.reduceSub,Int.reduceMul,Int.reduceNeg,Int.reduceLT,Int.reduceLE,Int.reduceEq,Int.reduceToNat,↓reduceIte,Int.reducePow,Nat.reduceLeDiff,Nat.reduceLT,ne_eq,eq_self,List.length_cons,List.length_nil] | (with_reducible refine cregF ?_))
 refine asks_r (L:=[.r (.slice a2 (wl m').length c2) (wl m'),.r (.slice a1 (wl m).length c1) (wl m)]) (ws:=wl (m * m')) en_r02_mul rfl (fun W hW hok=>rmul_any a1 a2 _ c1 _ c2 _ _ m1 m2 (by omega) (by omega) W (hok (.r (.slice a1 (wl m).length c1) (wl m)) (List.mem_cons_of_mem _ List.mem_cons_self)).1 (hok (.r (.slice a2 (wl m').length c2) (wl m')) List.mem_cons_self).1) fun a3 c3 hs3 hn3=>?_
 clear hs3 hn3
 repeat' (first | simp (disch:=omega) only [sxE,r02_Mul.E,Nat.reduceAdd,Nat.reduceEqDiff,Nat.reduceMul,Nat.reduceSub,Int.reduceAdd,Int.reduceSub,Int.reduceMul,Int.reduceNeg,Int.reduceLT,Int.reduceLE,Int.reduceEq,Int.reduceToNat,↓reduceIte,Int.reducePow,Nat.reduceLeDiff,Nat.reduceLT,ne_eq,eq_self,List.length_cons,List.length_nil] | (with_reducible refine cregF ?_))
 refine asks_ext (v:=.tuple #[WE Y,.bool B]) (fun W hW hok=>by
  have:=gives_known en_r02_wide (rwide_any (!(p == q)) a3 (wl (m * m')).length c3 (wl (m * m')) W (hok (.r (.slice a3 (wl (m * m')).length c3) (wl (m * m'))) List.mem_cons_self).1)
  rw [VL_wl mm,hY,hB] at this
  exact this) ?_
 repeat' (first | simp (disch:=omega) only [sxE,r02_Mul.E,Nat.reduceAdd,Nat.reduceEqDiff,Nat.reduceMul,Nat.reduceSub,Int.reduceAdd,Int.reduceSub,Int.reduceMul,Int.reduceNeg,Int.reduceLT,Int.reduceLE,Int.reduceEq,Int.reduceToNat,↓reduceIte,Int.reducePow,Nat.reduceLeDiff,Nat.reduceLT,ne_eq,eq_self,List.length_cons,List.length_nil] | (with_reducible refine cregF ?_))
theorem rcompare_b (m n:Int) (hm:0≤m) (hn:0≤n) (a a':Option Addr) (len cap len' cap':Nat) (w:World) (h:SlU w (.slice a len cap) (wl m)) (h':SlU w (.slice a' len' cap') (wl n)) :
  Calls Tryz.prog 113 #[.slice a len cap,.slice a' len' cap'] w fun e w'=>e = .returned (.int .i64 (cm m n))∧Below w.heap.size w w' :=
 (rcompare_any a a' len cap len' cap' m n hm hn w h h').mono (fun e w' ⟨he,d,hd⟩=>⟨he,by subst hd; exact below_drewN (Below.refl _ _)⟩)
set_option maxHeartbeats 1000000 in
set_option maxRecDepth 100000 in
theorem radd2_any (n:Bool) (a b c d:Int) (n':Bool) (a' b' c' d':Int) (ha:U64 a) (hb:U64 b) (hc:U64 c) (hd:U64 d) (ha':U64 a') (hb':U64 b') (hc':U64 c') (hd':U64 d') (w:World) :
  Calls Tryz.prog 51 #[WV n a b c d,WV n' a' b' c' d'] w fun e w'=>e = .returned (.tuple #[WE (cl (wv n a b c d + wv n' a' b' c' d')),.bool (fb (wv n a b c d + wv n' a' b' c' d'))])∧Below w.heap.size w w':=by
 rw [wv_sv n a b c d,wv_sv n' a' b' c' d']
 have m1:=mv_nonneg ha hb hc hd
 have m2:=mv_nonneg ha' hb' hc' hd'
 have k1:=(wl_fit m1).2 (mv_up4 ha hb hc hd)
 have k2:=(wl_fit m2).2 (mv_up4 ha' hb' hc' hd')
 have cA:=fun W=>gives_known en_r02_clean (rclean_any n a b c d ha hb hc hd W)
 have cB:=fun W=>gives_known en_r02_clean (rclean_any n' a' b' c' d' ha' hb' hc' hd' W)
 generalize cn n a b c d = p at *
 generalize cn n' a' b' c' d' = q at *
 have OA:=fun W=>rof_any p a b c d ha hb hc hd W
 have OB:=fun W=>rof_any q a' b' c' d' ha' hb' hc' hd' W
 clear ha hb hc hd ha' hb' hc' hd'
 generalize MV a b c d = m at *
 generalize MV a' b' c' d' = m' at *
 by_cases hpq:p = q
 ·subst hpq
  rw [sv_add]
  have mm:0≤m + m':=by omega
  obtain ⟨Y,hY⟩:∃ Y,cl (sv p (m + m')) = Y:=⟨_,rfl⟩
  obtain ⟨B,hB⟩:∃ B,fb (sv p (m + m')) = B:=⟨_,rfl⟩
  rw [hY,hB]
  refine known_of (enter Tryz.func51 r02_Add.ok (args:=[_,_]) (by simp) ?_)
  repeat' (first | simp (disch:=omega) only [sxE,r02_Add.E,Nat.reduceAdd,Nat.reduceEqDiff,Nat.reduceMul,Nat.reduceSub,Int.reduceAdd,Int.reduceSub,Int.reduceMul,Int.reduceNeg,Int.reduceLT,Int.reduceLE,Int.reduceEq,Int.reduceToNat,↓reduceIte,Int.reducePow,Nat.reduceLeDiff,Nat.reduceLT,ne_eq,eq_self,List.length_cons,List.length_nil] | (with_reducible refine Sx.call_at (f:=109) (fun W hW=>cA W) ?_) | (with_reducible refine Sx.call_at (f:=109) (fun W hW=>cB W) ?_) | (with_reducible refine cregF ?_))
  refine asks_r (L:=[]) (ws:=wl m) en_r02_of (kX_nil _) (fun W hW _=>OA W) fun a1 c1 hs1 hn1=>?_
  simp (disch:=omega) only [sxE,r02_Add.E,Nat.reduceAdd,Nat.reduceEqDiff,Nat.reduceMul,Nat.reduceSub,Int.reduceAdd,Int.reduceSub,Int.reduceMul,Int.reduceNeg,Int.reduceLT,Int.reduceLE,Int.reduceEq,Int.reduceToNat,↓reduceIte,Int.reducePow,Nat.reduceLeDiff,Nat.reduceLT,ne_eq,eq_self,List.length_cons,List.length_nil]
  refine asks_r (L:=[.r (.slice a1 (wl m).length c1) (wl m)]) (ws:=wl m') en_r02_of rfl (fun W hW _=>OB W) fun a2 c2 hs2 hn2=>?_
  clear hs1 hs2 hn1 hn2 cA cB OA OB
  repeat' (first | simp (disch:=omega) only [sxE,r02_Add.E,Nat.reduceAdd,Nat.reduceEqDiff,Nat.reduceMul,Nat.reduceSub,Int.reduceAdd,Int.reduceSub,Int.reduceMul,Int.reduceNeg,Int.reduceLT,Int.reduceLE,Int.reduceEq,Int.reduceToNat,↓reduceIte,Int.reducePow,Nat.reduceLeDiff,Nat.reduceLT,ne_eq,eq_self,List.length_cons,List.length_nil,beq_self_eq_true] | (with_reducible refine cregF ?_))
  refine asks_r (L:=[.r (.slice a2 (wl m').length c2) (wl m'),.r (.slice a1 (wl m).length c1) (wl m)]) (ws:=wl (m + m')) en_r02_add rfl (fun W hW hok=>radd_any a1 a2 _ c1 _ c2 _ _ m1 m2 (by omega) (by omega) W (hok (.r (.slice a1 (wl m).length c1) (wl m)) (List.mem_cons_of_mem _ List.mem_cons_self)).1 (hok (.r (.slice a2 (wl m').length c2) (wl m')) List.mem_cons_self).1) fun a3 c3 hs3 hn3=>?_
  clear hs3 hn3
  repeat' (first | simp (disch:=omega) only [sxE,r02_Add.E,Nat.reduceAdd,Nat.reduceEqDiff,Nat.reduceMul,Nat.reduceSub,Int.reduceAdd,Int.reduceSub,Int.reduceMul,Int.reduceNeg,Int.reduceLT,Int.reduceLE,Int.reduceEq,Int.reduceToNat,↓reduceIte,Int.reducePow,Nat.reduceLeDiff,Nat.reduceLT,ne_eq,eq_self,List.length_cons,List.length_nil] | (with_reducible refine cregF ?_))
  refine asks_ext (v:=.tuple #[WE Y,.bool B]) (fun W hW hok=>by
   have:=gives_known en_r02_wide (rwide_any (p) a3 (wl (m + m')).length c3 (wl (m + m')) W (hok (.r (.slice a3 (wl (m + m')).length c3) (wl (m + m'))) List.mem_cons_self).1)
   rw [VL_wl mm,hY,hB] at this
   exact this) ?_
  repeat' (first | simp (disch:=omega) only [sxE,r02_Add.E,Nat.reduceAdd,Nat.reduceEqDiff,Nat.reduceMul,Nat.reduceSub,Int.reduceAdd,Int.reduceSub,Int.reduceMul,Int.reduceNeg,Int.reduceLT,Int.reduceLE,Int.reduceEq,Int.reduceToNat,↓reduceIte,Int.reducePow,Nat.reduceLeDiff,Nat.reduceLT,ne_eq,eq_self,List.length_cons,List.length_nil] | (with_reducible refine cregF ?_))
 ·have T0:(p == q) = false:=beq_eq_false_iff_ne.2 hpq
  obtain ⟨Z,hZ⟩:∃ Z,cm m m' = Z:=⟨_,rfl⟩
  by_cases hle:m'≤m
  ·have mm:0≤m - m':=by omega
   have T:0≤Z:=by rw [← hZ]; exact (cm_ge _ _).2 hle
   rw [sv_sub hpq]
   obtain ⟨Y,hY⟩:∃ Y,cl (sv p (m - m')) = Y:=⟨_,rfl⟩
   obtain ⟨B,hB⟩:∃ B,fb (sv p (m - m')) = B:=⟨_,rfl⟩
   rw [hY,hB]
   refine known_of (enter Tryz.func51 r02_Add.ok (args:=[_,_]) (by simp) ?_)
   repeat' (first | simp (disch:=omega) only [sxE,r02_Add.E,Nat.reduceAdd,Nat.reduceEqDiff,Nat.reduceMul,Nat.reduceSub,Int.reduceAdd,Int.reduceSub,Int.reduceMul,Int.reduceNeg,Int.reduceLT,Int.reduceLE,Int.reduceEq,Int.reduceToNat,↓reduceIte,Int.reducePow,Nat.reduceLeDiff,Nat.reduceLT,ne_eq,eq_self,List.length_cons,List.length_nil] | (with_reducible refine Sx.call_at (f:=109) (fun W hW=>cA W) ?_) | (with_reducible refine Sx.call_at (f:=109) (fun W hW=>cB W) ?_) | (with_reducible refine cregF ?_))
   refine asks_r (L:=[]) (ws:=wl m) en_r02_of (kX_nil _) (fun W hW _=>OA W) fun a1 c1 hs1 hn1=>?_
   simp (disch:=omega) only [sxE,r02_Add.E,Nat.reduceAdd,Nat.reduceEqDiff,Nat.reduceMul,Nat.reduceSub,Int.reduceAdd,Int.reduceSub,Int.reduceMul,Int.reduceNeg,Int.reduceLT,Int.reduceLE,Int.reduceEq,Int.reduceToNat,↓reduceIte,Int.reducePow,Nat.reduceLeDiff,Nat.reduceLT,ne_eq,eq_self,List.length_cons,List.length_nil]
   refine asks_r (L:=[.r (.slice a1 (wl m).length c1) (wl m)]) (ws:=wl m') en_r02_of rfl (fun W hW _=>OB W) fun a2 c2 hs2 hn2=>?_
   clear hs1 hs2 hn1 hn2 cA cB OA OB
   repeat' (first | simp (disch:=omega) only [sxE,r02_Add.E,Nat.reduceAdd,Nat.reduceEqDiff,Nat.reduceMul,Nat.reduceSub,Int.reduceAdd,Int.reduceSub,Int.reduceMul,Int.reduceNeg,Int.reduceLT,Int.reduceLE,Int.reduceEq,Int.reduceToNat,↓reduceIte,Int.reducePow,Nat.reduceLeDiff,Nat.reduceLT,ne_eq,eq_self,List.length_cons,List.length_nil,T0] | (with_reducible refine cregF ?_))
   refine asks_ext (v:=.int .i64 Z) (fun W hW hok=>by
    have:=gives_known en_r02_compare (rcompare_b m m' m1 m2 a1 a2 _ c1 _ c2 W (hok (.r (.slice a1 (wl m).length c1) (wl m)) (List.mem_cons_of_mem _ List.mem_cons_self)).1 (hok (.r (.slice a2 (wl m').length c2) (wl m')) List.mem_cons_self).1)
    rw [hZ] at this
    exact this) ?_
   repeat' (first | simp (disch:=omega) only [sxE,r02_Add.E,Nat.reduceAdd,Nat.reduceEqDiff,Nat.reduceMul,Nat.reduceSub,Int.reduceAdd,Int.reduceSub,Int.reduceMul,Int.reduceNeg,Int.reduceLT,Int.reduceLE,Int.reduceEq,Int.reduceToNat,↓reduceIte,Int.reducePow,Nat.reduceLeDiff,Nat.reduceLT,ne_eq,eq_self,List.length_cons,List.length_nil] | (with_reducible refine cregF ?_))
   refine asks_r (L:=[.r (.slice a2 (wl m').length c2) (wl m'),.r (.slice a1 (wl m).length c1) (wl m)]) (ws:=wl (m - m')) en_r02_sub rfl (fun W hW hok=>rsub_any a1 a2 _ c1 _ c2 _ _ m2 hle (by omega) W (hok (.r (.slice a1 (wl m).length c1) (wl m)) (List.mem_cons_of_mem _ List.mem_cons_self)).1 (hok (.r (.slice a2 (wl m').length c2) (wl m')) List.mem_cons_self).1) fun a3 c3 hs3 hn3=>?_
   clear hs3 hn3
   repeat' (first | simp (disch:=omega) only [sxE,r02_Add.E,Nat.reduceAdd,Nat.reduceEqDiff,Nat.reduceMul,Nat.reduceSub,Int.reduceAdd,Int.reduceSub,Int.reduceMul,Int.reduceNeg,Int.reduceLT,Int.reduceLE,Int.reduceEq,Int.reduceToNat,↓reduceIte,Int.reducePow,Nat.reduceLeDiff,Nat.reduceLT,ne_eq,eq_self,List.length_cons,List.length_nil] | (with_reducible refine cregF ?_))
   refine asks_ext (v:=.tuple #[WE Y,.bool B]) (fun W hW hok=>by
    have:=gives_known en_r02_wide (rwide_any (p) a3 (wl (m - m')).length c3 (wl (m - m')) W (hok (.r (.slice a3 (wl (m - m')).length c3) (wl (m - m'))) List.mem_cons_self).1)
    rw [VL_wl mm,hY,hB] at this
    exact this) ?_
   repeat' (first | simp (disch:=omega) only [sxE,r02_Add.E,Nat.reduceAdd,Nat.reduceEqDiff,Nat.reduceMul,Nat.reduceSub,Int.reduceAdd,Int.reduceSub,Int.reduceMul,Int.reduceNeg,Int.reduceLT,Int.reduceLE,Int.reduceEq,Int.reduceToNat,↓reduceIte,Int.reducePow,Nat.reduceLeDiff,Nat.reduceLT,ne_eq,eq_self,List.length_cons,List.length_nil] | (with_reducible refine cregF ?_))
  ·have mm:0≤m' - m:=by omega
   have T:¬ 0≤Z:=by rw [← hZ]; exact fun h=>hle ((cm_ge _ _).1 h)
   rw [sv_sub' hpq]
   obtain ⟨Y,hY⟩:∃ Y,cl (sv q (m' - m)) = Y:=⟨_,rfl⟩
   obtain ⟨B,hB⟩:∃ B,fb (sv q (m' - m)) = B:=⟨_,rfl⟩
   rw [hY,hB]
   refine known_of (enter Tryz.func51 r02_Add.ok (args:=[_,_]) (by simp) ?_)
   repeat' (first | simp (disch:=omega) only [sxE,r02_Add.E,Nat.reduceAdd,Nat.reduceEqDiff,Nat.reduceMul,Nat.reduceSub,Int.reduceAdd,Int.reduceSub,Int.reduceMul,Int.reduceNeg,Int.reduceLT,Int.reduceLE,Int.reduceEq,Int.reduceToNat,↓reduceIte,Int.reducePow,Nat.reduceLeDiff,Nat.reduceLT,ne_eq,eq_self,List.length_cons,List.length_nil] | (with_reducible refine Sx.call_at (f:=109) (fun W hW=>cA W) ?_) | (with_reducible refine Sx.call_at (f:=109) (fun W hW=>cB W) ?_) | (with_reducible refine cregF ?_))
   refine asks_r (L:=[]) (ws:=wl m) en_r02_of (kX_nil _) (fun W hW _=>OA W) fun a1 c1 hs1 hn1=>?_
   simp (disch:=omega) only [sxE,r02_Add.E,Nat.reduceAdd,Nat.reduceEqDiff,Nat.reduceMul,Nat.reduceSub,Int.reduceAdd,Int.reduceSub,Int.reduceMul,Int.reduceNeg,Int.reduceLT,Int.reduceLE,Int.reduceEq,Int.reduceToNat,↓reduceIte,Int.reducePow,Nat.reduceLeDiff,Nat.reduceLT,ne_eq,eq_self,List.length_cons,List.length_nil]
   refine asks_r (L:=[.r (.slice a1 (wl m).length c1) (wl m)]) (ws:=wl m') en_r02_of rfl (fun W hW _=>OB W) fun a2 c2 hs2 hn2=>?_
   clear hs1 hs2 hn1 hn2 cA cB OA OB
   repeat' (first | simp (disch:=omega) only [sxE,r02_Add.E,Nat.reduceAdd,Nat.reduceEqDiff,Nat.reduceMul,Nat.reduceSub,Int.reduceAdd,Int.reduceSub,Int.reduceMul,Int.reduceNeg,Int.reduceLT,Int.reduceLE,Int.reduceEq,Int.reduceToNat,↓reduceIte,Int.reducePow,Nat.reduceLeDiff,Nat.reduceLT,ne_eq,eq_self,List.length_cons,List.length_nil,T0] | (with_reducible refine cregF ?_))
   refine asks_ext (v:=.int .i64 Z) (fun W hW hok=>by
    have:=gives_known en_r02_compare (rcompare_b m m' m1 m2 a1 a2 _ c1 _ c2 W (hok (.r (.slice a1 (wl m).length c1) (wl m)) (List.mem_cons_of_mem _ List.mem_cons_self)).1 (hok (.r (.slice a2 (wl m').length c2) (wl m')) List.mem_cons_self).1)
    rw [hZ] at this
    exact this) ?_
   repeat' (first | simp (disch:=omega) only [sxE,r02_Add.E,Nat.reduceAdd,Nat.reduceEqDiff,Nat.reduceMul,Nat.reduceSub,Int.reduceAdd,Int.reduceSub,Int.reduceMul,Int.reduceNeg,Int.reduceLT,Int.reduceLE,Int.reduceEq,Int.reduceToNat,↓reduceIte,Int.reducePow,Nat.reduceLeDiff,Nat.reduceLT,ne_eq,eq_self,List.length_cons,List.length_nil] | (with_reducible refine cregF ?_))
   refine asks_r (L:=[.r (.slice a2 (wl m').length c2) (wl m'),.r (.slice a1 (wl m).length c1) (wl m)]) (ws:=wl (m' - m)) en_r02_sub rfl (fun W hW hok=>rsub_any a2 a1 _ c2 _ c1 _ _ m1 (by omega) (by omega) W (hok (.r (.slice a2 (wl m').length c2) (wl m')) List.mem_cons_self).1 (hok (.r (.slice a1 (wl m).length c1) (wl m)) (List.mem_cons_of_mem _ List.mem_cons_self)).1) fun a3 c3 hs3 hn3=>?_
   clear hs3 hn3
   repeat' (first | simp (disch:=omega) only [sxE,r02_Add.E,Nat.reduceAdd,Nat.reduceEqDiff,Nat.reduceMul,Nat.reduceSub,Int.reduceAdd,Int.reduceSub,Int.reduceMul,Int.reduceNeg,Int.reduceLT,Int.reduceLE,Int.reduceEq,Int.reduceToNat,↓reduceIte,Int.reducePow,Nat.reduceLeDiff,Nat.reduceLT,ne_eq,eq_self,List.length_cons,List.length_nil] | (with_reducible refine cregF ?_))
   refine asks_ext (v:=.tuple #[WE Y,.bool B]) (fun W hW hok=>by
    have:=gives_known en_r02_wide (rwide_any (q) a3 (wl (m' - m)).length c3 (wl (m' - m)) W (hok (.r (.slice a3 (wl (m' - m)).length c3) (wl (m' - m))) List.mem_cons_self).1)
    rw [VL_wl mm,hY,hB] at this
    exact this) ?_
   repeat' (first | simp (disch:=omega) only [sxE,r02_Add.E,Nat.reduceAdd,Nat.reduceEqDiff,Nat.reduceMul,Nat.reduceSub,Int.reduceAdd,Int.reduceSub,Int.reduceMul,Int.reduceNeg,Int.reduceLT,Int.reduceLE,Int.reduceEq,Int.reduceToNat,↓reduceIte,Int.reducePow,Nat.reduceLeDiff,Nat.reduceLT,ne_eq,eq_self,List.length_cons,List.length_nil] | (with_reducible refine cregF ?_))
end Go.Proofs.YtncmmbacoknefaaGreat

/- WideD: wide and its reference: differences. -/
namespace Go.Proofs.YtncmmbacoknefaaGreat
open Go Go.ChangeShapes Go.WideShapes Go.ChangeAt Go.RowKit Sx
set_option linter.unusedVariables false
set_option linter.unusedSimpArgs false
def IsW (v:Value) (z:Int):Prop:=∃ n a b c d,v = WV n a b c d∧z = wv n a b c d∧U64 a∧U64 b∧U64 c∧U64 d
theorem IsW.raw {n:Bool} {a b c d:Int} (ha:U64 a) (hb:U64 b) (hc:U64 c) (hd:U64 d):IsW (WV n a b c d) (wv n a b c d):=⟨n,a,b,c,d,rfl,rfl,ha,hb,hc,hd⟩
theorem IsW.we {z:Int} (h:Fits z):IsW (WE z) z:=⟨_,_,_,_,_,rfl,(wv_we h).symm,lb0_in _,lb1_in _,lb2_in _,lb3_in _⟩
theorem add_w {v v':Value} {z z':Int} (h:IsW v z) (h':IsW v' z') (w:World):Calls Tryz.prog 137 #[v,v'] w fun e w'=>e = .returned (.tuple #[WE (cl (z + z')),.bool (fb (z + z'))])∧Below w.heap.size w w':=by
 obtain ⟨n,a,b,c,d,rfl,rfl,ha,hb,hc,hd⟩:=h
 obtain ⟨n',a',b',c',d',rfl,rfl,ha',hb',hc',hd'⟩:=h'
 exact add_any n a b c d n' a' b' c' d' ha hb hc hd ha' hb' hc' hd' w
theorem mul_w {v v':Value} {z z':Int} (h:IsW v z) (h':IsW v' z') (w:World):Calls Tryz.prog 126 #[v,v'] w fun e w'=>e = .returned (.tuple #[WE (cl (z * z')),.bool (fb (z * z'))])∧Below w.heap.size w w':=by
 obtain ⟨n,a,b,c,d,rfl,rfl,ha,hb,hc,hd⟩:=h
 obtain ⟨n',a',b',c',d',rfl,rfl,ha',hb',hc',hd'⟩:=h'
 exact mul_any n a b c d n' a' b' c' d' ha hb hc hd ha' hb' hc' hd' w
theorem radd_w {v v':Value} {z z':Int} (h:IsW v z) (h':IsW v' z') (w:World):Calls Tryz.prog 51 #[v,v'] w fun e w'=>e = .returned (.tuple #[WE (cl (z + z')),.bool (fb (z + z'))])∧Below w.heap.size w w':=by
 obtain ⟨n,a,b,c,d,rfl,rfl,ha,hb,hc,hd⟩:=h
 obtain ⟨n',a',b',c',d',rfl,rfl,ha',hb',hc',hd'⟩:=h'
 exact radd2_any n a b c d n' a' b' c' d' ha hb hc hd ha' hb' hc' hd' w
theorem rmul_w {v v':Value} {z z':Int} (h:IsW v z) (h':IsW v' z') (w:World):Calls Tryz.prog 76 #[v,v'] w fun e w'=>e = .returned (.tuple #[WE (cl (z * z')),.bool (fb (z * z'))])∧Below w.heap.size w w':=by
 obtain ⟨n,a,b,c,d,rfl,rfl,ha,hb,hc,hd⟩:=h
 obtain ⟨n',a',b',c',d',rfl,rfl,ha',hb',hc',hd'⟩:=h'
 exact rmul2_any n a b c d n' a' b' c' d' ha hb hc hd ha' hb' hc' hd' w
theorem rneg_w {v:Value} {z:Int} (h:IsW v z) (w:World):Calls Tryz.prog 117 #[v] w fun e w'=>e = .returned (WE (-z))∧Below w.heap.size w w':=by
 obtain ⟨n,a,b,c,d,rfl,rfl,ha,hb,hc,hd⟩:=h
 exact rneg_any n a b c d ha hb hc hd w
theorem fits_wv_neg {n:Bool} {a b c d:Int} (ha:U64 a) (hb:U64 b) (hc:U64 c) (hd:U64 d):Fits (-wv n a b c d):=by
 have m1:=mv_nonneg ha hb hc hd
 have e1:sv (!n) (MV a b c d) = -wv n a b c d:=by unfold sv wv; cases n <;> simp
 rw [← e1]; exact (fits_sv m1).2 (mv_up4 ha hb hc hd)
set_option maxRecDepth 100000 in
theorem rsub_w {v v':Value} {z z':Int} (h:IsW v z) (h':IsW v' z') (w:World):Calls Tryz.prog 53 #[v,v'] w fun e w'=>e = .returned (.tuple #[WE (cl (z - z')),.bool (fb (z - z'))])∧Below w.heap.size w w':=by
 obtain ⟨n,a,b,c,d,rfl,hz,ha,hb,hc,hd⟩:=h
 obtain ⟨n',a',b',c',d',rfl,hz',ha',hb',hc',hd'⟩:=h'
 have f1:Fits (-z'):=hz' ▸ fits_wv_neg ha' hb' hc' hd'
 have CN:=fun W=>rneg_w (hz' ▸ IsW.raw (n:=n') ha' hb' hc' hd':IsW (WV n' a' b' c' d') z') W
 have CA:=fun W=>radd_w (hz ▸ IsW.raw (n:=n) ha hb hc hd:IsW (WV n a b c d) z) (IsW.we f1) W
 rw [← Int.sub_eq_add_neg] at CA
 clear f1 hz hz' ha hb hc hd ha' hb' hc' hd'
 generalize -z' = zn at *
 generalize z - z' = zd at *
 have kn:=fun W=>gives_known en_r02_Neg (CN W)
 have ka:=fun W=>gives_known en_r02_Add (CA W)
 clear CN CA
 generalize cl zd = y at *
 generalize fb zd = u at *
 refine known_of (enter Tryz.func53 r02_Sub.ok (args:=[_,_]) (by simp) ?_)
 repeat' (first | simp (disch:=omega) only [sxE,r02_Sub.E,Nat.reduceAdd,Nat.reduceEqDiff,Nat.reduceMul,Nat.reduceSub,Int.reduceAdd,Int.reduceSub,Int.reduceMul,Int.reduceNeg,Int.reduceLT,Int.reduceLE,Int.reduceEq,Int.reduceToNat,↓reduceIte,Int.reducePow,Nat.reduceLeDiff,Nat.reduceLT,ne_eq,eq_self,List.length_cons,List.length_nil] | (with_reducible refine Sx.call_at (f:=117) (fun W hW=>kn W) ?_) | (with_reducible refine Sx.call_at (f:=51) (fun W hW=>ka W) ?_) | (with_reducible refine cregF ?_))
end Go.Proofs.YtncmmbacoknefaaGreat

/- LtC: wide.Compare and its reference: the order of the integers. -/
namespace Go.Proofs.YtncmmbacoknefaaGreat
open Go Go.ChangeShapes Go.WideShapes Go.ChangeAt Go.RowKit Sx
set_option linter.unusedVariables false
set_option linter.unusedSimpArgs false
theorem cmp_sv {p q:Bool} {m k:Int} (hm:0≤m) (hk:0≤k) (hp:p = true→0 < m) (hq:q = true→0 < k):cm (sv p m) (sv q k) = if p then (if q then cm k m else -1) else if q then 1 else cm m k:=by
 cases p <;> cases q <;> simp [sv,cm] at * <;> (repeat' split) <;> omega
theorem cn_gt {n:Bool} {a b c d:Int} (ha:U64 a) (hb:U64 b) (hc:U64 c) (hd:U64 d):cn n a b c d = true→0 < MV a b c d:=by
 intro h
 have h1:=mv_nonneg ha hb hc hd
 have h2:¬ MV a b c d = 0:=fun h0=>by
  have:=(mz_iff ha hb hc hd).2 h0
  unfold cn at h
  rw [this] at h
  simp at h
 omega
theorem cmp_wv {n n':Bool} {a b c d a' b' c' d':Int} (ha:U64 a) (hb:U64 b) (hc:U64 c) (hd:U64 d) (ha':U64 a') (hb':U64 b') (hc':U64 c') (hd':U64 d') :
  cm (wv n a b c d) (wv n' a' b' c' d') = if cn n a b c d then (if cn n' a' b' c' d' then cm4 a' b' c' d' a b c d else -1) else if cn n' a' b' c' d' then 1 else cm4 a b c d a' b' c' d':=by
 rw [wv_sv n a b c d,wv_sv n' a' b' c' d',cmp_sv (mv_nonneg ha hb hc hd) (mv_nonneg ha' hb' hc' hd') (cn_gt ha hb hc hd) (cn_gt ha' hb' hc' hd'),cm4_mv ha hb hc ha' hb' hc',cm4_mv ha' hb' hc' ha hb hc]
set_option maxHeartbeats 3000000 in
theorem compare_any (n:Bool) (a b c d:Int) (n':Bool) (a' b' c' d':Int) (ha:U64 a) (hb:U64 b) (hc:U64 c) (hd:U64 d) (ha':U64 a') (hb':U64 b') (hc':U64 c') (hd':U64 d') (w:World) :
  Calls Tryz.prog 193 #[WV n a b c d,WV n' a' b' c' d'] w fun e w'=>e = .returned (.int .i64 (cm (wv n a b c d) (wv n' a' b' c' d')))∧Below w.heap.size w w':=by
 have E:=cmp_wv (n:=n) (n':=n') ha hb hc hd ha' hb' hc' hd'
 generalize hR:cm (wv n a b c d) (wv n' a' b' c' d') = R at E
 clear hR
 have cA:=fun W=>gives_known en_wide_clean (clean_any n a b c d W)
 have cB:=fun W=>gives_known en_wide_clean (clean_any n' a' b' c' d' W)
 have k1:=fun W=>gives_known en_wide_compare (wcompare_any a b c d a' b' c' d' W)
 have k2:=fun W=>gives_known en_wide_compare (wcompare_any a' b' c' d' a b c d W)
 generalize cn n a b c d = p at *
 generalize cn n' a' b' c' d' = q at *
 generalize cm4 a b c d a' b' c' d' = Z1 at *
 generalize cm4 a' b' c' d' a b c d = Z2 at *
 clear ha hb hc hd ha' hb' hc' hd'
 cases p <;> cases q <;> (first | simp only [Bool.false_eq_true,if_false,if_true] at E) <;> subst E
 ·refine known_of (enter Tryz.func193 wide_Compare.ok (args:=[_,_]) (by simp) ?_)
  repeat' (first | simp (disch:=omega) only [sxE,wide_Compare.E,Nat.reduceAdd,Nat.reduceEqDiff,Nat.reduceMul,Nat.reduceSub,Int.reduceAdd,Int.reduceSub,Int.reduceMul,Int.reduceNeg,Int.reduceLT,Int.reduceLE,Int.reduceEq,Int.reduceToNat,↓reduceIte,Int.reducePow,Nat.reduceLeDiff,Nat.reduceLT,ne_eq,eq_self,List.length_cons,List.length_nil] | (with_reducible refine Sx.call_at (f:=161) (fun W hW=>cA W) ?_) | (with_reducible refine Sx.call_at (f:=161) (fun W hW=>cB W) ?_) | (with_reducible refine Sx.call_at (f:=166) (fun W hW=>k1 W) ?_) | (with_reducible refine cregF ?_))
 ·refine known_of (enter Tryz.func193 wide_Compare.ok (args:=[_,_]) (by simp) ?_)
  repeat' (first | simp (disch:=omega) only [sxE,wide_Compare.E,Nat.reduceAdd,Nat.reduceEqDiff,Nat.reduceMul,Nat.reduceSub,Int.reduceAdd,Int.reduceSub,Int.reduceMul,Int.reduceNeg,Int.reduceLT,Int.reduceLE,Int.reduceEq,Int.reduceToNat,↓reduceIte,Int.reducePow,Nat.reduceLeDiff,Nat.reduceLT,ne_eq,eq_self,List.length_cons,List.length_nil] | (with_reducible refine Sx.call_at (f:=161) (fun W hW=>cA W) ?_) | (with_reducible refine Sx.call_at (f:=161) (fun W hW=>cB W) ?_) | (with_reducible refine cregF ?_))
 ·refine known_of (enter Tryz.func193 wide_Compare.ok (args:=[_,_]) (by simp) ?_)
  repeat' (first | simp (disch:=omega) only [sxE,wide_Compare.E,Nat.reduceAdd,Nat.reduceEqDiff,Nat.reduceMul,Nat.reduceSub,Int.reduceAdd,Int.reduceSub,Int.reduceMul,Int.reduceNeg,Int.reduceLT,Int.reduceLE,Int.reduceEq,Int.reduceToNat,↓reduceIte,Int.reducePow,Nat.reduceLeDiff,Nat.reduceLT,ne_eq,eq_self,List.length_cons,List.length_nil] | (with_reducible refine Sx.call_at (f:=161) (fun W hW=>cA W) ?_) | (with_reducible refine Sx.call_at (f:=161) (fun W hW=>cB W) ?_) | (with_reducible refine cregF ?_))
 ·refine known_of (enter Tryz.func193 wide_Compare.ok (args:=[_,_]) (by simp) ?_)
  repeat' (first | simp (disch:=omega) only [sxE,wide_Compare.E,Nat.reduceAdd,Nat.reduceEqDiff,Nat.reduceMul,Nat.reduceSub,Int.reduceAdd,Int.reduceSub,Int.reduceMul,Int.reduceNeg,Int.reduceLT,Int.reduceLE,Int.reduceEq,Int.reduceToNat,↓reduceIte,Int.reducePow,Nat.reduceLeDiff,Nat.reduceLT,ne_eq,eq_self,List.length_cons,List.length_nil] | (with_reducible refine Sx.call_at (f:=161) (fun W hW=>cA W) ?_) | (with_reducible refine Sx.call_at (f:=161) (fun W hW=>cB W) ?_) | (with_reducible refine Sx.call_at (f:=166) (fun W hW=>k2 W) ?_) | (with_reducible refine cregF ?_))
theorem wl_zero {m:Int} (h:0≤m):(wl m).length = 0↔m = 0:=by
 constructor
 ·intro e
  have:=VL_wl h
  rw [List.length_eq_zero_iff.1 e] at this
  simpa [VL] using this.symm
 ·rintro rfl
  rw [wl_nil (Int.le_refl 0)]; rfl
set_option maxHeartbeats 3000000 in
theorem rsign_any (n:Bool) (a b c d:Int) (ha:U64 a) (hb:U64 b) (hc:U64 c) (hd:U64 d) (w:World) :
  Calls Tryz.prog 104 #[WV n a b c d] w fun e w'=>e = .returned (.int .i64 (cm (wv n a b c d) 0))∧Below w.heap.size w w':=by
 have O:=fun W=>rof_any n a b c d ha hb hc hd W
 have m1:=mv_nonneg ha hb hc hd
 have HZ:=wl_zero m1
 unfold wv
 generalize MV a b c d = m at *
 by_cases hz:m = 0
 ·have hR:cm (if n = true then -m else m) 0 = 0:=by subst hz; cases n <;> rfl
  rw [hR]
  have hlen:=HZ.2 hz
  clear hR HZ hz m1
  go_enter Tryz.func104,Tryz.ntmps104
  go_wp2_with fail
  refine (O _).mono ?_
  intro e w' h
  obtain ⟨a0,len,cap,rfl,hl,hs,hb⟩:=h.open
  obtain rfl:len = 0:=by omega
  go_wp2
  go_ret
  exact ⟨rfl,by (repeat' (first | (with_reducible assumption) | (with_reducible exact Below.refl _ _) | (with_reducible refine Below.alloc ?_ ?_ _) | (with_reducible refine Below.setCell ?_ ?_ _) | (with_reducible refine Below.drew ?_) | (with_reducible refine below_more ?_ (by with_reducible assumption)) | go_size | omega | (with_reducible refine below_drewN ?_)))⟩
 ·have hlen:¬ (wl m).length = 0:=fun h=>hz (HZ.1 h)
  have hR:cm (if n = true then -m else m) 0 = if n then -1 else 1:=by
   unfold cm; cases n <;> simp <;> (repeat' split) <;> omega
  rw [hR]
  clear hR HZ
  cases n
  all_goals
   go_enter Tryz.func104,Tryz.ntmps104
   go_wp2_with fail
   refine (O _).mono ?_
   intro e w' h
   obtain ⟨a0,len,cap,rfl,hl,hs,hb⟩:=h.open
   have hl0:¬ (len:Int) = 0:=by omega
   have hcl:=HB.below (b:=w.heap.size) (HB.new w _ _ rfl) hb
   obtain ⟨B1,B1c,B1f,B1l⟩:=Bx.of hcl
   go_wp2
   go_ret
   exact ⟨rfl,by (repeat' (first | (with_reducible assumption) | (with_reducible exact Below.refl _ _) | (with_reducible refine Below.alloc ?_ ?_ _) | (with_reducible refine Below.setCell ?_ ?_ _) | (with_reducible refine Below.drew ?_) | (with_reducible refine below_more ?_ (by with_reducible assumption)) | go_size | omega | (with_reducible refine below_drewN ?_)))⟩
end Go.Proofs.YtncmmbacoknefaaGreat

/- Gw: What calls of the program's wide give, for the symbolic run. -/
namespace Go.Proofs.YtncmmbacoknefaaGreat
open Go Go.RowKit Sx
set_option linter.unusedVariables false
set_option linter.unusedSimpArgs false
theorem guardT_mag:Tryz.prog.eqGuardType Tryz.prog.depth 35 = false:=by kernel_rfl
theorem guardT_wide:Tryz.prog.eqGuardType Tryz.prog.depth 37 = false:=by kernel_rfl
theorem guard_agg {op:BinOp} {t:TypeId} {xo yo:Operand} {x y:Array Value} {P:Program} (h:P.eqGuardType P.depth t = false) (W:World):(eqGuard op t xo yo (.agg x) (.agg y)).run P W = .ok () W:=by
 unfold eqGuard
 cases op <;> first | rfl | (simp [go_sem,h])
theorem eqb_run {ng:Bool} {t:TypeId} {xo yo:Operand} {x y:Array Value} {P:Program} {b:Bool} {W:World} (h:P.eqGuardType P.depth t = false) (he:(Op.equalIn 10000 t (.agg x) (.agg y)).run P W = .ok b W) :
  ((do eqGuard (if ng then .neq else .eql) t xo yo (.agg x) (.agg y); binOp (if ng then .neq else .eql) t (.agg x) (.agg y)):Sem Value).run P W = .ok (.bool (if ng then !b else b)) W:=by
 rw [run_bind_ok (guard_agg h W)]
 cases ng
 ·exact run_bind_ok he
 ·exact run_bind_ok he
theorem eqm_run {ng:Bool} {xo yo:Operand} (a b c d a' b' c' d':Int) (W:World) :
  ((do eqGuard (if ng then .neq else .eql) 35 xo yo (MG a b c d) (MG a' b' c' d'); binOp (if ng then .neq else .eql) 35 (MG a b c d) (MG a' b' c' d')):Sem Value).run Tryz.prog W = .ok (.bool (if ng then !meq a b c d a' b' c' d' else meq a b c d a' b' c' d')) W :=
 eqb_run guardT_mag (eq_mag a b c d a' b' c' d' 9998 W)
theorem eqw_run {ng:Bool} {xo yo:Operand} (n:Bool) (a b c d:Int) (n':Bool) (a' b' c' d':Int) (W:World) :
  ((do eqGuard (if ng then .neq else .eql) 37 xo yo (WV n a b c d) (WV n' a' b' c' d'); binOp (if ng then .neq else .eql) 37 (WV n a b c d) (WV n' a' b' c' d')):Sem Value).run Tryz.prog W = .ok (.bool (if ng then !weq n a b c d n' a' b' c' d' else weq n a b c d n' a' b' c' d')) W :=
 eqb_run guardT_wide (eq_wide n a b c d n' a' b' c' d' 9997 W)
theorem g_valid (n:Bool) (a b c d:Int) (W:World):Gives Tryz.prog 176 [WV n a b c d] W (· = (.bool (!n || !mz a b c d))):=gives_known en_wide_Valid (valid_any n a b c d W)
theorem g_clean (n:Bool) (a b c d:Int) (W:World):Gives Tryz.prog 161 [WV n a b c d] W (· = (WV (cn n a b c d) a b c d)):=gives_known en_wide_clean (clean_any n a b c d W)
theorem g_signed (n:Bool) (a b c d:Int) (W:World):Gives Tryz.prog 163 [.bool n,MG a b c d] W (· = (WV (cn n a b c d) a b c d)):=gives_known en_wide_signed (signed_any n a b c d W)
theorem g_wcompare (a0 a1 a2 a3 b0 b1 b2 b3:Int) (W:World):Gives Tryz.prog 166 [MG a0 a1 a2 a3,MG b0 b1 b2 b3] W (· = (.int .i64 (cm4 a0 a1 a2 a3 b0 b1 b2 b3))):=gives_known en_wide_compare (wcompare_any _ _ _ _ _ _ _ _ W)
theorem g_add {v v':Value} {z z':Int} (h:IsW v z) (h':IsW v' z') (W:World):Gives Tryz.prog 137 [v,v'] W (· = .tuple #[WE (cl (z + z')),.bool (fb (z + z'))]):=gives_known en_wide_Add (add_w h h' W)
theorem g_mul {v v':Value} {z z':Int} (h:IsW v z) (h':IsW v' z') (W:World):Gives Tryz.prog 126 [v,v'] W (· = .tuple #[WE (cl (z * z')),.bool (fb (z * z'))]):=gives_known en_wide_Mul (mul_w h h' W)
theorem g_of {v:Int} (h:I64 v) (W:World):Gives Tryz.prog 81 [.int .i64 v] W (· = WE v):=gives_known en_wide_Of (of_any v h W)
theorem cm_zero (z:Int):cm z 0 = if z < 0 then -1 else if z = 0 then 0 else 1:=by
 unfold cm
 split
 ·rfl
 ·split <;> split <;> first | rfl | omega
theorem g_ofU {v:Int} (h:U64 v) (W:World):Gives Tryz.prog 170 [.int .u64 v] W (· = WE v):=by
 refine gives_known en_wide_OfUnsigned ?_
 rw [we_uns v h]
 refine known_of (enter Tryz.func170 wide_OfUnsigned.ok (args:=[.int .u64 v]) (by simp) ?_)
 repeat' (first | simp (disch:=omega) only [sxE,wide_OfUnsigned.E,Nat.reduceAdd,Nat.reduceEqDiff,Nat.reduceMul,Nat.reduceSub,Int.reduceAdd,Int.reduceSub,Int.reduceMul,Int.reduceNeg,Int.reduceLT,Int.reduceLE,Int.reduceEq,Int.reduceToNat,↓reduceIte,Int.reducePow,Nat.reduceLeDiff,Nat.reduceLT,ne_eq,eq_self,List.length_cons,List.length_nil] | (with_reducible refine cregF ?_))
theorem vi {k:IntKind} {a b:Int} (h:a = b):Value.int k a = Value.int k b:=by rw [h]
theorem vb {a b:Bool} (h:a = b):Value.bool a = Value.bool b:=by rw [h]
theorem sign_any (n:Bool) (a b c d:Int) (ha:U64 a) (hb:U64 b) (hc:U64 c) (hd:U64 d) (w:World) :
  Calls Tryz.prog 140 #[WV n a b c d] w fun e w'=>e = .returned (.int .i64 (cm (wv n a b c d) 0))∧Below w.heap.size w w':=by
 have h0:=mz_iff ha hb hc hd
 have h1:=sg_wv (n:=n) ha hb hc hd
 have h2:=ab_wv (n:=n) ha hb hc hd
 rw [cm_zero]
 generalize wv n a b c d = z at *
 have k1:cn n a b c d = decide (z < 0):=by rw [← h1]; rfl
 have k2:meq a b c d 0 0 0 0 = decide (z = 0):=by
  have:meq a b c d 0 0 0 0 = mz a b c d:=rfl
  rw [this,Bool.eq_iff_iff,h0,← h2,decide_eq_true_iff]
  unfold ab; split <;> omega
 clear h0 h1 h2 ha hb hc hd
 refine known_of (enter Tryz.func140 wide_Sign.ok (args:=[WV n a b c d]) (by simp) ?_)
 repeat' (first | simp (disch:=omega) only [sxE,wide_Sign.E,Nat.reduceAdd,Nat.reduceEqDiff,Nat.reduceMul,Nat.reduceSub,Int.reduceAdd,Int.reduceSub,Int.reduceMul,Int.reduceNeg,Int.reduceLT,Int.reduceLE,Int.reduceEq,Int.reduceToNat,↓reduceIte,Int.reducePow,Nat.reduceLeDiff,Nat.reduceLT,ne_eq,eq_self,List.length_cons,List.length_nil] | (with_reducible refine Sx.call_at (f:=161) (fun W hW=>g_clean _ _ _ _ _ W) ?_) | (with_reducible refine eq_is (fun W=>by exact eqm_run _ _ _ _ _ _ _ _ W) ?_) | ((with_reducible first | apply cond_beq | apply gd_beq) <;> (intro hc; first | simp only [beq_iff_eq.2 hc] | simp only [beq_eq_false_iff_ne.2 hc] | skip)) | ((with_reducible first | apply cond_dec | apply gd_dec) <;> (intro hc; first | simp only [decide_eq_true hc] | simp only [decide_eq_false hc] | skip)) | ((with_reducible first | apply cond_of | apply gd_of) <;> (intro hc; try simp only [hc])) | (with_reducible refine cregF ?_))
 all_goals
  simp only [k1,k2,decide_eq_true_eq,decide_eq_false_iff_not] at *
  refine vi ?_
  simp_all
theorem g_sign {v:Value} {z:Int} (h:IsW v z) (W:World):Gives Tryz.prog 140 [v] W (· = .int .i64 (cm z 0)):=by
 obtain ⟨n,a,b,c,d,rfl,rfl,ha,hb,hc,hd⟩:=h
 exact gives_known en_wide_Sign (sign_any n a b c d ha hb hc hd W)
theorem g_compare {v v':Value} {z z':Int} (h:IsW v z) (h':IsW v' z') (W:World):Gives Tryz.prog 193 [v,v'] W (· = .int .i64 (cm z z')):=by
 obtain ⟨n,a,b,c,d,rfl,rfl,ha,hb,hc,hd⟩:=h
 obtain ⟨n',a',b',c',d',rfl,rfl,ha',hb',hc',hd'⟩:=h'
 exact gives_known en_wide_Compare (compare_any n a b c d n' a' b' c' d' ha hb hc hd ha' hb' hc' hd' W)
end Go.Proofs.YtncmmbacoknefaaGreat

/- Gd: What calls of the program's division of absolute values give. -/
namespace Go.Proofs.YtncmmbacoknefaaGreat
open Go Go.RowKit Sx
set_option linter.unusedVariables false
set_option linter.unusedSimpArgs false
set_option maxRecDepth 100000 in
theorem g_halved {z:Int} (h:A4 z) (W:World):Gives Tryz.prog 201 [ME z] W (· = ME (z / 2)):=by
 refine gives_known en_wide_halved ?_
 show Calls _ _ #[MG (lb0 z) (lb1 z) (lb2 z) (lb3 z)] _ _
 have ha:=lb0_in z
 have hb:=lb1_in z
 have hc:=lb2_in z
 have hd:=lb3_in z
 have e:=mv_me h
 obtain ⟨w0,w1,w2,w3,hv⟩:=half_words ha hb hc hd
 have hR:MG _ _ _ _ = ME (z / 2):=(mg_me w0 w1 w2 w3).trans (by rw [hv,e])
 have o1:=half_word ha hb
 have o2:=half_word hb hc
 have o3:=half_word hc hd
 have o4:(lb3 z).fdiv 2 = lb3 z / 2:=Int.fdiv_eq_ediv_of_nonneg _ (by decide)
 rw [← hR]
 generalize lb0 z = a at *
 generalize lb1 z = b at *
 generalize lb2 z = c at *
 generalize lb3 z = d at *
 clear hR hv w0 w1 w2 w3 e ha hb hc hd
 refine known_of (enter Tryz.func201 wide_halved.ok (args:=[MG a b c d]) (by simp) ?_)
 repeat' (first | simp (disch:=omega) only [sxE,wide_halved.E,Nat.reduceAdd,Nat.reduceEqDiff,Nat.reduceMul,Nat.reduceSub,Int.reduceAdd,Int.reduceSub,Int.reduceMul,Int.reduceNeg,Int.reduceLT,Int.reduceLE,Int.reduceEq,Int.reduceToNat,↓reduceIte,Int.reducePow,Nat.reduceLeDiff,Nat.reduceLT,ne_eq,eq_self,List.length_cons,List.length_nil,o1,o2,o3,o4] | (rw [wide_halved.p2_l]) | (with_reducible apply LX_round) | (with_reducible refine cregF ?_))
theorem g_len64 {x:Int} (h:U64 x) (W:World):Gives Tryz.prog 197 [.int .u64 x] W (· = .int .i64 (Go.Lib.bitLen x.toNat)) :=
 gives_known (Sx.en_of Tryz.func197 (by kernel_rfl) (by kernel_rfl)) ((Tryz.bits_Len64 x W h.1 h.2).mono fun _ _ ⟨h1,h2⟩=>⟨h1,by subst h2; exact Below.refl _ _⟩)
theorem bitLen64 {x:Int} (h:U64 x):Go.Lib.bitLen x.toNat≤64:=by
 by_cases h0:x.toNat = 0
 ·rw [h0]; decide
 ·obtain ⟨b1,b2,b3⟩:=Go.Lib.bitLenAux_bounds 64 x.toNat (by have:=h.2; omega) h0
  have e:Go.Lib.bitLen x.toNat = Go.Lib.bitLenAux 64 x.toNat:=rfl
  rw [e]
  generalize Go.Lib.bitLenAux 64 x.toNat = L at *
  by_cases hL:L≤64
  ·exact hL
  ·have:2 ^ 64≤2 ^ (L - 1):=Nat.pow_le_pow_right (by decide) (by omega)
   have:=h.2
   omega
theorem len_words {a b c d:Int} (ha:U64 a) (hb:U64 b) (hc:U64 c) (hd:U64 d) :
  (d≠0→192 + (Go.Lib.bitLen d.toNat:Int) = bl (MV a b c d))∧(d = 0→c≠0→128 + (Go.Lib.bitLen c.toNat:Int) = bl (MV a b c d))∧(d = 0→c = 0→b≠0→64 + (Go.Lib.bitLen b.toNat:Int) = bl (MV a b c d)) ∧
  (d = 0→c = 0→b = 0→a≠0→0 + (Go.Lib.bitLen a.toNat:Int) = bl (MV a b c d))∧(d = 0→c = 0→b = 0→a = 0→0 = (bl (MV a b c d):Int)):=by
 have hm:MV a b c d = a + 18446744073709551616 * (b + 18446744073709551616 * (c + 18446744073709551616 * d)):=rfl
 have p3:(2 ^ (64 * 3):Int) = 6277101735386680763835789423207666416102355444464034512896:=rfl
 have p2:(2 ^ (64 * 2):Int) = 340282366920938463463374607431768211456:=rfl
 have p1:(2 ^ (64 * 1):Int) = 18446744073709551616:=rfl
 have p0:(2 ^ (64 * 0):Int) = 1:=rfl
 obtain ⟨a0,a1⟩:=id ha
 obtain ⟨b0,b1⟩:=id hb
 obtain ⟨c0,c1⟩:=id hc
 refine ⟨fun h=>?_,fun h h2=>?_,fun h h2 h3=>?_,fun h h2 h3 h4=>?_,fun h h2 h3 h4=>?_⟩
 ·have:=bl_word (z:=MV a b c d) (lo:=a + 18446744073709551616 * (b + 18446744073709551616 * c)) (i:=3) hd h (by omega) (by rw [p3]; omega) (by rw [p3,hm]; omega)
  omega
 ·subst h
  have:=bl_word (z:=MV a b c 0) (lo:=a + 18446744073709551616 * b) (i:=2) hc h2 (by omega) (by rw [p2]; omega) (by rw [p2]; unfold MV; omega)
  omega
 ·subst h h2
  have:=bl_word (z:=MV a b 0 0) (lo:=a) (i:=1) hb h3 (by omega) (by rw [p1]; omega) (by rw [p1]; unfold MV; omega)
  omega
 ·subst h h2 h3
  have:=bl_word (z:=MV a 0 0 0) (lo:=0) (i:=0) ha h4 (by omega) (by rw [p0]; omega) (by rw [p0]; unfold MV; omega)
  omega
 ·subst h h2 h3 h4
  rfl
set_option maxRecDepth 100000 in
theorem g_length {z:Int} (h:A4 z) (W:World):Gives Tryz.prog 199 [ME z] W (· = .int .i64 (bl z)):=by
 refine gives_known en_wide_length ?_
 show Calls _ _ #[MG (lb0 z) (lb1 z) (lb2 z) (lb3 z)] _ _
 have ha:=lb0_in z
 have hb:=lb1_in z
 have hc:=lb2_in z
 have hd:=lb3_in z
 have e:=mv_me h
 have k:=len_words ha hb hc hd
 have l0:=bitLen64 ha
 have l1:=bitLen64 hb
 have l2:=bitLen64 hc
 have l3:=bitLen64 hd
 rw [e] at k
 obtain ⟨k0,k1,k2,k3,k4⟩:=k
 generalize lb0 z = a at *
 generalize lb1 z = b at *
 generalize lb2 z = c at *
 generalize lb3 z = d at *
 clear e
 refine known_of (enter Tryz.func199 wide_length.ok (args:=[MG a b c d]) (by simp) ?_)
 repeat' (first | simp (disch:=omega) only [sxE,wide_length.E,Nat.reduceAdd,Nat.reduceEqDiff,Nat.reduceMul,Nat.reduceSub,Int.reduceAdd,Int.reduceSub,Int.reduceMul,Int.reduceNeg,Int.reduceLT,Int.reduceLE,Int.reduceEq,Int.reduceToNat,↓reduceIte,Int.reducePow,Nat.reduceLeDiff,Nat.reduceLT,ne_eq,eq_self,List.length_cons,List.length_nil] | (with_reducible refine Sx.call_at (f:=197) (fun W hW=>g_len64 (by assumption) W) ?_) | (rw [wide_length.p2_l]) | (with_reducible apply LX_round) | ((with_reducible first | apply cond_beq | apply gd_beq) <;> (intro hc; first | simp only [beq_iff_eq.2 hc] | simp only [beq_eq_false_iff_ne.2 hc] | skip)) | ((with_reducible first | apply cond_dec | apply gd_dec) <;> (intro hc; first | simp only [decide_eq_true hc] | simp only [decide_eq_false hc] | skip)) | ((with_reducible first | apply cond_of | apply gd_of) <;> (intro hc; try simp only [hc])) | (with_reducible refine cregF ?_))
 all_goals (refine vi ?_; first | exact k0 (by assumption) | exact k1 (by assumption) (by assumption) | exact k2 (by assumption) (by assumption) (by assumption) | exact k4 (by assumption) (by assumption) (by assumption) (by assumption) | (have:=k3 (by assumption) (by assumption) (by assumption) (by assumption); omega))
end Go.Proofs.YtncmmbacoknefaaGreat

/- Ha: What calls of the reference's size and half give. -/
namespace Go.Proofs.YtncmmbacoknefaaGreat
open Go Go.RowKit Sx
set_option linter.unusedVariables false
set_option linter.unusedSimpArgs false
theorem bl_pos_wl {m:Int} (h:0 < m):0 < (wl m).length:=List.length_pos_iff.2 (wl_ne h)
set_option maxRecDepth 100000 in
theorem rsize_any {a:Option Addr} {cap:Nat} {m:Int} {w:World} (h0:0≤m) (hl:(wl m).length≤64) (h:SlU w (.slice a (wl m).length cap) (wl m)) :
  Calls Tryz.prog 183 #[.slice a (wl m).length cap] w fun e w'=>e = .returned (.int .i64 (bl m))∧Below w.heap.size w w':=by
 by_cases hm:m = 0
 ·subst hm
  rw [wl_nil (Int.le_refl _)]
  refine known_of (enter Tryz.func183 r02_size.ok (args:=[.slice a ([]:List Int).length cap]) (by simp) ?_)
  repeat' (first | simp (disch:=omega) only [sxE,r02_size.E,Nat.reduceAdd,Nat.reduceEqDiff,Nat.reduceMul,Nat.reduceSub,Int.reduceAdd,Int.reduceSub,Int.reduceMul,Int.reduceNeg,Int.reduceLT,Int.reduceLE,Int.reduceEq,Int.reduceToNat,↓reduceIte,Int.reducePow,Nat.reduceLeDiff,Nat.reduceLT,ne_eq,eq_self,List.length_cons,List.length_nil,beq_self_eq_true,Int.ofNat_zero] | (with_reducible refine cregF ?_))
  rfl
 ·have hpos:0 < m:=by omega
  have hp:=bl_pos_wl hpos
  have hs:=size_wl hpos
  obtain ⟨k,hk⟩:∃ k,(wl m).length = k + 1:=⟨(wl m).length - 1,by omega⟩
  obtain ⟨a',cap',e,hsh⟩:=h.shp
  cases e
  obtain ⟨b,off,rfl⟩:=hsh.some hp
  have hw:U64 ((wl m).getD k 0):=(wl_words m).getD k
  have hbl:=bitLen64 hw
  have hkl:k < (wl m).length:=by omega
  rw [hk] at hs h ⊢
  rw [Nat.add_sub_cancel] at hs
  have hk1:((k + 1:Nat):Int) - 1 = (k:Int):=by omega
  have hk2:(((k + 1:Nat):Int) == 0) = false:=beq_eq_false_iff_ne.2 (by omega)
  have hk3:IntKind.i64.wrap (((k + 1:Nat):Int) - 1) = (k:Int):=by rw [hk1]; exact s_wi _ (by omega) (by omega)
  have hk4:IntKind.i64.wrap (64 * (k:Int)) = 64 * (k:Int):=s_wi _ (by omega) (by omega)
  have hk5:IntKind.i64.wrap (64 * (k:Int) + (Go.Lib.bitLen ((wl m).getD k 0).toNat:Int)) = (bl m:Int):=by rw [s_wi _ (by omega) (by omega)]; omega
  have hkp:(0:Int)≤(k:Int)∧(k:Int) < ((k + 1:Nat):Int):=by omega
  refine known_of (enter Tryz.func183 r02_size.ok (args:=[.slice (some ⟨b,off,none⟩) (k + 1) cap]) (by simp) ?_)
  repeat' (first | simp (disch:=omega) only [sxE,r02_size.E,Nat.reduceAdd,Nat.reduceEqDiff,Nat.reduceMul,Nat.reduceSub,Int.reduceAdd,Int.reduceSub,Int.reduceMul,Int.reduceNeg,Int.reduceLT,Int.reduceLE,Int.reduceEq,Int.reduceToNat,↓reduceIte,Int.reducePow,Nat.reduceLeDiff,Nat.reduceLT,ne_eq,eq_self,List.length_cons,List.length_nil,hk2,hk3,hk4,hk5,Nat.mul_one,hkp] | (with_reducible refine Sx.call_at (f:=197) (fun W hW=>g_len64 hw W) ?_) | (refine ldP_w k rfl h hkl ?_) | (with_reducible refine cregF ?_))
namespace Sx
def hX (w:World) (g len cap:Nat) (ws:List Int):Ext:=⟨List.range' g (w.heap.size - g),fun W=>OwnU W g (.slice (some ⟨g,0,none⟩) len cap) ws∧w.heap.size≤W.heap.size∧∀ i,i < w.heap.size→i≠g→W.heap[i]? = w.heap[i]?⟩
theorem hX_bs {w:World} {g len cap b:Nat} {ws:List Int}:b∈(hX w g len cap ws).bs↔g≤b∧b < w.heap.size:=by
 show b∈List.range' g (w.heap.size - g)↔_
 rw [List.mem_range']
 constructor
 ·rintro ⟨i,hi,rfl⟩; omega
 ·intro h; exact ⟨b - g,by omega,by omega⟩
theorem hX_stab {C:Cx} {w:World} {g len cap:Nat} {ws:List Int} (hg:g < w.heap.size) (hC:C.w0.heap.size = g):Stab C (hX w g len cap ws):=fun W W' h1 h2 h3 h4 h5 ⟨a,b,c⟩=>by
 have key:∀ i,i < w.heap.size→W'.heap[i]? = W.heap[i]? := fun i hi=>h5 i (Nat.lt_of_lt_of_le hi b) (by
  rcases Nat.lt_or_ge i g with h | h
  ·right; omega
  ·left; exact hX_bs.2 ⟨h,hi⟩)
 refine ⟨?_,Nat.le_trans b h4,fun i hi hne=>(key i hi).trans (c i hi hne)⟩
 exact Kn.ok.keep (k:=.o (.slice (some ⟨g,0,none⟩) len cap) ws) a h4 (fun b hb=>by rw [List.mem_singleton.1 hb]; exact key g hg) fun b hb _=>key b (by omega)
variable {C:Cx} {S:St} {K:St→Prop} {d:Option Nat}
theorem ldP_h {w:World} {g len cap:Nat} {ws:List Int} (i:Nat) (hT:(C.kn S).T = hX w g len cap ws) (hi:i < ws.length) (hk:K (S.put d (.v (.int .u64 (ws.getD i 0))))):ldP C false 1 ⟨g,i,none⟩ d K S :=
 ldP_ext [.int .u64 (ws.getD i 0)] rfl (fun W hW hok j v hj=>by
  rw [hT] at hok
  rcases j with _ | j
  ·cases hj
   rw [Addr.add_zero']
   exact OwnU.cell hok.1 hi
  ·cases hj) hk
theorem stP_h {w:World} {g len cap:Nat} {ws:List Int} {x:Int} (i:Nat) (hT:S.T = hX w g len cap ws) (hC:C.w0.heap.size = g) (hg:g < w.heap.size) (hi:i < ws.length) (hx:U64 x) (hk:K ⟨S.n,S.E,S.H,hX w g len cap (ws.set i x)⟩):stP C ⟨g,i,none⟩ (.int .u64 x) K S:=by
 refine stP_is (hX w g len cap (ws.set i x)) (fun W hW hok=>?_) (hX_stab hg hC) (fun b hb=>by rw [hT]; exact hb) rfl hk
 rw [hT] at hok
 obtain ⟨ho,h2,h3⟩:=hok
 refine ⟨by rw [hT]; exact hX_bs.2 ⟨Nat.le_refl _,hg⟩,⟨_,ho.cell hi⟩,?_,ho.stored ho.len i hi hx,by rw [World.size_setCell]; exact h2,fun j hj hne=>?_⟩
 ·rcases ho.form with ⟨e,-⟩ | ⟨g',cap',e,-,-,-,-,-,hf⟩
  ·cases e
  ·cases e; exact hf i
 ·exact (Below.heap_setCell W _ _ j fun e=>hne e).trans (h3 j hj hne)
end Sx
theorem OwnU.atg {w:World} {n g len cap:Nat} {ws:List Int} (h:OwnU w n (.slice (some ⟨g,0,none⟩) len cap) ws):OwnU w g (.slice (some ⟨g,0,none⟩) len cap) ws:=by
 obtain ⟨⟨h1,h2⟩,h3⟩:=h
 refine ⟨⟨h1,?_⟩,h3⟩
 rcases h2 with h | ⟨g',cap',cur,e,hb,rest⟩
 ·exact .inl h
 ·cases e; exact .inr ⟨g,cap,cur,rfl,Nat.le_refl _,rest⟩
def hlF (w:World) (g len cap:Nat) (ws:List Int) (i:Nat):St:=⟨0,[(0,.v (.slice (some ⟨g,0,none⟩) len cap)),(3,.v (.int .i64 (i:Int)))],[],hX w g len cap (hc ws i)⟩
set_option maxRecDepth 100000 in
theorem rhalf_any {n g len cap:Nat} {ws:List Int} {w:World} (hlen:len≤1000000) (h:OwnU w n (.slice (some ⟨g,0,none⟩) len cap) ws) :
  Calls Tryz.prog 185 #[.slice (some ⟨g,0,none⟩) len cap] w fun e w'=>e = .returned (.slice (some ⟨g,0,none⟩) (wl (VL ws / 2)).length cap)∧OwnU w' n (.slice (some ⟨g,0,none⟩) (wl (VL ws / 2)).length cap) (wl (VL ws / 2))∧Moves [g] w w':=by
 have hln:=h.len
 have hwd:Ws ws:=h.2
 have hg:n≤g∧g < w.heap.size:=Kn.ok.lt (k:=.o (.slice (some ⟨g,0,none⟩) len cap) ws) h g (List.mem_singleton.2 rfl)
 have hcs:=cut_size (Nat.le_of_lt hg.2)
 refine Calls.mono (enterG Tryz.func185 r02_half.ok (args:=[.slice (some ⟨g,0,none⟩) len cap]) (w0:=cut w g) (T:=hX w g len cap ws) (R:=fun v X=>v = .slice (some ⟨g,0,none⟩) (wl (VL ws / 2)).length cap∧X = hX w g (wl (VL ws / 2)).length cap (wl (VL ws / 2))) (by simp) (below_cut (Nat.le_of_lt hg.2)) ⟨h.atg,Nat.le_refl _,fun i _ _=>rfl⟩ (hX_stab hg.2 hcs) (fun b hb=>by rw [hcs]; exact hX_bs.1 hb) ?run) ?fin
 case fin =>
  rintro e w' ⟨v,Y,rfl,⟨rfl,rfl⟩,⟨o1,o2,o3⟩,hb,-⟩
  refine ⟨rfl,o1.base hg.1,hb.os,hb.tape,hb.output,o2,fun i hi hne=>o3 i hi fun e=>hne (by rw [e]; exact List.mem_singleton.2 rfl)⟩
 case run =>
  have hcs':(cx Tryz.prog (cut w g) 35).w0.heap.size = g:=hcs
  clear h
  simp (disch:=omega) only [sxE,r02_half.E,Nat.reduceAdd,Nat.reduceEqDiff,Nat.reduceMul,Nat.reduceSub,Int.reduceAdd,Int.reduceSub,Int.reduceMul,Int.reduceNeg,Int.reduceLT,Int.reduceLE,Int.reduceEq,Int.reduceToNat,↓reduceIte,Int.reducePow,Nat.reduceLeDiff,Nat.reduceLT,ne_eq,eq_self,List.length_cons,List.length_nil,Int.ofNat_zero]
  rw [r02_half.p2_l]
  refine LX_inv (hlF w g len cap ws) (fun i=>i≤len) (fun i=>len - i) ?round 0 (Nat.zero_le _) ?start
  case start =>
   simp (disch:=omega) only [sxE,r02_half.E,Nat.reduceAdd,Nat.reduceEqDiff,Nat.reduceMul,Nat.reduceSub,Int.reduceAdd,Int.reduceSub,Int.reduceMul,Int.reduceNeg,Int.reduceLT,Int.reduceLE,Int.reduceEq,Int.reduceToNat,↓reduceIte,Int.reducePow,Nat.reduceLeDiff,Nat.reduceLT,ne_eq,eq_self,List.length_cons,List.length_nil,hlF,hc_zero,Int.ofNat_zero]
  case round =>
   intro i hi
   have hcl:=hc_len ws i (by omega)
   rcases Nat.lt_or_ge i len with hil | hil
   ·have c1:(i:Int) < (len:Int):=by omega
    have c2:(0:Int)≤(i:Int)∧(i:Int) < (len:Int):=by omega
    have k1:IntKind.i64.wrap ((i:Int) + 1) = ((i + 1:Nat):Int):=by rw [s_wi _ (by omega) (by omega)]; omega
    have v1:=hc_get ws i i (by omega) (Nat.le_refl _)
    have v2:(ws.getD i 0).fdiv 2 = ws.getD i 0 / 2:=Int.fdiv_eq_ediv_of_nonneg _ (by decide)
    have hx:=hwd.getD i
    have hy:=hwd.getD (i + 1)
    have hh:=half_word hx hy
    rw [← hl_get ws i] at hh
    have hu:U64 ((hl ws).getD i 0):=(hl_ws hwd).getD i
    have hu2:U64 (ws.getD i 0 / 2):=⟨by have:=hx.1; omega,by have:=hx.1; have:=hx.2; omega⟩
    have hst:=hc_set ws i (by omega)
    unfold hlF
    rcases Nat.lt_or_ge (i + 1) len with hj | hj
    ·have c3:((i + 1:Nat):Int) < (len:Int):=by omega
     have c4:(0:Int)≤((i + 1:Nat):Int)∧((i + 1:Nat):Int) < (len:Int):=by omega
     have v3:((hc ws i).set i (ws.getD i 0 / 2)).getD i 0 = ws.getD i 0 / 2:=getD_set_eq _ _ _ (by omega)
     have v4:((hc ws i).set i (ws.getD i 0 / 2)).getD (i + 1) 0 = ws.getD (i + 1) 0:=by rw [getD_set_ne' _ _ _ _ (by omega)]; exact hc_get ws i (i + 1) (by omega) (by omega)
     rw [v2] at hh
     repeat' (first | simp (disch:=omega) only [sxE,r02_half.E,Nat.reduceAdd,Nat.reduceEqDiff,Nat.reduceMul,Nat.reduceSub,Int.reduceAdd,Int.reduceSub,Int.reduceMul,Int.reduceNeg,Int.reduceLT,Int.reduceLE,Int.reduceEq,Int.reduceToNat,↓reduceIte,Int.reducePow,Nat.reduceLeDiff,Nat.reduceLT,ne_eq,eq_self,List.length_cons,List.length_nil,Nat.mul_one,Nat.zero_add,c1,c2,c3,c4,k1,v1,v2,v3,v4,hh] | (refine ldP_h i rfl (by first | omega | (rw [List.length_set]; omega)) ?_) | (refine ldP_h (i + 1) rfl (by rw [List.length_set]; omega) ?_) | (refine stP_h i rfl hcs' hg.2 (by first | omega | (rw [List.length_set]; omega)) (by assumption) ?_) | (with_reducible refine cregF ?_))
     refine ⟨i + 1,Nat.le_of_lt hj,by omega,?_⟩
     rw [List.set_set,hst]
     exact ⟨rfl,.inl rfl⟩
    ·have c3:¬ ((i + 1:Nat):Int) < (len:Int):=by omega
     have hz:ws.getD (i + 1) 0 = 0:=by rw [List.getD_eq_getElem?_getD,List.getElem?_eq_none (by omega)]; rfl
     have he:(hl ws).getD i 0 = ws.getD i 0 / 2:=by rw [hl_get,hz]; omega
     repeat' (first | simp (disch:=omega) only [sxE,r02_half.E,Nat.reduceAdd,Nat.reduceEqDiff,Nat.reduceMul,Nat.reduceSub,Int.reduceAdd,Int.reduceSub,Int.reduceMul,Int.reduceNeg,Int.reduceLT,Int.reduceLE,Int.reduceEq,Int.reduceToNat,↓reduceIte,Int.reducePow,Nat.reduceLeDiff,Nat.reduceLT,ne_eq,eq_self,List.length_cons,List.length_nil,Nat.mul_one,Nat.zero_add,c1,c2,c3,k1,v1,v2] | (refine ldP_h i rfl (by omega) ?_) | (refine stP_h i rfl hcs' hg.2 (by omega) (by assumption) ?_) | (with_reducible refine cregF ?_))
     refine ⟨i + 1,by omega,by omega,?_⟩
     rw [← he,hst]
     exact ⟨rfl,.inl rfl⟩
   ·have he:i = ws.length:=by omega
    have c1:¬ (i:Int) < (len:Int):=by omega
    have hv:VL (hc ws i) = VL ws / 2:=by rw [he,hc_all,VL_hl]
    unfold hlF
    simp (disch:=omega) only [sxE,r02_half.E,Nat.reduceAdd,Nat.reduceEqDiff,Nat.reduceMul,Nat.reduceSub,Int.reduceAdd,Int.reduceSub,Int.reduceMul,Int.reduceNeg,Int.reduceLT,Int.reduceLE,Int.reduceEq,Int.reduceToNat,↓reduceIte,Int.reducePow,Nat.reduceLeDiff,Nat.reduceLT,ne_eq,eq_self,List.length_cons,List.length_nil,c1]
    refine asks_T (ι:=Unit) (fun _=>.slice (some ⟨g,0,none⟩) (wl (VL ws / 2)).length cap) (fun _=>hX w g (wl (VL ws / 2)).length cap (wl (VL ws / 2))) (fun W hW hok hbs=>givesT_calls en_r02_trim (fun _=>hX_stab hg.2 hcs') ?_) fun _=>?_
    ·obtain ⟨o1,o2,o3⟩:=hok
     have o4:=o1.canon
     have o5:=rtrim_any _ _ _ _ W o1.sl
     rw [hv] at o4 o5
     exact o5.mono fun e w' ⟨h1,h2⟩=>⟨(),h1,by subst h2; exact ⟨rfl,rfl,rfl,Nat.le_refl _,fun _ _ _=>rfl⟩,by subst h2; exact ⟨o4,o2,o3⟩,fun b hb=>⟨.inl hb,by subst h2; have:=(hX_bs.1 hb).2; omega⟩⟩
    simp (disch:=omega) only [sxE,r02_half.E,Nat.reduceAdd,Nat.reduceEqDiff,Nat.reduceMul,Nat.reduceSub,Int.reduceAdd,Int.reduceSub,Int.reduceMul,Int.reduceNeg,Int.reduceLT,Int.reduceLE,Int.reduceEq,Int.reduceToNat,↓reduceIte,Int.reducePow,Nat.reduceLeDiff,Nat.reduceLT,ne_eq,eq_self,List.length_cons,List.length_nil]
end Go.Proofs.YtncmmbacoknefaaGreat

/- Hb: What a call of the reference's up gives; slices that are made. -/
namespace Go.Proofs.YtncmmbacoknefaaGreat
open Go Go.RowKit Sx
set_option linter.unusedVariables false
set_option linter.unusedSimpArgs false
theorem gen_mk {n:Nat} (hn:n≤4294967296) (W:World):∃ g cap W',(genRun (.mks 162) [.int .i64 (n:Int),.int .i64 (n:Int)]).run Tryz.prog W = .ok (.value (.slice (some ⟨g,0,none⟩) (List.replicate n (0:Int)).length cap)) W'∧OwnU W' W.heap.size (.slice (some ⟨g,0,none⟩) (List.replicate n (0:Int)).length cap) (List.replicate n 0)∧Below W.heap.size W W':=by
 obtain ⟨i0,hi,hz0,hz1,hz2⟩:=info_u
 obtain ⟨w1,hmk,hown,hg1⟩:=run_make_full (P:=Tryz.prog) W W.heap.size 162 34 i0 (.int .u64 0) 1 Tryz.underlying162 hi hz0 hz1 .i64 .i64 n (by rw [hz2]; omega) (by simp only [maxLen]; omega) (Nat.le_refl _)
 refine ⟨W.heap.size,n,w1,?_,?_,below_gt hg1⟩
 ·rw [List.length_replicate]
  show Sem.run _ (do pure (Next.value (← Instr.makeSlice _ _ _))) W = _
  rw [run_bind_ok hmk]
  rfl
 ·rw [List.length_replicate]
  exact OwnU.zeros hown
theorem asks_trim {C:Cx} {S:St} {K:St→Prop} {d:Option Nat} {L:List Kn} (L':List Kn) {g len cap:Nat} {ws:List Int} (hP:C.P = Tryz.prog) (hT:S.T = kX C.w0.heap.size L) (hm:.o (.slice (some ⟨g,0,none⟩) len cap) ws∈L)
  (hL:∀ k∈L',k = .o (.slice (some ⟨g,0,none⟩) (wl (VL ws)).length cap) (wl (VL ws))∨k∈L)
  (hk:K (St.put ⟨S.n,S.E,S.H,kX C.w0.heap.size L'⟩ d (.v (.slice (some ⟨g,0,none⟩) (wl (VL ws)).length cap)))):asks C 154 [.slice (some ⟨g,0,none⟩) len cap] d K S:=by
 refine asks_kn (ι:=Unit) (L:=L) (gs:=[]) (fun _=>.slice (some ⟨g,0,none⟩) (wl (VL ws)).length cap) (fun _=>L') (by rw [hP]; exact en_r02_trim) hT (fun g hg=>by cases hg) (fun _ _ g hg=>by cases hg) (fun W hW hok=>?_) fun _=>hk
 rw [hP]
 have ho:OwnU W C.w0.heap.size (.slice (some ⟨g,0,none⟩) len cap) ws:=hok _ hm
 refine (rtrim_any _ _ _ _ W ho.sl).mono fun e w' ⟨h1,h2⟩=>⟨(),h1,by subst h2; exact moves_below (Below.refl _ _),fun k hk=>?_⟩
 subst h2
 rcases hL k hk with rfl | hk
 ·exact .inr ⟨ho.canon,fun b hb=>.inl (by rw [hT]; exact kX_bs.2 ⟨_,hm,hb⟩)⟩
 ·exact .inl ⟨hk,fun b hb h=>by cases h⟩
theorem asks_trim_r {C:Cx} {S:St} {K:St→Prop} {d:Option Nat} {L:List Kn} (L':List Kn) {a:Option Addr} {len cap:Nat} {ws:List Int} (hP:C.P = Tryz.prog) (hT:S.T = kX C.w0.heap.size L) (hm:.r (.slice a len cap) ws∈L)
  (hL:∀ k∈L',k = .r (.slice a (wl (VL ws)).length cap) (wl (VL ws))∨k∈L)
  (hk:K (St.put ⟨S.n,S.E,S.H,kX C.w0.heap.size L'⟩ d (.v (.slice a (wl (VL ws)).length cap)))):asks C 154 [.slice a len cap] d K S:=by
 refine asks_kn (ι:=Unit) (L:=L) (gs:=[]) (fun _=>.slice a (wl (VL ws)).length cap) (fun _=>L') (by rw [hP]; exact en_r02_trim) hT (fun g hg=>by cases hg) (fun _ _ g hg=>by cases hg) (fun W hW hok=>?_) fun _=>hk
 rw [hP]
 have ho:SlF W C.w0.heap.size (.slice a len cap) ws:=hok _ hm
 refine (rtrim_any _ _ _ _ W ho.1).mono fun e w' ⟨h1,h2⟩=>⟨(),h1,by subst h2; exact moves_below (Below.refl _ _),fun k hk=>?_⟩
 subst h2
 rcases hL k hk with rfl | hk
 ·exact .inr ⟨ho.canon,fun b hb=>.inl (by
   rw [hT]
   refine kX_bs.2 ⟨_,hm,?_⟩
   cases a with
   | none=>cases hb
   | some a=>exact hb)⟩
 ·exact .inl ⟨hk,fun b hb h=>by cases h⟩
def upF (w:World) (a:Option Addr) (n len lo cap g cap':Nat) (x:Nat × List Int):St:=⟨0,[(0,.v (.slice a len cap)),(1,.v (.int .i64 (n:Int))),(5,.v (.slice (some ⟨g,0,none⟩) lo cap')),(6,.v (.int .i64 (x.1:Int)))],[],kX w.heap.size [.o (.slice (some ⟨g,0,none⟩) lo cap') x.2]⟩
set_option maxRecDepth 100000 in
theorem rup_any {a:Option Addr} {cap:Nat} {ws:List Int} {w:World} {n k s:Nat} (hn:n = 64 * k + s) (hs:s < 64) (hk:k≤1000) (hlen:ws.length≤1000) (h:SlU w (.slice a ws.length cap) ws) :
  Calls Tryz.prog 184 #[.slice a ws.length cap,.int .i64 (n:Int)] w fun e w'=>∃ g cap',e = .returned (.slice (some ⟨g,0,none⟩) (wl (VL ws * 2 ^ n)).length cap')∧OwnU w' w.heap.size (.slice (some ⟨g,0,none⟩) (wl (VL ws * 2 ^ n)).length cap') (wl (VL ws * 2 ^ n))∧Below w.heap.size w w':=by
 refine Calls.mono (enterX Tryz.func184 r02_up.ok (args:=[.slice a ws.length cap,.int .i64 (n:Int)]) (R:=fun v X=>∃ g cap',v = .slice (some ⟨g,0,none⟩) (wl (VL ws * 2 ^ n)).length cap'∧X = kX w.heap.size [.o (.slice (some ⟨g,0,none⟩) (wl (VL ws * 2 ^ n)).length cap') (wl (VL ws * 2 ^ n))]) (by simp) ?run) ?fin
 case fin =>
  rintro e w' ⟨v,Y,rfl,⟨g,cap',rfl,rfl⟩,hok,hb,-⟩
  exact ⟨g,cap',rfl,hok _ (List.mem_singleton.2 rfl),hb⟩
 case run =>
  have q1:(n:Int) / 64 = (k:Int):=by omega
  have q2:(n:Int) % 64 = (s:Int):=by omega
  obtain ⟨lo,hlo⟩:∃ lo,lo = ws.length + k + 1:=⟨_,rfl⟩
  have L1:(ws.length:Int) + (k:Int) + 1 = (lo:Int):=by omega
  have hst:=up_start ws k s
  rw [← hlo] at hst
  simp (disch:=omega) only [sxE,r02_up.E,Nat.reduceAdd,Nat.reduceEqDiff,Nat.reduceMul,Nat.reduceSub,Int.reduceAdd,Int.reduceSub,Int.reduceMul,Int.reduceNeg,Int.reduceLT,Int.reduceLE,Int.reduceEq,Int.reduceToNat,↓reduceIte,Int.reducePow,Nat.reduceLeDiff,Nat.reduceLT,ne_eq,eq_self,List.length_cons,List.length_nil,q1,q2,L1]
  refine genA_o (L:=[]) (ws:=List.replicate lo 0) (kX_nil _) (fun W hW _=>gen_mk (by omega) W) fun g cap' _=>?_
  rw [List.length_replicate]
  simp (disch:=omega) only [sxE,r02_up.E,Nat.reduceAdd,Nat.reduceEqDiff,Nat.reduceMul,Nat.reduceSub,Int.reduceAdd,Int.reduceSub,Int.reduceMul,Int.reduceNeg,Int.reduceLT,Int.reduceLE,Int.reduceEq,Int.reduceToNat,↓reduceIte,Int.reducePow,Nat.reduceLeDiff,Nat.reduceLT,ne_eq,eq_self,List.length_cons,List.length_nil,Int.ofNat_zero]
  rw [r02_up.p2_l]
  refine LX_inv (upF w a n ws.length lo cap g cap') (fun x=>x.1≤ws.length∧UpI ws x.2 k s x.1) (fun x=>ws.length - x.1) ?round (0,List.replicate lo 0) ⟨Nat.zero_le _,hst⟩ ?start
  case start =>
   simp (disch:=omega) only [sxE,r02_up.E,Nat.reduceAdd,Nat.reduceEqDiff,Nat.reduceMul,Nat.reduceSub,Int.reduceAdd,Int.reduceSub,Int.reduceMul,Int.reduceNeg,Int.reduceLT,Int.reduceLE,Int.reduceEq,Int.reduceToNat,↓reduceIte,Int.reducePow,Nat.reduceLeDiff,Nat.reduceLT,ne_eq,eq_self,List.length_cons,List.length_nil,upF,Int.ofNat_zero]
  case round =>
   rintro ⟨i,out⟩ ⟨hi,hI⟩
   dsimp only at hi hI ⊢
   have hol:=hI.len
   rcases Nat.lt_or_ge i ws.length with hil | hil
   ·have c1:(i:Int) < (ws.length:Int):=by omega
    have c2:(0:Int)≤(i:Int)∧(i:Int) < (ws.length:Int):=by omega
    have c3:(0:Int)≤((i + k:Nat):Int)∧((i + k:Nat):Int) < (lo:Int):=by omega
    have c4:(0:Int)≤((i + k + 1:Nat):Int)∧((i + k + 1:Nat):Int) < (lo:Int):=by omega
    have k1:(i:Int) + 1 = ((i + 1:Nat):Int):=by omega
    have k2:(i:Int) + (k:Int) = ((i + k:Nat):Int):=by omega
    have k3:((i + k:Nat):Int) + 1 = ((i + k + 1:Nat):Int):=by omega
    have hx:=h.ws.getD i
    obtain ⟨t,u,t1,t2,t3,u0,us,td,e⟩:=shl_word hx hs
    obtain ⟨e1,e2,e3,e4,e5⟩:=up_step hI hil hs t3 td u0 us e
    obtain ⟨b,off,rfl⟩:∃ b off,a = some ⟨b,off,none⟩:=by
     obtain ⟨a',cap2,e',hsh⟩:=h.shp
     cases e'
     exact hsh.some (by omega)
    unfold upF
    by_cases hs0:s = 0
    ·have hu:u = 0:=by rw [hs0,Int.pow_zero] at us; omega
     have hnn:¬ (0:Int) < (s:Int):=by omega
     have hl1:(out.set (i + k) (out.getD (i + k) 0 + t)).length = lo:=by rw [List.length_set]; omega
     have hset:=set_self_D (out.set (i + k) (out.getD (i + k) 0 + t)) (i + k + 1) (by omega)
     rw [e4] at hset
     rw [hu,hset] at e5
     repeat' (first | simp (disch:=omega) only [sxE,r02_up.E,Nat.reduceAdd,Nat.reduceEqDiff,Nat.reduceMul,Nat.reduceSub,Int.reduceAdd,Int.reduceSub,Int.reduceMul,Int.reduceNeg,Int.reduceLT,Int.reduceLE,Int.reduceEq,Int.reduceToNat,↓reduceIte,Int.reducePow,Nat.reduceLeDiff,Nat.reduceLT,ne_eq,eq_self,List.length_cons,List.length_nil,Nat.mul_one,Nat.zero_add,c1,c2,c3,k1,k2,q1,q2,t1,e1,hnn] | (refine ldP_w i rfl h hil ?_) | (refine ldP_o (i + k) rfl (List.mem_singleton.2 rfl) (by omega) ?_) | (refine stP_o [.o (.slice (some ⟨g,0,none⟩) lo cap') (out.set (i + k) (out.getD (i + k) 0 + t))] (i + k) rfl (List.mem_singleton.2 rfl) (by omega) e2 (fun k1 hk1=>.inl (List.mem_singleton.1 hk1)) ?_) | (with_reducible refine cregF ?_))
     exact ⟨(i + 1,_),⟨hil,e5⟩,by dsimp only; omega,rfl,.inl rfl⟩
    ·have hnn:(0:Int) < (s:Int):=by omega
     have k5:64 - (s:Int) = ((64 - s:Nat):Int):=by omega
     have hz:=(or_add 0 U64.zero e3 (by decide) ⟨u,by omega⟩).1
     rw [Int.zero_add] at hz
     have hl1:(out.set (i + k) (out.getD (i + k) 0 + t)).length = lo:=by rw [List.length_set]; omega
     repeat' (first | simp (disch:=omega) only [sxE,r02_up.E,Nat.reduceAdd,Nat.reduceEqDiff,Nat.reduceMul,Nat.reduceSub,Int.reduceAdd,Int.reduceSub,Int.reduceMul,Int.reduceNeg,Int.reduceLT,Int.reduceLE,Int.reduceEq,Int.reduceToNat,↓reduceIte,Int.reducePow,Nat.reduceLeDiff,Nat.reduceLT,ne_eq,eq_self,List.length_cons,List.length_nil,Nat.mul_one,Nat.zero_add,c1,c2,c3,c4,k1,k2,k3,k5,q1,q2,t1,t2,e1,e4,hz,hnn] | (refine ldP_w i rfl h hil ?_) | (refine ldP_o (i + k) rfl (List.mem_singleton.2 rfl) (by omega) ?_) | (refine ldP_o (i + k + 1) rfl (List.mem_singleton.2 rfl) (by omega) ?_) | (refine stP_o [.o (.slice (some ⟨g,0,none⟩) lo cap') (out.set (i + k) (out.getD (i + k) 0 + t))] (i + k) rfl (List.mem_singleton.2 rfl) (by omega) e2 (fun k1 hk1=>.inl (List.mem_singleton.1 hk1)) ?_) | (refine stP_o [.o (.slice (some ⟨g,0,none⟩) lo cap') ((out.set (i + k) (out.getD (i + k) 0 + t)).set (i + k + 1) u)] (i + k + 1) rfl (List.mem_singleton.2 rfl) (by omega) e3 (fun k1 hk1=>.inl (List.mem_singleton.1 hk1)) ?_) | (with_reducible refine cregF ?_))
     exact ⟨(i + 1,_),⟨hil,e5⟩,by dsimp only; omega,rfl,.inl rfl⟩
   ·have hie:i = ws.length:=by omega
    have c1:¬ (i:Int) < (ws.length:Int):=by omega
    have hv:VL out = VL ws * 2 ^ n:=by rw [hie] at hI; rw [up_end hI,hn]
    unfold upF
    simp (disch:=omega) only [sxE,r02_up.E,Nat.reduceAdd,Nat.reduceEqDiff,Nat.reduceMul,Nat.reduceSub,Int.reduceAdd,Int.reduceSub,Int.reduceMul,Int.reduceNeg,Int.reduceLT,Int.reduceLE,Int.reduceEq,Int.reduceToNat,↓reduceIte,Int.reducePow,Nat.reduceLeDiff,Nat.reduceLT,ne_eq,eq_self,List.length_cons,List.length_nil,c1]
    refine asks_trim (L:=[.o (.slice (some ⟨g,0,none⟩) lo cap') out]) [.o (.slice (some ⟨g,0,none⟩) (wl (VL out)).length cap') (wl (VL out))] rfl rfl (List.mem_singleton.2 rfl) (fun k hk=>.inl (List.mem_singleton.1 hk)) ?_
    rw [hv]
    simp (disch:=omega) only [sxE,r02_up.E,Nat.reduceAdd,Nat.reduceEqDiff,Nat.reduceMul,Nat.reduceSub,Int.reduceAdd,Int.reduceSub,Int.reduceMul,Int.reduceNeg,Int.reduceLT,Int.reduceLE,Int.reduceEq,Int.reduceToNat,↓reduceIte,Int.reducePow,Nat.reduceLeDiff,Nat.reduceLT,ne_eq,eq_self,List.length_cons,List.length_nil]
    exact ⟨g,cap',rfl,rfl⟩
end Go.Proofs.YtncmmbacoknefaaGreat

/- DvK: Plain facts for bits.Div64: two words by one. -/
namespace Go.Proofs.YtncmmbacoknefaaGreat
open Go
set_option linter.unusedVariables false
set_option linter.unusedSimpArgs false
structure KI (v1 v0 u1 u32 q r:Int):Prop where
 eq:q * v1 + r = u32
 ge:(u32 * 4294967296 + u1) / (v1 * 4294967296 + v0)≤q
 r0:0≤r
 rb:r < 4294967296
 q0:0≤q
 qb:q≤4294967297
structure KC (v1 v0 u1 u32:Int):Prop where
 a1:2147483648≤v1
 a2:v1 < 4294967296
 b1:0≤v0
 b2:v0 < 4294967296
 c1:0≤u1
 c2:u1 < 4294967296
 d1:0≤u32
 d2:u32 < v1 * 4294967296 + v0
section
variable {v1 v0 u1 u32 q r:Int}
theorem KC.vpos (h:KC v1 v0 u1 u32):0 < v1 * 4294967296 + v0:=by have:=h.a1; have:=h.b1; omega
theorem KC.qlt (h:KC v1 v0 u1 u32):(u32 * 4294967296 + u1) / (v1 * 4294967296 + v0) < 4294967296:=by
 refine Int.ediv_lt_of_lt_mul h.vpos ?_
 have:=h.d2; have:=h.c2
 omega
theorem KC.q0 (h:KC v1 v0 u1 u32):0≤(u32 * 4294967296 + u1) / (v1 * 4294967296 + v0):=Int.ediv_nonneg (by have:=h.d1; have:=h.c1; omega) (Int.le_of_lt h.vpos)
theorem KC.start (h:KC v1 v0 u1 u32):KI v1 v0 u1 u32 (u32 / v1) (u32 - u32 / v1 * v1):=by
 have hv:0 < v1:=by have:=h.a1; omega
 have e1:=Int.mul_ediv_add_emod u32 v1
 have e2:=Int.emod_nonneg u32 (Int.ne_of_gt hv)
 have e3:=Int.emod_lt_of_pos u32 hv
 have e4:u32 / v1 * v1 = v1 * (u32 / v1):=Int.mul_comm _ _
 have hQ:=Int.ediv_mul_le (u32 * 4294967296 + u1) (Int.ne_of_gt h.vpos)
 have hQ0:=h.q0
 have hQ1:=h.qlt
 generalize hQe:(u32 * 4294967296 + u1) / (v1 * 4294967296 + v0) = Q at *
 have d1:=h.d1
 refine ⟨by omega,?_,by omega,by have:=h.a2; omega,Int.ediv_nonneg d1 (Int.le_of_lt hv),?_⟩
 ·have m1:Q * (v1 * 4294967296 + v0) = (Q * v1) * 4294967296 + Q * v0:=by rw [Int.mul_add,Int.mul_assoc]
  have m2:0≤Q * v0:=Int.mul_nonneg hQ0 h.b1
  have m3:Q * v1≤u32:=by have:=h.c2; omega
  rw [hQe]
  exact (Int.le_ediv_iff_mul_le hv).2 m3
 ·have:u32 / v1 < 4294967298:=by
   refine Int.ediv_lt_of_lt_mul hv ?_
   have:=h.d2; have:=h.b2; have:=h.a1
   omega
  omega
theorem KI.more (h:KC v1 v0 u1 u32) (k:KI v1 v0 u1 u32 q r) (ht:4294967296≤q∨4294967296 * r + u1 < q * v0):(u32 * 4294967296 + u1) / (v1 * 4294967296 + v0)≤q - 1:=by
 have hQ1:=h.qlt
 rcases ht with ht | ht
 ·omega
 ·have:(u32 * 4294967296 + u1) / (v1 * 4294967296 + v0) < q:=by
   refine Int.ediv_lt_of_lt_mul h.vpos ?_
   have m1:q * (v1 * 4294967296 + v0) = (q * v1) * 4294967296 + q * v0:=by rw [Int.mul_add,Int.mul_assoc]
   have:=k.eq
   omega
  omega
theorem KC.is (h:KC v1 v0 u1 u32) (he:q * v1 + r = u32) (hge:(u32 * 4294967296 + u1) / (v1 * 4294967296 + v0)≤q) (ht:q * v0≤4294967296 * r + u1):q = (u32 * 4294967296 + u1) / (v1 * 4294967296 + v0):=by
 refine Int.le_antisymm ((Int.le_ediv_iff_mul_le h.vpos).2 ?_) hge
 have m1:q * (v1 * 4294967296 + v0) = (q * v1) * 4294967296 + q * v0:=by rw [Int.mul_add,Int.mul_assoc]
 omega
theorem KI.step (h:KC v1 v0 u1 u32) (k:KI v1 v0 u1 u32 q r) (ht:(u32 * 4294967296 + u1) / (v1 * 4294967296 + v0)≤q - 1):(r + v1 < 4294967296→KI v1 v0 u1 u32 (q - 1) (r + v1))∧(4294967296≤r + v1→q - 1 = (u32 * 4294967296 + u1) / (v1 * 4294967296 + v0)):=by
 have hQ0:=h.q0
 have e:(q - 1) * v1 + (r + v1) = u32:=by
  have:=k.eq
  rw [Int.sub_mul,Int.one_mul]
  omega
 refine ⟨fun hr=>⟨e,ht,by have:=k.r0; have:=h.a1; omega,hr,by omega,by have:=k.qb; omega⟩,fun hr=>?_⟩
 refine h.is e ht ?_
 have q0:0≤q - 1:=by omega
 have hlt:(q - 1) * v1 < 4294967296 * v1:=by have:=h.d2; have:=h.b2; omega
 have hq:q - 1 < 4294967296:=by
  by_cases hc:q - 1 < 4294967296
  ·exact hc
  ·have:4294967296 * v1≤(q - 1) * v1:=Int.mul_le_mul_of_nonneg_right (by omega) (by have:=h.a1; omega)
   omega
 have m2:(q - 1) * v0≤4294967296 * v0:=Int.mul_le_mul_of_nonneg_right (by omega) h.b1
 have:=h.b2
 have:=h.c1
 omega
theorem KC.rest (h:KC v1 v0 u1 u32):∃ R,(u32 * 4294967296 + u1) - (u32 * 4294967296 + u1) / (v1 * 4294967296 + v0) * (v1 * 4294967296 + v0) = R∧0≤R∧R < v1 * 4294967296 + v0∧R = (u32 * 4294967296 + u1) % (v1 * 4294967296 + v0):=by
 have e1:=Int.mul_ediv_add_emod (u32 * 4294967296 + u1) (v1 * 4294967296 + v0)
 have e2:=Int.emod_nonneg (u32 * 4294967296 + u1) (Int.ne_of_gt h.vpos)
 have e3:=Int.emod_lt_of_pos (u32 * 4294967296 + u1) h.vpos
 refine ⟨(u32 * 4294967296 + u1) % (v1 * 4294967296 + v0),?_,e2,e3,rfl⟩
 rw [Int.mul_comm ((u32 * 4294967296 + u1) / (v1 * 4294967296 + v0))]
 omega
end
theorem two_digits {V U u32 u1 u0:Int} (hV:0 < V) (hU:U = (u32 * 4294967296 + u1) * 4294967296 + u0) :
  U / V = (u32 * 4294967296 + u1) / V * 4294967296 + ((u32 * 4294967296 + u1) % V * 4294967296 + u0) / V∧U % V = ((u32 * 4294967296 + u1) % V * 4294967296 + u0) % V:=by
 have e1:=Int.mul_ediv_add_emod (u32 * 4294967296 + u1) V
 generalize (u32 * 4294967296 + u1) / V = Q at *
 generalize (u32 * 4294967296 + u1) % V = R at *
 have e2:U = (R * 4294967296 + u0) + V * (Q * 4294967296):=by
  rw [hU,← e1,Int.add_mul,Int.mul_assoc]; omega
 rw [e2]
 refine ⟨?_,?_⟩
 ·rw [Int.add_mul_ediv_left _ _ (Int.ne_of_gt hV)]; omega
 ·rw [Int.add_mul_emod_self_left]
theorem and_mask {x:Int} (h:U64 x):IntKind.u64.wrap ((BitVec.ofInt IntKind.u64.bits x &&& BitVec.ofInt IntKind.u64.bits 4294967295).toNat:Int) = x % 4294967296:=by
 have e1:=toNat_ofInt h
 have e2:(BitVec.ofInt IntKind.u64.bits 4294967295).toNat = 2 ^ 32 - 1:=by decide
 rw [BitVec.toNat_and,e1,e2,Nat.and_two_pow_sub_one_eq_mod]
 obtain ⟨n,rfl⟩:=Int.eq_ofNat_of_zero_le h.1
 rw [Int.toNat_natCast]
 have:(n % 2 ^ 32:Nat) < 4294967296:=Nat.mod_lt _ (by decide)
 rw [IntWalk.u64_in _ ⟨by omega,by omega⟩]
 omega
theorem norm_y {y:Int} (h:U64 y) (h0:y≠0):∃ s:Nat,s = 64 - Go.Lib.bitLen y.toNat∧s < 64∧Go.Lib.bitLen y.toNat≤64∧9223372036854775808≤y * 2 ^ s∧y * 2 ^ s < 18446744073709551616:=by
 obtain ⟨n,rfl⟩:=Int.eq_ofNat_of_zero_le h.1
 rw [Int.toNat_natCast]
 obtain ⟨b1,b2,b3⟩:=Go.Lib.bitLenAux_bounds 64 n (by have:=h.2; omega) (by omega)
 have e:Go.Lib.bitLen n = Go.Lib.bitLenAux 64 n:=rfl
 rw [e]
 generalize Go.Lib.bitLenAux 64 n = L at *
 have hL:L≤64:=by
  by_cases hL:L≤64
  ·exact hL
  ·have:2 ^ 64≤2 ^ (L - 1):=Nat.pow_le_pow_right (by decide) (by omega)
   have:=h.2
   omega
 have p1:(2:Nat) ^ (L - 1) * 2 ^ (64 - L) = 9223372036854775808:=by rw [← Nat.pow_add,show L - 1 + (64 - L) = 63 by omega]
 have p2:(2:Nat) ^ L * 2 ^ (64 - L) = 18446744073709551616:=by rw [← Nat.pow_add,show L + (64 - L) = 64 by omega]
 refine ⟨64 - L,rfl,by omega,hL,?_,?_⟩
 ·have:=Nat.mul_le_mul_right (2 ^ (64 - L)) b2
  rw [p1] at this
  have h:=Int.ofNat_le.2 this
  rw [Int.natCast_mul,Int.natCast_pow] at h
  exact h
 ·have:=Nat.mul_lt_mul_of_pos_right b3 (Nat.two_pow_pos (64 - L))
  rw [p2] at this
  have h:=Int.ofNat_lt.2 this
  rw [Int.natCast_mul,Int.natCast_pow] at h
  exact h
end Go.Proofs.YtncmmbacoknefaaGreat

/- Hc: What a call of bits.Div64 gives. -/
namespace Go.Proofs.YtncmmbacoknefaaGreat
open Go Go.RowKit Sx
set_option linter.unusedVariables false
set_option linter.unusedSimpArgs false
def d2F (V v1 v0 u0 Q1 u21:Int) (s:Nat) (x:Int × Int):St:=⟨0,[(2,.v (.int .u64 V)),(8,.v (.int .u64 (s:Int))),(9,.v (.int .u64 v1)),(10,.v (.int .u64 v0)),(14,.v (.int .u64 u0)),(15,.v (.int .u64 Q1)),(16,.v (.int .u64 x.2)),(17,.v (.int .u64 u21)),(18,.v (.int .u64 x.1))],[],ext0⟩
def d1F (V v1 v0 u32 u1 u0:Int) (s:Nat) (x:Int × Int):St:=⟨0,[(2,.v (.int .u64 V)),(8,.v (.int .u64 (s:Int))),(9,.v (.int .u64 v1)),(10,.v (.int .u64 v0)),(11,.v (.int .u64 u32)),(13,.v (.int .u64 u1)),(14,.v (.int .u64 u0)),(15,.v (.int .u64 x.1)),(16,.v (.int .u64 x.2))],[],ext0⟩
theorem mul_bnd {q v:Int} (h0:0≤q) (h1:q < 4294967296) (h2:0≤v) (h3:v < 4294967296):0≤q * v∧q * v≤18446744069414584320:=by
 refine ⟨Int.mul_nonneg h0 h2,?_⟩
 have:=Int.mul_le_mul_of_nonneg_right (show q≤4294967295 by omega) h2
 omega
theorem div64_two {V v1 v0 u0 Q1 u21:Int} {s:Nat} {w:World} {R:Value→Prop} (hV:V = v1 * 4294967296 + v0) (kc:KC v1 v0 u0 u21) (hQ:0≤Q1∧Q1 < 4294967296) (hs:s < 64)
  (hR:R (.tuple #[.int .u64 (Q1 * 4294967296 + (u21 * 4294967296 + u0) / V),.int .u64 (((u21 * 4294967296 + u0) % V).fdiv (2 ^ s))])) {q r:Int} (hI:KI v1 v0 u0 u21 q r) :
  math_bits_Div64.p2 (cx Tryz.prog w 135) (fin [(6,none),(7,none)] R) (d2F V v1 v0 u0 Q1 u21 s (q,r)):=by
 have hA1:=kc.a1
 have hA2:=kc.a2
 have hB1:=kc.b1
 have hB2:=kc.b2
 have hC1:=kc.c1
 have hC2:=kc.c2
 obtain ⟨rr,r1,r2,r3,r4⟩:=kc.rest
 rw [← hV] at r1 r3 r4
 have hq0:=kc.q0
 have hq1:=kc.qlt
 rw [← hV] at hq0 hq1
 have last:IntKind.u64.wrap (IntKind.u64.wrap (IntKind.u64.wrap (u21 * 4294967296) + u0) - IntKind.u64.wrap ((u21 * 4294967296 + u0) / V * V)) = rr:=by
  show (((u21 * 4294967296) % 18446744073709551616 + u0) % 18446744073709551616 - ((u21 * 4294967296 + u0) / V * V) % 18446744073709551616) % 18446744073709551616 = rr
  generalize (u21 * 4294967296 + u0) / V * V = z at *
  omega
 have last1:IntKind.u64.wrap (IntKind.u64.wrap (Q1 * 4294967296) + (u21 * 4294967296 + u0) / V) = Q1 * 4294967296 + (u21 * 4294967296 + u0) / V:=by
  show ((Q1 * 4294967296) % 18446744073709551616 + (u21 * 4294967296 + u0) / V) % 18446744073709551616 = _
  omega
 rw [← r4] at hR
 rw [math_bits_Div64.p2_l]
 refine LX_inv (d2F V v1 v0 u0 Q1 u21 s) (fun x=>KI v1 v0 u0 u21 x.1 x.2) (fun x=>x.1.toNat) ?round (q,r) hI ?start
 case start=>simp (disch:=omega) only [sxE,math_bits_Div64.E,Nat.reduceAdd,Nat.reduceEqDiff,Nat.reduceMul,Nat.reduceSub,Int.reduceAdd,Int.reduceSub,Int.reduceMul,Int.reduceNeg,Int.reduceLT,Int.reduceLE,Int.reduceEq,Int.reduceToNat,↓reduceIte,Int.reducePow,Nat.reduceLeDiff,Nat.reduceLT,ne_eq,eq_self,List.length_cons,List.length_nil,d2F]
 case round =>
  clear hI
  rintro ⟨q,r⟩ hI
  dsimp only at hI ⊢
  have g1:=hI.r0
  have g2:=hI.rb
  have g3:=hI.q0
  have g4:=hI.qb
  have more:4294967296≤q∨4294967296 * r + u0 < q * v0→(u21 * 4294967296 + u0) / V≤q - 1:=fun ht=>by have:=hI.more kc ht; rwa [← hV] at this
  have step:=hI.step kc
  rw [← hV] at step
  have done:¬ (4294967296≤q∨4294967296 * r + u0 < q * v0)→q = (u21 * 4294967296 + u0) / V:=fun ht=>by
   have:=kc.is hI.eq hI.ge (by omega)
   rwa [← hV] at this
  unfold d2F
  by_cases t1:4294967296≤q
  ·have hge:=more (.inl t1)
   obtain ⟨s1,s2⟩:=step hge
   by_cases t2:4294967296≤r + v1
   ·have e:=s2 t2
    repeat' (first | simp (disch:=omega) only [sxE,math_bits_Div64.E,Nat.reduceAdd,Nat.reduceEqDiff,Nat.reduceMul,Nat.reduceSub,Int.reduceAdd,Int.reduceSub,Int.reduceMul,Int.reduceNeg,Int.reduceLT,Int.reduceLE,Int.reduceEq,Int.reduceToNat,↓reduceIte,Int.reducePow,Nat.reduceLeDiff,Nat.reduceLT,ne_eq,eq_self,List.length_cons,List.length_nil,e,last,last1] | (with_reducible refine cregF ?_))
    exact hR
   ·repeat' (first | simp (disch:=omega) only [sxE,math_bits_Div64.E,Nat.reduceAdd,Nat.reduceEqDiff,Nat.reduceMul,Nat.reduceSub,Int.reduceAdd,Int.reduceSub,Int.reduceMul,Int.reduceNeg,Int.reduceLT,Int.reduceLE,Int.reduceEq,Int.reduceToNat,↓reduceIte,Int.reducePow,Nat.reduceLeDiff,Nat.reduceLT,ne_eq,eq_self,List.length_cons,List.length_nil] | (with_reducible refine cregF ?_))
    exact ⟨(q - 1,r + v1),s1 (by omega),by dsimp only; omega,rfl,rfl⟩
  ·obtain ⟨m1,m2⟩:=mul_bnd g3 (by omega) hB1 hB2
   generalize hz:q * v0 = z at *
   by_cases t3:4294967296 * r + u0 < z
   ·have hge:=more (.inr t3)
    obtain ⟨s1,s2⟩:=step hge
    by_cases t2:4294967296≤r + v1
    ·have e:=s2 t2
     repeat' (first | simp (disch:=omega) only [sxE,math_bits_Div64.E,Nat.reduceAdd,Nat.reduceEqDiff,Nat.reduceMul,Nat.reduceSub,Int.reduceAdd,Int.reduceSub,Int.reduceMul,Int.reduceNeg,Int.reduceLT,Int.reduceLE,Int.reduceEq,Int.reduceToNat,↓reduceIte,Int.reducePow,Nat.reduceLeDiff,Nat.reduceLT,ne_eq,eq_self,List.length_cons,List.length_nil,hz,e,last,last1] | (with_reducible refine cregF ?_))
     exact hR
    ·repeat' (first | simp (disch:=omega) only [sxE,math_bits_Div64.E,Nat.reduceAdd,Nat.reduceEqDiff,Nat.reduceMul,Nat.reduceSub,Int.reduceAdd,Int.reduceSub,Int.reduceMul,Int.reduceNeg,Int.reduceLT,Int.reduceLE,Int.reduceEq,Int.reduceToNat,↓reduceIte,Int.reducePow,Nat.reduceLeDiff,Nat.reduceLT,ne_eq,eq_self,List.length_cons,List.length_nil,hz] | (with_reducible refine cregF ?_))
     exact ⟨(q - 1,r + v1),s1 (by omega),by dsimp only; omega,rfl,rfl⟩
   ·have e:=done (by omega)
    repeat' (first | simp (disch:=omega) only [sxE,math_bits_Div64.E,Nat.reduceAdd,Nat.reduceEqDiff,Nat.reduceMul,Nat.reduceSub,Int.reduceAdd,Int.reduceSub,Int.reduceMul,Int.reduceNeg,Int.reduceLT,Int.reduceLE,Int.reduceEq,Int.reduceToNat,↓reduceIte,Int.reducePow,Nat.reduceLeDiff,Nat.reduceLT,ne_eq,eq_self,List.length_cons,List.length_nil,hz] | (with_reducible refine cregF ?_))
    rw [e]
    simp only [last,last1]
    exact hR
theorem div64_one {V v1 v0 u1 u0 u32:Int} {s:Nat} {w:World} {R:Value→Prop} (hV:V = v1 * 4294967296 + v0) (kc:KC v1 v0 u1 u32) (hu0:0≤u0∧u0 < 4294967296) (hs:s < 64)
  (hR:R (.tuple #[.int .u64 ((u32 * 4294967296 + u1) / V * 4294967296 + ((u32 * 4294967296 + u1) % V * 4294967296 + u0) / V),.int .u64 ((((u32 * 4294967296 + u1) % V * 4294967296 + u0) % V).fdiv (2 ^ s))])) {q r:Int} (hI:KI v1 v0 u1 u32 q r) :
  math_bits_Div64.p12 (cx Tryz.prog w 135) (fin [(6,none),(7,none)] R) (d1F V v1 v0 u32 u1 u0 s (q,r)):=by
 have hA1:=kc.a1
 have hA2:=kc.a2
 have hB1:=kc.b1
 have hB2:=kc.b2
 have hC1:=kc.c1
 have hC2:=kc.c2
 have hD1:=kc.d1
 have hD2:=kc.d2
 obtain ⟨rr,r1,r2,r3,r4⟩:=kc.rest
 rw [← hV] at r1 r3 r4
 have hq0:=kc.q0
 have hq1:=kc.qlt
 rw [← hV] at hq0 hq1
 rw [← r4] at hR
 have kc2:KC v1 v0 u0 rr:=⟨hA1,hA2,hB1,hB2,hu0.1,hu0.2,r2,by omega⟩
 have st2:=kc2.start
 have last:IntKind.u64.wrap (IntKind.u64.wrap (IntKind.u64.wrap (u32 * 4294967296) + u1) - IntKind.u64.wrap ((u32 * 4294967296 + u1) / V * V)) = rr:=by
  show (((u32 * 4294967296) % 18446744073709551616 + u1) % 18446744073709551616 - ((u32 * 4294967296 + u1) / V * V) % 18446744073709551616) % 18446744073709551616 = rr
  generalize (u32 * 4294967296 + u1) / V * V = z at *
  omega
 have dv0:v1≠0:=by omega
 have w1:IntKind.u64.wrap (rr / v1) = rr / v1:=s_wu _ (by have:=st2.q0; omega) (by have:=st2.qb; omega)
 have w2:IntKind.u64.wrap (rr / v1 * v1) = rr / v1 * v1:=s_wu _ (Int.mul_nonneg st2.q0 (by omega)) (by have:=st2.eq; have:=st2.r0; omega)
 have w3:IntKind.u64.wrap (rr - rr / v1 * v1) = rr - rr / v1 * v1:=s_wu _ st2.r0 (by have:=st2.rb; omega)
 have two:=div64_two (w:=w) (Q1:=(u32 * 4294967296 + u1) / V) hV kc2 ⟨hq0,hq1⟩ hs hR st2
 unfold d2F at two
 rw [math_bits_Div64.p12_l]
 refine LX_inv (d1F V v1 v0 u32 u1 u0 s) (fun x=>KI v1 v0 u1 u32 x.1 x.2) (fun x=>x.1.toNat) ?round (q,r) hI ?start
 case start=>simp (disch:=omega) only [sxE,math_bits_Div64.E,Nat.reduceAdd,Nat.reduceEqDiff,Nat.reduceMul,Nat.reduceSub,Int.reduceAdd,Int.reduceSub,Int.reduceMul,Int.reduceNeg,Int.reduceLT,Int.reduceLE,Int.reduceEq,Int.reduceToNat,↓reduceIte,Int.reducePow,Nat.reduceLeDiff,Nat.reduceLT,ne_eq,eq_self,List.length_cons,List.length_nil,d1F]
 case round =>
  clear hI
  rintro ⟨q,r⟩ hI
  dsimp only at hI ⊢
  have g1:=hI.r0
  have g2:=hI.rb
  have g3:=hI.q0
  have g4:=hI.qb
  have more:4294967296≤q∨4294967296 * r + u1 < q * v0→(u32 * 4294967296 + u1) / V≤q - 1:=fun ht=>by have:=hI.more kc ht; rwa [← hV] at this
  have step:=hI.step kc
  rw [← hV] at step
  have done:¬ (4294967296≤q∨4294967296 * r + u1 < q * v0)→q = (u32 * 4294967296 + u1) / V:=fun ht=>by
   have:=kc.is hI.eq hI.ge (by omega)
   rwa [← hV] at this
  unfold d1F
  by_cases t1:4294967296≤q
  ·have hge:=more (.inl t1)
   obtain ⟨s1,s2⟩:=step hge
   by_cases t2:4294967296≤r + v1
   ·have e:=s2 t2
    repeat' (first | simp (disch:=omega) only [sxE,math_bits_Div64.E,Nat.reduceAdd,Nat.reduceEqDiff,Nat.reduceMul,Nat.reduceSub,Int.reduceAdd,Int.reduceSub,Int.reduceMul,Int.reduceNeg,Int.reduceLT,Int.reduceLE,Int.reduceEq,Int.reduceToNat,↓reduceIte,Int.reducePow,Nat.reduceLeDiff,Nat.reduceLT,ne_eq,eq_self,List.length_cons,List.length_nil,e,last,dv0,w1,w2,w3] | (with_reducible refine cregF ?_))
    exact two
   ·repeat' (first | simp (disch:=omega) only [sxE,math_bits_Div64.E,Nat.reduceAdd,Nat.reduceEqDiff,Nat.reduceMul,Nat.reduceSub,Int.reduceAdd,Int.reduceSub,Int.reduceMul,Int.reduceNeg,Int.reduceLT,Int.reduceLE,Int.reduceEq,Int.reduceToNat,↓reduceIte,Int.reducePow,Nat.reduceLeDiff,Nat.reduceLT,ne_eq,eq_self,List.length_cons,List.length_nil] | (with_reducible refine cregF ?_))
    exact ⟨(q - 1,r + v1),s1 (by omega),by dsimp only; omega,rfl,rfl⟩
  ·obtain ⟨m1,m2⟩:=mul_bnd g3 (by omega) hB1 hB2
   generalize hz:q * v0 = z at *
   by_cases t3:4294967296 * r + u1 < z
   ·have hge:=more (.inr t3)
    obtain ⟨s1,s2⟩:=step hge
    by_cases t2:4294967296≤r + v1
    ·have e:=s2 t2
     repeat' (first | simp (disch:=omega) only [sxE,math_bits_Div64.E,Nat.reduceAdd,Nat.reduceEqDiff,Nat.reduceMul,Nat.reduceSub,Int.reduceAdd,Int.reduceSub,Int.reduceMul,Int.reduceNeg,Int.reduceLT,Int.reduceLE,Int.reduceEq,Int.reduceToNat,↓reduceIte,Int.reducePow,Nat.reduceLeDiff,Nat.reduceLT,ne_eq,eq_self,List.length_cons,List.length_nil,hz,e,last,dv0,w1,w2,w3] | (with_reducible refine cregF ?_))
     exact two
    ·repeat' (first | simp (disch:=omega) only [sxE,math_bits_Div64.E,Nat.reduceAdd,Nat.reduceEqDiff,Nat.reduceMul,Nat.reduceSub,Int.reduceAdd,Int.reduceSub,Int.reduceMul,Int.reduceNeg,Int.reduceLT,Int.reduceLE,Int.reduceEq,Int.reduceToNat,↓reduceIte,Int.reducePow,Nat.reduceLeDiff,Nat.reduceLT,ne_eq,eq_self,List.length_cons,List.length_nil,hz] | (with_reducible refine cregF ?_))
     exact ⟨(q - 1,r + v1),s1 (by omega),by dsimp only; omega,rfl,rfl⟩
   ·have e:=done (by omega)
    subst e
    repeat' (first | simp (disch:=omega) only [sxE,math_bits_Div64.E,Nat.reduceAdd,Nat.reduceEqDiff,Nat.reduceMul,Nat.reduceSub,Int.reduceAdd,Int.reduceSub,Int.reduceMul,Int.reduceNeg,Int.reduceLT,Int.reduceLE,Int.reduceEq,Int.reduceToNat,↓reduceIte,Int.reducePow,Nat.reduceLeDiff,Nat.reduceLT,ne_eq,eq_self,List.length_cons,List.length_nil,hz,last,dv0,w1,w2,w3] | (with_reducible refine cregF ?_))
    exact two
theorem en_div64 (l:Array Value) (W:World):(callFunc 182 l).run Tryz.prog W = .ok (.enter 182 l) W:=Sx.en_of Tryz.func182 (by kernel_rfl) (by kernel_rfl) l W
theorem g_lz64 {x:Int} (h:U64 x) (W:World):Gives Tryz.prog 196 [.int .u64 x] W (· = .int .i64 (64 - (Go.Lib.bitLen x.toNat:Int))) :=
 gives_known (Sx.en_of Tryz.func196 (by kernel_rfl) (by kernel_rfl)) ((Tryz.bits_LeadingZeros64 x W h.1 h.2).mono fun _ _ ⟨h1,h2⟩=>⟨h1,by subst h2; exact Below.refl _ _⟩)
set_option maxRecDepth 100000 in
theorem g_div64 {hi lo y:Int} (hh:U64 hi) (hl:U64 lo) (hy:U64 y) (hlt:hi < y) (W:World):Gives Tryz.prog 182 [.int .u64 hi,.int .u64 lo,.int .u64 y] W (· = .tuple #[.int .u64 ((hi * 18446744073709551616 + lo) / y),.int .u64 ((hi * 18446744073709551616 + lo) % y)]):=by
 refine gives_known en_div64 ?_
 obtain ⟨hh0,hh1⟩:=id hh
 obtain ⟨hl0,hl1⟩:=id hl
 obtain ⟨hy0,hy1⟩:=id hy
 have hyp:0 < y:=by omega
 by_cases h0:hi = 0
 ·have d0:0≤lo / y:=Int.ediv_nonneg hl0 (by omega)
  have d1:lo / y≤lo:=Int.ediv_le_self y hl0
  have dn:y≠0:=by omega
  subst h0
  rw [Int.zero_mul,Int.zero_add]
  refine known_of (enter Tryz.func182 math_bits_Div64.ok (args:=[.int .u64 0,.int .u64 lo,.int .u64 y]) (by simp) ?_)
  repeat' (first | simp (disch:=omega) only [sxE,math_bits_Div64.E,Nat.reduceAdd,Nat.reduceEqDiff,Nat.reduceMul,Nat.reduceSub,Int.reduceAdd,Int.reduceSub,Int.reduceMul,Int.reduceNeg,Int.reduceLT,Int.reduceLE,Int.reduceEq,Int.reduceToNat,↓reduceIte,Int.reducePow,Nat.reduceLeDiff,Nat.reduceLT,ne_eq,eq_self,List.length_cons,List.length_nil,dn] | (with_reducible refine cregF ?_))
 ·obtain ⟨s,hs1,hs,hL,hv1,hv2⟩:=norm_y hy (by omega)
  have hs2:IntKind.u64.wrap (64 - (Go.Lib.bitLen y.toNat:Int)) = (s:Int):=by rw [s_wu _ (by omega) (by omega)]; omega
  have hs3:64 - (s:Int) = ((64 - s:Nat):Int):=by omega
  obtain ⟨t,u,t1,t2,t3,u0,us,td,e⟩:=shl_word hl hs
  have p0:(0:Int) < 2 ^ s:=Int.pow_pos (by decide)
  have hV:IntKind.u64.wrap (y * 2 ^ s) = y * 2 ^ s:=s_wu _ (by omega) (by omega)
  have hle:(hi + 1) * 2 ^ s≤y * 2 ^ s:=Int.mul_le_mul_of_nonneg_right (by omega) (Int.le_of_lt p0)
  rw [Int.add_mul,Int.one_mul] at hle
  have hhp:0≤hi * 2 ^ s:=Int.mul_nonneg hh0 (Int.le_of_lt p0)
  have hH:IntKind.u64.wrap (hi * 2 ^ s) = hi * 2 ^ s:=s_wu _ hhp (by omega)
  obtain ⟨o1,o2,o3⟩:=or_add s ⟨u0,by omega⟩ ⟨hhp,by omega⟩ us ⟨hi,Int.mul_comm _ _⟩
  have hU:(hi * 18446744073709551616 + lo) * 2 ^ s = ((u + hi * 2 ^ s) * 4294967296 + t / 4294967296) * 4294967296 + t % 4294967296:=by
   rw [Int.add_mul,e,show hi * 18446744073709551616 * 2 ^ s = 18446744073709551616 * (hi * 2 ^ s) by rw [Int.mul_right_comm,Int.mul_comm]]
   generalize hi * 2 ^ s = H at *
   omega
  have hVp:0 < y * 2 ^ s:=by omega
  obtain ⟨f1,f2⟩:=two_digits hVp hU
  rw [Int.mul_ediv_mul_of_pos_left _ _ p0] at f1
  have f0:((hi * 18446744073709551616 + lo) * 2 ^ s) % (y * 2 ^ s) = ((hi * 18446744073709551616 + lo) % y) * 2 ^ s:=by
   rw [Int.mul_comm _ (2 ^ s),Int.mul_comm y,Int.mul_emod_mul_of_pos _ _ p0,Int.mul_comm]
  rw [f0] at f2
  have f3:(((hi * 18446744073709551616 + lo) % y) * 2 ^ s).fdiv (2 ^ s) = (hi * 18446744073709551616 + lo) % y:=by
   rw [Int.fdiv_eq_ediv_of_nonneg _ (Int.le_of_lt p0),Int.mul_ediv_cancel _ (Int.ne_of_gt p0)]
  have hVs:y * 2 ^ s = (y * 2 ^ s) / 4294967296 * 4294967296 + (y * 2 ^ s) % 4294967296:=by omega
  have kc:KC ((y * 2 ^ s) / 4294967296) ((y * 2 ^ s) % 4294967296) (t / 4294967296) (u + hi * 2 ^ s):=by
   obtain ⟨t30,t31⟩:=t3
   generalize y * 2 ^ s = V at *
   generalize hi * 2 ^ s = H at *
   exact ⟨by omega,by omega,by omega,by omega,by omega,by omega,by omega,by omega⟩
  have st:=kc.start
  have w1:IntKind.u64.wrap ((u + hi * 2 ^ s) / ((y * 2 ^ s) / 4294967296)) = (u + hi * 2 ^ s) / ((y * 2 ^ s) / 4294967296):=s_wu _ (by have:=st.q0; omega) (by have:=st.qb; omega)
  have w2:IntKind.u64.wrap ((u + hi * 2 ^ s) / ((y * 2 ^ s) / 4294967296) * ((y * 2 ^ s) / 4294967296)) = (u + hi * 2 ^ s) / ((y * 2 ^ s) / 4294967296) * ((y * 2 ^ s) / 4294967296):=s_wu _ (Int.mul_nonneg st.q0 (by have:=kc.a1; omega)) (by have:=st.eq; have:=st.r0; have:=o3.2; omega)
  have w3:IntKind.u64.wrap ((u + hi * 2 ^ s) - (u + hi * 2 ^ s) / ((y * 2 ^ s) / 4294967296) * ((y * 2 ^ s) / 4294967296)) = (u + hi * 2 ^ s) - (u + hi * 2 ^ s) / ((y * 2 ^ s) / 4294967296) * ((y * 2 ^ s) / 4294967296):=s_wu _ st.r0 (by have:=st.rb; omega)
  have dv0:(y * 2 ^ s) / 4294967296≠0:=by have:=kc.a1; omega
  have one:=div64_one (w:=W) (R:=fun v=>v = .tuple #[.int .u64 ((hi * 18446744073709551616 + lo) / y),.int .u64 ((hi * 18446744073709551616 + lo) % y)]) hVs kc (u0:=t % 4294967296) ⟨by omega,by omega⟩ hs (by rw [← f1,← f2,f3]) st
  have am1:=and_mask (x:=y * 2 ^ s) ⟨by omega,by omega⟩
  have am2:=and_mask t3
  have fd1:(y * 2 ^ s).fdiv 4294967296 = (y * 2 ^ s) / 4294967296:=Int.fdiv_eq_ediv_of_nonneg _ (by decide)
  have fd2:t.fdiv 4294967296 = t / 4294967296:=Int.fdiv_eq_ediv_of_nonneg _ (by decide)
  have hun:0≤u + hi * 2 ^ s:=o3.1
  have o1':=o1
  unfold d1F at one
  dsimp only at one
  clear f1 f2 f3 hU hL hs1
  refine known_of (enter Tryz.func182 math_bits_Div64.ok (args:=[.int .u64 hi,.int .u64 lo,.int .u64 y]) (by simp) ?_)
  repeat' (first | simp (disch:=omega) only [sxE,math_bits_Div64.E,Nat.reduceAdd,Nat.reduceEqDiff,Nat.reduceMul,Nat.reduceSub,Int.reduceAdd,Int.reduceSub,Int.reduceMul,Int.reduceNeg,Int.reduceLT,Int.reduceLE,Int.reduceEq,Int.reduceToNat,↓reduceIte,Int.reducePow,Nat.reduceLeDiff,Nat.reduceLT,ne_eq,eq_self,List.length_cons,List.length_nil,hs2,hs3,hV,hH,t1,t2,o2,am1,am2,fd1,fd2,dv0,w1,w2,w3] | (with_reducible refine Sx.call_at (f:=196) (fun W hW=>g_lz64 hy W) ?_) | (with_reducible refine cregF ?_))
  exact one
end Go.Proofs.YtncmmbacoknefaaGreat

/- Hd: What a call of the reference's divmod gives. -/
namespace Go.Proofs.YtncmmbacoknefaaGreat
open Go Go.RowKit Sx
set_option linter.unusedVariables false
set_option linter.unusedSimpArgs false
theorem gen_one {r:Int} (hr:U64 r) (W:World):∃ g cap W',(genRun (.bsl 162 1 [0]) [.int .u64 r]).run Tryz.prog W = .ok (.value (.slice (some ⟨g,0,none⟩) [r].length cap)) W'∧OwnU W' W.heap.size (.slice (some ⟨g,0,none⟩) [r].length cap) [r]∧Below W.heap.size W W' :=
 ⟨W.heap.size,1,W.alloc (.cells #[.int .u64 r] 34 (0,0)),by kernel_rfl,OwnU.lit W [r] (Ws.one hr) 34 rfl (show 1≤maxLen by decide),(Below.refl _ _).alloc (Nat.le_refl _) _⟩
theorem gen_none (W:World):∃ g cap W',(genRun (.bsl 162 0 []) []).run Tryz.prog W = .ok (.value (.slice (some ⟨g,0,none⟩) ([]:List Int).length cap)) W'∧OwnU W' W.heap.size (.slice (some ⟨g,0,none⟩) ([]:List Int).length cap) []∧Below W.heap.size W W' :=
 ⟨W.heap.size,0,W.alloc (.cells #[] 34 (0,0)),by kernel_rfl,OwnU.lit W [] Ws.nil 34 rfl (by decide),(Below.refl _ _).alloc (Nat.le_refl _) _⟩
theorem genA_app {C:Cx} {S:St} {K:St→Prop} {d:Option Nat} {L L0:List Kn} {t2:TypeId} {g cap:Nat} {src:Value} {ms:List Int} (hP:C.P = Tryz.prog) (ht2:∃ e2,Tryz.prog.underlying t2 = some (.slice e2)) (hT:S.T = kX C.w0.heap.size L) (hm:.o (.slice (some ⟨g,0,none⟩) 0 cap) []∈L)
  (hC:C.fr = none) (hL:∀ k∈L0,k∈L∧g ∉ k.bs) (hsrc:∀ W,Below C.w0.heap.size C.w0 W→(∀ k∈L,k.ok C.w0.heap.size W)→SlU W src ms) (hlen:ms.length≤1000000)
  (hk:∀ a c,Shp a ms.length c→(∀ b∈rbs (.slice a ms.length c),b = g∨b ∉ S.T.bs)→K (St.put ⟨S.n,S.E,S.H,kX C.w0.heap.size (.r (.slice a ms.length c) ms :: L0)⟩ d (.v (.slice a ms.length c)))) :
  genA C (.bi .append [162,t2] 162 [false,false]) [.slice (some ⟨g,0,none⟩) 0 cap,src] d K S:=by
 obtain ⟨e2,ht2⟩:=ht2
 obtain ⟨i0,hi,hz0,hz1,hz2⟩:=info_u
 refine genA_T (ι:={x:Option Addr × Nat // Shp x.1 ms.length x.2∧∀ b∈rbs (.slice x.1 ms.length x.2),b = g∨b ∉ S.T.bs}) (fun x=>.slice x.1.1 ms.length x.1.2) (fun x=>kX C.w0.heap.size (.r (.slice x.1.1 ms.length x.1.2) ms :: L0)) (fun W hW hok hbs=>⟨?_⟩) (fun x=>hk _ _ x.2.1 x.2.2)
 rw [hT] at hok
 have ho:OwnU W C.w0.heap.size (.slice (some ⟨g,0,none⟩) 0 cap) []:=hok _ hm
 obtain ⟨v',w',hrun,hown,hg,hat⟩:=run_append_u (P:=Tryz.prog) (ty:=162) W C.w0.heap.size Tryz.underlying162 ht2 hi hz0 hz1 hz2 ho (hsrc W hW hok) (by simp; omega) hW.size
 rw [List.nil_append] at hown
 obtain ⟨a,c,rfl,hs⟩:=hown.sl.shp
 have hr:(Kn.r (.slice a ms.length c) ms).ok C.w0.heap.size w':=⟨hown.sl,hown.fr (Nat.le_refl _)⟩
 have hb':∀ b∈rbs (.slice a ms.length c),b = g∨b = W.heap.size:=fun b hb=>by
  cases a with
  | none=>cases hb
  | some a =>
   have hb2:b∈(if c = 0 then [] else [a.block]):=hb
   have:b = a.block:=by split at hb2; cases hb2; exact List.mem_singleton.1 hb2
   subst this
   rcases hat with h | h
   ·left; exact Option.some.inj h
   ·right; exact Option.some.inj h
 have he:(genRun (.bi .append [162,t2] 162 [false,false]) [.slice (some ⟨g,0,none⟩) 0 cap,src]).run Tryz.prog W = .ok (.value (.slice a ms.length c)) w':=by
  show Sem.run _ (builtin .append [_,_].toArray _ [false,false].toArray [_,_].toArray) W = _
  unfold builtin
  rw [run_bind_ok hrun]
  rfl
 rw [hP,he]
 have hgb:g∈(kX C.w0.heap.size L).bs:=kX_bs.2 ⟨_,hm,List.mem_singleton.2 rfl⟩
 refine ⟨⟨(a,c),hs,fun b hb=>?_⟩,rfl,?_,?_,kX_stab C _,?_⟩
 ·rcases hb' b hb with h | h
  ·exact .inl h
  ·right; intro hT2; have:=(hbs b hT2).2; omega
 ·rw [mv_none hC,hT]
  exact ⟨hg.os,hg.tape,hg.output,hg.size,fun j hj hn=>hg.block j hj fun e=>hn (by cases e; exact hgb)⟩
 ·intro k hk
  rcases List.mem_cons.1 hk with rfl | hk
  ·exact hr
  ·obtain ⟨h1,h2⟩:=hL k hk
   exact (hok k h1).keep hg.size (fun b hb=>hg.block b ((hok k h1).lt b hb).2 fun e=>h2 (by cases e; exact hb)) fun b hbn hbl=>hg.block b hbl fun e=>by
    have:=(Kn.ok.lt (k:=.o (.slice (some ⟨g,0,none⟩) 0 cap) []) ho g (List.mem_singleton.2 rfl)).1
    have e2:b = g:=Option.some.inj e
    omega
 ·intro b hb
  rw [hT]
  obtain ⟨k,hk,hb⟩:=kX_bs.1 hb
  rcases List.mem_cons.1 hk with rfl | hk
  ·refine ⟨?_,(hr.lt b hb).2⟩
   rcases hb' b hb with h | h
   ·left; rw [h]; exact hgb
   ·right; omega
  ·exact ⟨.inl (kX_bs.2 ⟨k,(hL k hk).1,hb⟩),Nat.lt_of_lt_of_le ((hok k (hL k hk).1).lt b hb).2 hg.size⟩
theorem asks_half {C:Cx} {S:St} {K:St→Prop} {d:Option Nat} {L:List Kn} (L':List Kn) {g len cap:Nat} {ws:List Int} (hP:C.P = Tryz.prog) (hC:C.fr = none) (hT:S.T = kX C.w0.heap.size L) (hm:.o (.slice (some ⟨g,0,none⟩) len cap) ws∈L) (hlen:len≤1000000)
  (hL:∀ k∈L',k = .o (.slice (some ⟨g,0,none⟩) (wl (VL ws / 2)).length cap) (wl (VL ws / 2))∨(k∈L∧g ∉ k.bs))
  (hk:K (St.put ⟨S.n,S.E,S.H,kX C.w0.heap.size L'⟩ d (.v (.slice (some ⟨g,0,none⟩) (wl (VL ws / 2)).length cap)))):asks C 185 [.slice (some ⟨g,0,none⟩) len cap] d K S:=by
 refine asks_kn (ι:=Unit) (L:=L) (gs:=[g]) (fun _=>.slice (some ⟨g,0,none⟩) (wl (VL ws / 2)).length cap) (fun _=>L') (by rw [hP]; exact en_r02_half) hT (fun b hb=>by rw [List.mem_singleton.1 hb,mv_none hC,hT]; exact kX_bs.2 ⟨_,hm,List.mem_singleton.2 rfl⟩) (fun W hok b hb=>by rw [List.mem_singleton.1 hb]; exact (Kn.ok.lt (k:=.o (.slice (some ⟨g,0,none⟩) len cap) ws) (hok _ hm) g (List.mem_singleton.2 rfl)).1) (fun W hW hok=>?_) fun _=>hk
 rw [hP]
 have ho:OwnU W C.w0.heap.size (.slice (some ⟨g,0,none⟩) len cap) ws:=hok _ hm
 refine (rhalf_any hlen ho).mono fun e w' ⟨h1,h2,h3⟩=>⟨(),h1,h3,fun k hk=>?_⟩
 rcases hL k hk with rfl | ⟨hk,hg⟩
 ·exact .inr ⟨h2,fun b hb=>.inl (by rw [hT]; exact kX_bs.2 ⟨_,hm,hb⟩)⟩
 ·exact .inl ⟨hk,fun b hb h=>hg (by rw [← List.mem_singleton.1 h]; exact hb)⟩
theorem pw4b {z:Int} (h:A4 z):(wl z).length≤4:=(wl_len_lt h.1 4).2 (by rw [pw4]; exact h.2)
theorem SlU.nil (W:World):SlU W (.slice none 0 0) []:=⟨none,0,0,rfl,rfl,Nat.le_refl _,by decide,Ws.nil,fun h=>by omega⟩
theorem SlF.nil (W:World) (n:Nat):SlF W n (.slice none 0 0) []:=⟨SlU.nil W,fun b off e=>by cases e⟩
theorem wl_one {y:Int} (h:0≤y) (hl:(wl y).length = 1):wl y = [y]∧U64 y:=by
 have hp:0 < y:=by
  rcases Int.lt_or_eq_of_le h with h | h
  ·exact h
  ·subst h; rw [wl_nil (Int.le_refl _)] at hl; cases hl
 have hlt:=(wl_len_lt h 1).1 (by omega)
 have h1:y < 18446744073709551616:=hlt
 rw [wl_cons hp,wl_nil (by omega),Int.emod_eq_of_lt h h1]
 exact ⟨rfl,h,by omega⟩
def DmR (n:Nat) (x y:Int) (v:Value) (X:Ext):Prop:=∃ u1 u2,v = .tuple #[u1,u2]∧∀ W,X.ok W→SlF W n u1 (wl (x / y))∧SlF W n u2 (wl (x % y))
def dm1F (w:World) (a b:Option Addr) (lx cx' ly cy' g cap:Nat) (x:Nat × List Int × Int):St:=⟨0,[(0,.v (.slice a lx cx')),(1,.v (.slice b ly cy')),(6,.v (.slice (some ⟨g,0,none⟩) lx cap)),(7,.v (.int .u64 x.2.2)),(8,.v (.int .i64 ((x.1:Int) - 1)))],[],kX w.heap.size [.o (.slice (some ⟨g,0,none⟩) lx cap) x.2.1]⟩
set_option maxRecDepth 100000 in
theorem rdivmod_one {a b:Option Addr} {cx' cy':Nat} {x y:Int} {w:World} (hx:A4 x) (hy:0 < y) (hly:(wl y).length = 1) (h:SlU w (.slice a (wl x).length cx') (wl x)) (h':SlU w (.slice b (wl y).length cy') (wl y)) :
  Calls Tryz.prog 157 #[.slice a (wl x).length cx',.slice b (wl y).length cy'] w fun e w'=>∃ v Y,e = .returned v∧DmR w.heap.size x y v Y∧Y.ok w'∧Below w.heap.size w w'∧∀ b∈Y.bs,w.heap.size≤b∧b < w'.heap.size:=by
 refine enterX Tryz.func157 r02_divmod.ok (args:=[.slice a (wl x).length cx',.slice b (wl y).length cy']) (R:=DmR w.heap.size x y) (by simp) ?_
 obtain ⟨e1,hu⟩:=wl_one (Int.le_of_lt hy) hly
 have hb:∃ b' off,b = some ⟨b',off,none⟩:=by
  obtain ⟨a',c',e,hs⟩:=h'.shp
  cases e
  exact hs.some (by omega)
 obtain ⟨b',off',rfl⟩:=hb
 rw [e1] at h' ⊢
 have h'1:SlU w (.slice (some ⟨b',off',none⟩) 1 cy') [y]:=h'
 have hl4:=pw4b hx
 have hst:=d1_start (wl x) hy
 have hwx:=wl_words x
 have hvx:=VL_wl hx.1
 obtain ⟨lx,hlx⟩:∃ lx,lx = (wl x).length:=⟨_,rfl⟩
 rw [← hlx] at h hst hl4 ⊢
 have c0:((1:Nat):Int) == 1:=rfl
 simp (disch:=omega) only [sxE,r02_divmod.E,Nat.reduceAdd,Nat.reduceEqDiff,Nat.reduceMul,Nat.reduceSub,Int.reduceAdd,Int.reduceSub,Int.reduceMul,Int.reduceNeg,Int.reduceLT,Int.reduceLE,Int.reduceEq,Int.reduceToNat,↓reduceIte,Int.reducePow,Nat.reduceLeDiff,Nat.reduceLT,ne_eq,eq_self,List.length_cons,List.length_nil]
 refine genA_o (L:=[]) (ws:=List.replicate lx 0) (kX_nil _) (fun W hW _=>gen_mk (by omega) W) fun g cap' _=>?_
 rw [List.length_replicate]
 simp (disch:=omega) only [sxE,r02_divmod.E,Nat.reduceAdd,Nat.reduceEqDiff,Nat.reduceMul,Nat.reduceSub,Int.reduceAdd,Int.reduceSub,Int.reduceMul,Int.reduceNeg,Int.reduceLT,Int.reduceLE,Int.reduceEq,Int.reduceToNat,↓reduceIte,Int.reducePow,Nat.reduceLeDiff,Nat.reduceLT,ne_eq,eq_self,List.length_cons,List.length_nil,Int.ofNat_one,beq_self_eq_true]
 rw [r02_divmod.p20_l]
 refine LX_inv (dm1F w a (some ⟨b',off',none⟩) lx cx' 1 cy' g cap') (fun q=>q.1≤lx∧D1I (wl x) q.2.1 y q.2.2 q.1) (fun q=>q.1) ?round (lx,List.replicate lx 0,0) ⟨Nat.le_refl _,hst⟩ ?start
 case start=>simp (disch:=omega) only [sxE,r02_divmod.E,Nat.reduceAdd,Nat.reduceEqDiff,Nat.reduceMul,Nat.reduceSub,Int.reduceAdd,Int.reduceSub,Int.reduceMul,Int.reduceNeg,Int.reduceLT,Int.reduceLE,Int.reduceEq,Int.reduceToNat,↓reduceIte,Int.reducePow,Nat.reduceLeDiff,Nat.reduceLT,ne_eq,eq_self,List.length_cons,List.length_nil,dm1F]
 case round =>
  rintro ⟨i,qs,r⟩ ⟨hi,hI⟩
  dsimp only at hi hI ⊢
  have hql:=hI.len
  rw [← hlx] at hql
  have hru:U64 r:=⟨hI.r0,by have:=hI.rl; have:=hu.2; omega⟩
  unfold dm1F
  rcases i with _ | m
  ·obtain ⟨d1,d2⟩:=d1_end hI hy
   rw [hvx] at d1 d2
   have hr1:VL [r] = r:=by show r + 18446744073709551616 * 0 = r; omega
   have c1:¬ (0:Int)≤((0:Nat):Int) - 1:=by omega
   simp (disch:=omega) only [sxE,r02_divmod.E,Nat.reduceAdd,Nat.reduceEqDiff,Nat.reduceMul,Nat.reduceSub,Int.reduceAdd,Int.reduceSub,Int.reduceMul,Int.reduceNeg,Int.reduceLT,Int.reduceLE,Int.reduceEq,Int.reduceToNat,↓reduceIte,Int.reducePow,Nat.reduceLeDiff,Nat.reduceLT,ne_eq,eq_self,List.length_cons,List.length_nil,c1]
   refine asks_trim (L:=[.o (.slice (some ⟨g,0,none⟩) lx cap') qs]) [.o (.slice (some ⟨g,0,none⟩) (wl (VL qs)).length cap') (wl (VL qs))] rfl rfl (List.mem_singleton.2 rfl) (fun k hk=>.inl (List.mem_singleton.1 hk)) ?_
   simp (disch:=omega) only [sxE,r02_divmod.E,Nat.reduceAdd,Nat.reduceEqDiff,Nat.reduceMul,Nat.reduceSub,Int.reduceAdd,Int.reduceSub,Int.reduceMul,Int.reduceNeg,Int.reduceLT,Int.reduceLE,Int.reduceEq,Int.reduceToNat,↓reduceIte,Int.reducePow,Nat.reduceLeDiff,Nat.reduceLT,ne_eq,eq_self,List.length_cons,List.length_nil]
   refine genA_o (L:=[.o (.slice (some ⟨g,0,none⟩) (wl (VL qs)).length cap') (wl (VL qs))]) (ws:=[r]) rfl (fun W hW _=>gen_one hru W) fun g2 cap2 _=>?_
   simp (disch:=omega) only [sxE,r02_divmod.E,Nat.reduceAdd,Nat.reduceEqDiff,Nat.reduceMul,Nat.reduceSub,Int.reduceAdd,Int.reduceSub,Int.reduceMul,Int.reduceNeg,Int.reduceLT,Int.reduceLE,Int.reduceEq,Int.reduceToNat,↓reduceIte,Int.reducePow,Nat.reduceLeDiff,Nat.reduceLT,ne_eq,eq_self,List.length_cons,List.length_nil]
   refine asks_trim (L:=[.o (.slice (some ⟨g2,0,none⟩) 1 cap2) [r],.o (.slice (some ⟨g,0,none⟩) (wl (VL qs)).length cap') (wl (VL qs))]) [.o (.slice (some ⟨g2,0,none⟩) (wl (VL [r])).length cap2) (wl (VL [r])),.o (.slice (some ⟨g,0,none⟩) (wl (VL qs)).length cap') (wl (VL qs))] rfl rfl List.mem_cons_self (fun k hk=>?_) ?_
   ·rcases List.mem_cons.1 hk with rfl | hk
    ·exact .inl rfl
    ·exact .inr (List.mem_cons_of_mem _ hk)
   simp (disch:=omega) only [sxE,r02_divmod.E,Nat.reduceAdd,Nat.reduceEqDiff,Nat.reduceMul,Nat.reduceSub,Int.reduceAdd,Int.reduceSub,Int.reduceMul,Int.reduceNeg,Int.reduceLT,Int.reduceLE,Int.reduceEq,Int.reduceToNat,↓reduceIte,Int.reducePow,Nat.reduceLeDiff,Nat.reduceLT,ne_eq,eq_self,List.length_cons,List.length_nil]
   refine ⟨_,_,rfl,fun W hW=>?_⟩
   have h1:=hW _ List.mem_cons_self
   have h2:=hW _ (List.mem_cons_of_mem _ List.mem_cons_self)
   rw [hr1,d2] at h1
   rw [d1] at h2
   rw [hr1,d1,d2]
   exact ⟨⟨OwnU.sl h2,OwnU.fr h2 (Nat.le_refl _)⟩,⟨OwnU.sl h1,OwnU.fr h1 (Nat.le_refl _)⟩⟩
  ·have hm:m < lx:=hi
   obtain ⟨s1,s2⟩:=d1_step hI hwx hu (by omega)
   obtain ⟨b2,off2,rfl⟩:∃ b off,a = some ⟨b,off,none⟩:=by
    obtain ⟨a',c',e,hs⟩:=h.shp
    cases e
    exact hs.some (by omega)
   have c1:((m + 1:Nat):Int) - 1 = (m:Int):=by omega
   have c2:(0:Int)≤(m:Int)∧(m:Int) < (lx:Int):=by omega
   have y0:([y]:List Int).getD 0 0 = y:=rfl
   have hwm:=hwx.getD m
   have hrl:=hI.rl
   repeat' (first | simp (disch:=omega) only [sxE,r02_divmod.E,Nat.reduceAdd,Nat.reduceEqDiff,Nat.reduceMul,Nat.reduceSub,Int.reduceAdd,Int.reduceSub,Int.reduceMul,Int.reduceNeg,Int.reduceLT,Int.reduceLE,Int.reduceEq,Int.reduceToNat,↓reduceIte,Int.reducePow,Nat.reduceLeDiff,Nat.reduceLT,ne_eq,eq_self,List.length_cons,List.length_nil,Nat.mul_one,Nat.zero_add,c1,c2,y0] | (with_reducible refine Sx.call_at (f:=182) (fun W hW=>g_div64 hru hwm hu hrl W) ?_) | (refine ldP_w m rfl h (by omega) ?_) | (refine ldP_w 0 rfl h'1 Nat.zero_lt_one ?_) | (refine stP_o [.o (.slice (some ⟨g,0,none⟩) lx cap') (qs.set m ((r * 18446744073709551616 + (wl x).getD m 0) / y))] m rfl (List.mem_singleton.2 rfl) (by omega) s1 (fun k1 hk1=>.inl (List.mem_singleton.1 hk1)) ?_) | (with_reducible refine cregF ?_))
   exact ⟨(m,_,_),⟨Nat.le_of_lt hm,s2⟩,Nat.lt_succ_self _,⟨rfl,rfl⟩,.inl rfl⟩
structure DmS where
 k:Nat
 qs:List Int
 a:Option Addr
 c:Nat
 R:Int
 D:Int
def dmL (n g1 lx c1 g2 c2:Nat) (x:DmS):List Kn:=[.o (.slice (some ⟨g1,0,none⟩) lx c1) x.qs,.r (.slice x.a (wl x.R).length x.c) (wl x.R),.o (.slice (some ⟨g2,0,none⟩) (wl x.D).length c2) (wl x.D)]
def dm2F (w:World) (g1 lx c1 g2 c2:Nat) (x:DmS):St:=⟨0,[(6,.v (.slice (some ⟨g1,0,none⟩) lx c1)),(9,.v (.slice x.a (wl x.R).length x.c)),(11,.v (.slice (some ⟨g2,0,none⟩) (wl x.D).length c2)),(12,.v (.int .i64 ((x.k:Int) - 1)))],[],kX w.heap.size (dmL w.heap.size g1 lx c1 g2 c2 x)⟩
structure DmI (x y:Int) (lx g1 g2:Nat) (s:DmS):Prop where
 dv:DvI x y s.R (VL s.qs) s.k
 dd:0 < s.k→s.D = y * 2 ^ (s.k - 1)
 aD:A4 s.D
 aR:A4 s.R
 ql:s.qs.length = lx
 qw:Ws s.qs
 kl:s.k≤64 * lx
 sh:Shp s.a (wl s.R).length s.c
 n1:∀ b∈rbs (.slice s.a (wl s.R).length s.c),b≠g1∧b≠g2
theorem dm_compare {n g1 lx c1 g2 c2:Nat} {s:DmS} {W:World} (hR:A4 s.R) (hD:A4 s.D) (hok:∀ k∈dmL n g1 lx c1 g2 c2 s,k.ok n W):Gives Tryz.prog 113 [.slice s.a (wl s.R).length s.c,.slice (some ⟨g2,0,none⟩) (wl s.D).length c2] W (· = .int .i64 (cm s.R s.D)):=by
 have h1:SlF W n _ _:=hok (.r (.slice s.a (wl s.R).length s.c) (wl s.R)) (List.mem_cons_of_mem _ List.mem_cons_self)
 have h2:OwnU W n (.slice (some ⟨g2,0,none⟩) (wl s.D).length c2) (wl s.D):=hok (.o (.slice (some ⟨g2,0,none⟩) (wl s.D).length c2) (wl s.D)) (List.mem_cons_of_mem _ (List.mem_cons_of_mem _ List.mem_cons_self))
 exact gives_known en_r02_compare ((rcompare_any _ _ _ _ _ _ _ _ hR.1 hD.1 W h1.1 h2.sl).mono fun e w' ⟨he,d,hd⟩=>⟨he,by subst hd; exact below_drewN (Below.refl _ _)⟩)
theorem dm_sub {n g1 lx c1 g2 c2:Nat} {s:DmS} {W:World} (hR:A4 s.R) (hD:A4 s.D) (hle:s.D≤s.R) (hok:∀ k∈dmL n g1 lx c1 g2 c2 s,k.ok n W):Calls Tryz.prog 114 #[.slice s.a (wl s.R).length s.c,.slice (some ⟨g2,0,none⟩) (wl s.D).length c2] W fun e w'=>∃ v,e = .returned v∧SlF w' W.heap.size v (wl (s.R - s.D))∧Below W.heap.size W w':=by
 have h1:SlF W n _ _:=hok (.r (.slice s.a (wl s.R).length s.c) (wl s.R)) (List.mem_cons_of_mem _ List.mem_cons_self)
 have h2:OwnU W n (.slice (some ⟨g2,0,none⟩) (wl s.D).length c2) (wl s.D):=hok (.o (.slice (some ⟨g2,0,none⟩) (wl s.D).length c2) (wl s.D)) (List.mem_cons_of_mem _ (List.mem_cons_of_mem _ List.mem_cons_self))
 exact rsub_any _ _ _ _ _ _ _ _ hD.1 hle (by have:=pw4b hR; omega) W h1.1 h2.sl
set_option maxRecDepth 100000 in
theorem rdivmod_loop {x y:Int} {w:World} (hx:A4 x) (hy:0 < y) {g1 lx c1 g2 c2:Nat} (hg:g1≠g2) {s:DmS} (hI:DmI x y lx g1 g2 s) {S0:St} (hS:subS (cx Tryz.prog w 89) S0 (dm2F w g1 lx c1 g2 c2 s)) :
  r02_divmod.p2 (cx Tryz.prog w 89) (finT [(4,none),(5,none)] (DmR w.heap.size x y)) S0:=by
 rw [r02_divmod.p2_l]
 refine LX_inv (dm2F w g1 lx c1 g2 c2) (DmI x y lx g1 g2) (fun s=>s.k) ?round s hI hS
 case round =>
  clear hI hS
  rintro ⟨k,qs,a,c,R,D⟩ hI
  obtain ⟨dv,dd,aD,aR,ql,qw,kl,sh,n1⟩:=hI
  dsimp only at dv dd aD aR ql qw kl sh n1 ⊢
  unfold dm2F
  rcases k with _ | k
  ·obtain ⟨e1,e2⟩:=dv_end dv hy
   have c1':¬ (0:Int)≤((0:Nat):Int) - 1:=by omega
   simp (disch:=omega) only [sxE,r02_divmod.E,Nat.reduceAdd,Nat.reduceEqDiff,Nat.reduceMul,Nat.reduceSub,Int.reduceAdd,Int.reduceSub,Int.reduceMul,Int.reduceNeg,Int.reduceLT,Int.reduceLE,Int.reduceEq,Int.reduceToNat,↓reduceIte,Int.reducePow,Nat.reduceLeDiff,Nat.reduceLT,ne_eq,eq_self,List.length_cons,List.length_nil,c1']
   unfold dmL
   dsimp only
   refine asks_trim [.o (.slice (some ⟨g1,0,none⟩) (wl (VL qs)).length c1) (wl (VL qs)),.r (.slice a (wl R).length c) (wl R)] rfl rfl List.mem_cons_self (fun k hk=>?_) ?_
   ·rcases List.mem_cons.1 hk with rfl | hk
    ·exact .inl rfl
    ·exact .inr (List.mem_cons_of_mem _ (by rw [List.mem_singleton.1 hk]; exact List.mem_cons_self))
   simp (disch:=omega) only [sxE,r02_divmod.E,Nat.reduceAdd,Nat.reduceEqDiff,Nat.reduceMul,Nat.reduceSub,Int.reduceAdd,Int.reduceSub,Int.reduceMul,Int.reduceNeg,Int.reduceLT,Int.reduceLE,Int.reduceEq,Int.reduceToNat,↓reduceIte,Int.reducePow,Nat.reduceLeDiff,Nat.reduceLT,ne_eq,eq_self,List.length_cons,List.length_nil]
   refine ⟨_,_,rfl,fun W hW=>?_⟩
   have h1:=hW _ List.mem_cons_self
   have h2:=hW _ (List.mem_cons_of_mem _ List.mem_cons_self)
   rw [← e1,← e2]
   exact ⟨⟨OwnU.sl h1,OwnU.fr h1 (Nat.le_refl _)⟩,h2⟩
  ·have hD':D = y * 2 ^ k:=dd (Nat.succ_pos _)
   have hk:((k + 1:Nat):Int) - 1 = (k:Int):=by omega
   have hk2:k < 256:=pow256 hy (hD' ▸ aD)
   obtain ⟨st1,st2⟩:=dv_step dv hy
   have aH:A4 (D / 2):=⟨by have:=aD.1; omega,by have:=aD.1; have:=aD.2; omega⟩
   have hH:0 < k→D / 2 = y * 2 ^ (k - 1):=fun h=>by
    obtain ⟨m,rfl⟩:∃ m,k = m + 1:=⟨k - 1,by omega⟩
    rw [hD',Int.pow_succ,← Int.mul_assoc,Nat.add_sub_cancel]; omega
   rw [← hD'] at st1 st2
   have hcm:=cm_ge R D
   have hvD:VL (wl D) = D:=VL_wl aD.1
   have hl4:=pw4b aD
   by_cases hle:D≤R
   ·have hI2:=st1 hle
    have hc0:0≤cm R D:=hcm.2 hle
    have aR2:A4 (R - D):=⟨by omega,by have:=aR.2; have:=aD.1; omega⟩
    obtain ⟨w',j,hj,e⟩:∃ w' j:Nat,j < 64∧k = 64 * w' + j:=⟨k / 64,k % 64,by omega,by omega⟩
    have hw':w' < lx:=by omega
    have hm:(k:Int) % 64 = (j:Nat):=by omega
    have hq:(k:Int) / 64 = (w':Nat):=by omega
    have hwb:(0:Int)≤(w':Int)∧(w':Int) < (lx:Int):=by omega
    obtain ⟨b1,b2,b3⟩:=q_bit qw e hj (by omega) dv.dv
    have p0:(0:Int) < 2 ^ j:=Int.pow_pos (by decide)
    have p1:=pow63 hj
    have hp2:IntKind.u64.wrap (2 ^ j) = 2 ^ j:=s_wu _ (by omega) (by omega)
    repeat' (first | simp (disch:=omega) only [sxE,r02_divmod.E,Nat.reduceAdd,Nat.reduceEqDiff,Nat.reduceMul,Nat.reduceSub,Int.reduceAdd,Int.reduceSub,Int.reduceMul,Int.reduceNeg,Int.reduceLT,Int.reduceLE,Int.reduceEq,Int.reduceToNat,↓reduceIte,Int.reducePow,Nat.reduceLeDiff,Nat.reduceLT,ne_eq,eq_self,List.length_cons,List.length_nil,hk,hc0] | ((with_reducible apply asks_ext (f:=113)); (case h=>exact fun W hW hok=>dm_compare aR aD hok); (case' hk=>skip)) | (with_reducible refine cregF ?_))
    refine asks_r (L:=dmL w.heap.size g1 lx c1 g2 c2 ⟨k + 1,qs,a,c,R,D⟩) (ws:=wl (R - D)) en_r02_sub rfl (fun W hW hok=>dm_sub aR aD hle hok) fun a2 c2' hs2 hn2=>?_
    have hne:∀ b∈rbs (.slice a2 (wl (R - D)).length c2'),b≠g1∧b≠g2:=fun b hb=>by
     have:=hn2 b hb
     refine ⟨fun e=>this ?_,fun e=>this ?_⟩
     ·rw [e]; exact kX_bs.2 ⟨_,List.mem_cons_self,List.mem_singleton.2 rfl⟩
     ·rw [e]; exact kX_bs.2 ⟨_,List.mem_cons_of_mem _ (List.mem_cons_of_mem _ List.mem_cons_self),List.mem_singleton.2 rfl⟩
    clear hn2
    unfold dmL
    dsimp only
    simp (disch:=omega) only [sxE,r02_divmod.E,Nat.reduceAdd,Nat.reduceEqDiff,Nat.reduceMul,Nat.reduceSub,Int.reduceAdd,Int.reduceSub,Int.reduceMul,Int.reduceNeg,Int.reduceLT,Int.reduceLE,Int.reduceEq,Int.reduceToNat,↓reduceIte,Int.reducePow,Nat.reduceLeDiff,Nat.reduceLT,ne_eq,eq_self,List.length_cons,List.length_nil,hq]
    repeat' (first | simp (disch:=omega) only [sxE,r02_divmod.E,Nat.reduceAdd,Nat.reduceEqDiff,Nat.reduceMul,Nat.reduceSub,Int.reduceAdd,Int.reduceSub,Int.reduceMul,Int.reduceNeg,Int.reduceLT,Int.reduceLE,Int.reduceEq,Int.reduceToNat,↓reduceIte,Int.reducePow,Nat.reduceLeDiff,Nat.reduceLT,ne_eq,eq_self,List.length_cons,List.length_nil,Nat.mul_one,Nat.zero_add,hq,hm,hwb,Int.one_mul,hp2,b1] | (refine ldP_o w' rfl (List.mem_cons_of_mem _ List.mem_cons_self) (by omega) ?_) | (refine stP_o [.o (.slice (some ⟨g1,0,none⟩) lx c1) (qs.set w' (qs.getD w' 0 + 2 ^ j)),.r (.slice a2 (wl (R - D)).length c2') (wl (R - D)),.o (.slice (some ⟨g2,0,none⟩) (wl D).length c2) (wl D)] w' rfl (List.mem_cons_of_mem _ List.mem_cons_self) (by omega) b2 (fun q1 hq1=>?mem) ?_) | (with_reducible refine cregF ?_))
    case mem =>
     rcases List.mem_cons.1 hq1 with rfl | hq1
     ·exact .inl rfl
     ·rcases List.mem_cons.1 hq1 with rfl | hq1
      ·exact .inr ⟨List.mem_cons_self,fun h=>(hne _ h).1 rfl⟩
      ·exact .inr ⟨by rw [List.mem_singleton.1 hq1]; exact List.mem_cons_of_mem _ (List.mem_cons_of_mem _ (List.mem_cons_of_mem _ List.mem_cons_self)),fun h=>by rw [List.mem_singleton.1 hq1] at h; exact hg (List.mem_singleton.1 h)⟩
    refine asks_half (dmL w.heap.size g1 lx c1 g2 c2 ⟨k,qs.set w' (qs.getD w' 0 + 2 ^ j),a2,c2',R - D,D / 2⟩) rfl rfl rfl (List.mem_cons_of_mem _ (List.mem_cons_of_mem _ List.mem_cons_self)) (by omega) (fun q hq=>?_) ?_
    ·rw [hvD]
     rcases List.mem_cons.1 hq with rfl | hq
     ·exact .inr ⟨List.mem_cons_self,fun h=>hg (List.mem_singleton.1 h).symm⟩
     ·rcases List.mem_cons.1 hq with rfl | hq
      ·exact .inr ⟨List.mem_cons_of_mem _ List.mem_cons_self,fun h=>(hne _ h).2 rfl⟩
      ·exact .inl (List.mem_singleton.1 hq)
    rw [hvD]
    simp (disch:=omega) only [sxE,r02_divmod.E,Nat.reduceAdd,Nat.reduceEqDiff,Nat.reduceMul,Nat.reduceSub,Int.reduceAdd,Int.reduceSub,Int.reduceMul,Int.reduceNeg,Int.reduceLT,Int.reduceLE,Int.reduceEq,Int.reduceToNat,↓reduceIte,Int.reducePow,Nat.reduceLeDiff,Nat.reduceLT,ne_eq,eq_self,List.length_cons,List.length_nil,hk]
    exact ⟨⟨k,qs.set w' (qs.getD w' 0 + 2 ^ j),a2,c2',R - D,D / 2⟩,⟨by dsimp only; rw [b3]; exact hI2,hH,aH,aR2,by dsimp only; rw [List.length_set]; exact ql,qw.set b2 _,by dsimp only; omega,hs2,hne⟩,Nat.lt_succ_self _,by repeat' (first | (with_reducible rfl) | (exact Or.inl rfl) | apply And.intro)⟩
   ·have hI2:=st2 hle
    have hc0:¬ 0≤cm R D:=fun h=>hle (hcm.1 h)
    repeat' (first | simp (disch:=omega) only [sxE,r02_divmod.E,Nat.reduceAdd,Nat.reduceEqDiff,Nat.reduceMul,Nat.reduceSub,Int.reduceAdd,Int.reduceSub,Int.reduceMul,Int.reduceNeg,Int.reduceLT,Int.reduceLE,Int.reduceEq,Int.reduceToNat,↓reduceIte,Int.reducePow,Nat.reduceLeDiff,Nat.reduceLT,ne_eq,eq_self,List.length_cons,List.length_nil,hk,hc0] | ((with_reducible apply asks_ext (f:=113)); (case h=>exact fun W hW hok=>dm_compare aR aD hok); (case' hk=>skip)) | (with_reducible refine cregF ?_))
    refine asks_half (L:=dmL w.heap.size g1 lx c1 g2 c2 ⟨k + 1,qs,a,c,R,D⟩) (dmL w.heap.size g1 lx c1 g2 c2 ⟨k,qs,a,c,R,D / 2⟩) rfl rfl rfl (List.mem_cons_of_mem _ (List.mem_cons_of_mem _ List.mem_cons_self)) (by omega) (fun q hq=>?_) ?_
    ·rw [hvD]
     rcases List.mem_cons.1 hq with rfl | hq
     ·exact .inr ⟨List.mem_cons_self,fun h=>hg (List.mem_singleton.1 h).symm⟩
     ·rcases List.mem_cons.1 hq with rfl | hq
      ·exact .inr ⟨List.mem_cons_of_mem _ List.mem_cons_self,fun h=>(n1 _ h).2 rfl⟩
      ·exact .inl (List.mem_singleton.1 hq)
    rw [hvD]
    simp (disch:=omega) only [sxE,r02_divmod.E,Nat.reduceAdd,Nat.reduceEqDiff,Nat.reduceMul,Nat.reduceSub,Int.reduceAdd,Int.reduceSub,Int.reduceMul,Int.reduceNeg,Int.reduceLT,Int.reduceLE,Int.reduceEq,Int.reduceToNat,↓reduceIte,Int.reducePow,Nat.reduceLeDiff,Nat.reduceLT,ne_eq,eq_self,List.length_cons,List.length_nil,hk]
    exact ⟨⟨k,qs,a,c,R,D / 2⟩,⟨hI2,hH,aH,aR,ql,qw,by dsimp only; omega,sh,n1⟩,Nat.lt_succ_self _,by repeat' (first | (with_reducible rfl) | (exact Or.inl rfl) | apply And.intro)⟩
set_option maxRecDepth 100000 in
theorem rdivmod_more {a b:Option Addr} {cx' cy':Nat} {x y:Int} {w:World} (hx:A4 x) (hay:A4 y) (hy:0 < y) (hly:(wl y).length≠1) (h:SlU w (.slice a (wl x).length cx') (wl x)) (h':SlU w (.slice b (wl y).length cy') (wl y)) :
  Calls Tryz.prog 157 #[.slice a (wl x).length cx',.slice b (wl y).length cy'] w fun e w'=>∃ v Y,e = .returned v∧DmR w.heap.size x y v Y∧Y.ok w'∧Below w.heap.size w w'∧∀ b∈Y.bs,w.heap.size≤b∧b < w'.heap.size:=by
 refine enterX Tryz.func157 r02_divmod.ok (args:=[.slice a (wl x).length cx',.slice b (wl y).length cy']) (R:=DmR w.heap.size x y) (by simp) ?_
 have hl4:=pw4b hx
 have hl4':=pw4b hay
 have hwx:=wl_words x
 have hvx:=VL_wl hx.1
 have hvy:=VL_wl (Int.le_of_lt hy)
 have b1:=bl_256 hx
 have b2:=bl_256 hay
 have hck:(((wl y).length:Int) == 1) = false:=beq_eq_false_iff_ne.2 (by omega)
 simp (disch:=omega) only [sxE,r02_divmod.E,Nat.reduceAdd,Nat.reduceEqDiff,Nat.reduceMul,Nat.reduceSub,Int.reduceAdd,Int.reduceSub,Int.reduceMul,Int.reduceNeg,Int.reduceLT,Int.reduceLE,Int.reduceEq,Int.reduceToNat,↓reduceIte,Int.reducePow,Nat.reduceLeDiff,Nat.reduceLT,ne_eq,eq_self,List.length_cons,List.length_nil]
 refine genA_o (L:=[]) (ws:=List.replicate (wl x).length 0) (kX_nil _) (fun W hW _=>gen_mk (by omega) W) fun g1 c1 _=>?_
 rw [List.length_replicate]
 simp (disch:=omega) only [sxE,r02_divmod.E,Nat.reduceAdd,Nat.reduceEqDiff,Nat.reduceMul,Nat.reduceSub,Int.reduceAdd,Int.reduceSub,Int.reduceMul,Int.reduceNeg,Int.reduceLT,Int.reduceLE,Int.reduceEq,Int.reduceToNat,↓reduceIte,Int.reducePow,Nat.reduceLeDiff,Nat.reduceLT,ne_eq,eq_self,List.length_cons,List.length_nil,hck]
 refine genA_o (L:=[.o (.slice (some ⟨g1,0,none⟩) (wl x).length c1) (List.replicate (wl x).length 0)]) (ws:=[]) rfl (fun W hW _=>gen_none W) fun g2 c2 hn2=>?_
 have hg12:g1≠g2:=fun e=>hn2 (by rw [← e]; exact kX_bs.2 ⟨_,List.mem_cons_self,List.mem_singleton.2 rfl⟩)
 clear hn2
 simp (disch:=omega) only [sxE,r02_divmod.E,Nat.reduceAdd,Nat.reduceEqDiff,Nat.reduceMul,Nat.reduceSub,Int.reduceAdd,Int.reduceSub,Int.reduceMul,Int.reduceNeg,Int.reduceLT,Int.reduceLE,Int.reduceEq,Int.reduceToNat,↓reduceIte,Int.reducePow,Nat.reduceLeDiff,Nat.reduceLT,ne_eq,eq_self,List.length_cons,List.length_nil]
 refine genA_app (L:=[.o (.slice (some ⟨g2,0,none⟩) 0 c2) [],.o (.slice (some ⟨g1,0,none⟩) (wl x).length c1) (List.replicate (wl x).length 0)]) (L0:=[.o (.slice (some ⟨g1,0,none⟩) (wl x).length c1) (List.replicate (wl x).length 0)]) (ms:=wl x) rfl ⟨_,Tryz.underlying162⟩ rfl List.mem_cons_self rfl (fun k hk=>?_) (fun W hW _=>h.below hW) (by omega) fun a2 c3 hs3 hn3=>?_
 ·rw [List.mem_singleton.1 hk]
  exact ⟨List.mem_cons_of_mem _ List.mem_cons_self,fun h=>hg12 (List.mem_singleton.1 h).symm⟩
 have hn4:∀ b∈rbs (.slice a2 (wl x).length c3),b≠g1:=fun b hb e=>by
  rcases hn3 b hb with h | h
  ·exact hg12 (e.symm.trans h)
  ·exact h (by rw [e]; exact kX_bs.2 ⟨_,List.mem_cons_of_mem _ List.mem_cons_self,List.mem_singleton.2 rfl⟩)
 clear hn3
 simp (disch:=omega) only [sxE,r02_divmod.E,Nat.reduceAdd,Nat.reduceEqDiff,Nat.reduceMul,Nat.reduceSub,Int.reduceAdd,Int.reduceSub,Int.reduceMul,Int.reduceNeg,Int.reduceLT,Int.reduceLE,Int.reduceEq,Int.reduceToNat,↓reduceIte,Int.reducePow,Nat.reduceLeDiff,Nat.reduceLT,ne_eq,eq_self,List.length_cons,List.length_nil]
 refine asks_trim_r [.r (.slice a2 (wl x).length c3) (wl x),.o (.slice (some ⟨g1,0,none⟩) (wl x).length c1) (List.replicate (wl x).length 0)] rfl rfl List.mem_cons_self (fun k hk=>?_) ?_
 ·exact .inr hk
 rw [hvx]
 have size1:∀ W,(∀ k∈[Kn.r (.slice a2 (wl x).length c3) (wl x),.o (.slice (some ⟨g1,0,none⟩) (wl x).length c1) (List.replicate (wl x).length 0)],k.ok w.heap.size W)→Gives Tryz.prog 183 [.slice a2 (wl x).length c3] W (· = .int .i64 (bl x)):=fun W hok =>
  gives_known en_r02_size (rsize_any hx.1 (by omega) (hok (.r (.slice a2 (wl x).length c3) (wl x)) List.mem_cons_self).1)
 have size2:∀ W,Below w.heap.size w W→Gives Tryz.prog 183 [.slice b (wl y).length cy'] W (· = .int .i64 (bl y)):=fun W hW =>
  gives_known en_r02_size (rsize_any (Int.le_of_lt hy) (by omega) (h'.below hW))
 repeat' (first | simp (disch:=omega) only [sxE,r02_divmod.E,Nat.reduceAdd,Nat.reduceEqDiff,Nat.reduceMul,Nat.reduceSub,Int.reduceAdd,Int.reduceSub,Int.reduceMul,Int.reduceNeg,Int.reduceLT,Int.reduceLE,Int.reduceEq,Int.reduceToNat,↓reduceIte,Int.reducePow,Nat.reduceLeDiff,Nat.reduceLT,ne_eq,eq_self,List.length_cons,List.length_nil] | ((with_reducible apply asks_ext (f:=183)); (case h=>first | exact fun W hW hok=>size1 W hok | exact fun W hW hok=>size2 W hW); (case' hk=>skip)) | (with_reducible refine cregF ?_))
 clear size1 size2
 by_cases hlen:bl x < bl y
 ·obtain ⟨e1,e2⟩:=dv_small hx.1 hy hlen
  repeat' (first | simp (disch:=omega) only [sxE,r02_divmod.E,Nat.reduceAdd,Nat.reduceEqDiff,Nat.reduceMul,Nat.reduceSub,Int.reduceAdd,Int.reduceSub,Int.reduceMul,Int.reduceNeg,Int.reduceLT,Int.reduceLE,Int.reduceEq,Int.reduceToNat,↓reduceIte,Int.reducePow,Nat.reduceLeDiff,Nat.reduceLT,ne_eq,eq_self,List.length_cons,List.length_nil] | (with_reducible refine cregF ?_))
  refine ⟨_,_,rfl,fun W hW=>?_⟩
  rw [e1,e2,wl_nil (Int.le_refl _)]
  exact ⟨SlF.nil W _,hW _ List.mem_cons_self⟩
 ·have hst:=dv_start hx.1 hy (by omega)
  have hfit:=dv_fit (m:=0) hx hay hy (by omega)
  have hpos:=bl_pos hy
  have hbl:bl x≤64 * (wl x).length:=by
   rcases Nat.lt_or_ge (64 * (wl x).length) (bl x) with hc | hc
   ·exfalso
    have hx0:0 < x:=by
     rcases Int.lt_or_eq_of_le hx.1 with hh | hh
     ·exact hh
     ·subst hh; rw [bl_zero] at hc; omega
    have h1:=bl_le hx0
    have h2:=(wl_len_lt hx.1 (wl x).length).1 (Nat.le_refl _)
    rw [pw_two] at h2
    have h3:(2:Nat) ^ (64 * (wl x).length)≤2 ^ (bl x - 1):=Nat.pow_le_pow_right (by decide) (by omega)
    have h4:=Int.ofNat_le.2 h3
    rw [Int.natCast_pow,Int.natCast_pow] at h4
    have h5:((2:Nat):Int) = 2:=rfl
    rw [h5] at h4
    omega
   ·exact hc
  have hsub:(bl x:Int) - (bl y:Int) = ((bl x - bl y:Nat):Int):=by omega
  have hnn:¬ (((bl x - bl y:Nat):Int) < 0):=by omega
  generalize hN:bl x - bl y = N at *
  rw [hsub]
  simp (disch:=omega) only [sxE,r02_divmod.E,Nat.reduceAdd,Nat.reduceEqDiff,Nat.reduceMul,Nat.reduceSub,Int.reduceAdd,Int.reduceSub,Int.reduceMul,Int.reduceNeg,Int.reduceLT,Int.reduceLE,Int.reduceEq,Int.reduceToNat,↓reduceIte,Int.reducePow,Nat.reduceLeDiff,Nat.reduceLT,ne_eq,eq_self,List.length_cons,List.length_nil,hnn]
  have hup:∀ W,Below w.heap.size w W→Calls Tryz.prog 184 #[.slice b (wl y).length cy',.int .i64 (N:Int)] W fun e w'=>∃ g cap',e = .returned (.slice (some ⟨g,0,none⟩) (wl (y * 2 ^ N)).length cap')∧OwnU w' W.heap.size (.slice (some ⟨g,0,none⟩) (wl (y * 2 ^ N)).length cap') (wl (y * 2 ^ N))∧Below W.heap.size W w':=fun W hW=>by
   have:=rup_any (n:=N) (k:=N / 64) (s:=N % 64) (by omega) (by omega) (by omega) (by omega) (h'.below hW)
   rw [hvy] at this
   exact this
  refine asks_o (L:=[.r (.slice a2 (wl x).length c3) (wl x),.o (.slice (some ⟨g1,0,none⟩) (wl x).length c1) (List.replicate (wl x).length 0)]) (ws:=wl (y * 2 ^ N)) en_r02_up rfl (fun W hW _=>hup W hW) fun g3 c4 hn5=>?_
  have hg13:g1≠g3:=fun e=>hn5 (by rw [← e]; exact kX_bs.2 ⟨_,List.mem_cons_of_mem _ List.mem_cons_self,List.mem_singleton.2 rfl⟩)
  have hr3:∀ b∈rbs (.slice a2 (wl x).length c3),b≠g3:=fun b hb e=>hn5 (by rw [← e]; exact kX_bs.2 ⟨_,List.mem_cons_self,hb⟩)
  clear hn5 hup
  simp (disch:=omega) only [sxE,r02_divmod.E,Nat.reduceAdd,Nat.reduceEqDiff,Nat.reduceMul,Nat.reduceSub,Int.reduceAdd,Int.reduceSub,Int.reduceMul,Int.reduceNeg,Int.reduceLT,Int.reduceLE,Int.reduceEq,Int.reduceToNat,↓reduceIte,Int.reducePow,Nat.reduceLeDiff,Nat.reduceLT,ne_eq,eq_self,List.length_cons,List.length_nil]
  refine rdivmod_loop hx hy (lx:=(wl x).length) (c1:=c1) (g2:=g3) (c2:=c4) hg13 (s:=⟨N + 1,List.replicate (wl x).length 0,a2,c3,x,y * 2 ^ N⟩) ⟨by dsimp only; rw [VL_zeros]; exact hst,fun _=>rfl,hfit,hx,by simp,Ws.zeros _,by dsimp only; omega,hs3,fun b hb=>⟨hn4 b hb,hr3 b hb⟩⟩ ?_
  have hk1:((N + 1:Nat):Int) - 1 = (N:Int):=by omega
  unfold dm2F
  dsimp only
  simp (disch:=omega) only [sxE,r02_divmod.E,Nat.reduceAdd,Nat.reduceEqDiff,Nat.reduceMul,Nat.reduceSub,Int.reduceAdd,Int.reduceSub,Int.reduceMul,Int.reduceNeg,Int.reduceLT,Int.reduceLE,Int.reduceEq,Int.reduceToNat,↓reduceIte,Int.reducePow,Nat.reduceLeDiff,Nat.reduceLT,ne_eq,eq_self,List.length_cons,List.length_nil,hk1]
  refine extS_kn fun k hk=>?_
  unfold dmL at hk
  dsimp only at hk
  simp only [List.mem_cons,List.not_mem_nil,or_false] at hk ⊢
  rcases hk with rfl | rfl | rfl
  ·exact .inr (.inr rfl)
  ·exact .inr (.inl rfl)
  ·exact .inl rfl
theorem rdivmod_any {a b:Option Addr} {cx' cy':Nat} {x y:Int} {w:World} (hx:A4 x) (hay:A4 y) (hy:0 < y) (h:SlU w (.slice a (wl x).length cx') (wl x)) (h':SlU w (.slice b (wl y).length cy') (wl y)) :
  Calls Tryz.prog 157 #[.slice a (wl x).length cx',.slice b (wl y).length cy'] w fun e w'=>∃ u1 u2,e = .returned (.tuple #[u1,u2])∧SlF w' w.heap.size u1 (wl (x / y))∧SlF w' w.heap.size u2 (wl (x % y))∧Below w.heap.size w w':=by
 have key:∀ {e:Ending} {w':World},(∃ v Y,e = .returned v∧DmR w.heap.size x y v Y∧Y.ok w'∧Below w.heap.size w w'∧∀ b∈Y.bs,w.heap.size≤b∧b < w'.heap.size)→∃ u1 u2,e = .returned (.tuple #[u1,u2])∧SlF w' w.heap.size u1 (wl (x / y))∧SlF w' w.heap.size u2 (wl (x % y))∧Below w.heap.size w w':=by
  rintro e w' ⟨v,Y,rfl,⟨u1,u2,rfl,hY⟩,hok,hb,-⟩
  exact ⟨u1,u2,rfl,(hY w' hok).1,(hY w' hok).2,hb⟩
 by_cases hl:(wl y).length = 1
 ·exact (rdivmod_one hx hy hl h h').mono fun e w' hh=>key hh
 ·exact (rdivmod_more hx hay hy hl h h').mono fun e w' hh=>key hh
end Go.Proofs.YtncmmbacoknefaaGreat

/- Ge: What calls of the program's shift and of its division of absolute values give. -/
namespace Go.Proofs.YtncmmbacoknefaaGreat
open Go Go.RowKit Sx
set_option linter.unusedVariables false
set_option linter.unusedSimpArgs false
set_option maxRecDepth 100000 in
theorem left_0 {z n:Int} {r:Nat} (h:A4 z) (hr:0 < r) (hr2:r < 64) (hn:n = 64 * 0 + r) (hf:z * 2 ^ r < 115792089237316195423570985008687907853269984665640564039457584007913129639936) (w:World) :
  Calls Tryz.prog 200 #[ME z,.int .i64 n] w fun e w'=>e = .returned (ME (z * 2 ^ r))∧Below w.heap.size w w':=by
 show Calls _ _ #[MG (lb0 z) (lb1 z) (lb2 z) (lb3 z),_] _ _
 have e:=mv_me h
 obtain ⟨t0,u0,ht0,hu0,U0,a0,b0,d0,s0⟩:=shl_word (r:=r) (lb0_in z) hr2
 obtain ⟨t1,u1,ht1,hu1,U1,a1,b1,d1,s1⟩:=shl_word (r:=r) (lb1_in z) hr2
 obtain ⟨t2,u2,ht2,hu2,U2,a2,b2,d2,s2⟩:=shl_word (r:=r) (lb2_in z) hr2
 obtain ⟨t3,u3,ht3,hu3,U3,a3,b3,d3,s3⟩:=shl_word (r:=r) (lb3_in z) hr2
 have S:=shl_words s0 s1 s2 s3
 rw [e] at S
 have hp:=pow63 hr2
 obtain ⟨-,o1,V1⟩:=or_add r (⟨a0,by omega⟩:U64 u0) U1 b0 d1
 obtain ⟨-,o2,V2⟩:=or_add r (⟨a1,by omega⟩:U64 u1) U2 b1 d2
 obtain ⟨-,o3,V3⟩:=or_add r (⟨a2,by omega⟩:U64 u2) U3 b2 d3
 rw [Int.add_comm t1 u0,Int.add_comm t2 u1,Int.add_comm t3 u2] at S
 have hR:=shl0 S a3 ⟨U0,V1,V2,V3⟩ hf
 have hM:=mg_me (U0) (V1) (V2) (V3)
 rw [hR] at hM
 rw [← hM]
 have hq:n / 64 = 0:=by omega
 have hm:n % 64 = (r:Int):=by omega
 have h64:((64:Int) - r).toNat = 64 - r:=by omega
 have h0:0≤n:=by omega
 generalize lb0 z = x0 at *
 generalize lb1 z = x1 at *
 generalize lb2 z = x2 at *
 generalize lb3 z = x3 at *
 clear hM hR S e hf h hn s0 s1 s2 s3 a0 a1 a2 a3 b0 b1 b2 b3 d0 d1 d2 d3 U0 U1 U2 U3 V1 V2 V3 hp
 refine known_of (enter Tryz.func200 wide_left.ok (args:=[MG x0 x1 x2 x3,.int .i64 n]) (by simp) ?_)
 repeat' (first | simp (disch:=omega) only [sxE,wide_left.E,Nat.reduceAdd,Nat.reduceEqDiff,Nat.reduceMul,Nat.reduceSub,Int.reduceAdd,Int.reduceSub,Int.reduceMul,Int.reduceNeg,Int.reduceLT,Int.reduceLE,Int.reduceEq,Int.reduceToNat,↓reduceIte,Int.reducePow,Nat.reduceLeDiff,Nat.reduceLT,ne_eq,eq_self,List.length_cons,List.length_nil,hq,hm,h64,ht0,ht1,ht2,ht3,hu0,hu1,hu2,hu3,o1,o2,o3] | (rw [wide_left.p2_l]) | (with_reducible apply LX_round) | (with_reducible refine cregF ?_))
set_option maxRecDepth 100000 in
theorem left_0z {z n:Int} (h:A4 z) (hn:n = 64 * 0) (hf:z < 115792089237316195423570985008687907853269984665640564039457584007913129639936) (w:World) :
  Calls Tryz.prog 200 #[ME z,.int .i64 n] w fun e w'=>e = .returned (ME (z))∧Below w.heap.size w w':=by
 show Calls _ _ #[MG (lb0 z) (lb1 z) (lb2 z) (lb3 z),_] _ _
 have e:=mv_me h
 have U0:=lb0_in z
 have U1:=lb1_in z
 have U2:=lb2_in z
 have U3:=lb3_in z
 have hR:=shl0 (e:=0) (by rw [e]; omega:z = MV (lb0 z) (lb1 z) (lb2 z) (lb3 z) + _ * 0) (Int.le_refl 0) ⟨U0,U1,U2,U3⟩ hf
 have hM:=mg_me (U0) (U1) (U2) (U3)
 rw [hR] at hM
 rw [← hM]
 have hq:n / 64 = 0:=by omega
 have hm:n % 64 = 0:=by omega
 have h0:0≤n:=by omega
 generalize lb0 z = x0 at *
 generalize lb1 z = x1 at *
 generalize lb2 z = x2 at *
 generalize lb3 z = x3 at *
 clear hM hR e hf h hn
 obtain ⟨g0,l0⟩:=U0
 obtain ⟨g1,l1⟩:=U1
 obtain ⟨g2,l2⟩:=U2
 obtain ⟨g3,l3⟩:=U3
 refine known_of (enter Tryz.func200 wide_left.ok (args:=[MG x0 x1 x2 x3,.int .i64 n]) (by simp) ?_)
 repeat' (first | simp (disch:=omega) only [sxE,wide_left.E,Nat.reduceAdd,Nat.reduceEqDiff,Nat.reduceMul,Nat.reduceSub,Int.reduceAdd,Int.reduceSub,Int.reduceMul,Int.reduceNeg,Int.reduceLT,Int.reduceLE,Int.reduceEq,Int.reduceToNat,↓reduceIte,Int.reducePow,Nat.reduceLeDiff,Nat.reduceLT,ne_eq,eq_self,List.length_cons,List.length_nil,hq,hm,Int.mul_one,Int.pow_zero,Int.toNat_zero] | (rw [wide_left.p2_l]) | (with_reducible apply LX_round) | (with_reducible refine cregF ?_))
set_option maxRecDepth 100000 in
theorem left_1 {z n:Int} {r:Nat} (h:A4 z) (hr:0 < r) (hr2:r < 64) (hn:n = 64 * 1 + r) (hf:z * 2 ^ r * 18446744073709551616 < 115792089237316195423570985008687907853269984665640564039457584007913129639936) (w:World) :
  Calls Tryz.prog 200 #[ME z,.int .i64 n] w fun e w'=>e = .returned (ME (z * 2 ^ r * 18446744073709551616))∧Below w.heap.size w w':=by
 show Calls _ _ #[MG (lb0 z) (lb1 z) (lb2 z) (lb3 z),_] _ _
 have e:=mv_me h
 obtain ⟨t0,u0,ht0,hu0,U0,a0,b0,d0,s0⟩:=shl_word (r:=r) (lb0_in z) hr2
 obtain ⟨t1,u1,ht1,hu1,U1,a1,b1,d1,s1⟩:=shl_word (r:=r) (lb1_in z) hr2
 obtain ⟨t2,u2,ht2,hu2,U2,a2,b2,d2,s2⟩:=shl_word (r:=r) (lb2_in z) hr2
 obtain ⟨t3,u3,ht3,hu3,U3,a3,b3,d3,s3⟩:=shl_word (r:=r) (lb3_in z) hr2
 have S:=shl_words s0 s1 s2 s3
 rw [e] at S
 have hp:=pow63 hr2
 obtain ⟨-,o1,V1⟩:=or_add r (⟨a0,by omega⟩:U64 u0) U1 b0 d1
 obtain ⟨-,o2,V2⟩:=or_add r (⟨a1,by omega⟩:U64 u1) U2 b1 d2
 obtain ⟨-,o3,V3⟩:=or_add r (⟨a2,by omega⟩:U64 u2) U3 b2 d3
 rw [Int.add_comm t1 u0,Int.add_comm t2 u1,Int.add_comm t3 u2] at S
 have hR:=shl1 S a3 ⟨U0,V1,V2,V3⟩ hf
 have hM:=mg_me (U64.zero) (U0) (V1) (V2)
 rw [hR] at hM
 rw [← hM]
 have hq:n / 64 = 1:=by omega
 have hm:n % 64 = (r:Int):=by omega
 have h64:((64:Int) - r).toNat = 64 - r:=by omega
 have h0:0≤n:=by omega
 generalize lb0 z = x0 at *
 generalize lb1 z = x1 at *
 generalize lb2 z = x2 at *
 generalize lb3 z = x3 at *
 clear hM hR S e hf h hn s0 s1 s2 s3 a0 a1 a2 a3 b0 b1 b2 b3 d0 d1 d2 d3 U0 U1 U2 U3 V1 V2 V3 hp
 refine known_of (enter Tryz.func200 wide_left.ok (args:=[MG x0 x1 x2 x3,.int .i64 n]) (by simp) ?_)
 repeat' (first | simp (disch:=omega) only [sxE,wide_left.E,Nat.reduceAdd,Nat.reduceEqDiff,Nat.reduceMul,Nat.reduceSub,Int.reduceAdd,Int.reduceSub,Int.reduceMul,Int.reduceNeg,Int.reduceLT,Int.reduceLE,Int.reduceEq,Int.reduceToNat,↓reduceIte,Int.reducePow,Nat.reduceLeDiff,Nat.reduceLT,ne_eq,eq_self,List.length_cons,List.length_nil,hq,hm,h64,ht0,ht1,ht2,ht3,hu0,hu1,hu2,hu3,o1,o2,o3] | (rw [wide_left.p2_l]) | (with_reducible apply LX_round) | (with_reducible refine cregF ?_))
set_option maxRecDepth 100000 in
theorem left_1z {z n:Int} (h:A4 z) (hn:n = 64 * 1) (hf:z * 18446744073709551616 < 115792089237316195423570985008687907853269984665640564039457584007913129639936) (w:World) :
  Calls Tryz.prog 200 #[ME z,.int .i64 n] w fun e w'=>e = .returned (ME (z * 18446744073709551616))∧Below w.heap.size w w':=by
 show Calls _ _ #[MG (lb0 z) (lb1 z) (lb2 z) (lb3 z),_] _ _
 have e:=mv_me h
 have U0:=lb0_in z
 have U1:=lb1_in z
 have U2:=lb2_in z
 have U3:=lb3_in z
 have hR:=shl1 (e:=0) (by rw [e]; omega:z = MV (lb0 z) (lb1 z) (lb2 z) (lb3 z) + _ * 0) (Int.le_refl 0) ⟨U0,U1,U2,U3⟩ hf
 have hM:=mg_me (U64.zero) (U0) (U1) (U2)
 rw [hR] at hM
 rw [← hM]
 have hq:n / 64 = 1:=by omega
 have hm:n % 64 = 0:=by omega
 have h0:0≤n:=by omega
 generalize lb0 z = x0 at *
 generalize lb1 z = x1 at *
 generalize lb2 z = x2 at *
 generalize lb3 z = x3 at *
 clear hM hR e hf h hn
 obtain ⟨g0,l0⟩:=U0
 obtain ⟨g1,l1⟩:=U1
 obtain ⟨g2,l2⟩:=U2
 obtain ⟨g3,l3⟩:=U3
 refine known_of (enter Tryz.func200 wide_left.ok (args:=[MG x0 x1 x2 x3,.int .i64 n]) (by simp) ?_)
 repeat' (first | simp (disch:=omega) only [sxE,wide_left.E,Nat.reduceAdd,Nat.reduceEqDiff,Nat.reduceMul,Nat.reduceSub,Int.reduceAdd,Int.reduceSub,Int.reduceMul,Int.reduceNeg,Int.reduceLT,Int.reduceLE,Int.reduceEq,Int.reduceToNat,↓reduceIte,Int.reducePow,Nat.reduceLeDiff,Nat.reduceLT,ne_eq,eq_self,List.length_cons,List.length_nil,hq,hm,Int.mul_one,Int.pow_zero,Int.toNat_zero] | (rw [wide_left.p2_l]) | (with_reducible apply LX_round) | (with_reducible refine cregF ?_))
set_option maxRecDepth 100000 in
theorem left_2 {z n:Int} {r:Nat} (h:A4 z) (hr:0 < r) (hr2:r < 64) (hn:n = 64 * 2 + r) (hf:z * 2 ^ r * 340282366920938463463374607431768211456 < 115792089237316195423570985008687907853269984665640564039457584007913129639936) (w:World) :
  Calls Tryz.prog 200 #[ME z,.int .i64 n] w fun e w'=>e = .returned (ME (z * 2 ^ r * 340282366920938463463374607431768211456))∧Below w.heap.size w w':=by
 show Calls _ _ #[MG (lb0 z) (lb1 z) (lb2 z) (lb3 z),_] _ _
 have e:=mv_me h
 obtain ⟨t0,u0,ht0,hu0,U0,a0,b0,d0,s0⟩:=shl_word (r:=r) (lb0_in z) hr2
 obtain ⟨t1,u1,ht1,hu1,U1,a1,b1,d1,s1⟩:=shl_word (r:=r) (lb1_in z) hr2
 obtain ⟨t2,u2,ht2,hu2,U2,a2,b2,d2,s2⟩:=shl_word (r:=r) (lb2_in z) hr2
 obtain ⟨t3,u3,ht3,hu3,U3,a3,b3,d3,s3⟩:=shl_word (r:=r) (lb3_in z) hr2
 have S:=shl_words s0 s1 s2 s3
 rw [e] at S
 have hp:=pow63 hr2
 obtain ⟨-,o1,V1⟩:=or_add r (⟨a0,by omega⟩:U64 u0) U1 b0 d1
 obtain ⟨-,o2,V2⟩:=or_add r (⟨a1,by omega⟩:U64 u1) U2 b1 d2
 obtain ⟨-,o3,V3⟩:=or_add r (⟨a2,by omega⟩:U64 u2) U3 b2 d3
 rw [Int.add_comm t1 u0,Int.add_comm t2 u1,Int.add_comm t3 u2] at S
 have hR:=shl2 S a3 ⟨U0,V1,V2,V3⟩ hf
 have hM:=mg_me (U64.zero) (U64.zero) (U0) (V1)
 rw [hR] at hM
 rw [← hM]
 have hq:n / 64 = 2:=by omega
 have hm:n % 64 = (r:Int):=by omega
 have h64:((64:Int) - r).toNat = 64 - r:=by omega
 have h0:0≤n:=by omega
 generalize lb0 z = x0 at *
 generalize lb1 z = x1 at *
 generalize lb2 z = x2 at *
 generalize lb3 z = x3 at *
 clear hM hR S e hf h hn s0 s1 s2 s3 a0 a1 a2 a3 b0 b1 b2 b3 d0 d1 d2 d3 U0 U1 U2 U3 V1 V2 V3 hp
 refine known_of (enter Tryz.func200 wide_left.ok (args:=[MG x0 x1 x2 x3,.int .i64 n]) (by simp) ?_)
 repeat' (first | simp (disch:=omega) only [sxE,wide_left.E,Nat.reduceAdd,Nat.reduceEqDiff,Nat.reduceMul,Nat.reduceSub,Int.reduceAdd,Int.reduceSub,Int.reduceMul,Int.reduceNeg,Int.reduceLT,Int.reduceLE,Int.reduceEq,Int.reduceToNat,↓reduceIte,Int.reducePow,Nat.reduceLeDiff,Nat.reduceLT,ne_eq,eq_self,List.length_cons,List.length_nil,hq,hm,h64,ht0,ht1,ht2,ht3,hu0,hu1,hu2,hu3,o1,o2,o3] | (rw [wide_left.p2_l]) | (with_reducible apply LX_round) | (with_reducible refine cregF ?_))
set_option maxRecDepth 100000 in
theorem left_2z {z n:Int} (h:A4 z) (hn:n = 64 * 2) (hf:z * 340282366920938463463374607431768211456 < 115792089237316195423570985008687907853269984665640564039457584007913129639936) (w:World) :
  Calls Tryz.prog 200 #[ME z,.int .i64 n] w fun e w'=>e = .returned (ME (z * 340282366920938463463374607431768211456))∧Below w.heap.size w w':=by
 show Calls _ _ #[MG (lb0 z) (lb1 z) (lb2 z) (lb3 z),_] _ _
 have e:=mv_me h
 have U0:=lb0_in z
 have U1:=lb1_in z
 have U2:=lb2_in z
 have U3:=lb3_in z
 have hR:=shl2 (e:=0) (by rw [e]; omega:z = MV (lb0 z) (lb1 z) (lb2 z) (lb3 z) + _ * 0) (Int.le_refl 0) ⟨U0,U1,U2,U3⟩ hf
 have hM:=mg_me (U64.zero) (U64.zero) (U0) (U1)
 rw [hR] at hM
 rw [← hM]
 have hq:n / 64 = 2:=by omega
 have hm:n % 64 = 0:=by omega
 have h0:0≤n:=by omega
 generalize lb0 z = x0 at *
 generalize lb1 z = x1 at *
 generalize lb2 z = x2 at *
 generalize lb3 z = x3 at *
 clear hM hR e hf h hn
 obtain ⟨g0,l0⟩:=U0
 obtain ⟨g1,l1⟩:=U1
 obtain ⟨g2,l2⟩:=U2
 obtain ⟨g3,l3⟩:=U3
 refine known_of (enter Tryz.func200 wide_left.ok (args:=[MG x0 x1 x2 x3,.int .i64 n]) (by simp) ?_)
 repeat' (first | simp (disch:=omega) only [sxE,wide_left.E,Nat.reduceAdd,Nat.reduceEqDiff,Nat.reduceMul,Nat.reduceSub,Int.reduceAdd,Int.reduceSub,Int.reduceMul,Int.reduceNeg,Int.reduceLT,Int.reduceLE,Int.reduceEq,Int.reduceToNat,↓reduceIte,Int.reducePow,Nat.reduceLeDiff,Nat.reduceLT,ne_eq,eq_self,List.length_cons,List.length_nil,hq,hm,Int.mul_one,Int.pow_zero,Int.toNat_zero] | (rw [wide_left.p2_l]) | (with_reducible apply LX_round) | (with_reducible refine cregF ?_))
set_option maxRecDepth 100000 in
theorem left_3 {z n:Int} {r:Nat} (h:A4 z) (hr:0 < r) (hr2:r < 64) (hn:n = 64 * 3 + r) (hf:z * 2 ^ r * 6277101735386680763835789423207666416102355444464034512896 < 115792089237316195423570985008687907853269984665640564039457584007913129639936) (w:World) :
  Calls Tryz.prog 200 #[ME z,.int .i64 n] w fun e w'=>e = .returned (ME (z * 2 ^ r * 6277101735386680763835789423207666416102355444464034512896))∧Below w.heap.size w w':=by
 show Calls _ _ #[MG (lb0 z) (lb1 z) (lb2 z) (lb3 z),_] _ _
 have e:=mv_me h
 obtain ⟨t0,u0,ht0,hu0,U0,a0,b0,d0,s0⟩:=shl_word (r:=r) (lb0_in z) hr2
 obtain ⟨t1,u1,ht1,hu1,U1,a1,b1,d1,s1⟩:=shl_word (r:=r) (lb1_in z) hr2
 obtain ⟨t2,u2,ht2,hu2,U2,a2,b2,d2,s2⟩:=shl_word (r:=r) (lb2_in z) hr2
 obtain ⟨t3,u3,ht3,hu3,U3,a3,b3,d3,s3⟩:=shl_word (r:=r) (lb3_in z) hr2
 have S:=shl_words s0 s1 s2 s3
 rw [e] at S
 have hp:=pow63 hr2
 obtain ⟨-,o1,V1⟩:=or_add r (⟨a0,by omega⟩:U64 u0) U1 b0 d1
 obtain ⟨-,o2,V2⟩:=or_add r (⟨a1,by omega⟩:U64 u1) U2 b1 d2
 obtain ⟨-,o3,V3⟩:=or_add r (⟨a2,by omega⟩:U64 u2) U3 b2 d3
 rw [Int.add_comm t1 u0,Int.add_comm t2 u1,Int.add_comm t3 u2] at S
 have hR:=shl3 S a3 ⟨U0,V1,V2,V3⟩ hf
 have hM:=mg_me (U64.zero) (U64.zero) (U64.zero) (U0)
 rw [hR] at hM
 rw [← hM]
 have hq:n / 64 = 3:=by omega
 have hm:n % 64 = (r:Int):=by omega
 have h64:((64:Int) - r).toNat = 64 - r:=by omega
 have h0:0≤n:=by omega
 generalize lb0 z = x0 at *
 generalize lb1 z = x1 at *
 generalize lb2 z = x2 at *
 generalize lb3 z = x3 at *
 clear hM hR S e hf h hn s0 s1 s2 s3 a0 a1 a2 a3 b0 b1 b2 b3 d0 d1 d2 d3 U0 U1 U2 U3 V1 V2 V3 hp
 refine known_of (enter Tryz.func200 wide_left.ok (args:=[MG x0 x1 x2 x3,.int .i64 n]) (by simp) ?_)
 repeat' (first | simp (disch:=omega) only [sxE,wide_left.E,Nat.reduceAdd,Nat.reduceEqDiff,Nat.reduceMul,Nat.reduceSub,Int.reduceAdd,Int.reduceSub,Int.reduceMul,Int.reduceNeg,Int.reduceLT,Int.reduceLE,Int.reduceEq,Int.reduceToNat,↓reduceIte,Int.reducePow,Nat.reduceLeDiff,Nat.reduceLT,ne_eq,eq_self,List.length_cons,List.length_nil,hq,hm,h64,ht0,ht1,ht2,ht3,hu0,hu1,hu2,hu3,o1,o2,o3] | (rw [wide_left.p2_l]) | (with_reducible apply LX_round) | (with_reducible refine cregF ?_))
set_option maxRecDepth 100000 in
theorem left_3z {z n:Int} (h:A4 z) (hn:n = 64 * 3) (hf:z * 6277101735386680763835789423207666416102355444464034512896 < 115792089237316195423570985008687907853269984665640564039457584007913129639936) (w:World) :
  Calls Tryz.prog 200 #[ME z,.int .i64 n] w fun e w'=>e = .returned (ME (z * 6277101735386680763835789423207666416102355444464034512896))∧Below w.heap.size w w':=by
 show Calls _ _ #[MG (lb0 z) (lb1 z) (lb2 z) (lb3 z),_] _ _
 have e:=mv_me h
 have U0:=lb0_in z
 have U1:=lb1_in z
 have U2:=lb2_in z
 have U3:=lb3_in z
 have hR:=shl3 (e:=0) (by rw [e]; omega:z = MV (lb0 z) (lb1 z) (lb2 z) (lb3 z) + _ * 0) (Int.le_refl 0) ⟨U0,U1,U2,U3⟩ hf
 have hM:=mg_me (U64.zero) (U64.zero) (U64.zero) (U0)
 rw [hR] at hM
 rw [← hM]
 have hq:n / 64 = 3:=by omega
 have hm:n % 64 = 0:=by omega
 have h0:0≤n:=by omega
 generalize lb0 z = x0 at *
 generalize lb1 z = x1 at *
 generalize lb2 z = x2 at *
 generalize lb3 z = x3 at *
 clear hM hR e hf h hn
 obtain ⟨g0,l0⟩:=U0
 obtain ⟨g1,l1⟩:=U1
 obtain ⟨g2,l2⟩:=U2
 obtain ⟨g3,l3⟩:=U3
 refine known_of (enter Tryz.func200 wide_left.ok (args:=[MG x0 x1 x2 x3,.int .i64 n]) (by simp) ?_)
 repeat' (first | simp (disch:=omega) only [sxE,wide_left.E,Nat.reduceAdd,Nat.reduceEqDiff,Nat.reduceMul,Nat.reduceSub,Int.reduceAdd,Int.reduceSub,Int.reduceMul,Int.reduceNeg,Int.reduceLT,Int.reduceLE,Int.reduceEq,Int.reduceToNat,↓reduceIte,Int.reducePow,Nat.reduceLeDiff,Nat.reduceLT,ne_eq,eq_self,List.length_cons,List.length_nil,hq,hm,Int.mul_one,Int.pow_zero,Int.toNat_zero] | (rw [wide_left.p2_l]) | (with_reducible apply LX_round) | (with_reducible refine cregF ?_))
theorem g_left {z:Int} {n:Nat} (h:A4 z) (hf:A4 (z * 2 ^ n)) (hn:n < 256) (W:World):Gives Tryz.prog 200 [ME z,.int .i64 (n:Int)] W (· = ME (z * 2 ^ n)):=by
 refine gives_known en_wide_left ?_
 obtain ⟨q,r,hq,hr,e⟩:∃ q r:Nat,q < 4∧r < 64∧n = 64 * q + r:=⟨n / 64,n % 64,by omega,by omega,by omega⟩
 have hp:=pow_split q r
 have e2:z * 2 ^ n = z * 2 ^ r * 18446744073709551616 ^ q:=by rw [e,hp,Int.mul_assoc]
 have hf2:=hf.2
 rw [e2] at hf2 ⊢
 rcases Nat.eq_zero_or_pos r with h0 | h0
 ·subst h0
  rw [Int.pow_zero,Int.mul_one] at hf2 ⊢
  rcases q with _ | _ | _ | _ | q
  ·rw [Int.pow_zero,Int.mul_one] at hf2 ⊢; exact left_0z h (by omega) hf2 W
  ·rw [show (18446744073709551616:Int) ^ (0 + 1) = 18446744073709551616 from rfl] at hf2 ⊢; exact left_1z h (by omega) hf2 W
  ·rw [show (18446744073709551616:Int) ^ (0 + 1 + 1) = 340282366920938463463374607431768211456 from rfl] at hf2 ⊢; exact left_2z h (by omega) hf2 W
  ·rw [show (18446744073709551616:Int) ^ (0 + 1 + 1 + 1) = 6277101735386680763835789423207666416102355444464034512896 from rfl] at hf2 ⊢; exact left_3z h (by omega) hf2 W
  ·omega
 ·rcases q with _ | _ | _ | _ | q
  ·rw [Int.pow_zero,Int.mul_one] at hf2 ⊢; exact left_0 h h0 hr (by omega) hf2 W
  ·rw [show (18446744073709551616:Int) ^ (0 + 1) = 18446744073709551616 from rfl] at hf2 ⊢; exact left_1 h h0 hr (by omega) hf2 W
  ·rw [show (18446744073709551616:Int) ^ (0 + 1 + 1) = 340282366920938463463374607431768211456 from rfl] at hf2 ⊢; exact left_2 h h0 hr (by omega) hf2 W
  ·rw [show (18446744073709551616:Int) ^ (0 + 1 + 1 + 1) = 6277101735386680763835789423207666416102355444464034512896 from rfl] at hf2 ⊢; exact left_3 h h0 hr (by omega) hf2 W
  ·omega
end Go.Proofs.YtncmmbacoknefaaGreat

/- Gf: What a call of the program's division of absolute values gives; DivMod. -/
namespace Go.Proofs.YtncmmbacoknefaaGreat
open Go Go.RowKit Sx
set_option linter.unusedVariables false
set_option linter.unusedSimpArgs false
theorem g_wcompare_me {z y:Int} (h:A4 z) (h':A4 y) (W:World):Gives Tryz.prog 166 [ME z,ME y] W (· = .int .i64 (cm z y)):=by
 have e:=cm4_mv (a3:=lb3 z) (b3:=lb3 y) (lb0_in z) (lb1_in z) (lb2_in z) (lb0_in y) (lb1_in y) (lb2_in y)
 rw [mv_me h,mv_me h'] at e
 rw [← e]
 exact g_wcompare _ _ _ _ _ _ _ _ W
theorem g_wsub_me {z y:Int} (h:A4 z) (h':A4 y) (W:World):Gives Tryz.prog 167 [ME z,ME y] W (· = ME (z - y)):=by
 have e:=wsub_any (lb0 z) (lb1 z) (lb2 z) (lb3 z) (lb0 y) (lb1 y) (lb2 y) (lb3 y) (lb0_in z) (lb1_in z) (lb2_in z) (lb3_in z) (lb0_in y) (lb1_in y) (lb2_in y) (lb3_in y) W
 rw [mv_me h,mv_me h'] at e
 exact gives_known en_wide_sub e
theorem bit_words {q:Int} {k w j:Nat} (hk:k = 64 * w + j) (hj:j < 64) (hw:w < 4) (hq:A4 q) (hd:(2 ^ (k + 1):Int) ∣ q) (hs:A4 (q + 2 ^ k)) :
  let g:=fun x:Int=>IntKind.u64.wrap ((BitVec.ofInt IntKind.u64.bits x ||| BitVec.ofInt IntKind.u64.bits (2 ^ j)).toNat:Int)
  (w = 0→lb0 (q + 2 ^ k) = g (lb0 q)∧lb1 (q + 2 ^ k) = lb1 q∧lb2 (q + 2 ^ k) = lb2 q∧lb3 (q + 2 ^ k) = lb3 q)∧(w = 1→lb0 (q + 2 ^ k) = lb0 q∧lb1 (q + 2 ^ k) = g (lb1 q)∧lb2 (q + 2 ^ k) = lb2 q∧lb3 (q + 2 ^ k) = lb3 q) ∧
  (w = 2→lb0 (q + 2 ^ k) = lb0 q∧lb1 (q + 2 ^ k) = lb1 q∧lb2 (q + 2 ^ k) = g (lb2 q)∧lb3 (q + 2 ^ k) = lb3 q)∧(w = 3→lb0 (q + 2 ^ k) = lb0 q∧lb1 (q + 2 ^ k) = lb1 q∧lb2 (q + 2 ^ k) = lb2 q∧lb3 (q + 2 ^ k) = g (lb3 q)):=by
 intro g
 have hg:∀ x:Int,U64 x→(2 ^ (j + 1):Int) ∣ x→g x = x + 2 ^ j∧U64 (x + 2 ^ j):=fun x hx hd=>by
  have hp:=pow63 hj
  have h0:(0:Int) < 2 ^ j:=Int.pow_pos (by decide)
  obtain ⟨a,b,c⟩:=or_add (j + 1) (⟨by omega,by omega⟩:U64 ((2:Int) ^ j)) hx (by rw [Int.pow_succ]; omega) hd
  refine ⟨?_,?_⟩
  ·show IntKind.u64.wrap _ = _
   rw [b]; omega
  ·rw [Int.add_comm]; exact c
 have hm:=mv_me hq
 have h0:=lb0_in q
 have h1:=lb1_in q
 have h2:=lb2_in q
 have h3:=lb3_in q
 have p3:(2 ^ (64 * 3):Int) = 6277101735386680763835789423207666416102355444464034512896:=rfl
 have p2:(2 ^ (64 * 2):Int) = 340282366920938463463374607431768211456:=rfl
 have p1:(2 ^ (64 * 1):Int) = 18446744073709551616:=rfl
 have p0:(2 ^ (64 * 0):Int) = 1:=rfl
 obtain ⟨a0,a1⟩:=id h0
 obtain ⟨b0,b1⟩:=id h1
 obtain ⟨c0,c1⟩:=id h2
 have hsp:(2 ^ k:Int) = 2 ^ (64 * w) * 2 ^ j:=by rw [hk,Int.pow_add]
 generalize lb0 q = a at *
 generalize lb1 q = b at *
 generalize lb2 q = c at *
 generalize lb3 q = d at *
 unfold MV at hm
 refine ⟨fun e=>?_,fun e=>?_,fun e=>?_,fun e=>?_⟩
 ·subst e
  obtain ⟨e1,e2⟩:=hg a h0 (word_dvd (q:=q) (w:=0) (lo:=0) (hi:=b + 18446744073709551616 * (c + 18446744073709551616 * d)) hj (by rw [p0]; omega) (by omega) (by rw [p0]; omega) (by rw [← hk]; exact hd))
  have e3:q + 2 ^ k = MV (a + 2 ^ j) b c d:=by unfold MV; rw [hsp,p0]; omega
  rw [e1,e3,lb0_mv _ _ _ e2,lb1_mv _ _ e2 h1,lb2_mv _ e2 h1 h2,lb3_mv e2 h1 h2 h3]
  exact ⟨rfl,rfl,rfl,rfl⟩
 ·subst e
  obtain ⟨e1,e2⟩:=hg b h1 (word_dvd (q:=q) (w:=1) (lo:=a) (hi:=c + 18446744073709551616 * d) hj (by rw [p1]; omega) (by omega) (by rw [p1]; omega) (by rw [← hk]; exact hd))
  have e3:q + 2 ^ k = MV a (b + 2 ^ j) c d:=by unfold MV; rw [hsp,p1]; omega
  rw [e1,e3,lb0_mv _ _ _ h0,lb1_mv _ _ h0 e2,lb2_mv _ h0 e2 h2,lb3_mv h0 e2 h2 h3]
  exact ⟨rfl,rfl,rfl,rfl⟩
 ·subst e
  obtain ⟨e1,e2⟩:=hg c h2 (word_dvd (q:=q) (w:=2) (lo:=a + 18446744073709551616 * b) (hi:=d) hj (by rw [p2]; omega) (by omega) (by rw [p2]; omega) (by rw [← hk]; exact hd))
  have e3:q + 2 ^ k = MV a b (c + 2 ^ j) d:=by unfold MV; rw [hsp,p2]; omega
  rw [e1,e3,lb0_mv _ _ _ h0,lb1_mv _ _ h0 h1,lb2_mv _ h0 h1 e2,lb3_mv h0 h1 e2 h3]
  exact ⟨rfl,rfl,rfl,rfl⟩
 ·subst e
  obtain ⟨e1,e2⟩:=hg d h3 (word_dvd (q:=q) (w:=3) (lo:=a + 18446744073709551616 * (b + 18446744073709551616 * c)) (hi:=0) hj (by rw [p3]; omega) (by omega) (by rw [p3]; omega) (by rw [← hk]; exact hd))
  have e3:q + 2 ^ k = MV a b c (d + 2 ^ j):=by unfold MV; rw [hsp,p3]; omega
  rw [e1,e3,lb0_mv _ _ _ h0,lb1_mv _ _ h0 h1,lb2_mv _ h0 h1 h2,lb3_mv h0 h1 h2 e2]
  exact ⟨rfl,rfl,rfl,rfl⟩
theorem a4_zero:A4 0:=⟨by decide,by decide⟩
abbrev W4 (z:Int):List Value:=[.int .u64 (lb0 z),.int .u64 (lb1 z),.int .u64 (lb2 z),.int .u64 (lb3 z)]
def dvF (x:Int × Int × Int × Nat):St:=⟨5,[(2,.p 0 0),(4,.p 2 0),(5,.p 3 0),(6,.v (.int .i64 ((x.2.2.2:Int) - 1))),(7,.p 4 0)],[(4,W4 x.2.2.1),(3,[.int .u64 0,.int .u64 0,.int .u64 0,.int .u64 0]),(2,W4 x.2.1),(0,W4 x.1)],ext0⟩
set_option maxRecDepth 100000 in
theorem div_any {a b:Int} (ha:A4 a) (hb:A4 b) (hb0:0 < b) (w:World):Calls Tryz.prog 189 #[ME a,ME b] w fun e w'=>e = .returned (.tuple #[ME (a / b),ME (a % b)])∧Below w.heap.size w w':=by
 have l1:=bl_256 ha
 have l2:=bl_256 hb
 by_cases hlen:bl a < bl b
 ·obtain ⟨e1,e2⟩:=dv_small ha.1 hb0 hlen
  rw [e1,e2]
  refine known_of (enter Tryz.func189 wide_div.ok (args:=[ME a,ME b]) (by simp) ?_)
  repeat' (first | simp (disch:=omega) only [sxE,wide_div.E,Nat.reduceAdd,Nat.reduceEqDiff,Nat.reduceMul,Nat.reduceSub,Int.reduceAdd,Int.reduceSub,Int.reduceMul,Int.reduceNeg,Int.reduceLT,Int.reduceLE,Int.reduceEq,Int.reduceToNat,↓reduceIte,Int.reducePow,Nat.reduceLeDiff,Nat.reduceLT,ne_eq,eq_self,List.length_cons,List.length_nil] | (with_reducible refine Sx.call_at (f:=199) (fun W hW=>g_length (by assumption) W) ?_) | (with_reducible refine cregF ?_))
  rfl
 ·have hst:=dv_start ha.1 hb0 (by omega)
  have hfit:=dv_fit (m:=0) ha hb hb0 (by omega)
  have hsub:IntKind.i64.wrap ((bl a:Int) - (bl b:Int)) = ((bl a - bl b:Nat):Int):=by rw [s_wi _ (by omega) (by omega)]; omega
  have hn:bl a - bl b < 256:=pow256 hb0 hfit
  generalize bl a - bl b = N at *
  clear hlen l1 l2
  refine known_of (enter Tryz.func189 wide_div.ok (args:=[ME a,ME b]) (by simp) ?_)
  repeat' (first | simp (disch:=omega) only [sxE,wide_div.E,Nat.reduceAdd,Nat.reduceEqDiff,Nat.reduceMul,Nat.reduceSub,Int.reduceAdd,Int.reduceSub,Int.reduceMul,Int.reduceNeg,Int.reduceLT,Int.reduceLE,Int.reduceEq,Int.reduceToNat,↓reduceIte,Int.reducePow,Nat.reduceLeDiff,Nat.reduceLT,ne_eq,eq_self,List.length_cons,List.length_nil,hsub] | (with_reducible refine Sx.call_at (f:=199) (fun W hW=>g_length (by assumption) W) ?_) | (with_reducible refine Sx.call_at (f:=200) (fun W hW=>g_left (by assumption) hfit hn W) ?_) | (with_reducible refine cregF ?_))
  rw [wide_div.p2_l]
  refine LX_inv dvF (fun x=>DvI a b x.1 x.2.1 x.2.2.2∧(0 < x.2.2.2→x.2.2.1 = b * 2 ^ (x.2.2.2 - 1))∧A4 x.2.2.1∧A4 x.1∧A4 x.2.1) (fun x=>x.2.2.2) ?round (a,0,b * 2 ^ N,N + 1) ⟨hst,fun _=>rfl,hfit,ha,a4_zero⟩ ?start
  case start =>
   have hk:((N + 1:Nat):Int) - 1 = N:=by omega
   simp (disch:=omega) only [sxE,wide_div.E,Nat.reduceAdd,Nat.reduceEqDiff,Nat.reduceMul,Nat.reduceSub,Int.reduceAdd,Int.reduceSub,Int.reduceMul,Int.reduceNeg,Int.reduceLT,Int.reduceLE,Int.reduceEq,Int.reduceToNat,↓reduceIte,Int.reducePow,Nat.reduceLeDiff,Nat.reduceLT,ne_eq,eq_self,List.length_cons,List.length_nil,dvF,W4,hk,show lb0 0 = 0 from rfl,show lb1 0 = 0 from rfl,show lb2 0 = 0 from rfl,show lb3 0 = 0 from rfl]
  case round =>
   clear hst hfit hsub hn
   rintro ⟨r,q,D,k⟩ ⟨hI,hD,aD,ar,aq⟩
   dsimp only at hI hD aD ar aq ⊢
   rcases k with _ | k
   ·obtain ⟨e1,e2⟩:=dv_end hI hb0
    rw [← e1,← e2]
    clear e1 e2 hI hD
    unfold dvF
    repeat' (first | simp (disch:=omega) only [sxE,wide_div.E,Nat.reduceAdd,Nat.reduceEqDiff,Nat.reduceMul,Nat.reduceSub,Int.reduceAdd,Int.reduceSub,Int.reduceMul,Int.reduceNeg,Int.reduceLT,Int.reduceLE,Int.reduceEq,Int.reduceToNat,↓reduceIte,Int.reducePow,Nat.reduceLeDiff,Nat.reduceLT,ne_eq,eq_self,List.length_cons,List.length_nil] | (with_reducible refine cregF ?_))
   ·have hD':D = b * 2 ^ k:=hD (by omega)
    have hk:((k + 1:Nat):Int) - 1 = k:=by omega
    have hk2:k < 256:=pow256 hb0 (hD' ▸ aD)
    obtain ⟨st1,st2⟩:=dv_step hI hb0
    have aH:A4 (D / 2):=⟨by have:=aD.1; omega,by have:=aD.1; have:=aD.2; omega⟩
    have hH:0 < k→D / 2 = b * 2 ^ (k - 1):=fun h=>by
     obtain ⟨m,rfl⟩:∃ m,k = m + 1:=⟨k - 1,by omega⟩
     rw [hD',Int.pow_succ,← Int.mul_assoc,Nat.add_sub_cancel]; omega
    rw [← hD'] at st1 st2
    have hcm:=cm_ge r D
    by_cases hle:D≤r
    ·have hI2:=st1 hle
     have hc0:0≤cm r D:=hcm.2 hle
     have aR:A4 (r - D):=⟨by omega,by have:=ar.2; have:=aD.1; omega⟩
     have aQ:A4 (q + 2 ^ k):=by
      have h1:=hI2.eq
      have h2:=hI2.r0
      have h3:=hI2.q0
      have h4:=Int.mul_le_mul_of_nonneg_left (show (1:Int)≤b by omega) h3
      exact ⟨h3,by have:=ha.2; omega⟩
     obtain ⟨w',j,hw,hj,e⟩:∃ w' j:Nat,w' < 4∧j < 64∧k = 64 * w' + j:=⟨k / 64,k % 64,by omega,by omega,by omega⟩
     have BW:=bit_words e hj hw aq hI.dv aQ
     have hm:(k:Int) % 64 = (j:Nat):=by omega
     have p0:(0:Int) < 2 ^ j:=Int.pow_pos (by decide)
     have p1:=pow63 hj
     have hp2:IntKind.u64.wrap (2 ^ j) = 2 ^ j:=s_wu _ (by omega) (by omega)
     unfold dvF
     clear st1 st2 hcm hI hD hD' p0 p1
     rcases w' with _ | _ | _ | _ | w'
     ·have hq:(k:Int) / 64 = 0:=by omega
      obtain ⟨v0,v1,v2,v3⟩:=BW.1 rfl
      clear BW
      repeat' (first | simp (disch:=omega) only [sxE,wide_div.E,Nat.reduceAdd,Nat.reduceEqDiff,Nat.reduceMul,Nat.reduceSub,Int.reduceAdd,Int.reduceSub,Int.reduceMul,Int.reduceNeg,Int.reduceLT,Int.reduceLE,Int.reduceEq,Int.reduceToNat,↓reduceIte,Int.reducePow,Nat.reduceLeDiff,Nat.reduceLT,ne_eq,eq_self,List.length_cons,List.length_nil,hk,hq,hm,hp2,Int.one_mul] | (with_reducible refine Sx.call_at (f:=166) (fun W hW=>g_wcompare_me (by assumption) (by assumption) W) ?_) | (with_reducible refine Sx.call_at (f:=167) (fun W hW=>g_wsub_me (by assumption) (by assumption) W) ?_) | (with_reducible refine Sx.call_at (f:=201) (fun W hW=>g_halved (by assumption) W) ?_) | (with_reducible refine cregF ?_))
      exact ⟨(r - D,q + 2 ^ k,D / 2,k),⟨hI2,hH,aH,aR,aQ⟩,Nat.lt_succ_self _,rfl,rfl,by simp only [W4,v0,v1,v2,v3],rfl⟩
     ·have hq:(k:Int) / 64 = 1:=by omega
      obtain ⟨v0,v1,v2,v3⟩:=BW.2.1 rfl
      clear BW
      repeat' (first | simp (disch:=omega) only [sxE,wide_div.E,Nat.reduceAdd,Nat.reduceEqDiff,Nat.reduceMul,Nat.reduceSub,Int.reduceAdd,Int.reduceSub,Int.reduceMul,Int.reduceNeg,Int.reduceLT,Int.reduceLE,Int.reduceEq,Int.reduceToNat,↓reduceIte,Int.reducePow,Nat.reduceLeDiff,Nat.reduceLT,ne_eq,eq_self,List.length_cons,List.length_nil,hk,hq,hm,hp2,Int.one_mul] | (with_reducible refine Sx.call_at (f:=166) (fun W hW=>g_wcompare_me (by assumption) (by assumption) W) ?_) | (with_reducible refine Sx.call_at (f:=167) (fun W hW=>g_wsub_me (by assumption) (by assumption) W) ?_) | (with_reducible refine Sx.call_at (f:=201) (fun W hW=>g_halved (by assumption) W) ?_) | (with_reducible refine cregF ?_))
      exact ⟨(r - D,q + 2 ^ k,D / 2,k),⟨hI2,hH,aH,aR,aQ⟩,Nat.lt_succ_self _,rfl,rfl,by simp only [W4,v0,v1,v2,v3],rfl⟩
     ·have hq:(k:Int) / 64 = 2:=by omega
      obtain ⟨v0,v1,v2,v3⟩:=BW.2.2.1 rfl
      clear BW
      repeat' (first | simp (disch:=omega) only [sxE,wide_div.E,Nat.reduceAdd,Nat.reduceEqDiff,Nat.reduceMul,Nat.reduceSub,Int.reduceAdd,Int.reduceSub,Int.reduceMul,Int.reduceNeg,Int.reduceLT,Int.reduceLE,Int.reduceEq,Int.reduceToNat,↓reduceIte,Int.reducePow,Nat.reduceLeDiff,Nat.reduceLT,ne_eq,eq_self,List.length_cons,List.length_nil,hk,hq,hm,hp2,Int.one_mul] | (with_reducible refine Sx.call_at (f:=166) (fun W hW=>g_wcompare_me (by assumption) (by assumption) W) ?_) | (with_reducible refine Sx.call_at (f:=167) (fun W hW=>g_wsub_me (by assumption) (by assumption) W) ?_) | (with_reducible refine Sx.call_at (f:=201) (fun W hW=>g_halved (by assumption) W) ?_) | (with_reducible refine cregF ?_))
      exact ⟨(r - D,q + 2 ^ k,D / 2,k),⟨hI2,hH,aH,aR,aQ⟩,Nat.lt_succ_self _,rfl,rfl,by simp only [W4,v0,v1,v2,v3],rfl⟩
     ·have hq:(k:Int) / 64 = 3:=by omega
      obtain ⟨v0,v1,v2,v3⟩:=BW.2.2.2 rfl
      clear BW
      repeat' (first | simp (disch:=omega) only [sxE,wide_div.E,Nat.reduceAdd,Nat.reduceEqDiff,Nat.reduceMul,Nat.reduceSub,Int.reduceAdd,Int.reduceSub,Int.reduceMul,Int.reduceNeg,Int.reduceLT,Int.reduceLE,Int.reduceEq,Int.reduceToNat,↓reduceIte,Int.reducePow,Nat.reduceLeDiff,Nat.reduceLT,ne_eq,eq_self,List.length_cons,List.length_nil,hk,hq,hm,hp2,Int.one_mul] | (with_reducible refine Sx.call_at (f:=166) (fun W hW=>g_wcompare_me (by assumption) (by assumption) W) ?_) | (with_reducible refine Sx.call_at (f:=167) (fun W hW=>g_wsub_me (by assumption) (by assumption) W) ?_) | (with_reducible refine Sx.call_at (f:=201) (fun W hW=>g_halved (by assumption) W) ?_) | (with_reducible refine cregF ?_))
      exact ⟨(r - D,q + 2 ^ k,D / 2,k),⟨hI2,hH,aH,aR,aQ⟩,Nat.lt_succ_self _,rfl,rfl,by simp only [W4,v0,v1,v2,v3],rfl⟩
     ·omega
    ·have hI2:=st2 hle
     have hc0:¬ 0≤cm r D:=fun h=>hle (hcm.1 h)
     unfold dvF
     clear st1 st2 hcm hI hD hD'
     repeat' (first | simp (disch:=omega) only [sxE,wide_div.E,Nat.reduceAdd,Nat.reduceEqDiff,Nat.reduceMul,Nat.reduceSub,Int.reduceAdd,Int.reduceSub,Int.reduceMul,Int.reduceNeg,Int.reduceLT,Int.reduceLE,Int.reduceEq,Int.reduceToNat,↓reduceIte,Int.reducePow,Nat.reduceLeDiff,Nat.reduceLT,ne_eq,eq_self,List.length_cons,List.length_nil,hk] | (with_reducible refine Sx.call_at (f:=166) (fun W hW=>g_wcompare_me (by assumption) (by assumption) W) ?_) | (with_reducible refine Sx.call_at (f:=201) (fun W hW=>g_halved (by assumption) W) ?_) | (with_reducible refine cregF ?_))
     exact ⟨(r,q,D / 2,k),⟨hI2,hH,aH,ar,aq⟩,Nat.lt_succ_self _,rfl,rfl,rfl,rfl⟩
theorem g_div {a b:Int} (ha:A4 a) (hb:A4 b) (hb0:0 < b) (W:World):Gives Tryz.prog 189 [ME a,ME b] W (· = .tuple #[ME (a / b),ME (a % b)]):=gives_known en_wide_div (div_any ha hb hb0 W)
end Go.Proofs.YtncmmbacoknefaaGreat

/- Gg: What a call of the program's DivMod gives. -/
namespace Go.Proofs.YtncmmbacoknefaaGreat
open Go Go.RowKit Sx
set_option linter.unusedVariables false
set_option linter.unusedSimpArgs false
theorem IsW.me {v:Value} {z:Int} (h:IsW v z):∃ n m,v = WV n (lb0 m) (lb1 m) (lb2 m) (lb3 m)∧A4 m∧ab z = m∧z = sv n m∧(n && !mz (lb0 m) (lb1 m) (lb2 m) (lb3 m)) = decide (z < 0):=by
 obtain ⟨n,a,b,c,d,rfl,rfl,ha,hb,hc,hd⟩:=h
 refine ⟨n,MV a b c d,?_,a4_mv ha hb hc hd,ab_wv ha hb hc hd,?_,?_⟩
 ·rw [lb0_mv _ _ _ ha,lb1_mv _ _ ha hb,lb2_mv _ ha hb hc,lb3_mv ha hb hc hd]
 ·rfl
 ·rw [lb0_mv _ _ _ ha,lb1_mv _ _ ha hb,lb2_mv _ ha hb hc,lb3_mv ha hb hc hd]
  exact (sg_wv (n:=n) ha hb hc hd).symm
theorem mz_me {m:Int} (h:A4 m):mz (lb0 m) (lb1 m) (lb2 m) (lb3 m) = decide (m = 0):=by
 rw [Bool.eq_iff_iff,mz_iff (lb0_in m) (lb1_in m) (lb2_in m) (lb3_in m),mv_me h,decide_eq_true_iff]
theorem g_signed_me {n:Bool} {m:Int} (h:A4 m) (W:World):Gives Tryz.prog 163 [.bool n,ME m] W (· = WE (sv n m)):=by
 rw [← sv_signed h.1 (up4_a4 h)]
 exact g_signed n _ _ _ _ W
theorem g_wadd1 {m:Int} (h:A4 m) (W:World):Gives Tryz.prog 165 [ME m,MG 1 0 0 0] W (· = .tuple #[ME (m + 1),.int .u64 (up4 (m + 1))]):=by
 have e:=wadd_any (lb0 m) (lb1 m) (lb2 m) (lb3 m) 1 0 0 0 (lb0_in m) (lb1_in m) (lb2_in m) (lb3_in m) ⟨by decide,by decide⟩ ⟨by decide,by decide⟩ ⟨by decide,by decide⟩ ⟨by decide,by decide⟩ W
 rw [mv_me h,show MV 1 0 0 0 = 1 from rfl] at e
 exact gives_known en_wide_add e
theorem dm_plain {z y:Int} (hy:y≠0):(¬ z < 0∨ab z % ab y = 0→z / y = sv (decide (z < 0) != decide (y < 0)) (ab z / ab y)∧z % y = ab z % ab y) ∧
  (z < 0→ab z % ab y≠0→z / y = sv (decide (z < 0) != decide (y < 0)) (ab z / ab y + 1)∧z % y = ab y - ab z % ab y):=by
 have hn:0 < ab y:=by unfold ab; split <;> omega
 have e1:=Int.mul_ediv_add_emod (ab z) (ab y)
 have e2:=Int.emod_nonneg (ab z) (Int.ne_of_gt hn)
 have e3:=Int.emod_lt_of_pos (ab z) hn
 have q0:=Int.ediv_nonneg (ab_nonneg z) (Int.le_of_lt hn)
 generalize ab z / ab y = Q at *
 generalize ab z % ab y = R at *
 have key:∀ q r:Int,r + y * q = z→0≤r→r < ab y→z / y = q∧z % y = r:=fun q r h1 h2 h3=>by
  rcases Int.lt_or_lt_of_ne hy with h | h
  ·exact (Int.ediv_emod_unique' h).2 ⟨h1,h2,by unfold ab at h3; rw [if_pos h] at h3; exact h3⟩
  ·exact (Int.ediv_emod_unique h).2 ⟨h1,h2,by unfold ab at h3; rw [if_neg (by omega)] at h3; exact h3⟩
 by_cases hz:z < 0
 ·have az:ab z = -z:=by unfold ab; rw [if_pos hz]
  rw [az] at e1
  by_cases hy0:y < 0
  ·have ay:ab y = -y:=by unfold ab; rw [if_pos hy0]
   rw [decide_eq_true hz,decide_eq_true hy0]
   rw [ay] at e1 e3 hn ⊢
   refine ⟨fun h=>key _ _ ?_ e2 (by rw [ay]; exact e3),fun _ h=>key _ _ ?_ (by omega) (by rw [ay]; omega)⟩
   ·show R + y * Q = z
    rw [Int.neg_mul] at e1
    omega
   ·show (-y - R) + y * (Q + 1) = z
    rw [Int.neg_mul] at e1
    rw [Int.mul_add]
    omega
  ·have ay:ab y = y:=by unfold ab; rw [if_neg hy0]
   rw [decide_eq_true hz,decide_eq_false hy0]
   rw [ay] at e1 e3 hn ⊢
   refine ⟨fun h=>key _ _ ?_ e2 (by rw [ay]; exact e3),fun _ h=>key _ _ ?_ (by omega) (by rw [ay]; omega)⟩
   ·show R + y * -Q = z
    rw [Int.mul_neg]
    omega
   ·show (y - R) + y * -(Q + 1) = z
    rw [Int.mul_neg,Int.mul_add]
    omega
 ·have az:ab z = z:=by unfold ab; rw [if_neg hz]
  rw [az] at e1
  refine ⟨fun _=>?_,fun h=>absurd h hz⟩
  by_cases hy0:y < 0
  ·have ay:ab y = -y:=by unfold ab; rw [if_pos hy0]
   rw [decide_eq_false hz,decide_eq_true hy0]
   rw [ay] at e1 e3 hn
   refine key _ _ ?_ e2 (by rw [ay]; exact e3)
   show R + y * -Q = z
   rw [Int.mul_neg]
   rw [Int.neg_mul] at e1
   omega
  ·have ay:ab y = y:=by unfold ab; rw [if_neg hy0]
   rw [decide_eq_false hz,decide_eq_false hy0]
   rw [ay] at e1 e3 hn
   refine key _ _ ?_ e2 (by rw [ay]; exact e3)
   show R + y * Q = z
   omega
def dr (z y:Int):Int:=if y = 0 then 0 else z % y
set_option maxRecDepth 100000 in
theorem g_divmod {v v':Value} {z y:Int} (h:IsW v z) (h':IsW v' y) (W:World):Gives Tryz.prog 171 [v,v'] W (· = .tuple #[WE (z / y),WE (dr z y),.bool (decide (y≠0))]):=by
  obtain ⟨n,m,rfl,am,hab,hz,hn⟩:=h.me
  obtain ⟨n',m',rfl,am',hab',hy,hn'⟩:=h'.me
  refine gives_known en_wide_DivMod ?_
  have p1:cn n (lb0 m) (lb1 m) (lb2 m) (lb3 m) = decide (z < 0):=hn
  have p2:cn n' (lb0 m') (lb1 m') (lb2 m') (lb3 m') = decide (y < 0):=hn'
  have SI:IsW (WV (decide (y < 0)) (lb0 m') (lb1 m') (lb2 m') (lb3 m')) y:=by
    have:=IsW.raw (n:=cn n' (lb0 m') (lb1 m') (lb2 m') (lb3 m')) (lb0_in m') (lb1_in m') (lb2_in m') (lb3_in m')
    rw [wv_cn,p2] at this
    have e:wv n' (lb0 m') (lb1 m') (lb2 m') (lb3 m') = y:=by rw [hy]; unfold wv sv; rw [mv_me am']
    rw [e] at this
    exact this
  clear hz hy hn hn'
  have hcm:=cm_zero y
  have hmz:=mz_me (m:=m % m')
  by_cases hy0:y = 0
  · have hc0:cm y 0 = 0:=by subst hy0; rfl
    have e1:z / y = 0:=by rw [hy0]; exact Int.ediv_zero z
    have e2:dr z y = 0:=if_pos hy0
    have e3:decide (y≠0) = false:=by simp [hy0]
    rw [e1,e2,e3]
    clear hcm hmz e1 e2 e3 hab hab'
    refine known_of (enter Tryz.func171 wide_DivMod.ok (args:=[WV n (lb0 m) (lb1 m) (lb2 m) (lb3 m),WV n' (lb0 m') (lb1 m') (lb2 m') (lb3 m')]) (by simp) ?_)
    repeat' (first | simp (disch:=omega) only [sxE,wide_DivMod.E,Nat.reduceAdd,Nat.reduceEqDiff,Nat.reduceMul,Nat.reduceSub,Int.reduceAdd,Int.reduceSub,Int.reduceMul,Int.reduceNeg,Int.reduceLT,Int.reduceLE,Int.reduceEq,Int.reduceToNat,↓reduceIte,Int.reducePow,Nat.reduceLeDiff,Nat.reduceLT,ne_eq,eq_self,List.length_cons,List.length_nil,p1,p2] | (with_reducible refine Sx.call_at (f:=161) (fun W hW=>g_clean _ _ _ _ _ W) ?_) | (with_reducible refine Sx.call_at (f:=140) (fun W hW=>g_sign SI W) ?_) | (with_reducible refine cregF ?_))
    rfl
  · have hc0:cm y 0≠0:=by rw [hcm]; split <;> (try split) <;> omega
    have e3:decide (y≠0) = true:=by simp [hy0]
    have hm':0 < m':=by rw [← hab']; unfold ab; split <;> omega
    obtain ⟨D1,D2⟩:=dm_plain (z:=z) hy0
    rw [hab,hab'] at D1 D2
    have e2:dr z y = z % y:=if_neg hy0
    rw [e2,e3]
    have ar:A4 (m % m'):=⟨Int.emod_nonneg _ (by omega),by have:=Int.emod_lt_of_pos m hm'; have:=am'.2; omega⟩
    have aq:A4 (m / m'):=⟨Int.ediv_nonneg am.1 (by omega),by have:=Int.ediv_le_self m' am.1; have:=am.2; omega⟩
    replace hmz:=hmz ar
    unfold mz at hmz
    by_cases hC:¬ z < 0∨m % m' = 0
    · obtain ⟨e4,e5⟩:=D1 hC
      rw [e4,e5]
      clear hcm e2 e3 e4 e5 D1 D2 hab hab'
      by_cases hz0:z < 0
      · have hr0:m % m' = 0:=by omega
        refine known_of (enter Tryz.func171 wide_DivMod.ok (args:=[WV n (lb0 m) (lb1 m) (lb2 m) (lb3 m),WV n' (lb0 m') (lb1 m') (lb2 m') (lb3 m')]) (by simp) ?_)
        repeat' (first | simp (disch:=omega) only [sxE,wide_DivMod.E,Nat.reduceAdd,Nat.reduceEqDiff,Nat.reduceMul,Nat.reduceSub,Int.reduceAdd,Int.reduceSub,Int.reduceMul,Int.reduceNeg,Int.reduceLT,Int.reduceLE,Int.reduceEq,Int.reduceToNat,↓reduceIte,Int.reducePow,Nat.reduceLeDiff,Nat.reduceLT,ne_eq,eq_self,List.length_cons,List.length_nil,p1,p2,hmz] | (with_reducible refine Sx.call_at (f:=161) (fun W hW=>g_clean _ _ _ _ _ W) ?_) | (with_reducible refine Sx.call_at (f:=140) (fun W hW=>g_sign SI W) ?_) | (with_reducible refine Sx.call_at (f:=189) (fun W hW=>g_div am am' (by omega) W) ?_) | (with_reducible refine Sx.call_at (f:=165) (fun W hW=>g_wadd1 aq W) ?_) | (with_reducible refine Sx.call_at (f:=167) (fun W hW=>g_wsub_me am' ar W) ?_) | (with_reducible refine Sx.call_at (f:=163) (fun W hW=>g_signed_me (by assumption) W) ?_) | (with_reducible refine eq_is (fun W=>by exact eqm_run _ _ _ _ _ _ _ _ W) ?_) | (with_reducible refine cregF ?_))
        rfl
      · refine known_of (enter Tryz.func171 wide_DivMod.ok (args:=[WV n (lb0 m) (lb1 m) (lb2 m) (lb3 m),WV n' (lb0 m') (lb1 m') (lb2 m') (lb3 m')]) (by simp) ?_)
        repeat' (first | simp (disch:=omega) only [sxE,wide_DivMod.E,Nat.reduceAdd,Nat.reduceEqDiff,Nat.reduceMul,Nat.reduceSub,Int.reduceAdd,Int.reduceSub,Int.reduceMul,Int.reduceNeg,Int.reduceLT,Int.reduceLE,Int.reduceEq,Int.reduceToNat,↓reduceIte,Int.reducePow,Nat.reduceLeDiff,Nat.reduceLT,ne_eq,eq_self,List.length_cons,List.length_nil,p1,p2,hmz] | (with_reducible refine Sx.call_at (f:=161) (fun W hW=>g_clean _ _ _ _ _ W) ?_) | (with_reducible refine Sx.call_at (f:=140) (fun W hW=>g_sign SI W) ?_) | (with_reducible refine Sx.call_at (f:=189) (fun W hW=>g_div am am' (by omega) W) ?_) | (with_reducible refine Sx.call_at (f:=165) (fun W hW=>g_wadd1 aq W) ?_) | (with_reducible refine Sx.call_at (f:=167) (fun W hW=>g_wsub_me am' ar W) ?_) | (with_reducible refine Sx.call_at (f:=163) (fun W hW=>g_signed_me (by assumption) W) ?_) | (with_reducible refine eq_is (fun W=>by exact eqm_run _ _ _ _ _ _ _ _ W) ?_) | (with_reducible refine cregF ?_))
        rfl
    · have hz0:z < 0:=by omega
      have hr0:m % m'≠0:=by omega
      obtain ⟨e4,e5⟩:=D2 hz0 hr0
      rw [e4,e5]
      clear hcm e2 e3 e4 e5 D1 D2 hab hab'
      have asx:A4 (m' - m % m'):=⟨by have:=Int.emod_lt_of_pos m hm'; omega,by have:=ar.1; have:=am'.2; omega⟩
      have aq1:A4 (m / m' + 1):=by
        refine ⟨by have:=aq.1; omega,?_⟩
        have h2:2≤m':=by
          rcases Int.lt_or_le m' 2 with h | h
          · exact absurd (show m % m' = 0 by have:m' = 1:=by omega
                                             rw [this]; exact Int.emod_one m) hr0
          · exact h
        have:=Int.mul_ediv_add_emod m m'
        have h3:=Int.mul_le_mul_of_nonneg_right h2 aq.1
        have:=am.2
        have:=ar.1
        omega
      refine known_of (enter Tryz.func171 wide_DivMod.ok (args:=[WV n (lb0 m) (lb1 m) (lb2 m) (lb3 m),WV n' (lb0 m') (lb1 m') (lb2 m') (lb3 m')]) (by simp) ?_)
      repeat' (first | simp (disch:=omega) only [sxE,wide_DivMod.E,Nat.reduceAdd,Nat.reduceEqDiff,Nat.reduceMul,Nat.reduceSub,Int.reduceAdd,Int.reduceSub,Int.reduceMul,Int.reduceNeg,Int.reduceLT,Int.reduceLE,Int.reduceEq,Int.reduceToNat,↓reduceIte,Int.reducePow,Nat.reduceLeDiff,Nat.reduceLT,ne_eq,eq_self,List.length_cons,List.length_nil,p1,p2,hmz] | (with_reducible refine Sx.call_at (f:=161) (fun W hW=>g_clean _ _ _ _ _ W) ?_) | (with_reducible refine Sx.call_at (f:=140) (fun W hW=>g_sign SI W) ?_) | (with_reducible refine Sx.call_at (f:=189) (fun W hW=>g_div am am' (by omega) W) ?_) | (with_reducible refine Sx.call_at (f:=165) (fun W hW=>g_wadd1 aq W) ?_) | (with_reducible refine Sx.call_at (f:=167) (fun W hW=>g_wsub_me am' ar W) ?_) | (with_reducible refine Sx.call_at (f:=163) (fun W hW=>g_signed_me (by assumption) W) ?_) | (with_reducible refine eq_is (fun W=>by exact eqm_run _ _ _ _ _ _ _ _ W) ?_) | (with_reducible refine cregF ?_))
      rfl
end Go.Proofs.YtncmmbacoknefaaGreat

/- He: What calls of the reference of wide give. -/
namespace Go.Proofs.YtncmmbacoknefaaGreat
open Go Go.RowKit Sx
set_option linter.unusedVariables false
set_option linter.unusedSimpArgs false
theorem rg_valid (n:Bool) {a b c d:Int} (ha:U64 a) (hb:U64 b) (hc:U64 c) (hd:U64 d) (W:World):Gives Tryz.prog 100 [WV n a b c d] W (· = .bool (!n || !mz a b c d)):=gives_known en_r02_Valid (rvalid_any n a b c d ha hb hc hd W)
theorem rg_clean (n:Bool) {a b c d:Int} (ha:U64 a) (hb:U64 b) (hc:U64 c) (hd:U64 d) (W:World):Gives Tryz.prog 109 [WV n a b c d] W (· = WV (cn n a b c d) a b c d):=gives_known en_r02_clean (rclean_any n a b c d ha hb hc hd W)
theorem rg_sign {v:Value} {z:Int} (h:IsW v z) (W:World):Gives Tryz.prog 104 [v] W (· = .int .i64 (cm z 0)):=by
 obtain ⟨n,a,b,c,d,rfl,rfl,ha,hb,hc,hd⟩:=h
 exact gives_known en_r02_Sign (rsign_any n a b c d ha hb hc hd W)
theorem rg_neg {v:Value} {z:Int} (h:IsW v z) (W:World):Gives Tryz.prog 117 [v] W (· = WE (-z)):=gives_known en_r02_Neg (rneg_w h W)
theorem rg_add {v v':Value} {z z':Int} (h:IsW v z) (h':IsW v' z') (W:World):Gives Tryz.prog 51 [v,v'] W (· = .tuple #[WE (cl (z + z')),.bool (fb (z + z'))]):=gives_known en_r02_Add (radd_w h h' W)
theorem rg_mul {v v':Value} {z z':Int} (h:IsW v z) (h':IsW v' z') (W:World):Gives Tryz.prog 76 [v,v'] W (· = .tuple #[WE (cl (z * z')),.bool (fb (z * z'))]):=gives_known en_r02_Mul (rmul_w h h' W)
theorem rg_sub {v v':Value} {z z':Int} (h:IsW v z) (h':IsW v' z') (W:World):Gives Tryz.prog 53 [v,v'] W (· = .tuple #[WE (cl (z - z')),.bool (fb (z - z'))]):=gives_known en_r02_Sub (rsub_w h h' W)
theorem rg_Of {v:Int} (h:I64 v) (W:World):Gives Tryz.prog 50 [.int .i64 v] W (· = WE v):=gives_known en_r02_Of (rOf_any v h W)
theorem rg_OfU {v:Int} (h:U64 v) (W:World):Gives Tryz.prog 75 [.int .u64 v] W (· = WE v):=by
 refine gives_known en_r02_OfUnsigned ?_
 rw [we_uns v h]
 refine known_of (enter Tryz.func75 r02_OfUnsigned.ok (args:=[.int .u64 v]) (by simp) ?_)
 repeat' (first | simp (disch:=omega) only [sxE,r02_OfUnsigned.E,Nat.reduceAdd,Nat.reduceEqDiff,Nat.reduceMul,Nat.reduceSub,Int.reduceAdd,Int.reduceSub,Int.reduceMul,Int.reduceNeg,Int.reduceLT,Int.reduceLE,Int.reduceEq,Int.reduceToNat,↓reduceIte,Int.reducePow,Nat.reduceLeDiff,Nat.reduceLT,ne_eq,eq_self,List.length_cons,List.length_nil] | (with_reducible refine cregF ?_))
theorem of_mag {n:Bool} {m:Int} (h:A4 m) (W:World):Calls Tryz.prog 110 #[WV n (lb0 m) (lb1 m) (lb2 m) (lb3 m)] W (MagP W m):=by
 have:=rof_any n (lb0 m) (lb1 m) (lb2 m) (lb3 m) (lb0_in m) (lb1_in m) (lb2_in m) (lb3_in m) W
 rw [mv_me h] at this
 exact this
theorem cmp_mul {z y:Int}:(cm z 0≠cm y 0→cm z y = if cm z 0 < cm y 0 then -1 else 1)∧(cm z 0 = cm y 0→cm z y = cm z 0 * cm (ab z) (ab y)):=by
 rw [cm_zero,cm_zero]
 unfold cm ab
 refine ⟨fun h=>?_,fun h=>?_⟩
 all_goals
  repeat' split
  all_goals (repeat' (split at h))
  all_goals omega
set_option maxRecDepth 100000 in
theorem rg_compare {v v':Value} {z z':Int} (h:IsW v z) (h':IsW v' z') (W:World):Gives Tryz.prog 54 [v,v'] W (· = .int .i64 (cm z z')):=by
 have s1:=fun W=>rg_sign h W
 have s2:=fun W=>rg_sign h' W
 obtain ⟨k1,k2⟩:=cmp_mul (z:=z) (y:=z')
 obtain ⟨n,m,rfl,am,hab,-,-⟩:=h.me
 obtain ⟨n',m',rfl,am',hab',-,-⟩:=h'.me
 rw [hab,hab'] at k2
 clear h h' hab hab'
 refine gives_known en_r02_Compare ?_
 have b1 : -1≤cm z 0∧cm z 0≤1:=by rw [cm_zero]; (repeat' split) <;> omega
 have b2 : -1≤cm z' 0∧cm z' 0≤1:=by rw [cm_zero]; (repeat' split) <;> omega
 have b3 : -1≤cm m m'∧cm m m'≤1:=by unfold cm; (repeat' split) <;> omega
 generalize cm z 0 = p at *
 generalize cm z' 0 = q at *
 generalize cm z z' = r at *
 refine known_of (enter Tryz.func54 r02_Compare.ok (args:=[WV n (lb0 m) (lb1 m) (lb2 m) (lb3 m),WV n' (lb0 m') (lb1 m') (lb2 m') (lb3 m')]) (by simp) ?_)
 by_cases hpq:p = q
 ·have hne:(p == q) = true:=beq_iff_eq.2 hpq
  repeat' (first | simp (disch:=omega) only [sxE,r02_Compare.E,Nat.reduceAdd,Nat.reduceEqDiff,Nat.reduceMul,Nat.reduceSub,Int.reduceAdd,Int.reduceSub,Int.reduceMul,Int.reduceNeg,Int.reduceLT,Int.reduceLE,Int.reduceEq,Int.reduceToNat,↓reduceIte,Int.reducePow,Nat.reduceLeDiff,Nat.reduceLT,ne_eq,eq_self,List.length_cons,List.length_nil,hne] | (with_reducible refine Sx.call_at (f:=104) (fun W hW=>s1 W) ?_) | (with_reducible refine Sx.call_at (f:=104) (fun W hW=>s2 W) ?_) | (with_reducible refine cregF ?_))
  refine asks_r (L:=[]) (ws:=wl m) en_r02_of (kX_nil _) (fun W hW _=>of_mag am W) fun a1 c1 hs1 hn1=>?_
  simp (disch:=omega) only [sxE,r02_Compare.E,Nat.reduceAdd,Nat.reduceEqDiff,Nat.reduceMul,Nat.reduceSub,Int.reduceAdd,Int.reduceSub,Int.reduceMul,Int.reduceNeg,Int.reduceLT,Int.reduceLE,Int.reduceEq,Int.reduceToNat,↓reduceIte,Int.reducePow,Nat.reduceLeDiff,Nat.reduceLT,ne_eq,eq_self,List.length_cons,List.length_nil]
  refine asks_r (L:=[.r (.slice a1 (wl m).length c1) (wl m)]) (ws:=wl m') en_r02_of rfl (fun W hW _=>of_mag am' W) fun a2 c2 hs2 hn2=>?_
  simp (disch:=omega) only [sxE,r02_Compare.E,Nat.reduceAdd,Nat.reduceEqDiff,Nat.reduceMul,Nat.reduceSub,Int.reduceAdd,Int.reduceSub,Int.reduceMul,Int.reduceNeg,Int.reduceLT,Int.reduceLE,Int.reduceEq,Int.reduceToNat,↓reduceIte,Int.reducePow,Nat.reduceLeDiff,Nat.reduceLT,ne_eq,eq_self,List.length_cons,List.length_nil]
  refine asks_ext (v:=.int .i64 (cm m m')) (fun W hW hok=>gives_known en_r02_compare ((rcompare_any _ _ _ _ _ _ _ _ am.1 am'.1 W (hok (.r (.slice a1 (wl m).length c1) (wl m)) (List.mem_cons_of_mem _ List.mem_cons_self)).1 (hok (.r (.slice a2 (wl m').length c2) (wl m')) List.mem_cons_self).1).mono fun e w' ⟨he,d,hd⟩=>⟨he,by subst hd; exact below_drewN (Below.refl _ _)⟩)) ?_
  have hw:IntKind.i64.wrap (p * cm m m') = r:=by
   rw [k2 hpq]
   have p3:p = -1∨p = 0∨p = 1:=by omega
   have c3:cm m m' = -1∨cm m m' = 0∨cm m m' = 1:=by omega
   rcases p3 with e | e | e <;> rcases c3 with f | f | f <;> rw [e,f] <;> rfl
  simp (disch:=omega) only [sxE,r02_Compare.E,Nat.reduceAdd,Nat.reduceEqDiff,Nat.reduceMul,Nat.reduceSub,Int.reduceAdd,Int.reduceSub,Int.reduceMul,Int.reduceNeg,Int.reduceLT,Int.reduceLE,Int.reduceEq,Int.reduceToNat,↓reduceIte,Int.reducePow,Nat.reduceLeDiff,Nat.reduceLT,ne_eq,eq_self,List.length_cons,List.length_nil,hw]
 ·have hr:=k1 hpq
  by_cases hlt:p < q
  ·rw [if_pos hlt] at hr
   subst hr
   repeat' (first | simp (disch:=omega) only [sxE,r02_Compare.E,Nat.reduceAdd,Nat.reduceEqDiff,Nat.reduceMul,Nat.reduceSub,Int.reduceAdd,Int.reduceSub,Int.reduceMul,Int.reduceNeg,Int.reduceLT,Int.reduceLE,Int.reduceEq,Int.reduceToNat,↓reduceIte,Int.reducePow,Nat.reduceLeDiff,Nat.reduceLT,ne_eq,eq_self,List.length_cons,List.length_nil] | (with_reducible refine Sx.call_at (f:=104) (fun W hW=>s1 W) ?_) | (with_reducible refine Sx.call_at (f:=104) (fun W hW=>s2 W) ?_) | (with_reducible refine cregF ?_))
  ·rw [if_neg hlt] at hr
   subst hr
   repeat' (first | simp (disch:=omega) only [sxE,r02_Compare.E,Nat.reduceAdd,Nat.reduceEqDiff,Nat.reduceMul,Nat.reduceSub,Int.reduceAdd,Int.reduceSub,Int.reduceMul,Int.reduceNeg,Int.reduceLT,Int.reduceLE,Int.reduceEq,Int.reduceToNat,↓reduceIte,Int.reducePow,Nat.reduceLeDiff,Nat.reduceLT,ne_eq,eq_self,List.length_cons,List.length_nil] | (with_reducible refine Sx.call_at (f:=104) (fun W hW=>s1 W) ?_) | (with_reducible refine Sx.call_at (f:=104) (fun W hW=>s2 W) ?_) | (with_reducible refine cregF ?_))
end Go.Proofs.YtncmmbacoknefaaGreat
