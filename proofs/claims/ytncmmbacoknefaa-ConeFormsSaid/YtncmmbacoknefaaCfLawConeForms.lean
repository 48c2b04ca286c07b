/- Proved: tscodeclaw13.ConeForms returns true for all arguments. No condition. -/
import Derived.Test.YtncmmbacoknefaaRows
import Derived.Test.YtncmmbacoknefaaCfClConeForms
import Derived.WalkKit
import Derived.ProofKit
import Derived.OpenShut
import Derived.SizedLaws
import Derived.Outline
import Derived.Test.YtncmmbacoknefaaCf4
import Derived.Test.YtncmmbacoknefaaCf5
import Derived.Test.YtncmmbacoknefaaCf6
namespace Go.Proofs.Ytncmmbacoknefaa.coneForms
open Go.ChangeShapes Go.WideShapes Go.ChangeAt Go.RowKit Sx
set_option linter.unusedVariables false
set_option linter.unusedSimpArgs false


theorem kv_kx (o : Bool) {p q p1 q1 : Int} : ∃ t c, KV (KX o p q p1 q1) t c :=
  kv_raw o (sg p) (sg q) (sg p1) (sg q1) (lb0_in _) (lb1_in _) (lb2_in _) (lb3_in _) (lb0_in _) (lb1_in _) (lb2_in _) (lb3_in _) (lb0_in _) (lb1_in _) (lb2_in _) (lb3_in _) (lb0_in _) (lb1_in _) (lb2_in _) (lb3_in _)
set_option maxHeartbeats 8000000 in
set_option maxRecDepth 100000 in
theorem walk (w : World) (v0 : Value) (t0 : Bool) (k0 : Cn) (hk0 : KV v0 t0 k0) (v1 : Value) (t1 : Bool) (k1 : Cn) (hk1 : KV v1 t1 k1) (v2 : Value) (p2 q2 : Int) (hq2 : CQ v2 p2 q2) (s3 : Option Addr) (l3 c3 : Nat) (z3 : List Int) (h3 : SlZ w .i64 (.slice s3 l3 c3) z3) :
    Calls Try.prog 10 #[v0, v1, v2, .slice s3 l3 c3] w fun e w' => e = .returned (.bool true) ∧ Below w.heap.size w w' := by

  have al1 := fun W => g_alike13 hk0 hk1 hq2 W
  obtain ⟨x0, x1, x2, x3, x4, x5, x6, x7, x8, x9, x10, x11, x12, x13, x14, x15, x16, x17, x18, x19, x20, rfl⟩ := hk0.cells
  obtain ⟨y0, y1, y2, y3, y4, y5, y6, y7, y8, y9, y10, y11, y12, y13, y14, y15, y16, y17, y18, y19, y20, rfl⟩ := hk1.cells
  obtain ⟨s0, s1, s2, s3', s4, s5, s6, s7, s8, s9, rfl⟩ := hq2.ten
  have kn := fun W => g_known13 W
  have st1 := fun W => gx_kstart W
  have st2 := fun W => rx_kstart W
  have z := fits_zero
  clear hk0 hk1
  refine known_of (enter Try.func10 w13_ConeForms.ok (args := [_, _, _, _]) (by simp) ?_)
  repeat' (first | simp (disch := omega) only [sxE, w13_ConeForms.E, Nat.reduceAdd, Nat.reduceEqDiff, Nat.reduceMul, Nat.reduceSub, Int.reduceAdd, Int.reduceSub, Int.reduceMul, Int.reduceNeg, Int.reduceLT, Int.reduceLE, Int.reduceEq, Int.reduceToNat, ↓reduceIte, Int.reducePow, Nat.reduceLeDiff, Nat.reduceLT, ne_eq, eq_self, List.length_cons, List.length_nil, qxE, kxE, bb_self, Bool.true_and, Bool.false_and])
  refine asks_new (L := []) rfl (kX_nil _) h3 en_m_New fun tb htb => ?_; clear htb
  repeat' (first | simp (disch := omega) only [sxE, w13_ConeForms.E, Nat.reduceAdd, Nat.reduceEqDiff, Nat.reduceMul, Nat.reduceSub, Int.reduceAdd, Int.reduceSub, Int.reduceMul, Int.reduceNeg, Int.reduceLT, Int.reduceLE, Int.reduceEq, Int.reduceToNat, ↓reduceIte, Int.reducePow, Nat.reduceLeDiff, Nat.reduceLT, ne_eq, eq_self, List.length_cons, List.length_nil, qxE, kxE, bb_self, Bool.true_and, Bool.false_and])
  refine asks_tc rfl (tpk_t _ tb) (t_some tb) en_w13_some rfl (by first | exact List.mem_singleton.2 rfl | simp) rfl (by first | exact fun j hj => .inl (List.mem_singleton.1 hj) | simp) ?_
  rintro ⟨o, p, q, p1, q1⟩ ha
  try dsimp only at ha
  try dsimp only
  repeat' (first | simp (disch := omega) only [sxE, w13_ConeForms.E, Nat.reduceAdd, Nat.reduceEqDiff, Nat.reduceMul, Nat.reduceSub, Int.reduceAdd, Int.reduceSub, Int.reduceMul, Int.reduceNeg, Int.reduceLT, Int.reduceLE, Int.reduceEq, Int.reduceToNat, ↓reduceIte, Int.reducePow, Nat.reduceLeDiff, Nat.reduceLT, ne_eq, eq_self, List.length_cons, List.length_nil, qxE, kxE, bb_self, Bool.true_and, Bool.false_and])
  refine asks_tc rfl (tpk_t _ tb) (t_some tb) en_w13_some rfl (by first | exact List.mem_singleton.2 rfl | simp) rfl (by first | exact fun j hj => .inl (List.mem_singleton.1 hj) | simp) ?_
  rintro ⟨o', r, s, r1, s1'⟩ hb
  try dsimp only at hb
  try dsimp only
  have ka := ha.kf
  have A := kv_ok ha
  have B := kv_ok hb
  try dsimp only [Cn.v] at A
  try dsimp only [Cn.v] at B
  try dsimp only [Cn.v] at ka
  try dsimp only [Cn.v] at ⊢
  have al3 := fun W => g_alike13 B A hq2 W
  have al2 : ∀ u v : Int, Fq u v → ∀ W, Gives Try.prog 51 [KX o p q p1 q1, KX o' r s r1 s1', RX u v] W (· = .bool true) := fun u v f W => g_alike13 A B f.cq W
  have C1 : CQ (RX p q) (qn true p q) (qd true p q) := .inl ⟨p, q, ka.a, ka.b, rfl, rfl, rfl⟩
  have C2 : CQ (RX p1 q1) (qn true p1 q1) (qd true p1 q1) := .inl ⟨p1, q1, ka.c, ka.d, rfl, rfl, rfl⟩
  obtain ⟨tO, cO', O⟩ := kv_kx (!o) (p := p) (q := q) (p1 := p1) (q1 := q1)
  obtain ⟨tU, cU, U⟩ := kv_kx false (p := p1) (q := q1) (p1 := p) (q1 := q)
  have al4 := fun W => g_alike13 O B hq2 W
  have al5 := fun W => g_alike13 U A C1 W
  have al6 := fun W => g_alike13 A A C2 W
  clear A B C1 C2 O U ha hb hq2 ka
  repeat' (first | simp (disch := omega) only [sxE, w13_ConeForms.E, Nat.reduceAdd, Nat.reduceEqDiff, Nat.reduceMul, Nat.reduceSub, Int.reduceAdd, Int.reduceSub, Int.reduceMul, Int.reduceNeg, Int.reduceLT, Int.reduceLE, Int.reduceEq, Int.reduceToNat, ↓reduceIte, Int.reducePow, Nat.reduceLeDiff, Nat.reduceLT, ne_eq, eq_self, List.length_cons, List.length_nil, qxE, kxE, bb_self, Bool.true_and, Bool.false_and] | (with_reducible refine Sx.call_at (f := 48) (fun W hW => kn W) ?_) | (with_reducible refine Sx.call_at (f := 49) (fun W hW => st1 W) ?_) | (with_reducible refine Sx.call_at (f := 50) (fun W hW => st2 W) ?_) | (with_reducible refine eq_is (fun W => by first | exact eqk_run z z z z z z z z W) ?_) | (with_reducible refine Sx.call_at (f := 51) (fun W hW => al1 W) ?_))
  refine asks_tc rfl (tpk_t _ tb) (t_ratio tb) en_m_Tape__Ratio rfl (by first | exact List.mem_singleton.2 rfl | simp) rfl (by first | exact fun j hj => .inl (List.mem_singleton.1 hj) | simp) ?_
  rintro ⟨u, v⟩ hf
  dsimp only at hf ⊢
  have al2 := fun W => al2 u v hf W
  repeat' (first | simp (disch := omega) only [sxE, w13_ConeForms.E, Nat.reduceAdd, Nat.reduceEqDiff, Nat.reduceMul, Nat.reduceSub, Int.reduceAdd, Int.reduceSub, Int.reduceMul, Int.reduceNeg, Int.reduceLT, Int.reduceLE, Int.reduceEq, Int.reduceToNat, ↓reduceIte, Int.reducePow, Nat.reduceLeDiff, Nat.reduceLT, ne_eq, eq_self, List.length_cons, List.length_nil, qxE, kxE, bb_self, Bool.true_and, Bool.false_and] | (with_reducible refine Sx.call_at (f := 51) (fun W hW => al2 W) ?_) | (with_reducible refine Sx.call_at (f := 51) (fun W hW => al3 W) ?_) | (with_reducible refine Sx.call_at (f := 51) (fun W hW => al4 W) ?_) | (with_reducible refine Sx.call_at (f := 51) (fun W hW => al5 W) ?_) | (with_reducible refine Sx.call_at (f := 51) (fun W hW => al6 W) ?_))

/-! ### The row -/
set_option maxRecDepth 100000 in
theorem lifted (os : Os) (started : os.Started) (H : Type) (enc : TypeId × Value → H) :
    ReturnsInHanded {} Try.checked os 10 .any (Rows.coneFormsSpec.pre6 enc Try.prog Try.f10 Rows.coneFormsRow.domain false) (Rows.coneFormsSpec.post enc Try.prog Try.f10 false true false false) := by
  refine returnsInHanded_of_change_sized (C := Try.checked) own started (by kernel_rfl) Try.func10
    (ChangeSpec.witness6 (enc := enc) (C := Try.checked) false ⟨#[], #[.agg #[.bool false, .bool false, .int .u64 0, .int .u64 0, .int .u64 0, .int .u64 0, .bool false, .int .u64 0, .int .u64 0, .int .u64 0, .int .u64 0, .bool false, .int .u64 0, .int .u64 0, .int .u64 0, .int .u64 0, .bool false, .int .u64 0, .int .u64 0, .int .u64 0, .int .u64 0], .agg #[.bool false, .bool false, .int .u64 0, .int .u64 0, .int .u64 0, .int .u64 0, .bool false, .int .u64 0, .int .u64 0, .int .u64 0, .int .u64 0, .bool false, .int .u64 0, .int .u64 0, .int .u64 0, .int .u64 0, .bool false, .int .u64 0, .int .u64 0, .int .u64 0, .int .u64 0], .agg #[.bool false, .int .u64 0, .int .u64 0, .int .u64 0, .int .u64 0, .bool false, .int .u64 0, .int .u64 0, .int .u64 0, .int .u64 0], .slice none 0 0], []⟩ 8 (by kernel_rfl) (by kernel_rfl) (by kernel_rfl) (by kernel_rfl)) ?_
  intro W base args ds gs before hval0 hW hcnd hsz _
  have hval : ∀ (j : Nat) t v, Try.f10.params[j]? = some t → args[j]? = some v → Value.okWide Try.prog W .any base t v := hval0
  have hW' := hW
  obtain ⟨p, q, hA0, hV, rfl, hfz, hnd⟩ := hW
  have hA : DataW.TrodAll enc Try.prog W 0 (fun _ => true) true Try.f10.params.toList args.toList ds p := hA0
  rw [Try.params10] at hA hval
  obtain ⟨v0, vs0, d0, ds0, p0, q0, hargs, rfl, rfl, g0, r0⟩ := trodAll_cons hA
  obtain ⟨v1, vs1, d1, ds1, p1, q1, rfl, rfl, rfl, g1, r1⟩ := trodAll_cons r0
  obtain ⟨v2, vs2, d2, ds2, p2, q2, rfl, rfl, rfl, g2, r2⟩ := trodAll_cons r1
  obtain ⟨v3, vs3, d3, ds3, p3, q3, rfl, rfl, rfl, g3, r3⟩ := trodAll_cons r2
  obtain ⟨rfl, rfl, rfl⟩ := trodAll_nil r3
  obtain rfl : args = #[v0, v1, v2, v3] := by cases args; simp_all
  obtain ⟨rfl, rfl⟩ := trodVars_none hV
  have hlt : ∀ x ∈ (p0 ++ (p1 ++ (p2 ++ (p3 ++ [])))) ++ [], x.block < W.heap.size := fun x hx => hW'.lt x hx
  obtain ⟨tt0, xx0, hkv0⟩ := open_cone (hval 0 76 v0 rfl rfl) g0
  obtain ⟨tt1, xx1, hkv1⟩ := open_cone (hval 1 76 v1 rfl rfl) g1
  obtain ⟨nb2, xa2, xb2, xc2, xd2, ne2, ya2, yb2, yc2, yd2, rfl, ⟨ua2, ub2, uc2, ud2⟩, ⟨ta2, tb2, tc2, td2⟩⟩ := open_ratio (hval 2 53 v2 rfl rfl) g2
  obtain ⟨pp2, qq2, hcq2⟩ := cq_raw nb2 ne2 ua2 ub2 uc2 ud2 ta2 tb2 tc2 td2
  obtain ⟨z3, hs3⟩ := open_slz Try.underlying23 Try.underlying3 (by kernel_rfl) (hval 3 23 v3 rfl rfl) g3 (fun x hx => hlt x (by simp [hx]))
  have hs3' := hs3
  obtain ⟨s3, l3, c3, rfl, _⟩ := hs3'
  refine (walk W _ tt0 xx0 hkv0 _ tt1 xx1 hkv1 _ pp2 qq2 hcq2 s3 l3 c3 z3 hs3).mono fun e W' ⟨he, hb⟩ => ?_
  subst he
  exact ⟨_, rfl, law_post laidOut (by kernel_rfl) rfl rfl Try.underlying4 hW' rfl rfl rfl hb⟩

theorem over : Rows.coneFormsRow.holds Try.pinned (OpenSpec.ofChange Rows.coneFormsSpec) :=
  OpenClaim.holds_of_wide 10 Try.f10 rfl rfl rfl rfl rfl rfl rfl ⟨rfl, rfl, rfl, rfl, rfl⟩ rfl rfl rfl rfl rfl (by kernel_rfl) Try.func10 (by kernel_rfl)
    (of_decide_eq_true (by kernel_rfl)) (by unfold Func.isWrapper; first | (rw [if_pos (by decide +kernel)]; kernel_rfl) | (rw [if_neg (by decide +kernel)]; exact ⟨rfl, rfl⟩))
    (fun os started H enc _ => lifted os started H enc)

/-- The given statement. -/
theorem proved : Rows.ConeFormsSaid :=
  over
#print axioms proved
end Go.Proofs.Ytncmmbacoknefaa.coneForms

