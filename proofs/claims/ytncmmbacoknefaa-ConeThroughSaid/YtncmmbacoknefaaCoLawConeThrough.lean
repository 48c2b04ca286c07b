/- Proved: tscodeclaw13.ConeThrough returns true for all arguments. No condition. -/
import Derived.Test.YtncmmbacoknefaaRows
import Derived.Test.YtncmmbacoknefaaCoClConeThrough
import Derived.WalkKit
import Derived.ProofKit
import Derived.OpenShut
import Derived.SizedLaws
import Derived.Outline
import Derived.Test.YtncmmbacoknefaaCo4
import Derived.Test.YtncmmbacoknefaaCo5
namespace Go.Proofs.Ytncmmbacoknefaa.coneThrough
open Go.ChangeShapes Go.WideShapes Go.ChangeAt Go.RowKit Sx
set_option linter.unusedVariables false
set_option linter.unusedSimpArgs false


theorem shr_u64 {x : Int} (h : U64 x) (n : Nat) : U64 (x.fdiv (2 ^ n)) := by
  rw [Int.fdiv_eq_ediv_of_nonneg _ (Int.le_of_lt (Int.pow_pos (by decide)))]
  have h2 : (0 : Int) < 2 ^ n := Int.pow_pos (by decide)
  refine ⟨Int.ediv_nonneg h.1 (Int.le_of_lt h2), ?_⟩
  have := Int.ediv_le_self (2 ^ n) h.1
  have := h.2
  omega
set_option maxHeartbeats 8000000 in
set_option maxRecDepth 100000 in
theorem walk (w : World) (v0 : Value) (t0 : Bool) (z0 : Int) (hw0 : RW v0 t0 z0) (a1 : Int) (h1 : I64 a1) (a2 : Int) (h2 : I64 a2) (a3 : Int) (h3 : U64 a3) (s4 : Option Addr) (l4 c4 : Nat) (z4 : List Int) (h4 : SlZ w .i64 (.slice s4 l4 c4) z4) :
    Calls Try.prog 11 #[v0, .int .i64 a1, .int .i64 a2, .int .u64 a3, .slice s4 l4 c4] w fun e w' => e = .returned (.bool true) ∧ Below w.heap.size w w' := by

  have th1 := fun W => g_through13 hw0 h1 h2 h3 W
  obtain ⟨x0, x1, x2, x3, x4, rfl⟩ := hw0.five
  have kn := fun W => g_known13 W
  have o1 := fun W => rx_of h1 W
  clear hw0
  refine known_of (enter Try.func11 w13_ConeThrough.ok (args := [_, _, _, _, _]) (by simp) ?_)
  repeat' (first | simp (disch := omega) only [sxE, w13_ConeThrough.E, Nat.reduceAdd, Nat.reduceEqDiff, Nat.reduceMul, Nat.reduceSub, Int.reduceAdd, Int.reduceSub, Int.reduceMul, Int.reduceNeg, Int.reduceLT, Int.reduceLE, Int.reduceEq, Int.reduceToNat, ↓reduceIte, Int.reducePow, Nat.reduceLeDiff, Nat.reduceLT, ne_eq, eq_self, List.length_cons, List.length_nil, qxE, kxE, bb_self, Bool.true_and, Bool.false_and])
  refine asks_new (L := []) rfl (kX_nil _) h4 en_m_New fun tb htb => ?_; clear htb
  repeat' (first | simp (disch := omega) only [sxE, w13_ConeThrough.E, Nat.reduceAdd, Nat.reduceEqDiff, Nat.reduceMul, Nat.reduceSub, Int.reduceAdd, Int.reduceSub, Int.reduceMul, Int.reduceNeg, Int.reduceLT, Int.reduceLE, Int.reduceEq, Int.reduceToNat, ↓reduceIte, Int.reducePow, Nat.reduceLeDiff, Nat.reduceLT, ne_eq, eq_self, List.length_cons, List.length_nil, qxE, kxE, bb_self, Bool.true_and, Bool.false_and])
  refine asks_tc rfl (tpk_t _ tb) (t_word tb) en_m_Tape__Word rfl (by first | exact List.mem_singleton.2 rfl | simp) rfl (by first | exact fun j hj => .inl (List.mem_singleton.1 hj) | simp) ?_
  intro x hx
  repeat' (first | simp (disch := omega) only [sxE, w13_ConeThrough.E, Nat.reduceAdd, Nat.reduceEqDiff, Nat.reduceMul, Nat.reduceSub, Int.reduceAdd, Int.reduceSub, Int.reduceMul, Int.reduceNeg, Int.reduceLT, Int.reduceLE, Int.reduceEq, Int.reduceToNat, ↓reduceIte, Int.reducePow, Nat.reduceLeDiff, Nat.reduceLT, ne_eq, eq_self, List.length_cons, List.length_nil, qxE, kxE, bb_self, Bool.true_and, Bool.false_and])
  refine asks_tc rfl (tpk_t _ tb) (t_next tb (by decide) (by decide)) en_m_Tape__Next rfl (by first | exact List.mem_singleton.2 rfl | simp) rfl (by first | exact fun j hj => .inl (List.mem_singleton.1 hj) | simp) ?_
  rintro r ⟨r1, r2⟩
  repeat' (first | simp (disch := omega) only [sxE, w13_ConeThrough.E, Nat.reduceAdd, Nat.reduceEqDiff, Nat.reduceMul, Nat.reduceSub, Int.reduceAdd, Int.reduceSub, Int.reduceMul, Int.reduceNeg, Int.reduceLT, Int.reduceLE, Int.reduceEq, Int.reduceToNat, ↓reduceIte, Int.reducePow, Nat.reduceLeDiff, Nat.reduceLT, ne_eq, eq_self, List.length_cons, List.length_nil, qxE, kxE, bb_self, Bool.true_and, Bool.false_and])
  refine asks_tc rfl (tpk_t _ tb) (t_next tb (by decide) (by decide)) en_m_Tape__Next rfl (by first | exact List.mem_singleton.2 rfl | simp) rfl (by first | exact fun j hj => .inl (List.mem_singleton.1 hj) | simp) ?_
  rintro y ⟨y1, y2⟩
  repeat' (first | simp (disch := omega) only [sxE, w13_ConeThrough.E, Nat.reduceAdd, Nat.reduceEqDiff, Nat.reduceMul, Nat.reduceSub, Int.reduceAdd, Int.reduceSub, Int.reduceMul, Int.reduceNeg, Int.reduceLT, Int.reduceLE, Int.reduceEq, Int.reduceToNat, ↓reduceIte, Int.reducePow, Nat.reduceLeDiff, Nat.reduceLT, ne_eq, eq_self, List.length_cons, List.length_nil, qxE, kxE, bb_self, Bool.true_and, Bool.false_and])
  have hs := shr_u64 hx r.toNat
  generalize x.fdiv (2 ^ r.toNat) = x' at *
  have hy : U64 y := ⟨y1, by omega⟩
  have hz : U64 0 := ⟨by decide, by decide⟩
  obtain ⟨tn, zn, hn⟩ := rw_raw false hs hy hz hz
  have fn := fits_neg hn.fits
  have ng : ∀ W, Gives Try.prog 53 [.agg #[.bool false, .int .u64 x', .int .u64 y, .int .u64 0, .int .u64 0]] W (· = WX (-zn)) := fun W => rg_neg hn.is W
  have ta : ∀ {v e d : Int}, I64 v → I64 e → U64 d → ∀ W, Gives Try.prog 54 [.agg #[.bool false, .int .u64 x', .int .u64 y, .int .u64 0, .int .u64 0], .int .i64 v, .int .i64 e, .int .u64 d] W (· = .bool true) := fun a b c W => g_through13 hn a b c W
  have tb' : ∀ {v e d : Int}, I64 v → I64 e → U64 d → ∀ W, Gives Try.prog 54 [WX (-zn), .int .i64 v, .int .i64 e, .int .u64 d] W (· = .bool true) := fun a b c W => g_through13 fn.rw a b c W
  have tw : ∀ {z v e d : Int}, I64 z → I64 v → I64 e → U64 d → ∀ W, Gives Try.prog 54 [WX z, .int .i64 v, .int .i64 e, .int .u64 d] W (· = .bool true) := fun h a b c W => g_through13 (fits_i64 h).rw a b c W
  clear fn hn hs hy hz hx
  refine asks_tc rfl (tpk_t _ tb) (t_bool tb (by decide) (by decide)) en_m_Tape__Bool rfl (by first | exact List.mem_singleton.2 rfl | simp) rfl (by first | exact fun j hj => .inl (List.mem_singleton.1 hj) | simp) ?_
  rintro (_ | _) -
  all_goals
    repeat' (first | simp (disch := omega) only [sxE, w13_ConeThrough.E, Nat.reduceAdd, Nat.reduceEqDiff, Nat.reduceMul, Nat.reduceSub, Int.reduceAdd, Int.reduceSub, Int.reduceMul, Int.reduceNeg, Int.reduceLT, Int.reduceLE, Int.reduceEq, Int.reduceToNat, ↓reduceIte, Int.reducePow, Nat.reduceLeDiff, Nat.reduceLT, ne_eq, eq_self, List.length_cons, List.length_nil, qxE, kxE, bb_self, Bool.true_and, Bool.false_and] | (with_reducible refine Sx.call_at (f := 53) (fun W hW => ng W) ?_) | (with_reducible refine Sx.call_at (f := 48) (fun W hW => kn W) ?_) | (with_reducible refine Sx.call_at (f := 54) (fun W hW => th1 W) ?_))
    refine asks_tc rfl (tpk_t _ tb) (t_int tb) en_m_Tape__Int rfl (by first | exact List.mem_singleton.2 rfl | simp) rfl (by first | exact fun j hj => .inl (List.mem_singleton.1 hj) | simp) ?_
    intro i1 hi1
    repeat' (first | simp (disch := omega) only [sxE, w13_ConeThrough.E, Nat.reduceAdd, Nat.reduceEqDiff, Nat.reduceMul, Nat.reduceSub, Int.reduceAdd, Int.reduceSub, Int.reduceMul, Int.reduceNeg, Int.reduceLT, Int.reduceLE, Int.reduceEq, Int.reduceToNat, ↓reduceIte, Int.reducePow, Nat.reduceLeDiff, Nat.reduceLT, ne_eq, eq_self, List.length_cons, List.length_nil, qxE, kxE, bb_self, Bool.true_and, Bool.false_and])
    refine asks_tc rfl (tpk_t _ tb) (t_tol tb) en_m_Tape__Tolerance rfl (by first | exact List.mem_singleton.2 rfl | simp) rfl (by first | exact fun j hj => .inl (List.mem_singleton.1 hj) | simp) ?_
    rintro e1 ⟨he1, he2⟩
    have ie1 : I64 e1 := ⟨by omega, by omega⟩
    repeat' (first | simp (disch := omega) only [sxE, w13_ConeThrough.E, Nat.reduceAdd, Nat.reduceEqDiff, Nat.reduceMul, Nat.reduceSub, Int.reduceAdd, Int.reduceSub, Int.reduceMul, Int.reduceNeg, Int.reduceLT, Int.reduceLE, Int.reduceEq, Int.reduceToNat, ↓reduceIte, Int.reducePow, Nat.reduceLeDiff, Nat.reduceLT, ne_eq, eq_self, List.length_cons, List.length_nil, qxE, kxE, bb_self, Bool.true_and, Bool.false_and])
    refine asks_tc rfl (tpk_t _ tb) (t_word tb) en_m_Tape__Word rfl (by first | exact List.mem_singleton.2 rfl | simp) rfl (by first | exact fun j hj => .inl (List.mem_singleton.1 hj) | simp) ?_
    intro w1 hw1
    repeat' (first | simp (disch := omega) only [sxE, w13_ConeThrough.E, Nat.reduceAdd, Nat.reduceEqDiff, Nat.reduceMul, Nat.reduceSub, Int.reduceAdd, Int.reduceSub, Int.reduceMul, Int.reduceNeg, Int.reduceLT, Int.reduceLE, Int.reduceEq, Int.reduceToNat, ↓reduceIte, Int.reducePow, Nat.reduceLeDiff, Nat.reduceLT, ne_eq, eq_self, List.length_cons, List.length_nil, qxE, kxE, bb_self, Bool.true_and, Bool.false_and])
    refine asks_tc rfl (tpk_t _ tb) (t_next tb (by decide) (by decide)) en_m_Tape__Next rfl (by first | exact List.mem_singleton.2 rfl | simp) rfl (by first | exact fun j hj => .inl (List.mem_singleton.1 hj) | simp) ?_
    rintro n1 ⟨hn1, hn2⟩
    have ud := shr_u64 hw1 n1.toNat
    have t2a := ta hi1 ie1 ud
    have t2b := tb' hi1 ie1 ud
    clear ta tb'
    repeat' (first | simp (disch := omega) only [sxE, w13_ConeThrough.E, Nat.reduceAdd, Nat.reduceEqDiff, Nat.reduceMul, Nat.reduceSub, Int.reduceAdd, Int.reduceSub, Int.reduceMul, Int.reduceNeg, Int.reduceLT, Int.reduceLE, Int.reduceEq, Int.reduceToNat, ↓reduceIte, Int.reducePow, Nat.reduceLeDiff, Nat.reduceLT, ne_eq, eq_self, List.length_cons, List.length_nil, qxE, kxE, bb_self, Bool.true_and, Bool.false_and] | (with_reducible refine Sx.call_at (f := 20) (fun W hW => o1 W) ?_) | (with_reducible refine Sx.call_at (f := 54) (fun W hW => t2a W) ?_) | (with_reducible refine Sx.call_at (f := 54) (fun W hW => t2b W) ?_))
    refine asks_tc rfl (tpk_t _ tb) (t_int tb) en_m_Tape__Int rfl (by first | exact List.mem_singleton.2 rfl | simp) rfl (by first | exact fun j hj => .inl (List.mem_singleton.1 hj) | simp) ?_
    intro i2 hi2
    repeat' (first | simp (disch := omega) only [sxE, w13_ConeThrough.E, Nat.reduceAdd, Nat.reduceEqDiff, Nat.reduceMul, Nat.reduceSub, Int.reduceAdd, Int.reduceSub, Int.reduceMul, Int.reduceNeg, Int.reduceLT, Int.reduceLE, Int.reduceEq, Int.reduceToNat, ↓reduceIte, Int.reducePow, Nat.reduceLeDiff, Nat.reduceLT, ne_eq, eq_self, List.length_cons, List.length_nil, qxE, kxE, bb_self, Bool.true_and, Bool.false_and])
    refine asks_tc rfl (tpk_t _ tb) (t_tol tb) en_m_Tape__Tolerance rfl (by first | exact List.mem_singleton.2 rfl | simp) rfl (by first | exact fun j hj => .inl (List.mem_singleton.1 hj) | simp) ?_
    rintro e2 ⟨he3, he4⟩
    have ie2 : I64 e2 := ⟨by omega, by omega⟩
    have t3 := tw h1 hi2 ie2 h3
    repeat' (first | simp (disch := omega) only [sxE, w13_ConeThrough.E, Nat.reduceAdd, Nat.reduceEqDiff, Nat.reduceMul, Nat.reduceSub, Int.reduceAdd, Int.reduceSub, Int.reduceMul, Int.reduceNeg, Int.reduceLT, Int.reduceLE, Int.reduceEq, Int.reduceToNat, ↓reduceIte, Int.reducePow, Nat.reduceLeDiff, Nat.reduceLT, ne_eq, eq_self, List.length_cons, List.length_nil, qxE, kxE, bb_self, Bool.true_and, Bool.false_and] | (with_reducible refine Sx.call_at (f := 54) (fun W hW => t3 W) ?_))
    refine asks_tc rfl (tpk_t _ tb) (t_int tb) en_m_Tape__Int rfl (by first | exact List.mem_singleton.2 rfl | simp) rfl (by first | exact fun j hj => .inl (List.mem_singleton.1 hj) | simp) ?_
    intro i3 hi3
    have o3 := fun W => rx_of hi3 W
    repeat' (first | simp (disch := omega) only [sxE, w13_ConeThrough.E, Nat.reduceAdd, Nat.reduceEqDiff, Nat.reduceMul, Nat.reduceSub, Int.reduceAdd, Int.reduceSub, Int.reduceMul, Int.reduceNeg, Int.reduceLT, Int.reduceLE, Int.reduceEq, Int.reduceToNat, ↓reduceIte, Int.reducePow, Nat.reduceLeDiff, Nat.reduceLT, ne_eq, eq_self, List.length_cons, List.length_nil, qxE, kxE, bb_self, Bool.true_and, Bool.false_and] | (with_reducible refine Sx.call_at (f := 20) (fun W hW => o3 W) ?_))
    refine asks_tc rfl (tpk_t _ tb) (t_int tb) en_m_Tape__Int rfl (by first | exact List.mem_singleton.2 rfl | simp) rfl (by first | exact fun j hj => .inl (List.mem_singleton.1 hj) | simp) ?_
    intro i4 hi4
    repeat' (first | simp (disch := omega) only [sxE, w13_ConeThrough.E, Nat.reduceAdd, Nat.reduceEqDiff, Nat.reduceMul, Nat.reduceSub, Int.reduceAdd, Int.reduceSub, Int.reduceMul, Int.reduceNeg, Int.reduceLT, Int.reduceLE, Int.reduceEq, Int.reduceToNat, ↓reduceIte, Int.reducePow, Nat.reduceLeDiff, Nat.reduceLT, ne_eq, eq_self, List.length_cons, List.length_nil, qxE, kxE, bb_self, Bool.true_and, Bool.false_and])
    refine asks_tc rfl (tpk_t _ tb) (t_next tb (by decide) (by decide)) en_m_Tape__Next rfl (by first | exact List.mem_singleton.2 rfl | simp) rfl (by first | exact fun j hj => .inl (List.mem_singleton.1 hj) | simp) ?_
    rintro n2 ⟨hn3, hn4⟩
    repeat' (first | simp (disch := omega) only [sxE, w13_ConeThrough.E, Nat.reduceAdd, Nat.reduceEqDiff, Nat.reduceMul, Nat.reduceSub, Int.reduceAdd, Int.reduceSub, Int.reduceMul, Int.reduceNeg, Int.reduceLT, Int.reduceLE, Int.reduceEq, Int.reduceToNat, ↓reduceIte, Int.reducePow, Nat.reduceLeDiff, Nat.reduceLT, ne_eq, eq_self, List.length_cons, List.length_nil, qxE, kxE, bb_self, Bool.true_and, Bool.false_and])
    refine asks_tc rfl (tpk_t _ tb) (t_next tb (by decide) (by decide)) en_m_Tape__Next rfl (by first | exact List.mem_singleton.2 rfl | simp) rfl (by first | exact fun j hj => .inl (List.mem_singleton.1 hj) | simp) ?_
    rintro n3 ⟨hn5, hn6⟩
    have t4 := tw (e := n2) (d := n3) hi3 hi4 ⟨by omega, by omega⟩ ⟨by omega, by omega⟩
    repeat' (first | simp (disch := omega) only [sxE, w13_ConeThrough.E, Nat.reduceAdd, Nat.reduceEqDiff, Nat.reduceMul, Nat.reduceSub, Int.reduceAdd, Int.reduceSub, Int.reduceMul, Int.reduceNeg, Int.reduceLT, Int.reduceLE, Int.reduceEq, Int.reduceToNat, ↓reduceIte, Int.reducePow, Nat.reduceLeDiff, Nat.reduceLT, ne_eq, eq_self, List.length_cons, List.length_nil, qxE, kxE, bb_self, Bool.true_and, Bool.false_and] | (with_reducible refine Sx.call_at (f := 54) (fun W hW => t4 W) ?_))

/-! ### The row -/
set_option maxRecDepth 100000 in
theorem lifted (os : Os) (started : os.Started) (H : Type) (enc : TypeId × Value → H) :
    ReturnsInHanded {} Try.checked os 11 .any (Rows.coneThroughSpec.pre6 enc Try.prog Try.f11 Rows.coneThroughRow.domain false) (Rows.coneThroughSpec.post enc Try.prog Try.f11 false true false false) := by
  refine returnsInHanded_of_change_sized (C := Try.checked) own started (by kernel_rfl) Try.func11
    (ChangeSpec.witness6 (enc := enc) (C := Try.checked) false ⟨#[], #[.agg #[.bool false, .int .u64 0, .int .u64 0, .int .u64 0, .int .u64 0], .int .i64 0, .int .i64 0, .int .u64 0, .slice none 0 0], []⟩ 8 (by kernel_rfl) (by kernel_rfl) (by kernel_rfl) (by kernel_rfl)) ?_
  intro W base args ds gs before hval0 hW hcnd hsz _
  have hval : ∀ (j : Nat) t v, Try.f11.params[j]? = some t → args[j]? = some v → Value.okWide Try.prog W .any base t v := hval0
  have hW' := hW
  obtain ⟨p, q, hA0, hV, rfl, hfz, hnd⟩ := hW
  have hA : DataW.TrodAll enc Try.prog W 0 (fun _ => true) true Try.f11.params.toList args.toList ds p := hA0
  rw [Try.params11] at hA hval
  obtain ⟨v0, vs0, d0, ds0, p0, q0, hargs, rfl, rfl, g0, r0⟩ := trodAll_cons hA
  obtain ⟨v1, vs1, d1, ds1, p1, q1, rfl, rfl, rfl, g1, r1⟩ := trodAll_cons r0
  obtain ⟨v2, vs2, d2, ds2, p2, q2, rfl, rfl, rfl, g2, r2⟩ := trodAll_cons r1
  obtain ⟨v3, vs3, d3, ds3, p3, q3, rfl, rfl, rfl, g3, r3⟩ := trodAll_cons r2
  obtain ⟨v4, vs4, d4, ds4, p4, q4, rfl, rfl, rfl, g4, r4⟩ := trodAll_cons r3
  obtain ⟨rfl, rfl, rfl⟩ := trodAll_nil r4
  obtain rfl : args = #[v0, v1, v2, v3, v4] := by cases args; simp_all
  obtain ⟨rfl, rfl⟩ := trodVars_none hV
  have hlt : ∀ x ∈ (p0 ++ (p1 ++ (p2 ++ (p3 ++ (p4 ++ []))))) ++ [], x.block < W.heap.size := fun x hx => hW'.lt x hx
  obtain ⟨nb0, xa0, xb0, xc0, xd0, rfl, ua0, ub0, uc0, ud0⟩ := open_wide (hval 0 38 v0 rfl rfl) g0
  obtain ⟨tt0, zz0, hrw0⟩ := rw_raw nb0 ua0 ub0 uc0 ud0
  obtain ⟨a1, rfl, rfl, rfl, w1⟩ := open_int Try.underlying2 (hval 1 2 v1 rfl rfl) g1
  obtain ⟨a2, rfl, rfl, rfl, w2⟩ := open_int Try.underlying2 (hval 2 2 v2 rfl rfl) g2
  obtain ⟨a3, rfl, rfl, rfl, w3⟩ := open_int Try.underlying35 (hval 3 35 v3 rfl rfl) g3
  obtain ⟨z4, hs4⟩ := open_slz Try.underlying23 Try.underlying3 (by kernel_rfl) (hval 4 23 v4 rfl rfl) g4 (fun x hx => hlt x (by simp [hx]))
  have hs4' := hs4
  obtain ⟨s4, l4, c4, rfl, _⟩ := hs4'
  refine (walk W _ tt0 zz0 hrw0 a1 (I64.of_wf w1) a2 (I64.of_wf w2) a3 (U64.of_wf w3) s4 l4 c4 z4 hs4).mono fun e W' ⟨he, hb⟩ => ?_
  subst he
  exact ⟨_, rfl, law_post laidOut (by kernel_rfl) rfl rfl Try.underlying4 hW' rfl rfl rfl hb⟩

theorem over : Rows.coneThroughRow.holds Try.pinned (OpenSpec.ofChange Rows.coneThroughSpec) :=
  OpenClaim.holds_of_wide 11 Try.f11 rfl rfl rfl rfl rfl rfl rfl ⟨rfl, rfl, rfl, rfl, rfl⟩ rfl rfl rfl rfl rfl (by kernel_rfl) Try.func11 (by kernel_rfl)
    (of_decide_eq_true (by kernel_rfl)) (by unfold Func.isWrapper; first | (rw [if_pos (by decide +kernel)]; kernel_rfl) | (rw [if_neg (by decide +kernel)]; exact ⟨rfl, rfl⟩))
    (fun os started H enc _ => lifted os started H enc)

/-- The given statement. -/
theorem proved : Rows.ConeThroughSaid :=
  over
#print axioms proved
end Go.Proofs.Ytncmmbacoknefaa.coneThrough

