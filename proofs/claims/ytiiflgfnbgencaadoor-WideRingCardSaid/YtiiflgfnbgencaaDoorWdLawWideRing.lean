/- Proved: tscodeclaw02.WideRing returns true for all arguments. No condition. -/
import Derived.Test.YtiiflgfnbgencaaDoorRows
import Derived.Test.YtiiflgfnbgencaaDoorWdClWideRing
import Derived.Test.YtiiflgfnbgencaaDoorTie
import Derived.Test.YtiiflgfnbgencaaDoorCards
import Derived.WalkKit
import Derived.ProofKit
import Derived.OpenShut
import Derived.SizedLaws
import Derived.Outline
import Derived.Test.YtiiflgfnbgencaaDoorWd5
namespace Go.Proofs.YtiiflgfnbgencaaDoor.wideRing
open Go.ChangeShapes Go.WideShapes Go.ChangeAt Go.RowKit Sx
set_option linter.unusedVariables false
set_option linter.unusedSimpArgs false


theorem cl_of {z : Int} (h : fb z = true) : cl z = z := by
  unfold fb at h
  unfold cl
  rw [if_pos (by simpa using h)]
theorem b4 (a b c d : Bool) : a = false ∨ (a = true ∧ b = false) ∨ (a = true ∧ b = true ∧ c = false) ∨ (a = true ∧ b = true ∧ c = true ∧ d = false) ∨ (a = true ∧ b = true ∧ c = true ∧ d = true) := by
  cases a <;> cases b <;> cases c <;> cases d <;> simp
theorem b5 (a b c d f : Bool) : a = false ∨ (a = true ∧ b = false) ∨ (a = true ∧ b = true ∧ c = false) ∨ (a = true ∧ b = true ∧ c = true ∧ d = false) ∨ (a = true ∧ b = true ∧ c = true ∧ d = true ∧ f = false) ∨ (a = true ∧ b = true ∧ c = true ∧ d = true ∧ f = true) := by
  cases a <;> cases b <;> cases c <;> cases d <;> cases f <;> simp
theorem rw_ones {c0 c1 c2 c3 c4 : Value} {t : Bool} {z : Int} (h : RW (.agg #[c0, c1, c2, c3, c4]) t z) : one c0 = true ∧ one c1 = true ∧ one c2 = true ∧ one c3 = true ∧ one c4 = true := by
  rcases h with ⟨-, e, -⟩ | ⟨-, e, -⟩ <;> (cases e; exact ⟨rfl, rfl, rfl, rfl, rfl⟩)
set_option maxHeartbeats 80000000 in
set_option maxRecDepth 100000 in
theorem walk (w : World) (ht : tabs w) (s0 : Option Addr) (l0 c0 : Nat) (z0 : List Int) (h0 : SlZ w .i64 (.slice s0 l0 c0) z0) :
    Calls Tryd.prog 3 #[.slice s0 l0 c0] w fun e w' => e = .returned (.bool true) ∧ Below w.heap.size w w' := by
  have kn := fun W' (hb : Below w.heap.size w W') => g_known02 W' (tabs_below ht rfl hb)
  refine known_of (enter Tryd.func3 w02_WideRing.ok (args := [_]) (by simp) ?_)
  repeat' (first | simp (disch := omega) only [sxE, w02_WideRing.E, Nat.reduceAdd, Nat.reduceEqDiff, Nat.reduceMul, Nat.reduceSub, Int.reduceAdd, Int.reduceSub, Int.reduceMul, Int.reduceNeg, Int.reduceLT, Int.reduceLE, Int.reduceEq, Int.reduceToNat, ↓reduceIte, Int.reducePow, Nat.reduceLeDiff, Nat.reduceLT, ne_eq, eq_self, List.length_cons, List.length_nil, qxE])
  refine asks_new (L := []) rfl (kX_nil _) h0 en_m_New fun tb htb => ?_; clear htb
  repeat' (first | simp (disch := omega) only [sxE, w02_WideRing.E, Nat.reduceAdd, Nat.reduceEqDiff, Nat.reduceMul, Nat.reduceSub, Int.reduceAdd, Int.reduceSub, Int.reduceMul, Int.reduceNeg, Int.reduceLT, Int.reduceLE, Int.reduceEq, Int.reduceToNat, ↓reduceIte, Int.reducePow, Nat.reduceLeDiff, Nat.reduceLT, ne_eq, eq_self, List.length_cons, List.length_nil, qxE])
  refine asks_tc rfl (tpk_t _ tb) (t_wide tb) en_m_Tape__Wide rfl (by first | exact List.mem_singleton.2 rfl | simp) rfl (by first | exact fun j hj => .inl (List.mem_singleton.1 hj) | simp) ?_
  rintro ⟨e0, e1, e2, e3, e4⟩ ⟨t5, x, hx⟩
  dsimp only at hx ⊢
  repeat' (first | simp (disch := omega) only [sxE, w02_WideRing.E, Nat.reduceAdd, Nat.reduceEqDiff, Nat.reduceMul, Nat.reduceSub, Int.reduceAdd, Int.reduceSub, Int.reduceMul, Int.reduceNeg, Int.reduceLT, Int.reduceLE, Int.reduceEq, Int.reduceToNat, ↓reduceIte, Int.reducePow, Nat.reduceLeDiff, Nat.reduceLT, ne_eq, eq_self, List.length_cons, List.length_nil, qxE])
  refine asks_tc rfl (tpk_t _ tb) (t_wide tb) en_m_Tape__Wide rfl (by first | exact List.mem_singleton.2 rfl | simp) rfl (by first | exact fun j hj => .inl (List.mem_singleton.1 hj) | simp) ?_
  rintro ⟨g0, g1, g2, g3, g4⟩ ⟨t6, y, hy⟩
  dsimp only at hy ⊢
  repeat' (first | simp (disch := omega) only [sxE, w02_WideRing.E, Nat.reduceAdd, Nat.reduceEqDiff, Nat.reduceMul, Nat.reduceSub, Int.reduceAdd, Int.reduceSub, Int.reduceMul, Int.reduceNeg, Int.reduceLT, Int.reduceLE, Int.reduceEq, Int.reduceToNat, ↓reduceIte, Int.reducePow, Nat.reduceLeDiff, Nat.reduceLT, ne_eq, eq_self, List.length_cons, List.length_nil, qxE])
  refine asks_tc rfl (tpk_t _ tb) (t_wide tb) en_m_Tape__Wide rfl (by first | exact List.mem_singleton.2 rfl | simp) rfl (by first | exact fun j hj => .inl (List.mem_singleton.1 hj) | simp) ?_
  rintro ⟨k0, k1, k2, k3, k4⟩ ⟨t7, z, hz⟩
  dsimp only at hz ⊢
  have a1 : ∀ W, Gives Tryd.prog 11 [.agg #[e0, e1, e2, e3, e4], .agg #[g0, g1, g2, g3, g4]] W (· = .tuple #[WX (cl (x + y)), .bool (fb (x + y))]) := fun W => g_add hx.is hy.is W
  have a2 : ∀ W, Gives Tryd.prog 11 [.agg #[g0, g1, g2, g3, g4], .agg #[e0, e1, e2, e3, e4]] W (· = .tuple #[WX (cl (x + y)), .bool (fb (x + y))]) := fun W => by rw [Int.add_comm]; exact g_add hy.is hx.is W
  have m1 : ∀ W, Gives Tryd.prog 12 [.agg #[e0, e1, e2, e3, e4], .agg #[g0, g1, g2, g3, g4]] W (· = .tuple #[WX (cl (x * y)), .bool (fb (x * y))]) := fun W => g_mul hx.is hy.is W
  have m2 : ∀ W, Gives Tryd.prog 12 [.agg #[g0, g1, g2, g3, g4], .agg #[e0, e1, e2, e3, e4]] W (· = .tuple #[WX (cl (x * y)), .bool (fb (x * y))]) := fun W => by rw [Int.mul_comm]; exact g_mul hy.is hx.is W
  have a3 : ∀ W, Gives Tryd.prog 11 [WX (cl (x + y)), .agg #[k0, k1, k2, k3, k4]] W (· = .tuple #[WX (cl (cl (x + y) + z)), .bool (fb (cl (x + y) + z))]) := fun W => g_add (fits_cl _).is hz.is W
  have a4 : ∀ W, Gives Tryd.prog 11 [.agg #[g0, g1, g2, g3, g4], .agg #[k0, k1, k2, k3, k4]] W (· = .tuple #[WX (cl (y + z)), .bool (fb (y + z))]) := fun W => g_add hy.is hz.is W
  have a5 : ∀ W, Gives Tryd.prog 11 [.agg #[e0, e1, e2, e3, e4], WX (cl (y + z))] W (· = .tuple #[WX (cl (x + cl (y + z))), .bool (fb (x + cl (y + z)))]) := fun W => g_add hx.is (fits_cl _).is W
  have m3 : ∀ W, Gives Tryd.prog 12 [WX (cl (x * y)), .agg #[k0, k1, k2, k3, k4]] W (· = .tuple #[WX (cl (cl (x * y) * z)), .bool (fb (cl (x * y) * z))]) := fun W => g_mul (fits_cl _).is hz.is W
  have m4 : ∀ W, Gives Tryd.prog 12 [.agg #[g0, g1, g2, g3, g4], .agg #[k0, k1, k2, k3, k4]] W (· = .tuple #[WX (cl (y * z)), .bool (fb (y * z))]) := fun W => g_mul hy.is hz.is W
  have m5 : ∀ W, Gives Tryd.prog 12 [.agg #[e0, e1, e2, e3, e4], WX (cl (y * z))] W (· = .tuple #[WX (cl (x * cl (y * z))), .bool (fb (x * cl (y * z)))]) := fun W => g_mul hx.is (fits_cl _).is W
  have m6 : ∀ W, Gives Tryd.prog 12 [.agg #[e0, e1, e2, e3, e4], WX (cl (y + z))] W (· = .tuple #[WX (cl (x * cl (y + z))), .bool (fb (x * cl (y + z)))]) := fun W => g_mul hx.is (fits_cl _).is W
  have m7 : ∀ W, Gives Tryd.prog 12 [.agg #[e0, e1, e2, e3, e4], .agg #[k0, k1, k2, k3, k4]] W (· = .tuple #[WX (cl (x * z)), .bool (fb (x * z))]) := fun W => g_mul hx.is hz.is W
  have a6 : ∀ W, Gives Tryd.prog 11 [WX (cl (x * y)), WX (cl (x * z))] W (· = .tuple #[WX (cl (cl (x * y) + cl (x * z))), .bool (fb (cl (x * y) + cl (x * z)))]) := fun W => g_add (fits_cl _).is (fits_cl _).is W
  have F1 : fb (x + y) = true → fb (cl (x + y) + z) = true → fb (y + z) = true → fb (x + cl (y + z)) = true → cl (cl (x + y) + z) = cl (x + cl (y + z)) := fun h1 h2 h3 h4 => by
    rw [cl_of h2, cl_of h4, cl_of h1, cl_of h3, Int.add_assoc]
  have F2 : fb (x * y) = true → fb (cl (x * y) * z) = true → fb (y * z) = true → fb (x * cl (y * z)) = true → cl (cl (x * y) * z) = cl (x * cl (y * z)) := fun h1 h2 h3 h4 => by
    rw [cl_of h2, cl_of h4, cl_of h1, cl_of h3, Int.mul_assoc]
  have F3 : fb (y + z) = true → fb (x * cl (y + z)) = true → fb (x * y) = true → fb (x * z) = true → fb (cl (x * y) + cl (x * z)) = true → cl (x * cl (y + z)) = cl (cl (x * y) + cl (x * z)) := fun h1 h2 h3 h4 h5 => by
    rw [cl_of h2, cl_of h5, cl_of h1, cl_of h3, cl_of h4, Int.mul_add]
  have q1 := fits_cl (x + y)
  have q2 := fits_cl (x * y)
  have q3 := fits_cl (cl (x + y) + z)
  have q4 := fits_cl (x + cl (y + z))
  have q5 := fits_cl (cl (x * y) * z)
  have q6 := fits_cl (x * cl (y * z))
  have q7 := fits_cl (x * cl (y + z))
  have q8 := fits_cl (cl (x * y) + cl (x * z))
  obtain ⟨r0, r1, r2, r3, r4⟩ := rw_ones hx
  obtain ⟨s0', s1, s2, s3, s4⟩ := rw_ones hy
  obtain ⟨u0, u1, u2, u3, u4⟩ := rw_ones hz
  clear hx hy hz
  generalize cl (cl (x + y) + z) = L at *
  generalize fb (cl (x + y) + z) = bi at *
  generalize cl (x + cl (y + z)) = N at *
  generalize fb (x + cl (y + z)) = bo at *
  generalize cl (cl (x * y) * z) = S at *
  generalize fb (cl (x * y) * z) = bu at *
  generalize cl (x * cl (y * z)) = D at *
  generalize fb (x * cl (y * z)) = br at *
  generalize cl (x * cl (y + z)) = MN at *
  generalize fb (x * cl (y + z)) = bz at *
  generalize cl (cl (x * y) + cl (x * z)) = SM at *
  generalize fb (cl (x * y) + cl (x * z)) = bt at *
  generalize cl (x + y) = X at *
  generalize fb (x + y) = be at *
  generalize cl (x * y) = P at *
  generalize fb (x * y) = bg at *
  generalize cl (y + z) = M at *
  generalize fb (y + z) = bj at *
  generalize cl (y * z) = V at *
  generalize fb (y * z) = bw at *
  generalize cl (x * z) = AC at *
  generalize fb (x * z) = bzz at *
  have z1 := bb_selfw be
  have z2 := bb_selfw bg
  repeat' (first | simp (disch := omega) only [sxE, w02_WideRing.E, Nat.reduceAdd, Nat.reduceEqDiff, Nat.reduceMul, Nat.reduceSub, Int.reduceAdd, Int.reduceSub, Int.reduceMul, Int.reduceNeg, Int.reduceLT, Int.reduceLE, Int.reduceEq, Int.reduceToNat, ↓reduceIte, Int.reducePow, Nat.reduceLeDiff, Nat.reduceLT, ne_eq, eq_self, List.length_cons, List.length_nil, qxE, z1, z2, r0, r1, r2, r3, r4, s0', s1, s2, s3, s4, u0, u1, u2, u3, u4, Bool.true_and, beq_self_eq_true] | (with_reducible refine Sx.call_at (f := 11) (fun W hW => a1 W) ?_) | (with_reducible refine Sx.call_at (f := 11) (fun W hW => a2 W) ?_) | (with_reducible refine Sx.call_at (f := 12) (fun W hW => m1 W) ?_) | (with_reducible refine Sx.call_at (f := 12) (fun W hW => m2 W) ?_) | (with_reducible refine eq_is (fun W => by first | exact eqx_run q1 q1 W | exact eqx_run q2 q2 W) ?_) | (with_reducible refine Sx.call_at (f := 11) (fun W hW => a3 W) ?_) | (with_reducible refine Sx.call_at (f := 11) (fun W hW => a4 W) ?_) | (with_reducible refine Sx.call_at (f := 11) (fun W hW => a5 W) ?_))
  clear a1 a2 a3 a4 a5 m1 m2 z1 z2 r0 r1 r2 r3 r4 s0' s1 s2 s3 s4 u0 u1 u2 u3 u4 q1 q2 q3
  obtain ⟨cj, hcj⟩ : ∃ c, c = bj := ⟨_, rfl⟩
  obtain ⟨cg, hcg⟩ : ∃ c, c = bg := ⟨_, rfl⟩
  rcases b4 be bi bj bo with rfl | ⟨rfl, rfl⟩ | ⟨rfl, rfl, rfl⟩ | ⟨rfl, rfl, rfl, rfl⟩ | ⟨rfl, rfl, rfl, rfl⟩
  case' inr.inr.inr.inr => obtain rfl := F1 rfl rfl rfl rfl
  all_goals
    clear F1
    repeat' (first | simp (disch := omega) only [sxE, w02_WideRing.E, Nat.reduceAdd, Nat.reduceEqDiff, Nat.reduceMul, Nat.reduceSub, Int.reduceAdd, Int.reduceSub, Int.reduceMul, Int.reduceNeg, Int.reduceLT, Int.reduceLE, Int.reduceEq, Int.reduceToNat, ↓reduceIte, Int.reducePow, Nat.reduceLeDiff, Nat.reduceLT, ne_eq, eq_self, List.length_cons, List.length_nil, qxE, Bool.true_and, beq_self_eq_true] | (with_reducible refine eq_is (fun W => by first | exact eqx_run q4 q4 W) ?_) | (with_reducible refine Sx.call_at (f := 12) (fun W hW => m3 W) ?_) | (with_reducible refine Sx.call_at (f := 12) (fun W hW => m4 W) ?_) | (with_reducible refine Sx.call_at (f := 12) (fun W hW => m5 W) ?_))
    rcases b4 bg bu bw br with rfl | ⟨rfl, rfl⟩ | ⟨rfl, rfl, rfl⟩ | ⟨rfl, rfl, rfl, rfl⟩ | ⟨rfl, rfl, rfl, rfl⟩
  case' inl.inr.inr.inr.inr => obtain rfl := F2 rfl rfl rfl rfl
  case' inr.inl.inr.inr.inr.inr => obtain rfl := F2 rfl rfl rfl rfl
  case' inr.inr.inl.inr.inr.inr.inr => obtain rfl := F2 rfl rfl rfl rfl
  case' inr.inr.inr.inl.inr.inr.inr.inr => obtain rfl := F2 rfl rfl rfl rfl
  case' inr.inr.inr.inr.inr.inr.inr.inr => obtain rfl := F2 rfl rfl rfl rfl
  all_goals
    clear F2
    repeat' (first | simp (disch := omega) only [sxE, w02_WideRing.E, Nat.reduceAdd, Nat.reduceEqDiff, Nat.reduceMul, Nat.reduceSub, Int.reduceAdd, Int.reduceSub, Int.reduceMul, Int.reduceNeg, Int.reduceLT, Int.reduceLE, Int.reduceEq, Int.reduceToNat, ↓reduceIte, Int.reducePow, Nat.reduceLeDiff, Nat.reduceLT, ne_eq, eq_self, List.length_cons, List.length_nil, qxE, Bool.true_and, beq_self_eq_true] | (with_reducible refine eq_is (fun W => by first | exact eqx_run q6 q6 W) ?_) | (with_reducible refine Sx.call_at (f := 12) (fun W hW => m6 W) ?_) | (with_reducible refine Sx.call_at (f := 12) (fun W hW => m7 W) ?_) | (with_reducible refine Sx.call_at (f := 11) (fun W hW => a6 W) ?_) | (with_reducible refine Sx.call_at (f := 13) (fun W hW => kn W hW) ?_))
  all_goals
    rcases b5 cj bz cg bzz bt with e | ⟨e, e2⟩ | ⟨e, e2, e3⟩ | ⟨e, e2, e3, e4⟩ | ⟨e, e2, e3, e4, e5⟩ | ⟨e, e2, e3, e4, e5⟩
  all_goals
    (try subst e)
    (try subst e2)
    (try subst e3)
    (try subst e4)
    (try subst e5)
    (try cases hcj)
    (try cases hcg)
  all_goals
    try (obtain rfl := F3 rfl rfl rfl rfl rfl)
  all_goals
    clear F3
    repeat' (first | simp (disch := omega) only [sxE, w02_WideRing.E, Nat.reduceAdd, Nat.reduceEqDiff, Nat.reduceMul, Nat.reduceSub, Int.reduceAdd, Int.reduceSub, Int.reduceMul, Int.reduceNeg, Int.reduceLT, Int.reduceLE, Int.reduceEq, Int.reduceToNat, ↓reduceIte, Int.reducePow, Nat.reduceLeDiff, Nat.reduceLT, ne_eq, eq_self, List.length_cons, List.length_nil, qxE, Bool.true_and, beq_self_eq_true] | (with_reducible refine eq_is (fun W => by first | exact eqx_run q8 q8 W) ?_) | (with_reducible refine Sx.call_at (f := 13) (fun W hW => kn W hW) ?_))

/-! ### The row -/
set_option maxRecDepth 100000 in
theorem lifted (os : Os) (started : os.Started) (H : Type) (enc : TypeId × Value → H) :
    ReturnsInHanded {} Tryd.checked os 3 .any (fun w args => (Rows.wideRingSpec.pre enc Tryd.prog Tryd.f3 Rows.wideRingRow.domain false w args ∧ laidMetH Tryd.prog laidD w) ∧ sizedMet enc Tryd.prog Tryd.f3 (OpenSpec.ofChange Rows.wideRingSpec) false w args) (Rows.wideRingSpec.post enc Tryd.prog Tryd.f3 false true false false) := by
  refine returnsInHanded_of_change_and (C := Tryd.checked) (X := fun w _ => laidMetH Tryd.prog laidD w) (fun _ _ _ hh h => h.of_heap hh) own started (by kernel_rfl) Tryd.func3
    (ChangeSpec.witness_shaped (enc := enc) (C := Tryd.checked) (os := os) (X := fun w _ => laidMetH Tryd.prog laidD w) false (World.doorLaid Tryd.prog 400 os) #[.slice none 0 0] 8 rfl (World.shaped_of_RefB (by kernel_rfl) (by kernel_rfl)) (by kernel_rfl) (by kernel_rfl) (by kernel_rfl) (door_met os _)) ?_
  intro W base args ds gs before hval0 hW _ _ hL _
  have hval : ∀ (j : Nat) t v, Tryd.f3.params[j]? = some t → args[j]? = some v → Value.okWide Tryd.prog W .any base t v := hval0
  have hW' := hW
  obtain ⟨p, q, hA0, hV, rfl, hfz, hnd⟩ := hW
  have hA : DataW.TrodAll enc Tryd.prog W 0 (fun _ => true) true Tryd.f3.params.toList args.toList ds p := hA0
  rw [Tryd.params3] at hA hval
  obtain ⟨v0, vs0, d0, ds0, p0, q0, hargs, rfl, rfl, g0, r0⟩ := trodAll_cons hA
  obtain ⟨rfl, rfl, rfl⟩ := trodAll_nil r0
  obtain rfl : args = #[v0] := by cases args; simp_all
  obtain ⟨rfl, rfl⟩ := trodVars_none hV
  have hlt : ∀ x ∈ (p0 ++ []) ++ [], x.block < W.heap.size := fun x hx => hW'.lt x hx
  obtain ⟨z0, hs0⟩ := open_slz Tryd.underlying22 Tryd.underlying3 (by kernel_rfl) (hval 0 22 v0 rfl rfl) g0 (fun x hx => hlt x (by simp [hx]))
  have hs0' := hs0
  obtain ⟨s0, l0, c0, rfl, _⟩ := hs0'
  refine (walk W (tabs_of_laid hL) s0 l0 c0 z0 hs0).mono fun e W' ⟨he, hb⟩ => ?_
  subst he
  exact ⟨_, rfl, law_post laidOut (by kernel_rfl) rfl rfl Tryd.underlying4 hW' rfl rfl rfl hb⟩

theorem over : Rows.wideRingRow.holds Tryd.pinned (OpenSpec.ofChange Rows.wideRingSpec) :=
  OpenClaim.holds_of_wide 3 Tryd.f3 rfl rfl rfl rfl rfl rfl rfl ⟨rfl, rfl, rfl, rfl, rfl⟩ rfl rfl rfl rfl rfl (by kernel_rfl) Tryd.func3 (by kernel_rfl)
    (of_decide_eq_true (by kernel_rfl)) (by unfold Func.isWrapper; first | (rw [if_pos (by decide +kernel)]; kernel_rfl) | (rw [if_neg (by decide +kernel)]; exact ⟨rfl, rfl⟩))
    (fun os started H enc _ => lifted os started H enc)

/-- The given statement: the card. -/
theorem proved : Rows.WideRingCardSaid :=
  Claim7.holds_tied_plain_at .later [] [.data, .data, .data] true (true, "7c9154f34fe96b9c8cae6e0afcff1f718a6fe2a9e5ce1e2b7e9c687b7e7fe878") false
    over (fun _ h => by cases h) (by kernel_rfl) (fun _ h => by cases h) wideRing_row_tie rfl ⟨rfl, rfl⟩ (by kernel_rfl) rfl
    (fun f fn hf hfn => by
      obtain rfl : f = 3 := Option.some.inj ((show Tryd.prog.funcNamed "tscodec/tscodeclaw02.WideRing" = some 3 by kernel_rfl).symm.trans hf) |>.symm
      obtain rfl : fn = Tryd.f3 := (Option.some.inj (Tryd.func3.symm.trans hfn)).symm
      exact ⟨by kernel_rfl, fun j t ht => by
        rw [Tryd.params3] at ht
        have hm : t ∈ [22] := by simpa using Array.mem_of_getElem? ht
        have hall : ([22].all fun u => !Tryd.prog.wantsStandIn u) = true := by kernel_rfl
        exact (show Tryd.prog.wantsStandIn t = false by simpa using List.all_eq_true.1 hall t hm)⟩)
    (by kernel_rfl)
#print axioms proved
end Go.Proofs.YtiiflgfnbgencaaDoor.wideRing

