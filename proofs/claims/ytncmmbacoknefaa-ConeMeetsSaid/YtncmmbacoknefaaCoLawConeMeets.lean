/- Proved: tscodeclaw13.ConeMeets returns true for all arguments. No condition. -/
import Derived.Test.YtncmmbacoknefaaRows
import Derived.Test.YtncmmbacoknefaaCoClConeMeets
import Derived.WalkKit
import Derived.ProofKit
import Derived.OpenShut
import Derived.SizedLaws
import Derived.Outline
import Derived.Test.YtncmmbacoknefaaCo4
import Derived.Test.YtncmmbacoknefaaCo5
namespace Go.Proofs.Ytncmmbacoknefaa.coneMeets
open Go.ChangeShapes Go.WideShapes Go.ChangeAt Go.RowKit Sx
set_option linter.unusedVariables false
set_option linter.unusedSimpArgs false


abbrev qc (p q : Int) : List Value := wc p ++ wc q
structure Mt (M : Cn × Bool) : Prop where
  yes : M.2 = true → M.1.ok
  no : M.2 = false → M.1 = c0
theorem mt_of {a b : Cn} (ha : a.ok) (hb : b.ok) : Mt (cmt a b) := ⟨cmt_ok ha hb, cmt_no⟩
theorem Mt.kv {M : Cn × Bool} (h : Mt M) : ∃ d, KV M.1.v M.2 d ∧ (M.2 = true → d = M.1) := by
  obtain ⟨m, b⟩ := M
  cases b
  · obtain ⟨d, hd⟩ := kv_zero
    have := h.no rfl
    dsimp only at this
    subst this
    exact ⟨d, hd, fun e => Bool.noConfusion e⟩
  · exact ⟨m, kv_ok (h.yes rfl), fun _ => rfl⟩
theorem mtv_eq {t : Bool} {a a' b b' : Cn} (h : t = true → a = a') (h' : t = true → b = b') : mtv t a b = mtv t a' b' := by
  unfold mtv
  cases t
  · rfl
  · rw [h rfl, h' rfl]
theorem Mt.l {M : Cn × Bool} (h : Mt M) {c : Cn} (hc : c.ok) (W : World) : Gives Try.prog 60 [M.1.v, c.v] W (· = .tuple #[(mtv M.2 M.1 c).1.v, .bool (mtv M.2 M.1 c).2]) := by
  obtain ⟨d, k, e⟩ := h.kv
  have := gx_meet k (kv_ok hc) W
  unfold mtV at this
  rw [Bool.and_true, mtv_eq e (fun _ => rfl)] at this
  exact this
theorem Mt.r {M : Cn × Bool} (h : Mt M) {c : Cn} (hc : c.ok) (W : World) : Gives Try.prog 60 [c.v, M.1.v] W (· = .tuple #[(mtv M.2 c M.1).1.v, .bool (mtv M.2 c M.1).2]) := by
  obtain ⟨d, k, e⟩ := h.kv
  have := gx_meet (kv_ok hc) k W
  unfold mtV at this
  rw [Bool.true_and, mtv_eq (fun _ => rfl) e] at this
  exact this
theorem meet_ok {a b : Cn} (ha : a.ok) (hb : b.ok) (W : World) : Gives Try.prog 60 [a.v, b.v] W (· = .tuple #[(cmt a b).1.v, .bool (cmt a b).2]) := gx_meet (kv_ok ha) (kv_ok hb) W
theorem Mt.kf {M : Cn × Bool} (h : Mt M) : Kf M.1 := by
  cases e : M.2
  · rw [h.no e]; exact c0_kf
  · exact (h.yes e).kf
theorem mtv_mt {t : Bool} {a b : Cn} (ha : t = true → a.ok) (hb : t = true → b.ok) : Mt (mtv t a b) := by
  unfold mtv
  cases t
  · exact ⟨fun e => Bool.noConfusion e, fun _ => rfl⟩
  · exact mt_of (ha rfl) (hb rfl)
theorem mtv_no {t : Bool} {a b : Cn} : (mtv t a b).2 = true → t = true := by
  unfold mtv
  cases t
  · exact fun e => e
  · exact fun _ => rfl
/-- What is asked of a slope that may not be valid. -/
theorem rnd {a b m : Cn} {ok : Bool} (ha : a.ok) (hb : b.ok) (hm : ok = true → m.ok) (e : ∀ x y, Fq x y → (ok && m.has x y) = (a.has x y && b.has x y)) {p q : Int} (hp : Fits p) (hq : Fits q) :
    ∃ ba bb bm : Bool, (ok && bm) = (ba && bb) ∧ (∀ W, Gives Try.prog 59 [a.v, RX p q] W (· = .bool ba)) ∧ (∀ W, Gives Try.prog 59 [b.v, RX p q] W (· = .bool bb)) ∧ (ok = true → ∀ W, Gives Try.prog 59 [m.v, RX p q] W (· = .bool bm)) := by
  have C : CQ (RX p q) (qn true p q) (qd true p q) := .inl ⟨p, q, hp, hq, rfl, rfl, rfl⟩
  have v := fun W => gx_rvalid hp hq W
  refine ⟨_, _, true && rok true p q && m.has (qn true p q) (qd true p q), ?_, fun W => gx_has (kv_ok ha) C v W, fun W => gx_has (kv_ok hb) C v W, fun h W => gx_has (kv_ok (hm h)) C v W⟩
  have := e _ _ C.fq
  generalize a.has (qn true p q) (qd true p q) = x at *
  generalize b.has (qn true p q) (qd true p q) = y at *
  generalize m.has (qn true p q) (qd true p q) = z at *
  cases rok true p q
  · simp
  · simpa using this
set_option maxHeartbeats 8000000 in
set_option maxRecDepth 100000 in
theorem walk (w : World) (s0 : Option Addr) (l0 c0 : Nat) (z0 : List Int) (h0 : SlZ w .i64 (.slice s0 l0 c0) z0) :
    Calls Try.prog 13 #[.slice s0 l0 c0] w fun e w' => e = .returned (.bool true) ∧ Below w.heap.size w w' := by

  have kn := fun W => g_known13 W
  refine known_of (enter Try.func13 w13_ConeMeets.ok (args := [_]) (by simp) ?_)
  repeat' (first | simp (disch := omega) only [sxE, w13_ConeMeets.E, Nat.reduceAdd, Nat.reduceEqDiff, Nat.reduceMul, Nat.reduceSub, Int.reduceAdd, Int.reduceSub, Int.reduceMul, Int.reduceNeg, Int.reduceLT, Int.reduceLE, Int.reduceEq, Int.reduceToNat, ↓reduceIte, Int.reducePow, Nat.reduceLeDiff, Nat.reduceLT, ne_eq, eq_self, List.length_cons, List.length_nil, qxE, kxE, bb_self, Bool.true_and, Bool.false_and])
  refine asks_new (L := []) rfl (kX_nil _) h0 en_m_New fun tb htb => ?_; clear htb
  repeat' (first | simp (disch := omega) only [sxE, w13_ConeMeets.E, Nat.reduceAdd, Nat.reduceEqDiff, Nat.reduceMul, Nat.reduceSub, Int.reduceAdd, Int.reduceSub, Int.reduceMul, Int.reduceNeg, Int.reduceLT, Int.reduceLE, Int.reduceEq, Int.reduceToNat, ↓reduceIte, Int.reducePow, Nat.reduceLeDiff, Nat.reduceLT, ne_eq, eq_self, List.length_cons, List.length_nil, qxE, kxE, bb_self, Bool.true_and, Bool.false_and])
  refine asks_tc rfl (tpk_t _ tb) (t_some tb) en_w13_some rfl (by first | exact List.mem_singleton.2 rfl | simp) rfl (by first | exact fun j hj => .inl (List.mem_singleton.1 hj) | simp) ?_
  intro a ha
  repeat' (first | simp (disch := omega) only [sxE, w13_ConeMeets.E, Nat.reduceAdd, Nat.reduceEqDiff, Nat.reduceMul, Nat.reduceSub, Int.reduceAdd, Int.reduceSub, Int.reduceMul, Int.reduceNeg, Int.reduceLT, Int.reduceLE, Int.reduceEq, Int.reduceToNat, ↓reduceIte, Int.reducePow, Nat.reduceLeDiff, Nat.reduceLT, ne_eq, eq_self, List.length_cons, List.length_nil, qxE, kxE, bb_self, Bool.true_and, Bool.false_and])
  refine asks_tc rfl (tpk_t _ tb) (t_some tb) en_w13_some rfl (by first | exact List.mem_singleton.2 rfl | simp) rfl (by first | exact fun j hj => .inl (List.mem_singleton.1 hj) | simp) ?_
  intro b hb
  repeat' (first | simp (disch := omega) only [sxE, w13_ConeMeets.E, Nat.reduceAdd, Nat.reduceEqDiff, Nat.reduceMul, Nat.reduceSub, Int.reduceAdd, Int.reduceSub, Int.reduceMul, Int.reduceNeg, Int.reduceLT, Int.reduceLE, Int.reduceEq, Int.reduceToNat, ↓reduceIte, Int.reducePow, Nat.reduceLeDiff, Nat.reduceLT, ne_eq, eq_self, List.length_cons, List.length_nil, qxE, kxE, bb_self, Bool.true_and, Bool.false_and])
  refine asks_tc rfl (tpk_t _ tb) (t_some tb) en_w13_some rfl (by first | exact List.mem_singleton.2 rfl | simp) rfl (by first | exact fun j hj => .inl (List.mem_singleton.1 hj) | simp) ?_
  intro c hc
  have M1 := fun W => meet_ok ha hb W
  have M2 := fun W => meet_ok hb ha W
  rw [cmt_comm hb ha] at M2
  have ch := fun W => gx_choose (kv_ok ha) W
  have fch := cho_fq ha
  have hM := mt_of ha hb
  have hP := mt_of hb hc
  have M3 := fun W => meet_ok hb hc W
  have M4 := fun W => hM.l hc W
  have M5 := fun W => hP.r ha W
  rw [← cmt_assoc ha hb hc] at M5
  have hX : Mt (mtv (cmt a b).2 (cmt a b).1 c) := mtv_mt hM.yes (fun _ => hc)
  have n1 : (mtv (cmt a b).2 (cmt a b).1 c).2 = true → (cmt a b).2 = true := mtv_no
  have n2 : (mtv (cmt a b).2 (cmt a b).1 c).2 = true → (cmt b c).2 = true := by rw [cmt_assoc ha hb hc]; exact mtv_no
  have rd := fun {p q : Int} => rnd (p := p) (q := q) ha hb hM.yes (fun x y f => has_meet ha hb f)
  have fa := ha.kf
  have fb := hb.kf
  have fc := hc.kf
  have fM := hM.kf
  have fX := hX.kf
  clear hM hP hX
  generalize mtv (cmt a b).2 (cmt a b).1 c = X at *
  generalize cmt a b = M at *
  generalize cmt b c = P at *
  generalize cho true a = N at *
  obtain ⟨n, d⟩ := N
  obtain ⟨oa, a1, a2, a3, a4⟩ := a
  obtain ⟨ob, b1, b2, b3, b4⟩ := b
  obtain ⟨oc, c1, c2, c3, c4⟩ := c
  obtain ⟨⟨om, m1, m2, m3, m4⟩, ok⟩ := M
  obtain ⟨⟨oX, x1, x2, x3, x4⟩, is⟩ := X
  obtain ⟨⟨op, p1, p2, p3, p4⟩, has⟩ := P
  clear ha hb hc
  obtain ⟨fm1, fm2, fm3, fm4⟩ := fM
  obtain ⟨fx1, fx2, fx3, fx4⟩ := fX
  try dsimp only [Cn.v] at M1
  try dsimp only [Cn.v] at M2
  try dsimp only [Cn.v] at M3
  try dsimp only [Cn.v] at M4
  try dsimp only [Cn.v] at M5
  try dsimp only [Cn.v] at ch
  try dsimp only [Cn.v] at fch
  try dsimp only [Cn.v] at n1
  try dsimp only [Cn.v] at n2
  try dsimp only [Cn.v] at rd
  try dsimp only [Cn.v] at fa
  try dsimp only [Cn.v] at fb
  try dsimp only [Cn.v] at fc
  try dsimp only [Cn.v] at fm1
  try dsimp only [Cn.v] at fm2
  try dsimp only [Cn.v] at fm3
  try dsimp only [Cn.v] at fm4
  try dsimp only [Cn.v] at fx1
  try dsimp only [Cn.v] at fx2
  try dsimp only [Cn.v] at fx3
  try dsimp only [Cn.v] at fx4
  try dsimp only [Cn.v] at ⊢
  have bm := bb_self om
  have bX := bb_self oX
  have bo := bb_self ok
  repeat' (first | simp (disch := omega) only [sxE, w13_ConeMeets.E, Nat.reduceAdd, Nat.reduceEqDiff, Nat.reduceMul, Nat.reduceSub, Int.reduceAdd, Int.reduceSub, Int.reduceMul, Int.reduceNeg, Int.reduceLT, Int.reduceLE, Int.reduceEq, Int.reduceToNat, ↓reduceIte, Int.reducePow, Nat.reduceLeDiff, Nat.reduceLT, ne_eq, eq_self, List.length_cons, List.length_nil, qxE, kxE, bb_self, Bool.true_and, Bool.false_and] | (with_reducible refine Sx.call_at (f := 60) (fun W hW => M1 W) ?_) | (with_reducible refine Sx.call_at (f := 60) (fun W hW => M2 W) ?_))
  refine asks_tc rfl (tpk_t _ tb) (t_ratio tb) en_m_Tape__Ratio rfl (by first | exact List.mem_singleton.2 rfl | simp) rfl (by first | exact fun j hj => .inl (List.mem_singleton.1 hj) | simp) ?_
  rintro ⟨u, v⟩ hf
  dsimp only at hf ⊢
  repeat' (first | simp (disch := omega) only [sxE, w13_ConeMeets.E, Nat.reduceAdd, Nat.reduceEqDiff, Nat.reduceMul, Nat.reduceSub, Int.reduceAdd, Int.reduceSub, Int.reduceMul, Int.reduceNeg, Int.reduceLT, Int.reduceLE, Int.reduceEq, Int.reduceToNat, ↓reduceIte, Int.reducePow, Nat.reduceLeDiff, Nat.reduceLT, ne_eq, eq_self, List.length_cons, List.length_nil, qxE, kxE, bb_self, Bool.true_and, Bool.false_and] | (with_reducible refine Sx.call_at (f := 56) (fun W hW => ch W) ?_))
  refine genA_c (L := [.g (tK tb)]) (cs := qc u v ++ qc a1 a2 ++ qc b3 b4 ++ qc c1 c2 ++ qc n d) (T := 53) (fun b => .slice (some ⟨b, 0, none⟩) 5 5) rfl (fun W => by kernel_rfl) fun sb hsb => ?_
  clear hsb ch M1 M2
  obtain ⟨cs, hcs⟩ : ∃ cs, cs = qc u v ++ qc a1 a2 ++ qc b3 b4 ++ qc c1 c2 ++ qc n d := ⟨_, rfl⟩
  obtain ⟨lp, lq, hlf, hcell⟩ : ∃ lp lq : Nat → Int, (∀ i, i < 5 → Fits (lp i) ∧ Fits (lq i)) ∧ ∀ i, i < 5 → ∀ (j : Nat) (v : Value), (qc (lp i) (lq i))[j]? = some v → cs[i * 10 + j]? = some v := by
    refine ⟨fun i => match i with | 0 => u | 1 => a1 | 2 => b3 | 3 => c1 | _ => n, fun i => match i with | 0 => v | 1 => a2 | 2 => b4 | 3 => c2 | _ => d, fun i hi => ?_, fun i hi j v h => ?_⟩
    · rcases i with _ | _ | _ | _ | _ | i
      · exact ⟨hf.fp, hf.fq⟩
      · exact ⟨fa.a, fa.b⟩
      · exact ⟨fb.c, fb.d⟩
      · exact ⟨fc.a, fc.b⟩
      · exact ⟨fch.fp, fch.fq⟩
      · omega
    · subst hcs
      rcases i with _ | _ | _ | _ | _ | i
      rotate_right
      · omega
      all_goals (rcases j with _ | _ | _ | _ | _ | _ | _ | _ | _ | _ | j <;> first | exact h | (simp at h))
  rw [← hcs]
  clear hcs hf fa fb fc fch
  repeat' (first | simp (disch := omega) only [sxE, w13_ConeMeets.E, Nat.reduceAdd, Nat.reduceEqDiff, Nat.reduceMul, Nat.reduceSub, Int.reduceAdd, Int.reduceSub, Int.reduceMul, Int.reduceNeg, Int.reduceLT, Int.reduceLE, Int.reduceEq, Int.reduceToNat, ↓reduceIte, Int.reducePow, Nat.reduceLeDiff, Nat.reduceLT, ne_eq, eq_self, List.length_cons, List.length_nil, qxE, kxE, bb_self, Bool.true_and, Bool.false_and])
  rw [w13_ConeMeets.p5_l]
  refine LX_inv (fun i : Nat => ⟨5, [(4, .p 0 0), (5, .p 1 0), (6, .p 2 0), (7, .p 3 0), (8, .v (.bool ok)), (9, .p 4 0), (10, .v (.bool ok)), (11, .v (.slice (some ⟨sb, 0, none⟩) 5 5)), (12, .v (.int .i64 (i : Int)))], [(4, [.bool om, .bool (sg m1), .int .u64 (lb0 (ab m1)), .int .u64 (lb1 (ab m1)), .int .u64 (lb2 (ab m1)), .int .u64 (lb3 (ab m1)), .bool (sg m2), .int .u64 (lb0 (ab m2)), .int .u64 (lb1 (ab m2)), .int .u64 (lb2 (ab m2)), .int .u64 (lb3 (ab m2)), .bool (sg m3), .int .u64 (lb0 (ab m3)), .int .u64 (lb1 (ab m3)), .int .u64 (lb2 (ab m3)), .int .u64 (lb3 (ab m3)), .bool (sg m4), .int .u64 (lb0 (ab m4)), .int .u64 (lb1 (ab m4)), .int .u64 (lb2 (ab m4)), .int .u64 (lb3 (ab m4))]), (3, [.bool om, .bool (sg m1), .int .u64 (lb0 (ab m1)), .int .u64 (lb1 (ab m1)), .int .u64 (lb2 (ab m1)), .int .u64 (lb3 (ab m1)), .bool (sg m2), .int .u64 (lb0 (ab m2)), .int .u64 (lb1 (ab m2)), .int .u64 (lb2 (ab m2)), .int .u64 (lb3 (ab m2)), .bool (sg m3), .int .u64 (lb0 (ab m3)), .int .u64 (lb1 (ab m3)), .int .u64 (lb2 (ab m3)), .int .u64 (lb3 (ab m3)), .bool (sg m4), .int .u64 (lb0 (ab m4)), .int .u64 (lb1 (ab m4)), .int .u64 (lb2 (ab m4)), .int .u64 (lb3 (ab m4))]), (2, [.bool oc, .bool (sg c1), .int .u64 (lb0 (ab c1)), .int .u64 (lb1 (ab c1)), .int .u64 (lb2 (ab c1)), .int .u64 (lb3 (ab c1)), .bool (sg c2), .int .u64 (lb0 (ab c2)), .int .u64 (lb1 (ab c2)), .int .u64 (lb2 (ab c2)), .int .u64 (lb3 (ab c2)), .bool (sg c3), .int .u64 (lb0 (ab c3)), .int .u64 (lb1 (ab c3)), .int .u64 (lb2 (ab c3)), .int .u64 (lb3 (ab c3)), .bool (sg c4), .int .u64 (lb0 (ab c4)), .int .u64 (lb1 (ab c4)), .int .u64 (lb2 (ab c4)), .int .u64 (lb3 (ab c4))]), (1, [.bool ob, .bool (sg b1), .int .u64 (lb0 (ab b1)), .int .u64 (lb1 (ab b1)), .int .u64 (lb2 (ab b1)), .int .u64 (lb3 (ab b1)), .bool (sg b2), .int .u64 (lb0 (ab b2)), .int .u64 (lb1 (ab b2)), .int .u64 (lb2 (ab b2)), .int .u64 (lb3 (ab b2)), .bool (sg b3), .int .u64 (lb0 (ab b3)), .int .u64 (lb1 (ab b3)), .int .u64 (lb2 (ab b3)), .int .u64 (lb3 (ab b3)), .bool (sg b4), .int .u64 (lb0 (ab b4)), .int .u64 (lb1 (ab b4)), .int .u64 (lb2 (ab b4)), .int .u64 (lb3 (ab b4))]), (0, [.bool oa, .bool (sg a1), .int .u64 (lb0 (ab a1)), .int .u64 (lb1 (ab a1)), .int .u64 (lb2 (ab a1)), .int .u64 (lb3 (ab a1)), .bool (sg a2), .int .u64 (lb0 (ab a2)), .int .u64 (lb1 (ab a2)), .int .u64 (lb2 (ab a2)), .int .u64 (lb3 (ab a2)), .bool (sg a3), .int .u64 (lb0 (ab a3)), .int .u64 (lb1 (ab a3)), .int .u64 (lb2 (ab a3)), .int .u64 (lb3 (ab a3)), .bool (sg a4), .int .u64 (lb0 (ab a4)), .int .u64 (lb1 (ab a4)), .int .u64 (lb2 (ab a4)), .int .u64 (lb3 (ab a4))])], kX w.heap.size [.g (cK sb cs)]⟩) (fun i => i ≤ 5) (fun i => 5 - i) ?round 0 (by decide) ?start
  case start =>
    simp (disch := omega) only [sxE, w13_ConeMeets.E, Nat.reduceAdd, Nat.reduceEqDiff, Nat.reduceMul, Nat.reduceSub, Int.reduceAdd, Int.reduceSub, Int.reduceMul, Int.reduceNeg, Int.reduceLT, Int.reduceLE, Int.reduceEq, Int.reduceToNat, ↓reduceIte, Int.reducePow, Nat.reduceLeDiff, Nat.reduceLT, ne_eq, eq_self, List.length_cons, List.length_nil]
    refine extS_kn fun k hk => ?_
    rw [List.mem_singleton.1 hk]; exact List.mem_cons_self
  case round =>
    intro i hi
    try dsimp only at hi ⊢
    by_cases hlt : i < 5
    · obtain ⟨f1, f2⟩ := hlf i hlt
      have ci := hcell i hlt
      obtain ⟨ba, bb, bq, e, h1, h2, h3⟩ := rd f1 f2
      clear hlf hcell rd f1 f2 M3 M4 M5
      generalize lp i = p at *
      generalize lq i = q at *
      have ti : ((i : Int)).toNat * 10 = i * 10 := by omega
      cases ok
      · clear h3
        cases ba <;> cases bb <;> first | (exfalso; revert e; cases bq <;> decide) | skip
        all_goals
          clear e
          repeat' (first | simp (disch := omega) only [sxE, w13_ConeMeets.E, Nat.reduceAdd, Nat.reduceEqDiff, Nat.reduceMul, Nat.reduceSub, Int.reduceAdd, Int.reduceSub, Int.reduceMul, Int.reduceNeg, Int.reduceLT, Int.reduceLE, Int.reduceEq, Int.reduceToNat, ↓reduceIte, Int.reducePow, Nat.reduceLeDiff, Nat.reduceLT, ne_eq, eq_self, List.length_cons, List.length_nil, qxE, kxE, bb_self, Bool.true_and, Bool.false_and, ti, Nat.zero_add] | (refine ldP_c (l := [.bool (sg p), .int .u64 (lb0 (ab p)), .int .u64 (lb1 (ab p)), .int .u64 (lb2 (ab p)), .int .u64 (lb3 (ab p)), .bool (sg q), .int .u64 (lb0 (ab q)), .int .u64 (lb1 (ab q)), .int .u64 (lb2 (ab q)), .int .u64 (lb3 (ab q))]) rfl (List.mem_singleton.2 rfl) rfl ci ?_) | (with_reducible refine Sx.call_at (f := 59) (fun W hW => h1 W) ?_) | (with_reducible refine Sx.call_at (f := 59) (fun W hW => h2 W) ?_))
          exact ⟨i + 1, by omega, by omega, vi rfl⟩
      · have h3 := h3 rfl
        cases ba <;> cases bb <;> cases bq <;> first | (exact absurd e (by decide)) | skip
        all_goals
          clear e
          repeat' (first | simp (disch := omega) only [sxE, w13_ConeMeets.E, Nat.reduceAdd, Nat.reduceEqDiff, Nat.reduceMul, Nat.reduceSub, Int.reduceAdd, Int.reduceSub, Int.reduceMul, Int.reduceNeg, Int.reduceLT, Int.reduceLE, Int.reduceEq, Int.reduceToNat, ↓reduceIte, Int.reducePow, Nat.reduceLeDiff, Nat.reduceLT, ne_eq, eq_self, List.length_cons, List.length_nil, qxE, kxE, bb_self, Bool.true_and, Bool.false_and, ti, Nat.zero_add] | (refine ldP_c (l := [.bool (sg p), .int .u64 (lb0 (ab p)), .int .u64 (lb1 (ab p)), .int .u64 (lb2 (ab p)), .int .u64 (lb3 (ab p)), .bool (sg q), .int .u64 (lb0 (ab q)), .int .u64 (lb1 (ab q)), .int .u64 (lb2 (ab q)), .int .u64 (lb3 (ab q))]) rfl (List.mem_singleton.2 rfl) rfl ci ?_) | (with_reducible refine Sx.call_at (f := 59) (fun W hW => h3 W) ?_) | (with_reducible refine Sx.call_at (f := 59) (fun W hW => h1 W) ?_) | (with_reducible refine Sx.call_at (f := 59) (fun W hW => h2 W) ?_))
          exact ⟨i + 1, by omega, by omega, vi rfl⟩
    · clear rd hlf hcell
      cases is
      · cases ok <;> cases has
        all_goals
          repeat' (first | simp (disch := omega) only [sxE, w13_ConeMeets.E, Nat.reduceAdd, Nat.reduceEqDiff, Nat.reduceMul, Nat.reduceSub, Int.reduceAdd, Int.reduceSub, Int.reduceMul, Int.reduceNeg, Int.reduceLT, Int.reduceLE, Int.reduceEq, Int.reduceToNat, ↓reduceIte, Int.reducePow, Nat.reduceLeDiff, Nat.reduceLT, ne_eq, eq_self, List.length_cons, List.length_nil, qxE, kxE, bb_self, Bool.true_and, Bool.false_and, beq_self_eq_true] | (with_reducible refine Sx.call_at (f := 48) (fun W hW => kn W) ?_) | (with_reducible refine Sx.call_at (f := 60) (fun W hW => M4 W) ?_) | (with_reducible refine Sx.call_at (f := 60) (fun W hW => M3 W) ?_) | (with_reducible refine Sx.call_at (f := 60) (fun W hW => M5 W) ?_) | (with_reducible refine eq_is (fun W => by first | exact eqk_run fm1 fm2 fm3 fm4 fm1 fm2 fm3 fm4 W | exact eqk_run fx1 fx2 fx3 fx4 fx1 fx2 fx3 fx4 W) ?_))
      · obtain rfl := n1 rfl
        obtain rfl := n2 rfl
        repeat' (first | simp (disch := omega) only [sxE, w13_ConeMeets.E, Nat.reduceAdd, Nat.reduceEqDiff, Nat.reduceMul, Nat.reduceSub, Int.reduceAdd, Int.reduceSub, Int.reduceMul, Int.reduceNeg, Int.reduceLT, Int.reduceLE, Int.reduceEq, Int.reduceToNat, ↓reduceIte, Int.reducePow, Nat.reduceLeDiff, Nat.reduceLT, ne_eq, eq_self, List.length_cons, List.length_nil, qxE, kxE, bb_self, Bool.true_and, Bool.false_and, beq_self_eq_true] | (with_reducible refine Sx.call_at (f := 48) (fun W hW => kn W) ?_) | (with_reducible refine Sx.call_at (f := 60) (fun W hW => M4 W) ?_) | (with_reducible refine Sx.call_at (f := 60) (fun W hW => M3 W) ?_) | (with_reducible refine Sx.call_at (f := 60) (fun W hW => M5 W) ?_) | (with_reducible refine eq_is (fun W => by first | exact eqk_run fm1 fm2 fm3 fm4 fm1 fm2 fm3 fm4 W | exact eqk_run fx1 fx2 fx3 fx4 fx1 fx2 fx3 fx4 W) ?_))

/-! ### The row -/
set_option maxRecDepth 100000 in
theorem lifted (os : Os) (started : os.Started) (H : Type) (enc : TypeId × Value → H) :
    ReturnsInHanded {} Try.checked os 13 .any (Rows.coneMeetsSpec.pre6 enc Try.prog Try.f13 Rows.coneMeetsRow.domain false) (Rows.coneMeetsSpec.post enc Try.prog Try.f13 false true false false) := by
  refine returnsInHanded_of_change_sized (C := Try.checked) own started (by kernel_rfl) Try.func13
    (ChangeSpec.witness6 (enc := enc) (C := Try.checked) false ⟨#[], #[.slice none 0 0], []⟩ 8 (by kernel_rfl) (by kernel_rfl) (by kernel_rfl) (by kernel_rfl)) ?_
  intro W base args ds gs before hval0 hW hcnd hsz _
  have hval : ∀ (j : Nat) t v, Try.f13.params[j]? = some t → args[j]? = some v → Value.okWide Try.prog W .any base t v := hval0
  have hW' := hW
  obtain ⟨p, q, hA0, hV, rfl, hfz, hnd⟩ := hW
  have hA : DataW.TrodAll enc Try.prog W 0 (fun _ => true) true Try.f13.params.toList args.toList ds p := hA0
  rw [Try.params13] at hA hval
  obtain ⟨v0, vs0, d0, ds0, p0, q0, hargs, rfl, rfl, g0, r0⟩ := trodAll_cons hA
  obtain ⟨rfl, rfl, rfl⟩ := trodAll_nil r0
  obtain rfl : args = #[v0] := by cases args; simp_all
  obtain ⟨rfl, rfl⟩ := trodVars_none hV
  have hlt : ∀ x ∈ (p0 ++ []) ++ [], x.block < W.heap.size := fun x hx => hW'.lt x hx
  obtain ⟨z0, hs0⟩ := open_slz Try.underlying23 Try.underlying3 (by kernel_rfl) (hval 0 23 v0 rfl rfl) g0 (fun x hx => hlt x (by simp [hx]))
  have hs0' := hs0
  obtain ⟨s0, l0, c0, rfl, _⟩ := hs0'
  refine (walk W s0 l0 c0 z0 hs0).mono fun e W' ⟨he, hb⟩ => ?_
  subst he
  exact ⟨_, rfl, law_post laidOut (by kernel_rfl) rfl rfl Try.underlying4 hW' rfl rfl rfl hb⟩

theorem over : Rows.coneMeetsRow.holds Try.pinned (OpenSpec.ofChange Rows.coneMeetsSpec) :=
  OpenClaim.holds_of_wide 13 Try.f13 rfl rfl rfl rfl rfl rfl rfl ⟨rfl, rfl, rfl, rfl, rfl⟩ rfl rfl rfl rfl rfl (by kernel_rfl) Try.func13 (by kernel_rfl)
    (of_decide_eq_true (by kernel_rfl)) (by unfold Func.isWrapper; first | (rw [if_pos (by decide +kernel)]; kernel_rfl) | (rw [if_neg (by decide +kernel)]; exact ⟨rfl, rfl⟩))
    (fun os started H enc _ => lifted os started H enc)

/-- The given statement. -/
theorem proved : Rows.ConeMeetsSaid :=
  over
#print axioms proved
end Go.Proofs.Ytncmmbacoknefaa.coneMeets

