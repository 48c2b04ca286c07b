/- Several texts in one: Qb, CdX, Qc, Spl, Sq, Tp, CdT, Tr, Rw, CdK, Ka, Kb, Kc. -/
import Derived.Test.YtncmmbacoknefaaProg
import Derived.Test.YtncmmbacoknefaaCf2
import Derived.Test.YtncmmbacoknefaaCf4

/- Qb: What calls of the program's ratio give: Compare, Floor, Ceil, At, Make. -/
namespace Go.Proofs.Ytncmmbacoknefaa
open Go Go.RowKit Sx
set_option linter.unusedVariables false
set_option linter.unusedSimpArgs false
theorem CQ.ten {v : Value} {p q : Int} (h : CQ v p q) : ∃ c0 c1 c2 c3 c4 c5 c6 c7 c8 c9, v = .agg #[c0, c1, c2, c3, c4, c5, c6, c7, c8, c9] := by
  rcases h with ⟨x, y, -, -, rfl, -, -⟩ | ⟨⟨q, -, rfl⟩ | ⟨p, -, rfl⟩ | rfl, -, -⟩ <;> exact ⟨_, _, _, _, _, _, _, _, _, _, rfl⟩
theorem gx_product {x y : Int} (h : Fits x) (h' : Fits y) (hf : Fits (x * y)) (W : World) : Gives Try.prog 144 [WX x, WX y] W (· = WX (x * y)) := by
  refine gives_known en_ratio_product ?_
  refine known_of (enter Try.func144 ratio_product.ok (args := [_, _]) (by simp) ?_)
  repeat' (first | simp (disch := omega) only [sxE, ratio_product.E, Nat.reduceAdd, Nat.reduceEqDiff, Nat.reduceMul, Nat.reduceSub, Int.reduceAdd, Int.reduceSub, Int.reduceMul, Int.reduceNeg, Int.reduceLT, Int.reduceLE, Int.reduceEq, Int.reduceToNat, ↓reduceIte, Int.reducePow, Nat.reduceLeDiff, Nat.reduceLT, ne_eq, eq_self, List.length_cons, List.length_nil, qxE] | (with_reducible refine Sx.call_at (f := 119) (fun W hW => gx_mul h h' hf W) ?_))
theorem Fq.fm {p q p' q' : Int} (h : Fq p q) (h' : Fq p' q') : Fits (p * q') := (bd_mul h.bp h'.bq).fits
theorem gx_rcompare {v v' : Value} {p q p' q' : Int} (h : CQ v p q) (h' : CQ v' p' q') (W : World) : Gives Try.prog 116 [v, v'] W (· = .int .i64 (cq p q p' q')) := by
  obtain ⟨c0, c1, c2, c3, c4, c5, c6, c7, c8, c9, rfl⟩ := h.ten
  obtain ⟨d0, d1, d2, d3, d4, d5, d6, d7, d8, d9, rfl⟩ := h'.ten
  have f := h.fq
  have f' := h'.fq
  have m1 := f.fm f'
  have m2 := f'.fm f
  refine gives_known en_ratio_Compare ?_
  refine known_of (enter Try.func116 ratio_Compare.ok (args := [_, _]) (by simp) ?_)
  repeat' (first | simp (disch := omega) only [sxE, ratio_Compare.E, Nat.reduceAdd, Nat.reduceEqDiff, Nat.reduceMul, Nat.reduceSub, Int.reduceAdd, Int.reduceSub, Int.reduceMul, Int.reduceNeg, Int.reduceLT, Int.reduceLE, Int.reduceEq, Int.reduceToNat, ↓reduceIte, Int.reducePow, Nat.reduceLeDiff, Nat.reduceLT, ne_eq, eq_self, List.length_cons, List.length_nil, qxE] | (with_reducible refine Sx.call_at (f := 143) (fun W hW => gx_rclean h W) ?_) | (with_reducible refine Sx.call_at (f := 143) (fun W hW => gx_rclean h' W) ?_) | (with_reducible refine Sx.call_at (f := 144) (fun W hW => gx_product f.fp f'.fq m1 W) ?_) | (with_reducible refine Sx.call_at (f := 144) (fun W hW => gx_product f'.fp f.fq m2 W) ?_) | (with_reducible refine Sx.call_at (f := 159) (fun W hW => gx_compare m1 m2 W) ?_))
  rfl
theorem Fq.neg {p q : Int} (h : Fq p q) : Fq (-p) q := ⟨h.pos, bd_neg h.bp, h.bq, by rw [gc_neg]; exact h.gc⟩
/-- A raw Wide that counts as z; b: it is valid. -/
def RW (v : Value) (b : Bool) (z : Int) : Prop := (b = true ∧ v = WX z ∧ Fits z) ∨ (b = false ∧ v = NZ ∧ z = 0)
theorem RW.five {v : Value} {b : Bool} {z : Int} (h : RW v b z) : ∃ c0 c1 c2 c3 c4, v = .agg #[c0, c1, c2, c3, c4] := by
  rcases h with ⟨-, rfl, -⟩ | ⟨-, rfl, -⟩ <;> exact ⟨_, _, _, _, _, rfl⟩
theorem RW.is {v : Value} {b : Bool} {z : Int} (h : RW v b z) : IsW v z := by
  rcases h with ⟨-, rfl, h⟩ | ⟨-, rfl, rfl⟩
  · exact h.is
  · exact nz_is
theorem RW.fits {v : Value} {b : Bool} {z : Int} (h : RW v b z) : Fits z := by
  rcases h with ⟨-, rfl, h⟩ | ⟨-, rfl, rfl⟩
  · exact h
  · exact fits_zero
theorem Fits.rw {z : Int} (h : Fits z) : RW (WX z) true z := .inl ⟨rfl, rfl, h⟩
theorem rw_raw (n : Bool) {a b c d : Int} (ha : U64 a) (hb : U64 b) (hc : U64 c) (hd : U64 d) : ∃ t z, RW (WV n a b c d) t z := by
  rcases raw_cases n ha hb hc hd with ⟨z, hz, e⟩ | e
  · exact ⟨true, z, by rw [e]; exact hz.rw⟩
  · exact ⟨false, 0, .inr ⟨rfl, e, rfl⟩⟩
theorem gy_valid {v : Value} {b : Bool} {z : Int} (h : RW v b z) (W : World) : Gives Try.prog 107 [v] W (· = .bool b) := by
  rcases h with ⟨rfl, rfl, h⟩ | ⟨rfl, rfl, rfl⟩
  · exact gx_valid h W
  · exact gx_valid0 W
theorem ry_valid {v : Value} {b : Bool} {z : Int} (h : RW v b z) (W : World) : Gives Try.prog 88 [v] W (· = .bool b) := by
  rcases h with ⟨rfl, rfl, h⟩ | ⟨rfl, rfl, rfl⟩
  · exact rx_valid h W
  · exact rx_valid0 W
/-- What Make returns. -/
def mkV (b : Bool) (z y : Int) : Value := if mok b z y then .tuple #[RX (mn z y) (mD z y), .bool true] else .tuple #[RX 0 0, .bool false]
theorem cm_zero_iff (z : Int) : cm z 0 = 0 ↔ z = 0 := by rw [cm_zero]; (repeat' split) <;> omega
theorem fits_neg {z : Int} (h : Fits z) : Fits (-z) := fits_le h (by rw [ab_neg]; exact Int.le_refl _)
theorem fits_mn {z y : Int} (h : Fits z) (hy : y ≠ 0) : Fits (mn z y) := by
  unfold mn
  split
  · exact fits_ediv (fits_neg h) (by have := gc_pos (x := z) hy; omega)
  · exact fits_ediv h (by have := gc_pos (x := z) hy; omega)
theorem fits_ab {z : Int} (h : Fits z) : Fits (ab z) := fits_le h (by rw [ab_ab]; exact Int.le_refl _)
theorem fits_mD {z y : Int} (h : Fits y) (hy : y ≠ 0) : Fits (mD z y) := fits_ediv (fits_ab h) (by have := gc_pos (x := z) hy; omega)
set_option maxRecDepth 100000 in
theorem gx_rmake {v v' : Value} {b b' : Bool} {z y : Int} (h : RW v b z) (h' : RW v' b' y) (W : World) : Gives Try.prog 110 [v, v'] W (· = mkV (b && b') z y) := by
  refine gives_known en_ratio_Make ?_
  have v1 := fun W => gy_valid h W
  have v2 := fun W => gy_valid h' W
  have s2 := fun W => g_sign h'.is W
  by_cases hbad : b = false ∨ b' = false ∨ y = 0
  · have e : mkV (b && b') z y = .tuple #[RX 0 0, .bool false] := by
      unfold mkV mok
      rcases hbad with rfl | rfl | rfl
      · rfl
      · rw [Bool.and_false]; rfl
      · rw [if_neg (by simp)]
    rw [e]
    obtain ⟨c0, c1, c2, c3, c4, rfl⟩ := h.five
    obtain ⟨d0, d1, d2, d3, d4, rfl⟩ := h'.five
    have hcm := cm_zero_iff y
    clear e h h'
    cases b
    · refine known_of (enter Try.func110 ratio_Make.ok (args := [_, _]) (by simp) ?_)
      repeat' (first | simp (disch := omega) only [sxE, ratio_Make.E, Nat.reduceAdd, Nat.reduceEqDiff, Nat.reduceMul, Nat.reduceSub, Int.reduceAdd, Int.reduceSub, Int.reduceMul, Int.reduceNeg, Int.reduceLT, Int.reduceLE, Int.reduceEq, Int.reduceToNat, ↓reduceIte, Int.reducePow, Nat.reduceLeDiff, Nat.reduceLT, ne_eq, eq_self, List.length_cons, List.length_nil, qxE] | (with_reducible refine Sx.call_at (f := 107) (fun W hW => v1 W) ?_))
    · cases b'
      · refine known_of (enter Try.func110 ratio_Make.ok (args := [_, _]) (by simp) ?_)
        repeat' (first | simp (disch := omega) only [sxE, ratio_Make.E, Nat.reduceAdd, Nat.reduceEqDiff, Nat.reduceMul, Nat.reduceSub, Int.reduceAdd, Int.reduceSub, Int.reduceMul, Int.reduceNeg, Int.reduceLT, Int.reduceLE, Int.reduceEq, Int.reduceToNat, ↓reduceIte, Int.reducePow, Nat.reduceLeDiff, Nat.reduceLT, ne_eq, eq_self, List.length_cons, List.length_nil, qxE] | (with_reducible refine Sx.call_at (f := 107) (fun W hW => v1 W) ?_) | (with_reducible refine Sx.call_at (f := 107) (fun W hW => v2 W) ?_))
      · have hc0 : cm y 0 = 0 := hcm.2 (by rcases hbad with h | h | h; cases h; cases h; exact h)
        clear hcm hbad
        refine known_of (enter Try.func110 ratio_Make.ok (args := [_, _]) (by simp) ?_)
        repeat' (first | simp (disch := omega) only [sxE, ratio_Make.E, Nat.reduceAdd, Nat.reduceEqDiff, Nat.reduceMul, Nat.reduceSub, Int.reduceAdd, Int.reduceSub, Int.reduceMul, Int.reduceNeg, Int.reduceLT, Int.reduceLE, Int.reduceEq, Int.reduceToNat, ↓reduceIte, Int.reducePow, Nat.reduceLeDiff, Nat.reduceLT, ne_eq, eq_self, List.length_cons, List.length_nil, qxE, hc0] | (with_reducible refine Sx.call_at (f := 107) (fun W hW => v1 W) ?_) | (with_reducible refine Sx.call_at (f := 107) (fun W hW => v2 W) ?_) | (with_reducible refine Sx.call_at (f := 87) (fun W hW => s2 W) ?_))
  · obtain ⟨rfl, rfl⟩ : b = true ∧ b' = true := by
      cases b
      · exact absurd (.inl rfl) hbad
      · cases b'
        · exact absurd (.inr (.inl rfl)) hbad
        · exact ⟨rfl, rfl⟩
    have hy : y ≠ 0 := fun e => hbad (.inr (.inr e))
    rcases h with ⟨-, rfl, h⟩ | ⟨h, -, -⟩
    rotate_left
    · cases h
    rcases h' with ⟨-, rfl, h'⟩ | ⟨h', -, -⟩
    rotate_left
    · cases h'
    have hc0 : cm y 0 ≠ 0 := fun e => hy ((cm_zero_iff y).1 e)
    have f1 := fits_mn h hy
    have f2 := fits_mD (z := z) h' hy
    have hg := fits_gc h h'
    have hgp := gc_pos (x := z) hy
    have hgn : gc z y ≠ 0 := by omega
    have e : mkV (true && true) z y = if (decide (ab (mn z y) < ((2 ^ 127 : Nat) : Int)) && decide (ab (mD z y) < ((2 ^ 127 : Nat) : Int))) = true then .tuple #[RX (mn z y) (mD z y), .bool true] else .tuple #[RX 0 0, .bool false] := by
      unfold mkV mok
      rw [decide_eq_false hy]; rfl
    rw [e]
    have k1 := fun W => gx_small f1 W
    have k2 := fun W => gx_small f2 W
    generalize decide (ab (mn z y) < ((2 ^ 127 : Nat) : Int)) = t1 at *
    generalize decide (ab (mD z y) < ((2 ^ 127 : Nat) : Int)) = t2 at *
    clear e hbad
    by_cases hneg : y < 0
    · have hs : sg y = true := decide_eq_true hneg
      have n1 := fits_neg h
      have n2 := fits_neg h'
      have e1 : -z / gc z y = mn z y := by unfold mn; rw [if_pos hneg]
      have e2 : -y / gc z y = mD z y := by unfold mD ab; rw [if_pos hneg]
      have d1 := fun W => gx_divmod n1 hg hgn W
      have d2 := fun W => gx_divmod n2 hg hgn W
      rw [e1] at d1
      rw [e2] at d2
      have g1 := fun W => gx_divisor n1 n2 W
      rw [gc_neg, gc_ngr] at g1
      generalize mn z y = N at *
      generalize mD z y = D at *
      generalize gc z y = G at *
      cases t1 <;> cases t2
      all_goals
        refine known_of (enter Try.func110 ratio_Make.ok (args := [_, _]) (by simp) ?_)
        repeat' (first | simp (disch := omega) only [sxE, ratio_Make.E, Nat.reduceAdd, Nat.reduceEqDiff, Nat.reduceMul, Nat.reduceSub, Int.reduceAdd, Int.reduceSub, Int.reduceMul, Int.reduceNeg, Int.reduceLT, Int.reduceLE, Int.reduceEq, Int.reduceToNat, ↓reduceIte, Int.reducePow, Nat.reduceLeDiff, Nat.reduceLT, ne_eq, eq_self, List.length_cons, List.length_nil, qxE] | (with_reducible refine Sx.call_at (f := 107) (fun W hW => v1 W) ?_) | (with_reducible refine Sx.call_at (f := 107) (fun W hW => v2 W) ?_) | (with_reducible refine Sx.call_at (f := 87) (fun W hW => s2 W) ?_) | (with_reducible refine Sx.call_at (f := 153) (fun W hW => gx_neg h W) ?_) | (with_reducible refine Sx.call_at (f := 153) (fun W hW => gx_neg h' W) ?_) | (with_reducible refine Sx.call_at (f := 154) (fun W hW => g1 W) ?_) | (with_reducible refine Sx.call_at (f := 145) (fun W hW => d1 W) ?_) | (with_reducible refine Sx.call_at (f := 145) (fun W hW => d2 W) ?_) | (with_reducible refine Sx.call_at (f := 155) (fun W hW => k1 W) ?_) | (with_reducible refine Sx.call_at (f := 155) (fun W hW => k2 W) ?_))
        try rfl
    · have e1 : z / gc z y = mn z y := by unfold mn; rw [if_neg hneg]
      have e2 : y / gc z y = mD z y := by unfold mD ab; rw [if_neg hneg]
      have d1 := fun W => gx_divmod h hg hgn W
      have d2 := fun W => gx_divmod h' hg hgn W
      rw [e1] at d1
      rw [e2] at d2
      have g1 := fun W => gx_divisor h h' W
      generalize mn z y = N at *
      generalize mD z y = D at *
      generalize gc z y = G at *
      cases t1 <;> cases t2
      all_goals
        refine known_of (enter Try.func110 ratio_Make.ok (args := [_, _]) (by simp) ?_)
        repeat' (first | simp (disch := omega) only [sxE, ratio_Make.E, Nat.reduceAdd, Nat.reduceEqDiff, Nat.reduceMul, Nat.reduceSub, Int.reduceAdd, Int.reduceSub, Int.reduceMul, Int.reduceNeg, Int.reduceLT, Int.reduceLE, Int.reduceEq, Int.reduceToNat, ↓reduceIte, Int.reducePow, Nat.reduceLeDiff, Nat.reduceLT, ne_eq, eq_self, List.length_cons, List.length_nil, qxE] | (with_reducible refine Sx.call_at (f := 107) (fun W hW => v1 W) ?_) | (with_reducible refine Sx.call_at (f := 107) (fun W hW => v2 W) ?_) | (with_reducible refine Sx.call_at (f := 87) (fun W hW => s2 W) ?_) | (with_reducible refine Sx.call_at (f := 154) (fun W hW => g1 W) ?_) | (with_reducible refine Sx.call_at (f := 145) (fun W hW => d1 W) ?_) | (with_reducible refine Sx.call_at (f := 145) (fun W hW => d2 W) ?_) | (with_reducible refine Sx.call_at (f := 155) (fun W hW => k1 W) ?_) | (with_reducible refine Sx.call_at (f := 155) (fun W hW => k2 W) ?_))
        try rfl
end Go.Proofs.Ytncmmbacoknefaa

/- CdX: MADE BY PROGRAM (sxgen.py): the small code of some functions, points of it and their equations. -/
namespace Go.Proofs.Ytncmmbacoknefaa
open Go Go.RowKit Sx
set_option linter.unusedVariables false
variable (C : Cx) (R L1 L2 L3 L4 : St → Prop)
namespace r03_Compare
def r0 : List G := [(some 2, none, (.box true 10 (.tmp 0))), (some 3, none, (.box true 10 (.tmp 1))), (some 4, none, (.mv (.const (.int .i64 0))))]
def r1 : List G := [(some 9, none, (.ld true 10 (.tmp 2))), (some 10, none, (.call true 93 [(.tmp 9)])), (some 11, none, (.ld true 10 (.tmp 3))), (some 12, none, (.call true 93 [(.tmp 11)]))]
def t1 : List G := [(none, none, (.st true 10 (.tmp 2) (.tmp 10))), (none, none, (.st true 10 (.tmp 3) (.tmp 12)))]
def r2 : List G := [(some 14, none, (.fa 0 (.tmp 2))), (some 15, none, (.ld true 5 (.tmp 14))), (some 16, none, (.fa 5 (.tmp 3))), (some 17, none, (.ld true 5 (.tmp 16))), (some 18, none, (.call false 57 [(.tmp 15), (.tmp 17)])), (some 13, none, (.mv (.tmp 18))), (some 19, none, (.ex (.tmp 13) 0)), (some 20, none, (.ex (.tmp 13) 1)), (some 5, none, (.new zW)), (none, none, (.st true 5 (.tmp 5) (.tmp 19))), (some 6, none, (.mv (.tmp 20)))]
def r3 : List G := [(some 22, none, (.fa 0 (.tmp 3))), (some 23, none, (.ld true 5 (.tmp 22))), (some 24, none, (.fa 5 (.tmp 2))), (some 25, none, (.ld true 5 (.tmp 24))), (some 26, none, (.call false 57 [(.tmp 23), (.tmp 25)])), (some 21, none, (.mv (.tmp 26))), (some 27, none, (.ex (.tmp 21) 0)), (some 28, none, (.ex (.tmp 21) 1)), (some 7, none, (.new zW)), (none, none, (.st true 5 (.tmp 7) (.tmp 27))), (some 8, none, (.mv (.tmp 28)))]
def r4 : List G := [(some 29, none, (.ld true 5 (.tmp 5))), (some 30, none, (.ld true 5 (.tmp 7))), (some 31, none, (.call false 42 [(.tmp 29), (.tmp 30)])), (some 4, none, (.mv (.tmp 31)))]
def c : MC := (.seq (.reg r0 (some [2, 3])) (.seq (.dreg r1 t1 (some [2, 3])) (.seq (.reg r2 (some [2, 3, 5])) (.seq (.reg r3 (some [5, 7])) (.seq (.reg r4 (some [4])) .ret)))))
def ann : Ann := [(0, (some [2, 3], 0, [], [], [])), (1, (some [2, 3], 4, [], [(0, 0), (1, 0), (2, 0), (3, 0)], [])), (2, (some [2, 3, 5], 0, [], [], [])), (3, (some [5, 7], 0, [], [], [])), (4, (some [4], 0, [], [], []))]
theorem ok : compF Try.prog Try.f100 ann = some (32, c, [(4, none)]) := by kernel_rfl
def p1 (S : St) : Prop := ops C r4 (kq [4] R) S
def p2 (S : St) : Prop := ops C r3 (kq [5, 7] (p1 C R)) S
def p3 (S : St) : Prop := ops C r2 (kq [2, 3, 5] (p2 C R)) S
def p4 (S : St) : Prop := ops C r1 (ops C t1 (kq [2, 3] (p3 C R))) S
def p5 (S : St) : Prop := ops C r0 (kq [2, 3] (p4 C R)) S
theorem s (S : St) : X C c (retK R) S = p5 C R S := by kernel_rfl
theorem E : type_of% @r4.eq_1 ∧ type_of% @p1.eq_1 ∧ type_of% @r3.eq_1 ∧ type_of% @p2.eq_1 ∧ type_of% @r2.eq_1 ∧ type_of% @p3.eq_1 ∧ type_of% @r1.eq_1 ∧ type_of% @t1.eq_1 ∧ type_of% @p4.eq_1 ∧ type_of% @r0.eq_1 ∧ type_of% @p5.eq_1 ∧ type_of% @s := ⟨@r4.eq_1, @p1.eq_1, @r3.eq_1, @p2.eq_1, @r2.eq_1, @p3.eq_1, @r1.eq_1, @t1.eq_1, @p4.eq_1, @r0.eq_1, @p5.eq_1, @s⟩
end r03_Compare
namespace r03_Make
def r0 : List G := [(some 2, none, (.box true 5 (.tmp 0))), (some 3, none, (.box true 5 (.tmp 1))), (some 4, none, (.new zR)), (some 5, none, (.mv (.const (.bool false))))]
def r1 : List G := [(some 14, none, (.ld true 5 (.tmp 2))), (some 15, none, (.call false 88 [(.tmp 14)])), (some 16, none, (.un .not (.tmp 15))), (some 17, none, (.mv (.tmp 16))), (some 18, some (17, false), (.ld true 5 (.tmp 3))), (some 19, some (17, false), (.call false 88 [(.tmp 18)])), (some 20, some (17, false), (.un .not (.tmp 19))), (some 21, none, (.pick (.tmp 17) (.const (.bool true)) (.tmp 20))), (some 22, none, (.mv (.tmp 21))), (some 23, some (22, false), (.ld true 5 (.tmp 3))), (some 24, some (22, false), (.call false 65 [(.tmp 23)])), (some 25, some (22, false), (.bin .eql (.tmp 24) (.const (.int .i64 0)))), (some 26, none, (.pick (.tmp 22) (.const (.bool true)) (.tmp 25)))]
def r2 : List G := [(some 27, none, (.bd zR [])), (none, none, (.st true 10 (.tmp 4) (.tmp 27))), (some 5, none, (.mv (.const (.bool false))))]
def r3 : List G := [(some 28, none, (.ld true 5 (.tmp 2))), (some 29, none, (.call true 136 [(.tmp 28)])), (some 30, none, (.ld true 5 (.tmp 3))), (some 31, none, (.call true 136 [(.tmp 30)])), (some 32, none, (.call true 135 [(.tmp 29), (.tmp 31)]))]
def t3 : List G := [(some 6, none, (.new zW)), (none, none, (.st true 5 (.tmp 6) (.tmp 32)))]
def r4 : List G := [(some 34, none, (.ld true 5 (.tmp 2))), (some 35, none, (.call true 136 [(.tmp 34)])), (some 36, none, (.ld true 5 (.tmp 6))), (some 37, none, (.call true 23 [(.tmp 35), (.tmp 36)])), (some 33, none, (.mv (.tmp 37))), (some 38, none, (.ex (.tmp 33) 0)), (some 39, none, (.ex (.tmp 33) 1)), (some 40, none, (.ex (.tmp 33) 2))]
def t4 : List G := [(some 7, none, (.new zW)), (some 8, none, (.new zW)), (none, none, (.st true 5 (.tmp 7) (.tmp 38))), (none, none, (.st true 5 (.tmp 8) (.tmp 39))), (some 9, none, (.mv (.tmp 40)))]
def r5 : List G := [(some 42, none, (.ld true 5 (.tmp 3))), (some 43, none, (.call true 136 [(.tmp 42)])), (some 44, none, (.ld true 5 (.tmp 6))), (some 45, none, (.call true 23 [(.tmp 43), (.tmp 44)])), (some 41, none, (.mv (.tmp 45))), (some 46, none, (.ex (.tmp 41) 0)), (some 47, none, (.ex (.tmp 41) 1)), (some 48, none, (.ex (.tmp 41) 2))]
def t5 : List G := [(some 10, none, (.new zW)), (some 11, none, (.new zW)), (none, none, (.st true 5 (.tmp 10) (.tmp 46))), (none, none, (.st true 5 (.tmp 11) (.tmp 47))), (some 12, none, (.mv (.tmp 48)))]
def r6 : List G := [(some 49, none, (.fa 0 (.tmp 2))), (some 50, none, (.ld false 1 (.tmp 49))), (some 51, none, (.fa 0 (.tmp 3))), (some 52, none, (.ld false 1 (.tmp 51))), (some 53, none, (.bq true (.tmp 50) (.tmp 52)))]
def r7 : List G := [(some 54, none, (.ld true 5 (.tmp 7))), (some 55, none, (.call false 53 [(.tmp 54)])), (none, none, (.st true 5 (.tmp 7) (.tmp 55)))]
def r8 : List G := [(some 56, none, (.ld true 5 (.tmp 7))), (some 57, none, (.ld true 5 (.tmp 10))), (some 58, none, (.bd zR [(0, 5, (.tmp 56)), (5, 5, (.tmp 57))])), (some 13, none, (.new zR)), (none, none, (.st true 10 (.tmp 13) (.tmp 58)))]
def r9 : List G := [(some 59, none, (.ld true 10 (.tmp 13))), (some 60, none, (.call false 117 [(.tmp 59)])), (some 61, none, (.un .not (.tmp 60)))]
def r10 : List G := [(some 62, none, (.bd zR [])), (none, none, (.st true 10 (.tmp 4) (.tmp 62))), (some 5, none, (.mv (.const (.bool false))))]
def r11 : List G := [(some 63, none, (.ld true 10 (.tmp 13))), (none, none, (.st true 10 (.tmp 4) (.tmp 63))), (some 5, none, (.mv (.const (.bool true))))]
def c : MC := (.seq (.reg r0 (some [2, 3, 4])) (.seq (.seq (.reg r1 (some [2, 3, 4, 26])) (.cond (.tmp 26) (.seq (.reg r2 (some [4, 5])) .ret) .skip)) (.seq (.dreg r3 t3 (some [2, 3, 4, 6])) (.seq (.dreg r4 t4 (some [2, 3, 4, 6, 7])) (.seq (.dreg r5 t5 (some [2, 3, 4, 7, 10])) (.seq (.seq (.reg r6 (some [4, 7, 10, 53])) (.cond (.tmp 53) (.reg r7 (some [4, 7, 10])) .skip)) (.seq (.reg r8 (some [4, 13])) (.seq (.seq (.reg r9 (some [4, 13, 61])) (.cond (.tmp 61) (.seq (.reg r10 (some [4, 5])) .ret) .skip)) (.seq (.reg r11 (some [4, 5])) .ret)))))))))
def ann : Ann := [(0, (some [2, 3, 4], 0, [], [], [])), (1, (some [2, 3, 4, 26], 0, [], [], [])), (2, (some [4, 5], 0, [], [], [])), (3, (some [2, 3, 4, 6], 6, [], [(0, 0), (1, 0), (2, 0), (3, 0), (4, 0)], [5])), (4, (some [2, 3, 4, 6, 7], 10, [6, 7], [(0, 0), (1, 0), (2, 0), (3, 0), (4, 0), (5, 0), (6, 2), (7, 2)], [8, 9])), (5, (some [2, 3, 4, 7, 10], 10, [6, 7], [(0, 0), (1, 0), (2, 0), (3, 0), (4, 0), (5, 0), (6, 2), (7, 2)], [8, 9])), (6, (some [4, 7, 10, 53], 0, [], [], [])), (7, (some [4, 7, 10], 0, [], [], [])), (8, (some [4, 13], 0, [], [], [])), (9, (some [4, 13, 61], 0, [], [], [])), (10, (some [4, 5], 0, [], [], [])), (11, (some [4, 5], 0, [], [], []))]
theorem ok : compF Try.prog Try.f81 ann = some (64, c, [(4, some (true, 10)), (5, none)]) := by kernel_rfl
def p1 (S : St) : Prop := ops C r11 (kq [4, 5] R) S
def p3 (S : St) : Prop := ops C r10 (kq [4, 5] R) S
def p2 (S : St) : Prop := condX (S.ev (.tmp 61)) (p3 C R) (p1 C R) S
def p4 (S : St) : Prop := ops C r9 (kq [4, 13, 61] (p2 C R)) S
def p5 (S : St) : Prop := ops C r8 (kq [4, 13] (p4 C R)) S
def p7 (S : St) : Prop := ops C r7 (kq [4, 7, 10] (p5 C R)) S
def p6 (S : St) : Prop := condX (S.ev (.tmp 53)) (p7 C R) (p5 C R) S
def p8 (S : St) : Prop := ops C r6 (kq [4, 7, 10, 53] (p6 C R)) S
def p9 (S : St) : Prop := ops C r5 (ops C t5 (kq [2, 3, 4, 7, 10] (p8 C R))) S
def p10 (S : St) : Prop := ops C r4 (ops C t4 (kq [2, 3, 4, 6, 7] (p9 C R))) S
def p11 (S : St) : Prop := ops C r3 (ops C t3 (kq [2, 3, 4, 6] (p10 C R))) S
def p13 (S : St) : Prop := ops C r2 (kq [4, 5] R) S
def p12 (S : St) : Prop := condX (S.ev (.tmp 26)) (p13 C R) (p11 C R) S
def p14 (S : St) : Prop := ops C r1 (kq [2, 3, 4, 26] (p12 C R)) S
def p15 (S : St) : Prop := ops C r0 (kq [2, 3, 4] (p14 C R)) S
theorem s (S : St) : X C c (retK R) S = p15 C R S := by kernel_rfl
theorem E : type_of% @r11.eq_1 ∧ type_of% @p1.eq_1 ∧ type_of% @r10.eq_1 ∧ type_of% @p3.eq_1 ∧ type_of% @p2.eq_1 ∧ type_of% @r9.eq_1 ∧ type_of% @p4.eq_1 ∧ type_of% @r8.eq_1 ∧ type_of% @p5.eq_1 ∧ type_of% @r7.eq_1 ∧ type_of% @p7.eq_1 ∧ type_of% @p6.eq_1 ∧ type_of% @r6.eq_1 ∧ type_of% @p8.eq_1 ∧ type_of% @r5.eq_1 ∧ type_of% @t5.eq_1 ∧ type_of% @p9.eq_1 ∧ type_of% @r4.eq_1 ∧ type_of% @t4.eq_1 ∧ type_of% @p10.eq_1 ∧ type_of% @r3.eq_1 ∧ type_of% @t3.eq_1 ∧ type_of% @p11.eq_1 ∧ type_of% @r2.eq_1 ∧ type_of% @p13.eq_1 ∧ type_of% @p12.eq_1 ∧ type_of% @r1.eq_1 ∧ type_of% @p14.eq_1 ∧ type_of% @r0.eq_1 ∧ type_of% @p15.eq_1 ∧ type_of% @s := ⟨@r11.eq_1, @p1.eq_1, @r10.eq_1, @p3.eq_1, @p2.eq_1, @r9.eq_1, @p4.eq_1, @r8.eq_1, @p5.eq_1, @r7.eq_1, @p7.eq_1, @p6.eq_1, @r6.eq_1, @p8.eq_1, @r5.eq_1, @t5.eq_1, @p9.eq_1, @r4.eq_1, @t4.eq_1, @p10.eq_1, @r3.eq_1, @t3.eq_1, @p11.eq_1, @r2.eq_1, @p13.eq_1, @p12.eq_1, @r1.eq_1, @p14.eq_1, @r0.eq_1, @p15.eq_1, @s⟩
end r03_Make
namespace r03_Of
def r0 : List G := [(some 2, none, (.new zR))]
def r1 : List G := [(some 3, none, (.mv (.tmp 0))), (some 4, none, (.call false 20 [(.tmp 3)])), (some 5, none, (.call false 137 [])), (some 6, none, (.bd zR [(0, 5, (.tmp 4)), (5, 5, (.tmp 5))])), (none, none, (.st true 10 (.tmp 2) (.tmp 6)))]
def c : MC := (.seq (.reg r0 (some [0, 2])) (.seq (.reg r1 (some [2])) .ret))
def ann : Ann := [(0, (some [0, 2], 0, [], [], [])), (1, (some [2], 0, [], [], []))]
theorem ok : compF Try.prog Try.f82 ann = some (7, c, [(2, some (true, 10))]) := by kernel_rfl
def p1 (S : St) : Prop := ops C r1 (kq [2] R) S
def p2 (S : St) : Prop := ops C r0 (kq [0, 2] (p1 C R)) S
theorem s (S : St) : X C c (retK R) S = p2 C R S := by kernel_rfl
theorem E : type_of% @r1.eq_1 ∧ type_of% @p1.eq_1 ∧ type_of% @r0.eq_1 ∧ type_of% @p2.eq_1 ∧ type_of% @s := ⟨@r1.eq_1, @p1.eq_1, @r0.eq_1, @p2.eq_1, @s⟩
end r03_Of
namespace r03_Valid
def r0 : List G := [(some 1, none, (.box true 10 (.tmp 0))), (some 2, none, (.mv (.const (.bool false))))]
def r1 : List G := [(some 3, none, (.fa 0 (.tmp 1))), (some 4, none, (.ld true 5 (.tmp 3))), (some 5, none, (.call false 88 [(.tmp 4)])), (some 6, none, (.un .not (.tmp 5))), (some 7, none, (.mv (.tmp 6))), (some 8, some (7, false), (.fa 5 (.tmp 1))), (some 9, some (7, false), (.ld true 5 (.tmp 8))), (some 10, some (7, false), (.call false 88 [(.tmp 9)])), (some 11, some (7, false), (.un .not (.tmp 10))), (some 12, none, (.pick (.tmp 7) (.const (.bool true)) (.tmp 11))), (some 13, none, (.mv (.tmp 12))), (some 14, some (13, false), (.fa 5 (.tmp 1))), (some 15, some (13, false), (.ld true 5 (.tmp 14))), (some 16, some (13, false), (.call false 65 [(.tmp 15)])), (some 17, some (13, false), (.bin .leq (.tmp 16) (.const (.int .i64 0)))), (some 18, none, (.pick (.tmp 13) (.const (.bool true)) (.tmp 17))), (some 19, none, (.mv (.tmp 18))), (some 20, some (19, false), (.fa 0 (.tmp 1))), (some 21, some (19, false), (.ld true 5 (.tmp 20))), (some 22, some (19, false), (.call false 160 [(.tmp 21)])), (some 23, some (19, false), (.un .not (.tmp 22))), (some 24, none, (.pick (.tmp 19) (.const (.bool true)) (.tmp 23))), (some 25, none, (.mv (.tmp 24))), (some 26, some (25, false), (.fa 5 (.tmp 1))), (some 27, some (25, false), (.ld true 5 (.tmp 26))), (some 28, some (25, false), (.call false 160 [(.tmp 27)])), (some 29, some (25, false), (.un .not (.tmp 28))), (some 30, none, (.pick (.tmp 25) (.const (.bool true)) (.tmp 29)))]
def r2 : List G := [(some 2, none, (.mv (.const (.bool false))))]
def r3 : List G := [(some 31, none, (.fa 0 (.tmp 1))), (some 32, none, (.ld true 5 (.tmp 31))), (some 33, none, (.call true 136 [(.tmp 32)])), (some 34, none, (.fa 5 (.tmp 1))), (some 35, none, (.ld true 5 (.tmp 34))), (some 36, none, (.call true 135 [(.tmp 33), (.tmp 35)])), (some 37, none, (.call true 137 [])), (some 38, none, (.eqg false 38 (.tmp 36) (.tmp 37)))]
def t3 : List G := [(some 2, none, (.mv (.tmp 38)))]
def c : MC := (.seq (.reg r0 (some [1])) (.seq (.seq (.reg r1 (some [1, 30])) (.cond (.tmp 30) (.seq (.reg r2 (some [2])) .ret) .skip)) (.seq (.dreg r3 t3 (some [2])) .ret)))
def ann : Ann := [(0, (some [1], 0, [], [], [])), (1, (some [1, 30], 0, [], [], [])), (2, (some [2], 0, [], [], [])), (3, (some [2], 8, [], [(0, 0), (1, 0), (2, 0), (3, 0), (4, 0), (5, 0), (6, 0), (7, 0)], []))]
theorem ok : compF Try.prog Try.f117 ann = some (39, c, [(2, none)]) := by kernel_rfl
def p1 (S : St) : Prop := ops C r3 (ops C t3 (kq [2] R)) S
def p3 (S : St) : Prop := ops C r2 (kq [2] R) S
def p2 (S : St) : Prop := condX (S.ev (.tmp 30)) (p3 C R) (p1 C R) S
def p4 (S : St) : Prop := ops C r1 (kq [1, 30] (p2 C R)) S
def p5 (S : St) : Prop := ops C r0 (kq [1] (p4 C R)) S
theorem s (S : St) : X C c (retK R) S = p5 C R S := by kernel_rfl
theorem E : type_of% @r3.eq_1 ∧ type_of% @t3.eq_1 ∧ type_of% @p1.eq_1 ∧ type_of% @r2.eq_1 ∧ type_of% @p3.eq_1 ∧ type_of% @p2.eq_1 ∧ type_of% @r1.eq_1 ∧ type_of% @p4.eq_1 ∧ type_of% @r0.eq_1 ∧ type_of% @p5.eq_1 ∧ type_of% @s := ⟨@r3.eq_1, @t3.eq_1, @p1.eq_1, @r2.eq_1, @p3.eq_1, @p2.eq_1, @r1.eq_1, @p4.eq_1, @r0.eq_1, @p5.eq_1, @s⟩
end r03_Valid
namespace r03_abs
def r0 : List G := [(some 1, none, (.box true 5 (.tmp 0))), (some 2, none, (.new zW))]
def r1 : List G := [(some 3, none, (.fa 0 (.tmp 1))), (none, none, (.st false 1 (.tmp 3) (.const (.bool false))))]
def r2 : List G := [(some 4, none, (.ld true 5 (.tmp 1))), (none, none, (.st true 5 (.tmp 2) (.tmp 4)))]
def c : MC := (.seq (.reg r0 (some [1, 2])) (.seq (.reg r1 (some [1, 2])) (.seq (.reg r2 (some [2])) .ret)))
def ann : Ann := [(0, (some [1, 2], 0, [], [], [])), (1, (some [1, 2], 0, [], [], [])), (2, (some [2], 0, [], [], []))]
theorem ok : compF Try.prog Try.f136 ann = some (5, c, [(2, some (true, 5))]) := by kernel_rfl
def p1 (S : St) : Prop := ops C r2 (kq [2] R) S
def p2 (S : St) : Prop := ops C r1 (kq [1, 2] (p1 C R)) S
def p3 (S : St) : Prop := ops C r0 (kq [1, 2] (p2 C R)) S
theorem s (S : St) : X C c (retK R) S = p3 C R S := by kernel_rfl
theorem E : type_of% @r2.eq_1 ∧ type_of% @p1.eq_1 ∧ type_of% @r1.eq_1 ∧ type_of% @p2.eq_1 ∧ type_of% @r0.eq_1 ∧ type_of% @p3.eq_1 ∧ type_of% @s := ⟨@r2.eq_1, @p1.eq_1, @r1.eq_1, @p2.eq_1, @r0.eq_1, @p3.eq_1, @s⟩
end r03_abs
namespace r03_clean
def r0 : List G := [(some 1, none, (.box true 10 (.tmp 0))), (some 2, none, (.new zR))]
def r1 : List G := [(some 3, none, (.ld true 10 (.tmp 1))), (some 4, none, (.call false 117 [(.tmp 3)])), (some 5, none, (.un .not (.tmp 4)))]
def r2 : List G := [(some 6, none, (.call false 137 [])), (some 7, none, (.bd zR [(5, 5, (.tmp 6))])), (none, none, (.st true 10 (.tmp 2) (.tmp 7)))]
def r3 : List G := [(some 8, none, (.ld true 10 (.tmp 1))), (none, none, (.st true 10 (.tmp 2) (.tmp 8)))]
def c : MC := (.seq (.reg r0 (some [1, 2])) (.seq (.seq (.reg r1 (some [1, 2, 5])) (.cond (.tmp 5) (.seq (.reg r2 (some [2])) .ret) .skip)) (.seq (.reg r3 (some [2])) .ret)))
def ann : Ann := [(0, (some [1, 2], 0, [], [], [])), (1, (some [1, 2, 5], 0, [], [], [])), (2, (some [2], 0, [], [], [])), (3, (some [2], 0, [], [], []))]
theorem ok : compF Try.prog Try.f93 ann = some (9, c, [(2, some (true, 10))]) := by kernel_rfl
def p1 (S : St) : Prop := ops C r3 (kq [2] R) S
def p3 (S : St) : Prop := ops C r2 (kq [2] R) S
def p2 (S : St) : Prop := condX (S.ev (.tmp 5)) (p3 C R) (p1 C R) S
def p4 (S : St) : Prop := ops C r1 (kq [1, 2, 5] (p2 C R)) S
def p5 (S : St) : Prop := ops C r0 (kq [1, 2] (p4 C R)) S
theorem s (S : St) : X C c (retK R) S = p5 C R S := by kernel_rfl
theorem E : type_of% @r3.eq_1 ∧ type_of% @p1.eq_1 ∧ type_of% @r2.eq_1 ∧ type_of% @p3.eq_1 ∧ type_of% @p2.eq_1 ∧ type_of% @r1.eq_1 ∧ type_of% @p4.eq_1 ∧ type_of% @r0.eq_1 ∧ type_of% @p5.eq_1 ∧ type_of% @s := ⟨@r3.eq_1, @p1.eq_1, @r2.eq_1, @p3.eq_1, @p2.eq_1, @r1.eq_1, @p4.eq_1, @r0.eq_1, @p5.eq_1, @s⟩
end r03_clean
namespace r03_gcd
def r0 : List G := [(some 2, none, (.box true 5 (.tmp 0))), (some 3, none, (.box true 5 (.tmp 1))), (some 4, none, (.new zW))]
def r1 : List G := [(some 12, none, (.ld true 5 (.tmp 3))), (some 13, none, (.call false 65 [(.tmp 12)])), (some 14, none, (.bin .neq (.tmp 13) (.const (.int .i64 0))))]
def r2 : List G := [(some 16, none, (.ld true 5 (.tmp 2))), (some 17, none, (.call false 170 [(.tmp 16)])), (some 15, none, (.mv (.tmp 17))), (some 18, none, (.ex (.tmp 15) 0)), (some 19, none, (.ex (.tmp 15) 1)), (some 5, none, (.mv (.tmp 18))), (some 6, none, (.mv (.tmp 19)))]
def r3 : List G := [(some 21, none, (.ld true 5 (.tmp 3))), (some 22, none, (.call false 170 [(.tmp 21)])), (some 20, none, (.mv (.tmp 22))), (some 23, none, (.ex (.tmp 20) 0)), (some 24, none, (.ex (.tmp 20) 1)), (some 7, none, (.mv (.tmp 23))), (some 8, none, (.mv (.tmp 24)))]
def r4 : List G := [(some 25, none, (.mv (.tmp 6))), (some 26, none, (.mv (.tmp 25))), (some 27, some (26, true), (.mv (.tmp 8))), (some 28, none, (.pick (.tmp 26) (.tmp 27) (.const (.bool false))))]
def r5 : List G := [(some 29, none, (.mv (.tmp 7))), (some 30, none, (.bin .neq (.tmp 29) (.const (.int .u64 0))))]
def r6 : List G := [(some 31, none, (.mv (.tmp 7))), (some 32, none, (.mv (.tmp 5))), (some 33, none, (.mv (.tmp 7))), (some 34, none, (.bin .rem (.tmp 32) (.tmp 33)))]
def t6 : List G := [(some 5, none, (.mv (.tmp 31))), (some 7, none, (.mv (.tmp 34)))]
def r7 : List G := [(some 35, none, (.mv (.tmp 5))), (some 36, none, (.call false 58 [(.tmp 35)])), (none, none, (.st true 5 (.tmp 4) (.tmp 36)))]
def r8 : List G := [(some 38, none, (.ld true 5 (.tmp 2))), (some 39, none, (.ld true 5 (.tmp 3))), (some 40, none, (.call false 23 [(.tmp 38), (.tmp 39)])), (some 37, none, (.mv (.tmp 40))), (some 41, none, (.ex (.tmp 37) 0)), (some 42, none, (.ex (.tmp 37) 1)), (some 43, none, (.ex (.tmp 37) 2)), (some 9, none, (.new zW)), (some 10, none, (.new zW)), (none, none, (.st true 5 (.tmp 9) (.tmp 41))), (none, none, (.st true 5 (.tmp 10) (.tmp 42))), (some 11, none, (.mv (.tmp 43)))]
def o9 : List (List G) := [[(some 44, none, (.ld true 5 (.tmp 3))), (some 45, none, (.ld true 5 (.tmp 10))), (none, none, (.st true 5 (.tmp 2) (.tmp 44))), (none, none, (.st true 5 (.tmp 3) (.tmp 45)))],
  [(some 44, none, (.ld true 5 (.tmp 3))), (none, none, (.st true 5 (.tmp 2) (.tmp 44))), (some 45, none, (.ld true 5 (.tmp 10))), (none, none, (.st true 5 (.tmp 3) (.tmp 45)))],
  [(some 45, none, (.ld true 5 (.tmp 10))), (some 44, none, (.ld true 5 (.tmp 3))), (none, none, (.st true 5 (.tmp 2) (.tmp 44))), (none, none, (.st true 5 (.tmp 3) (.tmp 45)))]]
def r10 : List G := [(some 46, none, (.ld true 5 (.tmp 2))), (none, none, (.st true 5 (.tmp 4) (.tmp 46)))]
def c : MC := (.seq (.reg r0 (some [2, 3, 4])) (.seq (.block 0 (.loop (.seq (.seq (.reg r1 (some [2, 3, 4, 14])) (.cond (.tmp 14) .skip (.exit 0))) (.block 1 (.seq (.reg r2 (some [2, 3, 4, 5, 6])) (.seq (.reg r3 (some [2, 3, 4, 5, 6, 7, 8])) (.seq (.seq (.reg r4 (some [2, 3, 4, 5, 7, 28])) (.cond (.tmp 28) (.seq (.block 2 (.loop (.seq (.seq (.reg r5 (some [4, 5, 7, 30])) (.cond (.tmp 30) .skip (.exit 2))) (.block 3 (.dreg r6 t6 (some [4, 5, 7])))))) (.seq (.reg r7 (some [4])) .ret)) .skip)) (.seq (.reg r8 (some [2, 3, 4, 10])) (.areg [] o9 (some [2, 3, 4])))))))))) (.seq (.reg r10 (some [4])) .ret)))
def ann : Ann := [(0, (some [2, 3, 4], 0, [], [], [])), (1, (some [2, 3, 4, 14], 0, [], [], [])), (2, (some [2, 3, 4, 5, 6], 0, [], [], [])), (3, (some [2, 3, 4, 5, 6, 7, 8], 0, [], [], [])), (4, (some [2, 3, 4, 5, 7, 28], 0, [], [], [])), (5, (some [4, 5, 7, 30], 0, [], [], [])), (6, (some [4, 5, 7], 4, [2, 3], [(0, 0), (1, 0), (2, 2), (3, 2)], [])), (7, (some [4], 0, [], [], [])), (8, (some [2, 3, 4, 10], 0, [], [], [])), (9, (some [2, 3, 4], 99999, [], [], [])), (10, (some [4], 0, [], [], []))]
theorem ok : compF Try.prog Try.f135 ann = some (47, c, [(4, some (true, 5))]) := by kernel_rfl
def p1 (S : St) : Prop := ops C r10 (kq [4] R) S
def p3 (S : St) : Prop := areX C [] o9 (kq [2, 3, 4] L1) S
def p4 (S : St) : Prop := ops C r8 (kq [2, 3, 4, 10] (p3 C L1)) S
def p6 (S : St) : Prop := ops C r7 (kq [4] R) S
def p8 (S : St) : Prop := ops C r6 (ops C t6 (kq [4, 5, 7] L2)) S
def p9 (S : St) : Prop := condX (S.ev (.tmp 30)) (p8 C L2) (p6 C R) S
def p10 (S : St) : Prop := ops C r5 (kq [4, 5, 7, 30] (p9 C R L2)) S
def p7 (S : St) : Prop := LX C (fun L2 => (p10 C R L2)) S
theorem p7_l (S : St) : p7 C R S = LX C (fun L2 => (p10 C R L2)) S := rfl
def p5 (S : St) : Prop := condX (S.ev (.tmp 28)) (p7 C R) (p4 C L1) S
def p11 (S : St) : Prop := ops C r4 (kq [2, 3, 4, 5, 7, 28] (p5 C R L1)) S
def p12 (S : St) : Prop := ops C r3 (kq [2, 3, 4, 5, 6, 7, 8] (p11 C R L1)) S
def p13 (S : St) : Prop := ops C r2 (kq [2, 3, 4, 5, 6] (p12 C R L1)) S
def p14 (S : St) : Prop := condX (S.ev (.tmp 14)) (p13 C R L1) (p1 C R) S
def p15 (S : St) : Prop := ops C r1 (kq [2, 3, 4, 14] (p14 C R L1)) S
def p2 (S : St) : Prop := LX C (fun L1 => (p15 C R L1)) S
theorem p2_l (S : St) : p2 C R S = LX C (fun L1 => (p15 C R L1)) S := rfl
def p16 (S : St) : Prop := ops C r0 (kq [2, 3, 4] (p2 C R)) S
theorem s (S : St) : X C c (retK R) S = p16 C R S := by kernel_rfl
theorem E : type_of% @r10.eq_1 ∧ type_of% @p1.eq_1 ∧ type_of% @o9.eq_1 ∧ type_of% @p3.eq_1 ∧ type_of% @r8.eq_1 ∧ type_of% @p4.eq_1 ∧ type_of% @r7.eq_1 ∧ type_of% @p6.eq_1 ∧ type_of% @r6.eq_1 ∧ type_of% @t6.eq_1 ∧ type_of% @p8.eq_1 ∧ type_of% @p9.eq_1 ∧ type_of% @r5.eq_1 ∧ type_of% @p10.eq_1 ∧ type_of% @p5.eq_1 ∧ type_of% @r4.eq_1 ∧ type_of% @p11.eq_1 ∧ type_of% @r3.eq_1 ∧ type_of% @p12.eq_1 ∧ type_of% @r2.eq_1 ∧ type_of% @p13.eq_1 ∧ type_of% @p14.eq_1 ∧ type_of% @r1.eq_1 ∧ type_of% @p15.eq_1 ∧ type_of% @r0.eq_1 ∧ type_of% @p16.eq_1 ∧ type_of% @s := ⟨@r10.eq_1, @p1.eq_1, @o9.eq_1, @p3.eq_1, @r8.eq_1, @p4.eq_1, @r7.eq_1, @p6.eq_1, @r6.eq_1, @t6.eq_1, @p8.eq_1, @p9.eq_1, @r5.eq_1, @p10.eq_1, @p5.eq_1, @r4.eq_1, @p11.eq_1, @r3.eq_1, @p12.eq_1, @r2.eq_1, @p13.eq_1, @p14.eq_1, @r1.eq_1, @p15.eq_1, @r0.eq_1, @p16.eq_1, @s⟩
end r03_gcd
namespace r03_one
def r0 : List G := [(some 0, none, (.new zW))]
def r1 : List G := [(some 1, none, (.call false 20 [(.const (.int .i64 1))])), (none, none, (.st true 5 (.tmp 0) (.tmp 1)))]
def c : MC := (.seq (.reg r0 (some [0])) (.seq (.reg r1 (some [0])) .ret))
def ann : Ann := [(0, (some [0], 0, [], [], [])), (1, (some [0], 0, [], [], []))]
theorem ok : compF Try.prog Try.f137 ann = some (2, c, [(0, some (true, 5))]) := by kernel_rfl
def p1 (S : St) : Prop := ops C r1 (kq [0] R) S
def p2 (S : St) : Prop := ops C r0 (kq [0] (p1 C R)) S
theorem s (S : St) : X C c (retK R) S = p2 C R S := by kernel_rfl
theorem E : type_of% @r1.eq_1 ∧ type_of% @p1.eq_1 ∧ type_of% @r0.eq_1 ∧ type_of% @p2.eq_1 ∧ type_of% @s := ⟨@r1.eq_1, @p1.eq_1, @r0.eq_1, @p2.eq_1, @s⟩
end r03_one
namespace r03_small
def r0 : List G := [(some 1, none, (.box true 5 (.tmp 0))), (some 2, none, (.mv (.const (.bool false))))]
def r1 : List G := [(some 3, none, (.fa 1 (.tmp 1))), (some 4, none, (.ia 4 1 (.tmp 3) (.const (.int .i64 3)))), (some 5, none, (.ld false 1 (.tmp 4))), (some 6, none, (.bin .eql (.tmp 5) (.const (.int .u64 0)))), (some 7, none, (.mv (.tmp 6))), (some 8, some (7, true), (.fa 1 (.tmp 1))), (some 9, some (7, true), (.ia 4 1 (.tmp 8) (.const (.int .i64 2)))), (some 10, some (7, true), (.ld false 1 (.tmp 9))), (some 11, some (7, true), (.bin .eql (.tmp 10) (.const (.int .u64 0)))), (some 12, none, (.pick (.tmp 7) (.tmp 11) (.const (.bool false)))), (some 13, none, (.mv (.tmp 12))), (some 14, some (13, true), (.fa 1 (.tmp 1))), (some 15, some (13, true), (.ia 4 1 (.tmp 14) (.const (.int .i64 1)))), (some 16, some (13, true), (.ld false 1 (.tmp 15))), (some 17, some (13, true), (.bin .lss (.tmp 16) (.const (.int .u64 9223372036854775808)))), (some 18, none, (.pick (.tmp 13) (.tmp 17) (.const (.bool false)))), (some 2, none, (.mv (.tmp 18)))]
def c : MC := (.seq (.reg r0 (some [1])) (.seq (.reg r1 (some [2])) .ret))
def ann : Ann := [(0, (some [1], 0, [], [], [])), (1, (some [2], 0, [], [], []))]
theorem ok : compF Try.prog Try.f160 ann = some (19, c, [(2, none)]) := by kernel_rfl
def p1 (S : St) : Prop := ops C r1 (kq [2] R) S
def p2 (S : St) : Prop := ops C r0 (kq [1] (p1 C R)) S
theorem s (S : St) : X C c (retK R) S = p2 C R S := by kernel_rfl
theorem E : type_of% @r1.eq_1 ∧ type_of% @p1.eq_1 ∧ type_of% @r0.eq_1 ∧ type_of% @p2.eq_1 ∧ type_of% @s := ⟨@r1.eq_1, @p1.eq_1, @r0.eq_1, @p2.eq_1, @s⟩
end r03_small
namespace r04_Between
def r0 : List G := [(some 2, none, (.box true 10 (.tmp 0))), (some 3, none, (.box true 10 (.tmp 1))), (some 4, none, (.new zR)), (some 5, none, (.mv (.const (.bool false))))]
def r1 : List G := [(some 12, none, (.ld true 10 (.tmp 2))), (some 13, none, (.call false 117 [(.tmp 12)])), (some 14, none, (.un .not (.tmp 13))), (some 15, none, (.mv (.tmp 14))), (some 16, some (15, false), (.ld true 10 (.tmp 3))), (some 17, some (15, false), (.call false 117 [(.tmp 16)])), (some 18, some (15, false), (.un .not (.tmp 17))), (some 19, none, (.pick (.tmp 15) (.const (.bool true)) (.tmp 18))), (some 20, none, (.mv (.tmp 19))), (some 21, some (20, false), (.ld true 10 (.tmp 2))), (some 22, some (20, false), (.ld true 10 (.tmp 3))), (some 23, some (20, false), (.call false 100 [(.tmp 21), (.tmp 22)])), (some 24, some (20, false), (.bin .gtr (.tmp 23) (.const (.int .i64 0)))), (some 25, none, (.pick (.tmp 20) (.const (.bool true)) (.tmp 24)))]
def r2 : List G := [(some 26, none, (.bd zR [])), (none, none, (.st true 10 (.tmp 4) (.tmp 26))), (some 5, none, (.mv (.const (.bool false))))]
def r3 : List G := [(some 27, none, (.fa 0 (.tmp 2))), (some 28, none, (.ld true 5 (.tmp 27))), (some 29, none, (.call false 65 [(.tmp 28)])), (some 30, none, (.bin .leq (.tmp 29) (.const (.int .i64 0)))), (some 31, none, (.mv (.tmp 30))), (some 32, some (31, true), (.fa 0 (.tmp 3))), (some 33, some (31, true), (.ld true 5 (.tmp 32))), (some 34, some (31, true), (.call false 65 [(.tmp 33)])), (some 35, some (31, true), (.bin .geq (.tmp 34) (.const (.int .i64 0)))), (some 36, none, (.pick (.tmp 31) (.tmp 35) (.const (.bool false))))]
def r4 : List G := [(some 37, none, (.call false 82 [(.const (.int .i64 0))])), (none, none, (.st true 10 (.tmp 4) (.tmp 37))), (some 5, none, (.mv (.const (.bool true))))]
def r5 : List G := [(some 38, none, (.fa 0 (.tmp 3))), (some 39, none, (.ld true 5 (.tmp 38))), (some 40, none, (.call false 65 [(.tmp 39)])), (some 41, none, (.bin .lss (.tmp 40) (.const (.int .i64 0))))]
def o6 : List (List G) := [[(some 42, none, (.ld true 10 (.tmp 3))), (some 43, none, (.ld true 10 (.tmp 2))), (some 6, none, (.new zR)), (some 7, none, (.new zR)), (none, none, (.st true 10 (.tmp 6) (.tmp 42))), (none, none, (.st true 10 (.tmp 7) (.tmp 43)))],
  [(some 42, none, (.ld true 10 (.tmp 3))), (some 43, none, (.ld true 10 (.tmp 2))), (some 7, none, (.new zR)), (some 6, none, (.new zR)), (none, none, (.st true 10 (.tmp 6) (.tmp 42))), (none, none, (.st true 10 (.tmp 7) (.tmp 43)))],
  [(some 42, none, (.ld true 10 (.tmp 3))), (some 6, none, (.new zR)), (some 43, none, (.ld true 10 (.tmp 2))), (some 7, none, (.new zR)), (none, none, (.st true 10 (.tmp 6) (.tmp 42))), (none, none, (.st true 10 (.tmp 7) (.tmp 43)))],
  [(some 42, none, (.ld true 10 (.tmp 3))), (some 6, none, (.new zR)), (some 7, none, (.new zR)), (some 43, none, (.ld true 10 (.tmp 2))), (none, none, (.st true 10 (.tmp 6) (.tmp 42))), (none, none, (.st true 10 (.tmp 7) (.tmp 43)))],
  [(some 42, none, (.ld true 10 (.tmp 3))), (some 6, none, (.new zR)), (some 7, none, (.new zR)), (none, none, (.st true 10 (.tmp 6) (.tmp 42))), (some 43, none, (.ld true 10 (.tmp 2))), (none, none, (.st true 10 (.tmp 7) (.tmp 43)))],
  [(some 42, none, (.ld true 10 (.tmp 3))), (some 7, none, (.new zR)), (some 43, none, (.ld true 10 (.tmp 2))), (some 6, none, (.new zR)), (none, none, (.st true 10 (.tmp 6) (.tmp 42))), (none, none, (.st true 10 (.tmp 7) (.tmp 43)))],
  [(some 42, none, (.ld true 10 (.tmp 3))), (some 7, none, (.new zR)), (some 6, none, (.new zR)), (some 43, none, (.ld true 10 (.tmp 2))), (none, none, (.st true 10 (.tmp 6) (.tmp 42))), (none, none, (.st true 10 (.tmp 7) (.tmp 43)))],
  [(some 42, none, (.ld true 10 (.tmp 3))), (some 7, none, (.new zR)), (some 6, none, (.new zR)), (none, none, (.st true 10 (.tmp 6) (.tmp 42))), (some 43, none, (.ld true 10 (.tmp 2))), (none, none, (.st true 10 (.tmp 7) (.tmp 43)))],
  [(some 43, none, (.ld true 10 (.tmp 2))), (some 42, none, (.ld true 10 (.tmp 3))), (some 6, none, (.new zR)), (some 7, none, (.new zR)), (none, none, (.st true 10 (.tmp 6) (.tmp 42))), (none, none, (.st true 10 (.tmp 7) (.tmp 43)))],
  [(some 43, none, (.ld true 10 (.tmp 2))), (some 42, none, (.ld true 10 (.tmp 3))), (some 7, none, (.new zR)), (some 6, none, (.new zR)), (none, none, (.st true 10 (.tmp 6) (.tmp 42))), (none, none, (.st true 10 (.tmp 7) (.tmp 43)))],
  [(some 43, none, (.ld true 10 (.tmp 2))), (some 6, none, (.new zR)), (some 42, none, (.ld true 10 (.tmp 3))), (some 7, none, (.new zR)), (none, none, (.st true 10 (.tmp 6) (.tmp 42))), (none, none, (.st true 10 (.tmp 7) (.tmp 43)))],
  [(some 43, none, (.ld true 10 (.tmp 2))), (some 6, none, (.new zR)), (some 7, none, (.new zR)), (some 42, none, (.ld true 10 (.tmp 3))), (none, none, (.st true 10 (.tmp 6) (.tmp 42))), (none, none, (.st true 10 (.tmp 7) (.tmp 43)))],
  [(some 43, none, (.ld true 10 (.tmp 2))), (some 7, none, (.new zR)), (some 42, none, (.ld true 10 (.tmp 3))), (some 6, none, (.new zR)), (none, none, (.st true 10 (.tmp 6) (.tmp 42))), (none, none, (.st true 10 (.tmp 7) (.tmp 43)))],
  [(some 43, none, (.ld true 10 (.tmp 2))), (some 7, none, (.new zR)), (some 6, none, (.new zR)), (some 42, none, (.ld true 10 (.tmp 3))), (none, none, (.st true 10 (.tmp 6) (.tmp 42))), (none, none, (.st true 10 (.tmp 7) (.tmp 43)))],
  [(some 6, none, (.new zR)), (some 42, none, (.ld true 10 (.tmp 3))), (some 43, none, (.ld true 10 (.tmp 2))), (some 7, none, (.new zR)), (none, none, (.st true 10 (.tmp 6) (.tmp 42))), (none, none, (.st true 10 (.tmp 7) (.tmp 43)))],
  [(some 6, none, (.new zR)), (some 42, none, (.ld true 10 (.tmp 3))), (some 7, none, (.new zR)), (some 43, none, (.ld true 10 (.tmp 2))), (none, none, (.st true 10 (.tmp 6) (.tmp 42))), (none, none, (.st true 10 (.tmp 7) (.tmp 43)))],
  [(some 6, none, (.new zR)), (some 42, none, (.ld true 10 (.tmp 3))), (some 7, none, (.new zR)), (none, none, (.st true 10 (.tmp 6) (.tmp 42))), (some 43, none, (.ld true 10 (.tmp 2))), (none, none, (.st true 10 (.tmp 7) (.tmp 43)))],
  [(some 6, none, (.new zR)), (some 43, none, (.ld true 10 (.tmp 2))), (some 42, none, (.ld true 10 (.tmp 3))), (some 7, none, (.new zR)), (none, none, (.st true 10 (.tmp 6) (.tmp 42))), (none, none, (.st true 10 (.tmp 7) (.tmp 43)))],
  [(some 6, none, (.new zR)), (some 43, none, (.ld true 10 (.tmp 2))), (some 7, none, (.new zR)), (some 42, none, (.ld true 10 (.tmp 3))), (none, none, (.st true 10 (.tmp 6) (.tmp 42))), (none, none, (.st true 10 (.tmp 7) (.tmp 43)))],
  [(some 6, none, (.new zR)), (some 7, none, (.new zR)), (some 42, none, (.ld true 10 (.tmp 3))), (some 43, none, (.ld true 10 (.tmp 2))), (none, none, (.st true 10 (.tmp 6) (.tmp 42))), (none, none, (.st true 10 (.tmp 7) (.tmp 43)))],
  [(some 6, none, (.new zR)), (some 7, none, (.new zR)), (some 42, none, (.ld true 10 (.tmp 3))), (none, none, (.st true 10 (.tmp 6) (.tmp 42))), (some 43, none, (.ld true 10 (.tmp 2))), (none, none, (.st true 10 (.tmp 7) (.tmp 43)))],
  [(some 6, none, (.new zR)), (some 7, none, (.new zR)), (some 43, none, (.ld true 10 (.tmp 2))), (some 42, none, (.ld true 10 (.tmp 3))), (none, none, (.st true 10 (.tmp 6) (.tmp 42))), (none, none, (.st true 10 (.tmp 7) (.tmp 43)))],
  [(some 7, none, (.new zR)), (some 42, none, (.ld true 10 (.tmp 3))), (some 43, none, (.ld true 10 (.tmp 2))), (some 6, none, (.new zR)), (none, none, (.st true 10 (.tmp 6) (.tmp 42))), (none, none, (.st true 10 (.tmp 7) (.tmp 43)))],
  [(some 7, none, (.new zR)), (some 42, none, (.ld true 10 (.tmp 3))), (some 6, none, (.new zR)), (some 43, none, (.ld true 10 (.tmp 2))), (none, none, (.st true 10 (.tmp 6) (.tmp 42))), (none, none, (.st true 10 (.tmp 7) (.tmp 43)))],
  [(some 7, none, (.new zR)), (some 42, none, (.ld true 10 (.tmp 3))), (some 6, none, (.new zR)), (none, none, (.st true 10 (.tmp 6) (.tmp 42))), (some 43, none, (.ld true 10 (.tmp 2))), (none, none, (.st true 10 (.tmp 7) (.tmp 43)))],
  [(some 7, none, (.new zR)), (some 43, none, (.ld true 10 (.tmp 2))), (some 42, none, (.ld true 10 (.tmp 3))), (some 6, none, (.new zR)), (none, none, (.st true 10 (.tmp 6) (.tmp 42))), (none, none, (.st true 10 (.tmp 7) (.tmp 43)))],
  [(some 7, none, (.new zR)), (some 43, none, (.ld true 10 (.tmp 2))), (some 6, none, (.new zR)), (some 42, none, (.ld true 10 (.tmp 3))), (none, none, (.st true 10 (.tmp 6) (.tmp 42))), (none, none, (.st true 10 (.tmp 7) (.tmp 43)))],
  [(some 7, none, (.new zR)), (some 6, none, (.new zR)), (some 42, none, (.ld true 10 (.tmp 3))), (some 43, none, (.ld true 10 (.tmp 2))), (none, none, (.st true 10 (.tmp 6) (.tmp 42))), (none, none, (.st true 10 (.tmp 7) (.tmp 43)))],
  [(some 7, none, (.new zR)), (some 6, none, (.new zR)), (some 42, none, (.ld true 10 (.tmp 3))), (none, none, (.st true 10 (.tmp 6) (.tmp 42))), (some 43, none, (.ld true 10 (.tmp 2))), (none, none, (.st true 10 (.tmp 7) (.tmp 43)))],
  [(some 7, none, (.new zR)), (some 6, none, (.new zR)), (some 43, none, (.ld true 10 (.tmp 2))), (some 42, none, (.ld true 10 (.tmp 3))), (none, none, (.st true 10 (.tmp 6) (.tmp 42))), (none, none, (.st true 10 (.tmp 7) (.tmp 43)))]]
def r7 : List G := [(some 44, none, (.fa 0 (.tmp 6))), (some 45, none, (.ld true 5 (.tmp 44))), (some 46, none, (.call true 53 [(.tmp 45)])), (some 47, none, (.fa 0 (.tmp 7))), (some 48, none, (.ld true 5 (.tmp 47))), (some 49, none, (.call true 53 [(.tmp 48)])), (some 50, none, (.fa 0 (.tmp 6)))]
def t7 : List G := [(none, none, (.st true 5 (.tmp 50) (.tmp 46))), (some 51, none, (.fa 0 (.tmp 7))), (none, none, (.st true 5 (.tmp 51) (.tmp 49)))]
def r8 : List G := [(some 53, none, (.fa 0 (.tmp 6))), (some 54, none, (.ld true 5 (.tmp 53))), (some 55, none, (.fa 5 (.tmp 6))), (some 56, none, (.ld true 5 (.tmp 55))), (some 57, none, (.fa 0 (.tmp 7))), (some 58, none, (.ld true 5 (.tmp 57))), (some 59, none, (.fa 5 (.tmp 7))), (some 60, none, (.ld true 5 (.tmp 59))), (some 61, none, (.call false 176 [(.tmp 54), (.tmp 56), (.tmp 58), (.tmp 60)])), (some 52, none, (.mv (.tmp 61))), (some 62, none, (.ex (.tmp 52) 0)), (some 63, none, (.ex (.tmp 52) 1)), (some 8, none, (.new zW)), (some 9, none, (.new zW)), (none, none, (.st true 5 (.tmp 8) (.tmp 62))), (none, none, (.st true 5 (.tmp 9) (.tmp 63)))]
def r9 : List G := [(some 64, none, (.ld true 5 (.tmp 8))), (some 65, none, (.call true 53 [(.tmp 64)])), (some 66, none, (.ld true 5 (.tmp 9))), (some 67, none, (.bd zR [(0, 5, (.tmp 65)), (5, 5, (.tmp 66))]))]
def t9 : List G := [(none, none, (.st true 10 (.tmp 4) (.tmp 67))), (some 5, none, (.mv (.const (.bool true))))]
def r10 : List G := [(some 69, none, (.fa 0 (.tmp 2))), (some 70, none, (.ld true 5 (.tmp 69))), (some 71, none, (.fa 5 (.tmp 2))), (some 72, none, (.ld true 5 (.tmp 71))), (some 73, none, (.fa 0 (.tmp 3))), (some 74, none, (.ld true 5 (.tmp 73))), (some 75, none, (.fa 5 (.tmp 3))), (some 76, none, (.ld true 5 (.tmp 75))), (some 77, none, (.call false 176 [(.tmp 70), (.tmp 72), (.tmp 74), (.tmp 76)])), (some 68, none, (.mv (.tmp 77))), (some 78, none, (.ex (.tmp 68) 0)), (some 79, none, (.ex (.tmp 68) 1)), (some 10, none, (.new zW)), (some 11, none, (.new zW)), (none, none, (.st true 5 (.tmp 10) (.tmp 78))), (none, none, (.st true 5 (.tmp 11) (.tmp 79)))]
def r11 : List G := [(some 80, none, (.ld true 5 (.tmp 10))), (some 81, none, (.ld true 5 (.tmp 11))), (some 82, none, (.bd zR [(0, 5, (.tmp 80)), (5, 5, (.tmp 81))])), (none, none, (.st true 10 (.tmp 4) (.tmp 82))), (some 5, none, (.mv (.const (.bool true))))]
def c : MC := (.seq (.reg r0 (some [2, 3, 4])) (.seq (.seq (.reg r1 (some [2, 3, 4, 25])) (.cond (.tmp 25) (.seq (.reg r2 (some [4, 5])) .ret) .skip)) (.seq (.seq (.reg r3 (some [2, 3, 4, 36])) (.cond (.tmp 36) (.seq (.reg r4 (some [4, 5])) .ret) .skip)) (.seq (.seq (.reg r5 (some [2, 3, 4, 41])) (.cond (.tmp 41) (.seq (.areg [6, 7] o6 (some [4, 6, 7])) (.seq (.dreg r7 t7 (some [4, 6, 7])) (.seq (.reg r8 (some [4, 8, 9])) (.seq (.dreg r9 t9 (some [4, 5])) .ret)))) .skip)) (.seq (.reg r10 (some [4, 10, 11])) (.seq (.reg r11 (some [4, 5])) .ret))))))
def ann : Ann := [(0, (some [2, 3, 4], 0, [], [], [])), (1, (some [2, 3, 4, 25], 0, [], [], [])), (2, (some [4, 5], 0, [], [], [])), (3, (some [2, 3, 4, 36], 0, [], [], [])), (4, (some [4, 5], 0, [], [], [])), (5, (some [2, 3, 4, 41], 0, [], [], [])), (6, (some [4, 6, 7], 99999, [6, 7], [], [])), (7, (some [4, 6, 7], 7, [], [(0, 0), (1, 0), (2, 0), (3, 0), (4, 0), (5, 0), (6, 0)], [])), (8, (some [4, 8, 9], 0, [], [], [])), (9, (some [4, 5], 4, [], [(0, 0), (1, 0), (2, 0), (3, 0)], [])), (10, (some [4, 10, 11], 0, [], [], [])), (11, (some [4, 5], 0, [], [], []))]
theorem ok : compF Try.prog Try.f152 ann = some (83, c, [(4, some (true, 10)), (5, none)]) := by kernel_rfl
def p1 (S : St) : Prop := ops C r11 (kq [4, 5] R) S
def p2 (S : St) : Prop := ops C r10 (kq [4, 10, 11] (p1 C R)) S
def p4 (S : St) : Prop := ops C r9 (ops C t9 (kq [4, 5] R)) S
def p5 (S : St) : Prop := ops C r8 (kq [4, 8, 9] (p4 C R)) S
def p6 (S : St) : Prop := ops C r7 (ops C t7 (kq [4, 6, 7] (p5 C R))) S
def p7 (S : St) : Prop := areX C [6, 7] o6 (kq [4, 6, 7] (p6 C R)) S
def p3 (S : St) : Prop := condX (S.ev (.tmp 41)) (p7 C R) (p2 C R) S
def p8 (S : St) : Prop := ops C r5 (kq [2, 3, 4, 41] (p3 C R)) S
def p10 (S : St) : Prop := ops C r4 (kq [4, 5] R) S
def p9 (S : St) : Prop := condX (S.ev (.tmp 36)) (p10 C R) (p8 C R) S
def p11 (S : St) : Prop := ops C r3 (kq [2, 3, 4, 36] (p9 C R)) S
def p13 (S : St) : Prop := ops C r2 (kq [4, 5] R) S
def p12 (S : St) : Prop := condX (S.ev (.tmp 25)) (p13 C R) (p11 C R) S
def p14 (S : St) : Prop := ops C r1 (kq [2, 3, 4, 25] (p12 C R)) S
def p15 (S : St) : Prop := ops C r0 (kq [2, 3, 4] (p14 C R)) S
theorem s (S : St) : X C c (retK R) S = p15 C R S := by kernel_rfl
theorem E : type_of% @r11.eq_1 ∧ type_of% @p1.eq_1 ∧ type_of% @r10.eq_1 ∧ type_of% @p2.eq_1 ∧ type_of% @r9.eq_1 ∧ type_of% @t9.eq_1 ∧ type_of% @p4.eq_1 ∧ type_of% @r8.eq_1 ∧ type_of% @p5.eq_1 ∧ type_of% @r7.eq_1 ∧ type_of% @t7.eq_1 ∧ type_of% @p6.eq_1 ∧ type_of% @o6.eq_1 ∧ type_of% @p7.eq_1 ∧ type_of% @p3.eq_1 ∧ type_of% @r5.eq_1 ∧ type_of% @p8.eq_1 ∧ type_of% @r4.eq_1 ∧ type_of% @p10.eq_1 ∧ type_of% @p9.eq_1 ∧ type_of% @r3.eq_1 ∧ type_of% @p11.eq_1 ∧ type_of% @r2.eq_1 ∧ type_of% @p13.eq_1 ∧ type_of% @p12.eq_1 ∧ type_of% @r1.eq_1 ∧ type_of% @p14.eq_1 ∧ type_of% @r0.eq_1 ∧ type_of% @p15.eq_1 ∧ type_of% @s := ⟨@r11.eq_1, @p1.eq_1, @r10.eq_1, @p2.eq_1, @r9.eq_1, @t9.eq_1, @p4.eq_1, @r8.eq_1, @p5.eq_1, @r7.eq_1, @t7.eq_1, @p6.eq_1, @o6.eq_1, @p7.eq_1, @p3.eq_1, @r5.eq_1, @p8.eq_1, @r4.eq_1, @p10.eq_1, @p9.eq_1, @r3.eq_1, @p11.eq_1, @r2.eq_1, @p13.eq_1, @p12.eq_1, @r1.eq_1, @p14.eq_1, @r0.eq_1, @p15.eq_1, @s⟩
end r04_Between
namespace r04_positive
def r0 : List G := [(some 4, none, (.box true 5 (.tmp 0))), (some 5, none, (.box true 5 (.tmp 1))), (some 6, none, (.box true 5 (.tmp 2))), (some 7, none, (.box true 5 (.tmp 3))), (some 8, none, (.new zW)), (some 9, none, (.new zW))]
def r1 : List G := [(some 27, none, (.ld true 5 (.tmp 4))), (some 28, none, (.ld true 5 (.tmp 5))), (some 29, none, (.call false 23 [(.tmp 27), (.tmp 28)])), (some 26, none, (.mv (.tmp 29))), (some 30, none, (.ex (.tmp 26) 0)), (some 31, none, (.ex (.tmp 26) 1)), (some 32, none, (.ex (.tmp 26) 2)), (some 10, none, (.new zW)), (some 11, none, (.new zW)), (none, none, (.st true 5 (.tmp 10) (.tmp 30))), (none, none, (.st true 5 (.tmp 11) (.tmp 31))), (some 12, none, (.mv (.tmp 32)))]
def r2 : List G := [(some 33, none, (.ld true 5 (.tmp 11))), (some 34, none, (.call false 65 [(.tmp 33)])), (some 35, none, (.bin .neq (.tmp 34) (.const (.int .i64 0))))]
def r3 : List G := [(some 37, none, (.ld true 5 (.tmp 10))), (some 38, none, (.call true 20 [(.const (.int .i64 1))])), (some 39, none, (.call true 22 [(.tmp 37), (.tmp 38)])), (some 36, none, (.mv (.tmp 39))), (some 40, none, (.ex (.tmp 36) 0)), (some 41, none, (.ex (.tmp 36) 1))]
def t3 : List G := [(none, none, (.st true 5 (.tmp 10) (.tmp 40)))]
def r4 : List G := [(some 43, none, (.ld true 5 (.tmp 10))), (some 44, none, (.ld true 5 (.tmp 7))), (some 45, none, (.call false 57 [(.tmp 43), (.tmp 44)])), (some 42, none, (.mv (.tmp 45))), (some 46, none, (.ex (.tmp 42) 0)), (some 47, none, (.ex (.tmp 42) 1)), (some 13, none, (.new zW)), (none, none, (.st true 5 (.tmp 13) (.tmp 46))), (some 14, none, (.mv (.tmp 47)))]
def r5 : List G := [(some 48, none, (.ld true 5 (.tmp 13))), (some 49, none, (.ld true 5 (.tmp 6))), (some 50, none, (.call false 42 [(.tmp 48), (.tmp 49)])), (some 51, none, (.bin .leq (.tmp 50) (.const (.int .i64 0))))]
def r6 : List G := [(some 52, none, (.ld true 5 (.tmp 10))), (some 53, none, (.call true 20 [(.const (.int .i64 1))]))]
def t6 : List G := [(none, none, (.st true 5 (.tmp 8) (.tmp 52))), (none, none, (.st true 5 (.tmp 9) (.tmp 53)))]
def r7 : List G := [(some 55, none, (.ld true 5 (.tmp 4))), (some 56, none, (.ld true 5 (.tmp 5))), (some 57, none, (.call false 23 [(.tmp 55), (.tmp 56)])), (some 54, none, (.mv (.tmp 57))), (some 58, none, (.ex (.tmp 54) 0)), (some 59, none, (.ex (.tmp 54) 1)), (some 60, none, (.ex (.tmp 54) 2)), (some 15, none, (.new zW)), (some 16, none, (.new zW)), (none, none, (.st true 5 (.tmp 15) (.tmp 58))), (none, none, (.st true 5 (.tmp 16) (.tmp 59))), (some 17, none, (.mv (.tmp 60)))]
def r8 : List G := [(some 62, none, (.ld true 5 (.tmp 15))), (some 63, none, (.ld true 5 (.tmp 7))), (some 64, none, (.call false 57 [(.tmp 62), (.tmp 63)])), (some 61, none, (.mv (.tmp 64))), (some 65, none, (.ex (.tmp 61) 0)), (some 66, none, (.ex (.tmp 61) 1)), (some 18, none, (.new zW)), (none, none, (.st true 5 (.tmp 18) (.tmp 65))), (some 19, none, (.mv (.tmp 66)))]
def r9 : List G := [(some 68, none, (.ld true 5 (.tmp 6))), (some 69, none, (.ld true 5 (.tmp 18))), (some 70, none, (.call false 41 [(.tmp 68), (.tmp 69)])), (some 67, none, (.mv (.tmp 70))), (some 71, none, (.ex (.tmp 67) 0)), (some 72, none, (.ex (.tmp 67) 1)), (some 20, none, (.new zW)), (none, none, (.st true 5 (.tmp 20) (.tmp 71))), (some 21, none, (.mv (.tmp 72)))]
def r10 : List G := [(some 74, none, (.ld true 5 (.tmp 7))), (some 75, none, (.ld true 5 (.tmp 20))), (some 76, none, (.ld true 5 (.tmp 5))), (some 77, none, (.ld true 5 (.tmp 16))), (some 78, none, (.call false 176 [(.tmp 74), (.tmp 75), (.tmp 76), (.tmp 77)])), (some 73, none, (.mv (.tmp 78))), (some 79, none, (.ex (.tmp 73) 0)), (some 80, none, (.ex (.tmp 73) 1)), (some 22, none, (.new zW)), (some 23, none, (.new zW)), (none, none, (.st true 5 (.tmp 22) (.tmp 79))), (none, none, (.st true 5 (.tmp 23) (.tmp 80)))]
def r11 : List G := [(some 82, none, (.ld true 5 (.tmp 15))), (some 83, none, (.ld true 5 (.tmp 22))), (some 84, none, (.call false 57 [(.tmp 82), (.tmp 83)])), (some 81, none, (.mv (.tmp 84))), (some 85, none, (.ex (.tmp 81) 0)), (some 86, none, (.ex (.tmp 81) 1)), (some 24, none, (.new zW)), (none, none, (.st true 5 (.tmp 24) (.tmp 85))), (some 25, none, (.mv (.tmp 86)))]
def r12 : List G := [(some 88, none, (.ld true 5 (.tmp 24))), (some 89, none, (.ld true 5 (.tmp 23))), (some 90, none, (.call false 22 [(.tmp 88), (.tmp 89)])), (some 87, none, (.mv (.tmp 90))), (some 91, none, (.ex (.tmp 87) 0)), (some 92, none, (.ex (.tmp 87) 1)), (none, none, (.st true 5 (.tmp 24) (.tmp 91)))]
def o13 : List (List G) := [[(some 93, none, (.ld true 5 (.tmp 24))), (some 94, none, (.ld true 5 (.tmp 22))), (none, none, (.st true 5 (.tmp 8) (.tmp 93))), (none, none, (.st true 5 (.tmp 9) (.tmp 94)))],
  [(some 93, none, (.ld true 5 (.tmp 24))), (none, none, (.st true 5 (.tmp 8) (.tmp 93))), (some 94, none, (.ld true 5 (.tmp 22))), (none, none, (.st true 5 (.tmp 9) (.tmp 94)))],
  [(some 94, none, (.ld true 5 (.tmp 22))), (some 93, none, (.ld true 5 (.tmp 24))), (none, none, (.st true 5 (.tmp 8) (.tmp 93))), (none, none, (.st true 5 (.tmp 9) (.tmp 94)))]]
def c : MC := (.seq (.reg r0 (some [4, 5, 6, 7, 8, 9])) (.seq (.reg r1 (some [4, 5, 6, 7, 8, 9, 10, 11])) (.seq (.seq (.reg r2 (some [4, 5, 6, 7, 8, 9, 10, 35])) (.cond (.tmp 35) (.dreg r3 t3 (some [4, 5, 6, 7, 8, 9, 10])) .skip)) (.seq (.reg r4 (some [4, 5, 6, 7, 8, 9, 10, 13])) (.seq (.seq (.reg r5 (some [4, 5, 6, 7, 8, 9, 10, 51])) (.cond (.tmp 51) (.seq (.dreg r6 t6 (some [8, 9])) .ret) .skip)) (.seq (.reg r7 (some [5, 6, 7, 8, 9, 15, 16])) (.seq (.reg r8 (some [5, 6, 7, 8, 9, 15, 16, 18])) (.seq (.reg r9 (some [5, 7, 8, 9, 15, 16, 20])) (.seq (.reg r10 (some [8, 9, 15, 22, 23])) (.seq (.reg r11 (some [8, 9, 22, 23, 24])) (.seq (.reg r12 (some [8, 9, 22, 24])) (.seq (.areg [] o13 (some [8, 9])) .ret))))))))))))
def ann : Ann := [(0, (some [4, 5, 6, 7, 8, 9], 0, [], [], [])), (1, (some [4, 5, 6, 7, 8, 9, 10, 11], 0, [], [], [])), (2, (some [4, 5, 6, 7, 8, 9, 10, 35], 0, [], [], [])), (3, (some [4, 5, 6, 7, 8, 9, 10], 6, [5], [(0, 0), (1, 0), (2, 0), (3, 0), (4, 0), (5, 2)], [])), (4, (some [4, 5, 6, 7, 8, 9, 10, 13], 0, [], [], [])), (5, (some [4, 5, 6, 7, 8, 9, 10, 51], 0, [], [], [])), (6, (some [8, 9], 2, [], [(0, 0), (1, 0)], [])), (7, (some [5, 6, 7, 8, 9, 15, 16], 0, [], [], [])), (8, (some [5, 6, 7, 8, 9, 15, 16, 18], 0, [], [], [])), (9, (some [5, 7, 8, 9, 15, 16, 20], 0, [], [], [])), (10, (some [8, 9, 15, 22, 23], 0, [], [], [])), (11, (some [8, 9, 22, 23, 24], 0, [], [], [])), (12, (some [8, 9, 22, 24], 0, [], [], [])), (13, (some [8, 9], 99999, [], [], []))]
theorem ok : compF Try.prog Try.f176 ann = some (95, c, [(8, some (true, 5)), (9, some (true, 5))]) := by kernel_rfl
def p1 (S : St) : Prop := areX C [] o13 (kq [8, 9] R) S
def p2 (S : St) : Prop := ops C r12 (kq [8, 9, 22, 24] (p1 C R)) S
def p3 (S : St) : Prop := ops C r11 (kq [8, 9, 22, 23, 24] (p2 C R)) S
def p4 (S : St) : Prop := ops C r10 (kq [8, 9, 15, 22, 23] (p3 C R)) S
def p5 (S : St) : Prop := ops C r9 (kq [5, 7, 8, 9, 15, 16, 20] (p4 C R)) S
def p6 (S : St) : Prop := ops C r8 (kq [5, 6, 7, 8, 9, 15, 16, 18] (p5 C R)) S
def p7 (S : St) : Prop := ops C r7 (kq [5, 6, 7, 8, 9, 15, 16] (p6 C R)) S
def p9 (S : St) : Prop := ops C r6 (ops C t6 (kq [8, 9] R)) S
def p8 (S : St) : Prop := condX (S.ev (.tmp 51)) (p9 C R) (p7 C R) S
def p10 (S : St) : Prop := ops C r5 (kq [4, 5, 6, 7, 8, 9, 10, 51] (p8 C R)) S
def p11 (S : St) : Prop := ops C r4 (kq [4, 5, 6, 7, 8, 9, 10, 13] (p10 C R)) S
def p13 (S : St) : Prop := ops C r3 (ops C t3 (kq [4, 5, 6, 7, 8, 9, 10] (p11 C R))) S
def p12 (S : St) : Prop := condX (S.ev (.tmp 35)) (p13 C R) (p11 C R) S
def p14 (S : St) : Prop := ops C r2 (kq [4, 5, 6, 7, 8, 9, 10, 35] (p12 C R)) S
def p15 (S : St) : Prop := ops C r1 (kq [4, 5, 6, 7, 8, 9, 10, 11] (p14 C R)) S
def p16 (S : St) : Prop := ops C r0 (kq [4, 5, 6, 7, 8, 9] (p15 C R)) S
theorem s (S : St) : X C c (retK R) S = p16 C R S := by kernel_rfl
theorem E : type_of% @o13.eq_1 ∧ type_of% @p1.eq_1 ∧ type_of% @r12.eq_1 ∧ type_of% @p2.eq_1 ∧ type_of% @r11.eq_1 ∧ type_of% @p3.eq_1 ∧ type_of% @r10.eq_1 ∧ type_of% @p4.eq_1 ∧ type_of% @r9.eq_1 ∧ type_of% @p5.eq_1 ∧ type_of% @r8.eq_1 ∧ type_of% @p6.eq_1 ∧ type_of% @r7.eq_1 ∧ type_of% @p7.eq_1 ∧ type_of% @r6.eq_1 ∧ type_of% @t6.eq_1 ∧ type_of% @p9.eq_1 ∧ type_of% @p8.eq_1 ∧ type_of% @r5.eq_1 ∧ type_of% @p10.eq_1 ∧ type_of% @r4.eq_1 ∧ type_of% @p11.eq_1 ∧ type_of% @r3.eq_1 ∧ type_of% @t3.eq_1 ∧ type_of% @p13.eq_1 ∧ type_of% @p12.eq_1 ∧ type_of% @r2.eq_1 ∧ type_of% @p14.eq_1 ∧ type_of% @r1.eq_1 ∧ type_of% @p15.eq_1 ∧ type_of% @r0.eq_1 ∧ type_of% @p16.eq_1 ∧ type_of% @s := ⟨@o13.eq_1, @p1.eq_1, @r12.eq_1, @p2.eq_1, @r11.eq_1, @p3.eq_1, @r10.eq_1, @p4.eq_1, @r9.eq_1, @p5.eq_1, @r8.eq_1, @p6.eq_1, @r7.eq_1, @p7.eq_1, @r6.eq_1, @t6.eq_1, @p9.eq_1, @p8.eq_1, @r5.eq_1, @p10.eq_1, @r4.eq_1, @p11.eq_1, @r3.eq_1, @t3.eq_1, @p13.eq_1, @p12.eq_1, @r2.eq_1, @p14.eq_1, @r1.eq_1, @p15.eq_1, @r0.eq_1, @p16.eq_1, @s⟩
end r04_positive
end Go.Proofs.Ytncmmbacoknefaa

/- Qc: What calls of the reference of ratio give. -/
namespace Go.Proofs.Ytncmmbacoknefaa
open Go Go.RowKit Sx
set_option linter.unusedVariables false
set_option linter.unusedSimpArgs false
theorem small_plain2 {m : Int} (h : A4 m) : m < ((2 ^ 127 : Nat) : Int) ↔ lb3 m = 0 ∧ lb2 m = 0 ∧ lb1 m < 9223372036854775808 := by
  rw [small_plain h]
  have := lb1_in m
  rw [Int.fdiv_eq_ediv_of_nonneg _ (by decide)]
  unfold U64 at this
  constructor
  · rintro ⟨a, b, c⟩; exact ⟨a, b, by omega⟩
  · rintro ⟨a, b, c⟩; exact ⟨a, b, by omega⟩
theorem rx_small {z : Int} (h : Fits z) (W : World) : Gives Try.prog 160 [WX z] W (· = .bool (decide (ab z < ((2 ^ 127 : Nat) : Int)))) := by
  have e := small_plain2 (m := ab z) ⟨ab_nonneg z, (fits_lt z).1 h⟩
  refine gives_known en_r03_small ?_
  rw [show decide (ab z < ((2 ^ 127 : Nat) : Int)) = (decide (lb3 (ab z) = 0) && (decide (lb2 (ab z) = 0) && decide (lb1 (ab z) < 9223372036854775808))) by rw [Bool.eq_iff_iff, decide_eq_true_iff, e]; simp]
  clear e h
  refine known_of (enter Try.func160 r03_small.ok (args := [WX z]) (by simp) ?_)
  repeat' (first | simp (disch := omega) only [sxE, r03_small.E, Nat.reduceAdd, Nat.reduceEqDiff, Nat.reduceMul, Nat.reduceSub, Int.reduceAdd, Int.reduceSub, Int.reduceMul, Int.reduceNeg, Int.reduceLT, Int.reduceLE, Int.reduceEq, Int.reduceToNat, ↓reduceIte, Int.reducePow, Nat.reduceLeDiff, Nat.reduceLT, ne_eq, eq_self, List.length_cons, List.length_nil, qxE] | ((with_reducible first | apply cond_beq | apply gd_beq) <;> (intro hc; first | simp only [beq_iff_eq.2 hc] | simp only [beq_eq_false_iff_ne.2 hc] | skip)) | ((with_reducible first | apply cond_dec | apply gd_dec) <;> (intro hc; first | simp only [decide_eq_true hc] | simp only [decide_eq_false hc] | skip)) | ((with_reducible first | apply cond_of | apply gd_of) <;> (intro hc; try simp only [hc])))
  all_goals (refine vb ?_; rw [Bool.eq_iff_iff]; simp_all)
theorem rx_abs {z : Int} (W : World) : Gives Try.prog 136 [WX z] W (· = WX (ab z)) := by
  refine gives_known en_r03_abs ?_
  refine known_of (enter Try.func136 r03_abs.ok (args := [_]) (by simp) ?_)
  repeat' (first | simp (disch := omega) only [sxE, r03_abs.E, Nat.reduceAdd, Nat.reduceEqDiff, Nat.reduceMul, Nat.reduceSub, Int.reduceAdd, Int.reduceSub, Int.reduceMul, Int.reduceNeg, Int.reduceLT, Int.reduceLE, Int.reduceEq, Int.reduceToNat, ↓reduceIte, Int.reducePow, Nat.reduceLeDiff, Nat.reduceLT, ne_eq, eq_self, List.length_cons, List.length_nil, qxE])
theorem rx_one (W : World) : Gives Try.prog 137 [] W (· = WX 1) := by
  refine gives_known en_r03_one ?_
  refine known_of (enter Try.func137 r03_one.ok (args := []) (by simp) ?_)
  repeat' (first | simp (disch := omega) only [sxE, r03_one.E, Nat.reduceAdd, Nat.reduceEqDiff, Nat.reduceMul, Nat.reduceSub, Int.reduceAdd, Int.reduceSub, Int.reduceMul, Int.reduceNeg, Int.reduceLT, Int.reduceLE, Int.reduceEq, Int.reduceToNat, ↓reduceIte, Int.reducePow, Nat.reduceLeDiff, Nat.reduceLT, ne_eq, eq_self, List.length_cons, List.length_nil, qxE] | (with_reducible refine Sx.call_at (f := 20) (fun W hW => rx_of i64_one W) ?_))
def gcF2 (x : Int × Int) : St := ⟨3, [(4, .p 2 0), (5, .v (.int .u64 x.1)), (7, .v (.int .u64 x.2))], [(2, [.bool false, .int .u64 0, .int .u64 0, .int .u64 0, .int .u64 0])], ext0⟩
set_option maxRecDepth 100000 in
theorem rx_gcd {z y : Int} (h : Fits z) (h' : Fits y) (n1 : 0 ≤ z) (n2 : 0 ≤ y) (W : World) : Gives Try.prog 135 [WX z, WX y] W (· = WX (gc z y)) := by
  refine gives_known en_r03_gcd ?_
  refine known_of (enter Try.func135 r03_gcd.ok (args := [WX z, WX y]) (by simp) ?_)
  repeat' (first | simp (disch := omega) only [sxE, r03_gcd.E, Nat.reduceAdd, Nat.reduceEqDiff, Nat.reduceMul, Nat.reduceSub, Int.reduceAdd, Int.reduceSub, Int.reduceMul, Int.reduceNeg, Int.reduceLT, Int.reduceLE, Int.reduceEq, Int.reduceToNat, ↓reduceIte, Int.reducePow, Nat.reduceLeDiff, Nat.reduceLT, ne_eq, eq_self, List.length_cons, List.length_nil, qxE])
  rw [r03_gcd.p2_l]
  refine LX_inv gcF (fun x => 0 ≤ x.1 ∧ 0 ≤ x.2 ∧ Fits x.1 ∧ Fits x.2 ∧ gc x.1 x.2 = gc z y) (fun x => x.2.toNat) ?round (z, y) ⟨n1, n2, h, h', rfl⟩ ?start
  case start =>
    unfold gcF wc
    dsimp only
    simp (disch := omega) only [sxE, r03_gcd.E, Nat.reduceAdd, Nat.reduceEqDiff, Nat.reduceMul, Nat.reduceSub, Int.reduceAdd, Int.reduceSub, Int.reduceMul, Int.reduceNeg, Int.reduceLT, Int.reduceLE, Int.reduceEq, Int.reduceToNat, ↓reduceIte, Int.reducePow, Nat.reduceLeDiff, Nat.reduceLT, ne_eq, eq_self, List.length_cons, List.length_nil]
  case round =>
    rintro ⟨x, w⟩ ⟨h1, h2, h3, h4, h5⟩
    dsimp only at h1 h2 h3 h4 h5 ⊢
    rw [← h5]
    clear h5 h h' n1 n2
    have hcm := cm_zero w
    unfold gcF wc
    dsimp only
    by_cases hw : w = 0
    · subst hw
      rw [gc_zero x h1]
      have hc0 : cm 0 0 = 0 := rfl
      repeat' (first | simp (disch := omega) only [sxE, r03_gcd.E, Nat.reduceAdd, Nat.reduceEqDiff, Nat.reduceMul, Nat.reduceSub, Int.reduceAdd, Int.reduceSub, Int.reduceMul, Int.reduceNeg, Int.reduceLT, Int.reduceLE, Int.reduceEq, Int.reduceToNat, ↓reduceIte, Int.reducePow, Nat.reduceLeDiff, Nat.reduceLT, ne_eq, eq_self, List.length_cons, List.length_nil, qxE, hc0] | (with_reducible refine Sx.call_at (f := 65) (fun W hW => rx_sign h4 W) ?_))
    · have hc0 : cm w 0 ≠ 0 := by rw [hcm]; (repeat' split) <;> omega
      have hq := fits_emod (z := x) h4 hw
      have hm0 := Int.emod_nonneg x hw
      have hm1 := Int.emod_lt_of_pos x (show 0 < w by omega)
      have hgs := gc_step h1 (show 0 < w by omega)
      clear hcm
      by_cases hu : x < 18446744073709551616 ∧ w < 18446744073709551616
      · have u1 : unb x = true := decide_eq_true ⟨h1, hu.1⟩
        have u2 : unb w = true := decide_eq_true ⟨h2, hu.2⟩
        have u3 : unv x = x := by unfold unv; rw [u1]; rfl
        have u4 : unv w = w := by unfold unv; rw [u2]; rfl
        have k1 := fun W => rx_unsigned h3 W
        have k2 := fun W => rx_unsigned h4 W
        rw [u1, u3] at k1
        rw [u2, u4] at k2
        repeat' (first | simp (disch := omega) only [sxE, r03_gcd.E, Nat.reduceAdd, Nat.reduceEqDiff, Nat.reduceMul, Nat.reduceSub, Int.reduceAdd, Int.reduceSub, Int.reduceMul, Int.reduceNeg, Int.reduceLT, Int.reduceLE, Int.reduceEq, Int.reduceToNat, ↓reduceIte, Int.reducePow, Nat.reduceLeDiff, Nat.reduceLT, ne_eq, eq_self, List.length_cons, List.length_nil, qxE] | (with_reducible refine Sx.call_at (f := 65) (fun W hW => rx_sign h4 W) ?_) | (with_reducible refine Sx.call_at (f := 170) (fun W hW => k1 W) ?_) | (with_reducible refine Sx.call_at (f := 170) (fun W hW => k2 W) ?_))
        rw [r03_gcd.p7_l]
        obtain ⟨hu1, hu2⟩ := hu
        clear hgs hm0 hm1 hq hc0 hw u1 u2 u3 u4 k1 k2
        refine LX_inv gcF2 (fun t => U64 t.1 ∧ U64 t.2 ∧ gc t.1 t.2 = gc x w) (fun t => t.2.toNat) ?round2 (x, w) ⟨⟨h1, by omega⟩, ⟨h2, by omega⟩, rfl⟩ ?start2
        case start2 =>
          unfold gcF2
          dsimp only
          simp (disch := omega) only [sxE, r03_gcd.E, Nat.reduceAdd, Nat.reduceEqDiff, Nat.reduceMul, Nat.reduceSub, Int.reduceAdd, Int.reduceSub, Int.reduceMul, Int.reduceNeg, Int.reduceLT, Int.reduceLE, Int.reduceEq, Int.reduceToNat, ↓reduceIte, Int.reducePow, Nat.reduceLeDiff, Nat.reduceLT, ne_eq, eq_self, List.length_cons, List.length_nil]
        case round2 =>
          rintro ⟨s, t⟩ ⟨i1, i2, i3⟩
          dsimp only at i1 i2 i3 ⊢
          rw [← i3]
          unfold gcF2
          dsimp only
          by_cases ht : t = 0
          · subst ht
            rw [gc_zero s i1.1]
            repeat' (first | simp (disch := omega) only [sxE, r03_gcd.E, Nat.reduceAdd, Nat.reduceEqDiff, Nat.reduceMul, Nat.reduceSub, Int.reduceAdd, Int.reduceSub, Int.reduceMul, Int.reduceNeg, Int.reduceLT, Int.reduceLE, Int.reduceEq, Int.reduceToNat, ↓reduceIte, Int.reducePow, Nat.reduceLeDiff, Nat.reduceLT, ne_eq, eq_self, List.length_cons, List.length_nil, qxE] | (with_reducible refine Sx.call_at (f := 58) (fun W hW => rx_ofU i1 W) ?_))
          · have e1 : s.tmod t = s % t := Int.tmod_eq_emod_of_nonneg i1.1
            have j0 := Int.emod_nonneg s ht
            have j1 := Int.emod_lt_of_pos s (show 0 < t by have := i2.1; omega)
            have j2 := gc_step i1.1 (show 0 < t by have := i2.1; omega)
            have j3 := i2.2
            repeat' (first | simp (disch := omega) only [sxE, r03_gcd.E, Nat.reduceAdd, Nat.reduceEqDiff, Nat.reduceMul, Nat.reduceSub, Int.reduceAdd, Int.reduceSub, Int.reduceMul, Int.reduceNeg, Int.reduceLT, Int.reduceLE, Int.reduceEq, Int.reduceToNat, ↓reduceIte, Int.reducePow, Nat.reduceLeDiff, Nat.reduceLT, ne_eq, eq_self, List.length_cons, List.length_nil, qxE, e1])
            exact ⟨(t, s % t), ⟨i2, ⟨j0, by dsimp only; omega⟩, j2⟩, by dsimp only; omega, by repeat' (first | (with_reducible rfl) | (exact Or.inl rfl) | apply And.intro)⟩
      · have u2 : unb x = false ∨ unb w = false := by
          rcases Int.lt_or_le x 18446744073709551616 with hl | hl
          · right; exact decide_eq_false (by omega)
          · left; exact decide_eq_false (by omega)
        have k1 := fun W => rx_unsigned h3 W
        have k2 := fun W => rx_unsigned h4 W
        generalize unb x = p1 at *
        generalize unb w = p2 at *
        generalize unv x = w1 at *
        generalize unv w = w2 at *
        clear hu
        cases p1
        · repeat' (first | simp (disch := omega) only [sxE, r03_gcd.E, Nat.reduceAdd, Nat.reduceEqDiff, Nat.reduceMul, Nat.reduceSub, Int.reduceAdd, Int.reduceSub, Int.reduceMul, Int.reduceNeg, Int.reduceLT, Int.reduceLE, Int.reduceEq, Int.reduceToNat, ↓reduceIte, Int.reducePow, Nat.reduceLeDiff, Nat.reduceLT, ne_eq, eq_self, List.length_cons, List.length_nil, qxE] | (with_reducible refine Sx.call_at (f := 65) (fun W hW => rx_sign h4 W) ?_) | (with_reducible refine Sx.call_at (f := 170) (fun W hW => k1 W) ?_) | (with_reducible refine Sx.call_at (f := 170) (fun W hW => k2 W) ?_) | (with_reducible refine Sx.call_at (f := 23) (fun W hW => rx_divmod h3 h4 hw W) ?_))
          exact ⟨(w, x % w), ⟨h2, hm0, h4, hq, hgs⟩, by dsimp only; omega, by repeat' (first | (with_reducible rfl) | (exact Or.inl rfl) | apply And.intro)⟩
        · obtain rfl : p2 = false := by rcases u2 with h | h; cases h; exact h
          repeat' (first | simp (disch := omega) only [sxE, r03_gcd.E, Nat.reduceAdd, Nat.reduceEqDiff, Nat.reduceMul, Nat.reduceSub, Int.reduceAdd, Int.reduceSub, Int.reduceMul, Int.reduceNeg, Int.reduceLT, Int.reduceLE, Int.reduceEq, Int.reduceToNat, ↓reduceIte, Int.reducePow, Nat.reduceLeDiff, Nat.reduceLT, ne_eq, eq_self, List.length_cons, List.length_nil, qxE] | (with_reducible refine Sx.call_at (f := 65) (fun W hW => rx_sign h4 W) ?_) | (with_reducible refine Sx.call_at (f := 170) (fun W hW => k1 W) ?_) | (with_reducible refine Sx.call_at (f := 170) (fun W hW => k2 W) ?_) | (with_reducible refine Sx.call_at (f := 23) (fun W hW => rx_divmod h3 h4 hw W) ?_))
          exact ⟨(w, x % w), ⟨h2, hm0, h4, hq, hgs⟩, by dsimp only; omega, by repeat' (first | (with_reducible rfl) | (exact Or.inl rfl) | apply And.intro)⟩
set_option maxRecDepth 100000 in
theorem rx_rvalid {p q : Int} (h : Fits p) (h' : Fits q) (W : World) : Gives Try.prog 117 [RX p q] W (· = .bool (rok true p q)) := by
  have hg := fits_gc h h'
  have hcm := cm_pos q
  have gq := fun (hq : 0 ≤ q) W => rx_gcd (fits_ab h) h' (ab_nonneg p) hq W
  rw [gc_abl] at gq
  refine gives_known en_r03_Valid ?_
  by_cases hq : 0 < q
  · have gq := gq (by omega)
    have hc0 : ¬ cm q 0 ≤ 0 := by omega
    refine known_of (enter Try.func117 r03_Valid.ok (args := [RX p q]) (by simp) ?_)
    repeat' (first | simp (disch := omega) only [sxE, r03_Valid.E, Nat.reduceAdd, Nat.reduceEqDiff, Nat.reduceMul, Nat.reduceSub, Int.reduceAdd, Int.reduceSub, Int.reduceMul, Int.reduceNeg, Int.reduceLT, Int.reduceLE, Int.reduceEq, Int.reduceToNat, ↓reduceIte, Int.reducePow, Nat.reduceLeDiff, Nat.reduceLT, ne_eq, eq_self, List.length_cons, List.length_nil, qxE] | (with_reducible refine Sx.call_at (f := 88) (fun W hW => rx_valid h W) ?_) | (with_reducible refine Sx.call_at (f := 88) (fun W hW => rx_valid h' W) ?_) | (with_reducible refine Sx.call_at (f := 65) (fun W hW => rx_sign h' W) ?_) | (with_reducible refine Sx.call_at (f := 160) (fun W hW => rx_small h W) ?_) | (with_reducible refine Sx.call_at (f := 160) (fun W hW => rx_small h' W) ?_) | (with_reducible refine Sx.call_at (f := 136) (fun W hW => rx_abs W) ?_) | (with_reducible refine Sx.call_at (f := 135) (fun W hW => gq W) ?_) | (with_reducible refine Sx.call_at (f := 137) (fun W hW => rx_one W) ?_) | ((with_reducible apply Sx.eq_is); (case h => exact fun W => eqx_run hg fits_one W); (case' hk => skip)) | ((with_reducible first | apply cond_beq | apply gd_beq) <;> (intro hc; first | simp only [beq_iff_eq.2 hc] | simp only [beq_eq_false_iff_ne.2 hc] | skip)) | ((with_reducible first | apply cond_dec | apply gd_dec) <;> (intro hc; first | simp only [decide_eq_true hc] | simp only [decide_eq_false hc] | skip)) | ((with_reducible first | apply cond_of | apply gd_of) <;> (intro hc; try simp only [hc])))
    all_goals (refine vb ?_; unfold rok; rw [Bool.eq_iff_iff]; simp_all <;> (intros; omega))
  · have hc0 : cm q 0 ≤ 0 := by omega
    have e : rok true p q = false := by unfold rok; rw [decide_eq_false hq]; rfl
    rw [e]
    refine known_of (enter Try.func117 r03_Valid.ok (args := [RX p q]) (by simp) ?_)
    repeat' (first | simp (disch := omega) only [sxE, r03_Valid.E, Nat.reduceAdd, Nat.reduceEqDiff, Nat.reduceMul, Nat.reduceSub, Int.reduceAdd, Int.reduceSub, Int.reduceMul, Int.reduceNeg, Int.reduceLT, Int.reduceLE, Int.reduceEq, Int.reduceToNat, ↓reduceIte, Int.reducePow, Nat.reduceLeDiff, Nat.reduceLT, ne_eq, eq_self, List.length_cons, List.length_nil, qxE] | (with_reducible refine Sx.call_at (f := 88) (fun W hW => rx_valid h W) ?_) | (with_reducible refine Sx.call_at (f := 88) (fun W hW => rx_valid h' W) ?_) | (with_reducible refine Sx.call_at (f := 65) (fun W hW => rx_sign h' W) ?_))
theorem rx_rvalid0 {v : Value} (h : BadR v) (W : World) : Gives Try.prog 117 [v] W (· = .bool false) := by
  refine gives_known en_r03_Valid ?_
  rcases h with ⟨q, h, rfl⟩ | ⟨p, h, rfl⟩ | rfl
  · refine known_of (enter Try.func117 r03_Valid.ok (args := [_]) (by simp) ?_)
    repeat' (first | simp (disch := omega) only [sxE, r03_Valid.E, Nat.reduceAdd, Nat.reduceEqDiff, Nat.reduceMul, Nat.reduceSub, Int.reduceAdd, Int.reduceSub, Int.reduceMul, Int.reduceNeg, Int.reduceLT, Int.reduceLE, Int.reduceEq, Int.reduceToNat, ↓reduceIte, Int.reducePow, Nat.reduceLeDiff, Nat.reduceLT, ne_eq, eq_self, List.length_cons, List.length_nil, qxE] | (with_reducible refine Sx.call_at (f := 88) (fun W hW => rx_valid0 W) ?_))
  · refine known_of (enter Try.func117 r03_Valid.ok (args := [_]) (by simp) ?_)
    repeat' (first | simp (disch := omega) only [sxE, r03_Valid.E, Nat.reduceAdd, Nat.reduceEqDiff, Nat.reduceMul, Nat.reduceSub, Int.reduceAdd, Int.reduceSub, Int.reduceMul, Int.reduceNeg, Int.reduceLT, Int.reduceLE, Int.reduceEq, Int.reduceToNat, ↓reduceIte, Int.reducePow, Nat.reduceLeDiff, Nat.reduceLT, ne_eq, eq_self, List.length_cons, List.length_nil, qxE] | (with_reducible refine Sx.call_at (f := 88) (fun W hW => rx_valid h W) ?_) | (with_reducible refine Sx.call_at (f := 88) (fun W hW => rx_valid0 W) ?_))
  · refine known_of (enter Try.func117 r03_Valid.ok (args := [_]) (by simp) ?_)
    repeat' (first | simp (disch := omega) only [sxE, r03_Valid.E, Nat.reduceAdd, Nat.reduceEqDiff, Nat.reduceMul, Nat.reduceSub, Int.reduceAdd, Int.reduceSub, Int.reduceMul, Int.reduceNeg, Int.reduceLT, Int.reduceLE, Int.reduceEq, Int.reduceToNat, ↓reduceIte, Int.reducePow, Nat.reduceLeDiff, Nat.reduceLT, ne_eq, eq_self, List.length_cons, List.length_nil, qxE] | (with_reducible refine Sx.call_at (f := 88) (fun W hW => rx_valid0 W) ?_))
theorem rx_rof {z : Int} (h : I64 z) (W : World) : Gives Try.prog 82 [.int .i64 z] W (· = RX z 1) := by
  refine gives_known en_r03_Of ?_
  refine known_of (enter Try.func82 r03_Of.ok (args := [_]) (by simp) ?_)
  repeat' (first | simp (disch := omega) only [sxE, r03_Of.E, Nat.reduceAdd, Nat.reduceEqDiff, Nat.reduceMul, Nat.reduceSub, Int.reduceAdd, Int.reduceSub, Int.reduceMul, Int.reduceNeg, Int.reduceLT, Int.reduceLE, Int.reduceEq, Int.reduceToNat, ↓reduceIte, Int.reducePow, Nat.reduceLeDiff, Nat.reduceLT, ne_eq, eq_self, List.length_cons, List.length_nil, qxE] | (with_reducible refine Sx.call_at (f := 20) (fun W hW => rx_of h W) ?_) | (with_reducible refine Sx.call_at (f := 137) (fun W hW => rx_one W) ?_))
theorem x_foldR01 (q : Int) : Value.agg [.bool false, .int .u64 0, .int .u64 0, .int .u64 0, .int .u64 0, .bool (sg q), .int .u64 (lb0 (ab q)), .int .u64 (lb1 (ab q)), .int .u64 (lb2 (ab q)), .int .u64 (lb3 (ab q))].toArray = RX 0 q := rfl
set_option maxRecDepth 100000 in
theorem rx_rclean {v : Value} {p q : Int} (h : CQ v p q) (W : World) : Gives Try.prog 93 [v] W (· = RX p q) := by
  refine gives_known en_r03_clean ?_
  rcases h with ⟨x, y, h1, h2, rfl, rfl, rfl⟩ | ⟨h, rfl, rfl⟩
  · unfold qn qd
    cases hk : rok true x y
    · refine known_of (enter Try.func93 r03_clean.ok (args := [_]) (by simp) ?_)
      repeat' (first | simp (disch := omega) only [sxE, r03_clean.E, Nat.reduceAdd, Nat.reduceEqDiff, Nat.reduceMul, Nat.reduceSub, Int.reduceAdd, Int.reduceSub, Int.reduceMul, Int.reduceNeg, Int.reduceLT, Int.reduceLE, Int.reduceEq, Int.reduceToNat, ↓reduceIte, Int.reducePow, Nat.reduceLeDiff, Nat.reduceLT, ne_eq, eq_self, List.length_cons, List.length_nil, qxE, hk, x_foldR01] | (with_reducible refine Sx.call_at (f := 117) (fun W hW => rx_rvalid h1 h2 W) ?_) | (with_reducible refine Sx.call_at (f := 137) (fun W hW => rx_one W) ?_))
    · refine known_of (enter Try.func93 r03_clean.ok (args := [_]) (by simp) ?_)
      repeat' (first | simp (disch := omega) only [sxE, r03_clean.E, Nat.reduceAdd, Nat.reduceEqDiff, Nat.reduceMul, Nat.reduceSub, Int.reduceAdd, Int.reduceSub, Int.reduceMul, Int.reduceNeg, Int.reduceLT, Int.reduceLE, Int.reduceEq, Int.reduceToNat, ↓reduceIte, Int.reducePow, Nat.reduceLeDiff, Nat.reduceLT, ne_eq, eq_self, List.length_cons, List.length_nil, qxE, hk] | (with_reducible refine Sx.call_at (f := 117) (fun W hW => rx_rvalid h1 h2 W) ?_))
  · have hv := fun W => rx_rvalid0 h W
    rcases h with ⟨q, h, rfl⟩ | ⟨p, h, rfl⟩ | rfl
    · refine known_of (enter Try.func93 r03_clean.ok (args := [_]) (by simp) ?_)
      repeat' (first | simp (disch := omega) only [sxE, r03_clean.E, Nat.reduceAdd, Nat.reduceEqDiff, Nat.reduceMul, Nat.reduceSub, Int.reduceAdd, Int.reduceSub, Int.reduceMul, Int.reduceNeg, Int.reduceLT, Int.reduceLE, Int.reduceEq, Int.reduceToNat, ↓reduceIte, Int.reducePow, Nat.reduceLeDiff, Nat.reduceLT, ne_eq, eq_self, List.length_cons, List.length_nil, qxE, x_foldR01] | (with_reducible refine Sx.call_at (f := 117) (fun W hW => hv W) ?_) | (with_reducible refine Sx.call_at (f := 137) (fun W hW => rx_one W) ?_))
    · refine known_of (enter Try.func93 r03_clean.ok (args := [_]) (by simp) ?_)
      repeat' (first | simp (disch := omega) only [sxE, r03_clean.E, Nat.reduceAdd, Nat.reduceEqDiff, Nat.reduceMul, Nat.reduceSub, Int.reduceAdd, Int.reduceSub, Int.reduceMul, Int.reduceNeg, Int.reduceLT, Int.reduceLE, Int.reduceEq, Int.reduceToNat, ↓reduceIte, Int.reducePow, Nat.reduceLeDiff, Nat.reduceLT, ne_eq, eq_self, List.length_cons, List.length_nil, qxE, x_foldR01] | (with_reducible refine Sx.call_at (f := 117) (fun W hW => hv W) ?_) | (with_reducible refine Sx.call_at (f := 137) (fun W hW => rx_one W) ?_))
    · refine known_of (enter Try.func93 r03_clean.ok (args := [_]) (by simp) ?_)
      repeat' (first | simp (disch := omega) only [sxE, r03_clean.E, Nat.reduceAdd, Nat.reduceEqDiff, Nat.reduceMul, Nat.reduceSub, Int.reduceAdd, Int.reduceSub, Int.reduceMul, Int.reduceNeg, Int.reduceLT, Int.reduceLE, Int.reduceEq, Int.reduceToNat, ↓reduceIte, Int.reducePow, Nat.reduceLeDiff, Nat.reduceLT, ne_eq, eq_self, List.length_cons, List.length_nil, qxE, x_foldR01] | (with_reducible refine Sx.call_at (f := 117) (fun W hW => hv W) ?_) | (with_reducible refine Sx.call_at (f := 137) (fun W hW => rx_one W) ?_))
theorem rx_rcompare {v v' : Value} {p q p' q' : Int} (h : CQ v p q) (h' : CQ v' p' q') (W : World) : Gives Try.prog 100 [v, v'] W (· = .int .i64 (cq p q p' q')) := by
  obtain ⟨c0, c1, c2, c3, c4, c5, c6, c7, c8, c9, rfl⟩ := h.ten
  obtain ⟨d0, d1, d2, d3, d4, d5, d6, d7, d8, d9, rfl⟩ := h'.ten
  have f := h.fq
  have f' := h'.fq
  have m1 := f.fm f'
  have m2 := f'.fm f
  refine gives_known en_r03_Compare ?_
  refine known_of (enter Try.func100 r03_Compare.ok (args := [_, _]) (by simp) ?_)
  repeat' (first | simp (disch := omega) only [sxE, r03_Compare.E, Nat.reduceAdd, Nat.reduceEqDiff, Nat.reduceMul, Nat.reduceSub, Int.reduceAdd, Int.reduceSub, Int.reduceMul, Int.reduceNeg, Int.reduceLT, Int.reduceLE, Int.reduceEq, Int.reduceToNat, ↓reduceIte, Int.reducePow, Nat.reduceLeDiff, Nat.reduceLT, ne_eq, eq_self, List.length_cons, List.length_nil, qxE] | (with_reducible refine Sx.call_at (f := 93) (fun W hW => rx_rclean h W) ?_) | (with_reducible refine Sx.call_at (f := 93) (fun W hW => rx_rclean h' W) ?_) | (with_reducible refine Sx.call_at (f := 57) (fun W hW => rx_mul f.fp f'.fq m1 W) ?_) | (with_reducible refine Sx.call_at (f := 57) (fun W hW => rx_mul f'.fp f.fq m2 W) ?_) | (with_reducible refine Sx.call_at (f := 42) (fun W hW => rx_compare m1 m2 W) ?_))
  rfl
theorem sg_beq (z y : Int) : (sg z == sg y) = decide ((z < 0) ↔ (y < 0)) := by
  unfold sg
  by_cases h : z < 0 <;> by_cases h' : y < 0 <;> simp [h, h']
theorem mn_sg {z y : Int} (hy : y ≠ 0) : ((z < 0 ↔ y < 0) → mn z y = ab z / gc z y) ∧ (¬ (z < 0 ↔ y < 0) → mn z y = -(ab z / gc z y)) := by
  have hd : gc z y ∣ z := gc_dvd_l z y
  unfold mn ab
  by_cases h : z < 0 <;> by_cases h' : y < 0 <;> simp only [h, h', if_true, if_false, iff_true, iff_false, not_true_eq_false, not_false_eq_true, false_implies, true_implies, and_true, true_and, forall_const]
  · rw [Int.neg_ediv_of_dvd hd, Int.neg_neg]
  · exact Int.neg_ediv_of_dvd hd
set_option maxRecDepth 100000 in
theorem rx_rmake {v v' : Value} {b b' : Bool} {z y : Int} (h : RW v b z) (h' : RW v' b' y) (W : World) : Gives Try.prog 81 [v, v'] W (· = mkV (b && b') z y) := by
  refine gives_known en_r03_Make ?_
  have v1 := fun W => ry_valid h W
  have v2 := fun W => ry_valid h' W
  have s2 := fun W => rg_sign h'.is W
  by_cases hbad : b = false ∨ b' = false ∨ y = 0
  · have e : mkV (b && b') z y = .tuple #[RX 0 0, .bool false] := by
      unfold mkV mok
      rcases hbad with rfl | rfl | rfl
      · rfl
      · rw [Bool.and_false]; rfl
      · rw [if_neg (by simp)]
    rw [e]
    obtain ⟨c0, c1, c2, c3, c4, rfl⟩ := h.five
    obtain ⟨d0, d1, d2, d3, d4, rfl⟩ := h'.five
    have hcm := cm_zero_iff y
    clear e h h'
    cases b
    · refine known_of (enter Try.func81 r03_Make.ok (args := [_, _]) (by simp) ?_)
      repeat' (first | simp (disch := omega) only [sxE, r03_Make.E, Nat.reduceAdd, Nat.reduceEqDiff, Nat.reduceMul, Nat.reduceSub, Int.reduceAdd, Int.reduceSub, Int.reduceMul, Int.reduceNeg, Int.reduceLT, Int.reduceLE, Int.reduceEq, Int.reduceToNat, ↓reduceIte, Int.reducePow, Nat.reduceLeDiff, Nat.reduceLT, ne_eq, eq_self, List.length_cons, List.length_nil, qxE] | (with_reducible refine Sx.call_at (f := 88) (fun W hW => v1 W) ?_))
    · cases b'
      · refine known_of (enter Try.func81 r03_Make.ok (args := [_, _]) (by simp) ?_)
        repeat' (first | simp (disch := omega) only [sxE, r03_Make.E, Nat.reduceAdd, Nat.reduceEqDiff, Nat.reduceMul, Nat.reduceSub, Int.reduceAdd, Int.reduceSub, Int.reduceMul, Int.reduceNeg, Int.reduceLT, Int.reduceLE, Int.reduceEq, Int.reduceToNat, ↓reduceIte, Int.reducePow, Nat.reduceLeDiff, Nat.reduceLT, ne_eq, eq_self, List.length_cons, List.length_nil, qxE] | (with_reducible refine Sx.call_at (f := 88) (fun W hW => v1 W) ?_) | (with_reducible refine Sx.call_at (f := 88) (fun W hW => v2 W) ?_))
      · have hc0 : cm y 0 = 0 := hcm.2 (by rcases hbad with h | h | h; cases h; cases h; exact h)
        clear hcm hbad
        refine known_of (enter Try.func81 r03_Make.ok (args := [_, _]) (by simp) ?_)
        repeat' (first | simp (disch := omega) only [sxE, r03_Make.E, Nat.reduceAdd, Nat.reduceEqDiff, Nat.reduceMul, Nat.reduceSub, Int.reduceAdd, Int.reduceSub, Int.reduceMul, Int.reduceNeg, Int.reduceLT, Int.reduceLE, Int.reduceEq, Int.reduceToNat, ↓reduceIte, Int.reducePow, Nat.reduceLeDiff, Nat.reduceLT, ne_eq, eq_self, List.length_cons, List.length_nil, qxE, hc0] | (with_reducible refine Sx.call_at (f := 88) (fun W hW => v1 W) ?_) | (with_reducible refine Sx.call_at (f := 88) (fun W hW => v2 W) ?_) | (with_reducible refine Sx.call_at (f := 65) (fun W hW => s2 W) ?_))
  · obtain ⟨rfl, rfl⟩ : b = true ∧ b' = true := by
      cases b
      · exact absurd (.inl rfl) hbad
      · cases b'
        · exact absurd (.inr (.inl rfl)) hbad
        · exact ⟨rfl, rfl⟩
    have hy : y ≠ 0 := fun e => hbad (.inr (.inr e))
    rcases h with ⟨-, rfl, h⟩ | ⟨h, -, -⟩
    rotate_left
    · cases h
    rcases h' with ⟨-, rfl, h'⟩ | ⟨h', -, -⟩
    rotate_left
    · cases h'
    have hc0 : cm y 0 ≠ 0 := fun e => hy ((cm_zero_iff y).1 e)
    have f1 := fits_mn h hy
    have f2 := fits_mD (z := z) h' hy
    have a1 := fits_ab h
    have a2 := fits_ab h'
    have hg := fits_gc h h'
    have hgp := gc_pos (x := z) hy
    have hgn : gc z y ≠ 0 := by omega
    have e : mkV (true && true) z y = if rok true (mn z y) (mD z y) = true then .tuple #[RX (mn z y) (mD z y), .bool true] else .tuple #[RX 0 0, .bool false] := by
      unfold mkV mok rok
      rw [decide_eq_false hy, decide_eq_true (mk_pos hy), decide_eq_true (mk_gc hy)]
      simp only [Bool.and_true, Bool.true_and, Bool.not_false]
    rw [e]
    have k1 := fun W => rx_rvalid f1 f2 W
    generalize rok true (mn z y) (mD z y) = t at *
    clear e hbad
    have sb := sg_beq z y
    have gg := fun W => rx_gcd a1 a2 (ab_nonneg z) (ab_nonneg y) W
    rw [gc_abs] at gg
    have d1 := fun W => rx_divmod a1 hg hgn W
    have d2 := fun W => rx_divmod a2 hg hgn W
    have e2 : ab y / gc z y = mD z y := rfl
    rw [e2] at d2
    have f3 := fits_ediv a1 hgn
    obtain ⟨m1, m2⟩ := mn_sg (z := z) hy
    by_cases hs : (z < 0 ↔ y < 0)
    · have e1 := m1 hs
      rw [e1] at k1 f1 ⊢
      rw [decide_eq_true hs] at sb
      clear m1 m2 e1 e2 hs
      generalize ab z / gc z y = N at *
      generalize mD z y = D at *
      generalize gc z y = G at *
      cases t
      all_goals
        refine known_of (enter Try.func81 r03_Make.ok (args := [_, _]) (by simp) ?_)
        repeat' (first | simp (disch := omega) only [sxE, r03_Make.E, Nat.reduceAdd, Nat.reduceEqDiff, Nat.reduceMul, Nat.reduceSub, Int.reduceAdd, Int.reduceSub, Int.reduceMul, Int.reduceNeg, Int.reduceLT, Int.reduceLE, Int.reduceEq, Int.reduceToNat, ↓reduceIte, Int.reducePow, Nat.reduceLeDiff, Nat.reduceLT, ne_eq, eq_self, List.length_cons, List.length_nil, qxE, sb] | (with_reducible refine Sx.call_at (f := 88) (fun W hW => v1 W) ?_) | (with_reducible refine Sx.call_at (f := 88) (fun W hW => v2 W) ?_) | (with_reducible refine Sx.call_at (f := 65) (fun W hW => s2 W) ?_) | (with_reducible refine Sx.call_at (f := 136) (fun W hW => rx_abs W) ?_) | (with_reducible refine Sx.call_at (f := 135) (fun W hW => gg W) ?_) | (with_reducible refine Sx.call_at (f := 23) (fun W hW => d1 W) ?_) | (with_reducible refine Sx.call_at (f := 23) (fun W hW => d2 W) ?_) | (with_reducible refine Sx.call_at (f := 117) (fun W hW => k1 W) ?_))
        try rfl
    · have e1 := m2 hs
      rw [e1] at k1 f1 ⊢
      rw [decide_eq_false hs] at sb
      clear m1 m2 e1 e2 hs
      generalize ab z / gc z y = N at *
      generalize mD z y = D at *
      generalize gc z y = G at *
      cases t
      all_goals
        refine known_of (enter Try.func81 r03_Make.ok (args := [_, _]) (by simp) ?_)
        repeat' (first | simp (disch := omega) only [sxE, r03_Make.E, Nat.reduceAdd, Nat.reduceEqDiff, Nat.reduceMul, Nat.reduceSub, Int.reduceAdd, Int.reduceSub, Int.reduceMul, Int.reduceNeg, Int.reduceLT, Int.reduceLE, Int.reduceEq, Int.reduceToNat, ↓reduceIte, Int.reducePow, Nat.reduceLeDiff, Nat.reduceLT, ne_eq, eq_self, List.length_cons, List.length_nil, qxE, sb] | (with_reducible refine Sx.call_at (f := 88) (fun W hW => v1 W) ?_) | (with_reducible refine Sx.call_at (f := 88) (fun W hW => v2 W) ?_) | (with_reducible refine Sx.call_at (f := 65) (fun W hW => s2 W) ?_) | (with_reducible refine Sx.call_at (f := 136) (fun W hW => rx_abs W) ?_) | (with_reducible refine Sx.call_at (f := 135) (fun W hW => gg W) ?_) | (with_reducible refine Sx.call_at (f := 23) (fun W hW => d1 W) ?_) | (with_reducible refine Sx.call_at (f := 23) (fun W hW => d2 W) ?_) | (with_reducible refine Sx.call_at (f := 53) (fun W hW => rx_neg f3 W) ?_) | (with_reducible refine Sx.call_at (f := 117) (fun W hW => k1 W) ?_))
        try rfl
end Go.Proofs.Ytncmmbacoknefaa

/- Spl: Plain facts of the simplest fraction of an interval. -/
namespace Go.Proofs.Ytncmmbacoknefaa
set_option linter.unusedVariables false
set_option linter.unusedSimpArgs false
/-- The simplest fraction from a / b to c / d, both greater than 0. -/
def sp : Nat → Int → Int → Int → Int → Int × Int
  | 0, _, _, _, _ => (0, 0)
  | n + 1, a, b, c, d =>
    if a % b = 0 then (a / b, 1)
    else if a / b < c / d then (a / b + 1, 1)
    else (a / b * (sp n d (c % d) b (a % b)).1 + (sp n d (c % d) b (a % b)).2, (sp n d (c % d) b (a % b)).1)
structure SpP (a b c d x y : Int) : Prop where
  px : 0 < x
  py : 0 < y
  gc : gc x y = 1
  lo : a * y ≤ x * b
  hi : x * d ≤ c * y
  least : ∀ u v, 0 < v → a * v ≤ u * b → u * d ≤ c * v → x ≤ u ∧ y ≤ v
theorem gc_one (x : Int) : gc x 1 = 1 := by unfold gc; rw [Int.gcd_one_right]; rfl
theorem gc_lin (q n m : Int) : gc (q * n + m) n = gc n m := by
  rw [gc_sym]
  unfold gc
  rw [Int.gcd_mul_right_add_right]
/-- What the interval of the inverses of the rests is. -/
theorem sp_facts {a b c d : Int} (hb : 0 < b) (hd : 0 < d) (ha : 0 < a) (h : a * d ≤ c * b) (h1 : a % b ≠ 0) (h2 : ¬ a / b < c / d) :
    0 < a % b ∧ a % b < b ∧ 0 < c % d ∧ c % d < d ∧ a = a / b * b + a % b ∧ c = a / b * d + c % d ∧ 0 ≤ a / b ∧ d * (a % b) ≤ b * (c % d) := by
  have e1 := Int.mul_ediv_add_emod a b
  have e2 := Int.mul_ediv_add_emod c d
  have r1 := Int.emod_nonneg a (Int.ne_of_gt hb)
  have r2 := Int.emod_lt_of_pos a hb
  have r3 := Int.emod_nonneg c (Int.ne_of_gt hd)
  have r4 := Int.emod_lt_of_pos c hd
  have hq0 := Int.ediv_nonneg (Int.le_of_lt ha) (Int.le_of_lt hb)
  have hle : a / b ≤ c / d := by
    refine le_fl hd ?_
    refine mul_le_cancel hb ?_
    have := fl_le (x := a) hb
    have e3 : b * (a / b * d) = a / b * b * d := by rw [Int.mul_left_comm, Int.mul_assoc]
    have e4 := Int.mul_le_mul_of_nonneg_right this.1 (Int.le_of_lt hd)
    rw [e3, Int.mul_comm b c]
    omega
  have heq : c / d = a / b := by omega
  rw [Int.mul_comm] at e1 e2
  rw [heq] at e2
  generalize a / b = q at *
  generalize a % b = r at *
  generalize c % d = s at *
  have key : d * r ≤ b * s := by
    have h3 : (q * b + r) * d ≤ (q * d + s) * b := by rw [e1, e2]; exact h
    rw [Int.add_mul, Int.add_mul, Int.mul_right_comm q d b, Int.mul_comm r d, Int.mul_comm s b] at h3
    omega
  refine ⟨by omega, r2, ?_, r4, e1.symm, e2.symm, hq0, key⟩
  rcases Int.lt_or_eq_of_le r3 with h | h
  · exact h
  · rw [← h, Int.mul_zero] at key
    have : 0 < d * r := Int.mul_pos hd (by omega)
    omega
theorem sp_spec : ∀ (n : Nat) (a b c d : Int), 0 < b → 0 < d → 0 < a → a * d ≤ c * b → b + d ≤ n → SpP a b c d (sp n a b c d).1 (sp n a b c d).2
  | 0, a, b, c, d, hb, hd, _, _, hn => by omega
  | n + 1, a, b, c, d, hb, hd, ha, h, hn => by
    unfold sp
    have fa := fl_le (x := a) hb
    have fc := fl_le (x := c) hd
    have hq0 := Int.ediv_nonneg (Int.le_of_lt ha) (Int.le_of_lt hb)
    by_cases h1 : a % b = 0
    · rw [if_pos h1]
      have e1 := Int.mul_ediv_add_emod a b
      rw [h1, Int.add_zero, Int.mul_comm] at e1
      generalize a / b = q at *
      have hq : 0 < q := by
        rcases Int.lt_or_eq_of_le hq0 with h | h
        · exact h
        · rw [← h, Int.zero_mul] at e1; omega
      refine ⟨hq, Int.one_pos, gc_one q, ?_, ?_, fun u v hv h3 h4 => ?_⟩
      · show a * 1 ≤ q * b
        omega
      · show q * d ≤ c * 1
        refine mul_le_cancel hb ?_
        rw [← e1] at h
        rw [Int.mul_left_comm, Int.mul_one, ← Int.mul_assoc, Int.mul_comm b c]
        exact h
      · refine ⟨?_, by show (1 : Int) ≤ v; omega⟩
        show q ≤ u
        have h5 : q * v ≤ u := by
          refine mul_le_cancel hb ?_
          rw [← e1] at h3
          rw [Int.mul_left_comm, ← Int.mul_assoc, Int.mul_comm b u]
          exact h3
        have h6 := Int.mul_le_mul_of_nonneg_left (show 1 ≤ v by omega) (Int.le_of_lt hq)
        omega
    · rw [if_neg h1]
      have e1 := Int.mul_ediv_add_emod a b
      have r1 := Int.emod_nonneg a (Int.ne_of_gt hb)
      rw [Int.mul_comm] at e1
      by_cases h2 : a / b < c / d
      · rw [if_pos h2]
        refine ⟨?_, Int.one_pos, gc_one _, ?_, ?_, fun u v hv h3 h4 => ⟨?_, by show (1 : Int) ≤ v; omega⟩⟩
        · show 0 < a / b + 1
          omega
        · show a * 1 ≤ (a / b + 1) * b
          rw [Int.add_mul]; omega
        · show (a / b + 1) * d ≤ c * 1
          have := Int.mul_le_mul_of_nonneg_right (show a / b + 1 ≤ c / d by omega) (Int.le_of_lt hd)
          omega
        · show a / b + 1 ≤ u
          have h5 : a / b * v < u := by
            rcases Int.lt_or_le (a / b * v) u with h6 | h6
            · exact h6
            · exfalso
              have h7 := Int.mul_le_mul_of_nonneg_right h6 (Int.le_of_lt hb)
              have h8 : a * v = a / b * v * b + a % b * v := by
                have e2 : (a / b * b + a % b) * v = a * v := by rw [e1]
                rw [← e2, Int.add_mul, Int.mul_right_comm]
              have h9 : 0 < a % b * v := Int.mul_pos (by omega) hv
              omega
          have h6 := Int.mul_le_mul_of_nonneg_left (show 1 ≤ v by omega) hq0
          omega
      · rw [if_neg h2]
        obtain ⟨f1, f2, f3, f4, f5, f6, f7, f8⟩ := sp_facts hb hd ha h h1 h2
        have ih := sp_spec n d (c % d) b (a % b) f3 f1 hd f8 (by omega)
        generalize hQ : a / b = q at *
        generalize a % b = r at *
        generalize c % d = s at *
        generalize (sp n d s b r).1 = x at *
        generalize (sp n d s b r).2 = y at *
        obtain ⟨i1, i2, i3, i4, i5, i6⟩ := ih
        have hqx := Int.mul_nonneg f7 (Int.le_of_lt i1)
        refine ⟨?_, i1, ?_, ?_, ?_, fun u v hv h3 h4 => ?_⟩
        · show 0 < q * x + y
          omega
        · show gc (q * x + y) x = 1
          rw [gc_lin]; exact i3
        · show a * x ≤ (q * x + y) * b
          rw [f5, Int.add_mul, Int.add_mul, Int.mul_right_comm q b x, Int.mul_comm r x, Int.mul_comm y b]
          omega
        · show (q * x + y) * d ≤ c * x
          rw [f6, Int.add_mul, Int.add_mul, Int.mul_right_comm q d x, Int.mul_comm y d, Int.mul_comm s x]
          omega
        · have e3 : a * v = q * v * b + r * v := by rw [f5, Int.add_mul, Int.mul_right_comm]
          have e4 : c * v = q * v * d + s * v := by rw [f6, Int.add_mul, Int.mul_right_comm]
          have e5 : (u - q * v) * b = u * b - q * v * b := Int.sub_mul _ _ _
          have e6 : (u - q * v) * d = u * d - q * v * d := Int.sub_mul _ _ _
          have hr : 0 < r * v := Int.mul_pos f1 hv
          have hu : 0 < u - q * v := by
            rcases Int.lt_or_le 0 (u - q * v) with h6 | h6
            · exact h6
            · exfalso
              have := Int.mul_le_mul_of_nonneg_right h6 (Int.le_of_lt hb)
              omega
          have k := i6 v (u - q * v) hu (by rw [Int.mul_comm d, Int.mul_comm v s]; omega) (by rw [Int.mul_comm v r, Int.mul_comm b]; omega)
          refine ⟨?_, k.1⟩
          show q * x + y ≤ u
          have := Int.mul_le_mul_of_nonneg_left k.1 f7
          omega
/-- The simplest fraction from p / q to p' / q'. -/
def spx (p q p' q' : Int) : Int × Int := sp (q + q').toNat p q p' q'
def btx (p q p' q' : Int) : Int × Int := if p' < 0 then (-(spx (-p') q' (-p) q).1, (spx (-p') q' (-p) q).2) else if p ≤ 0 then (0, 1) else spx p q p' q'
theorem spx_spec {p q p' q' : Int} (hq : 0 < q) (hq' : 0 < q') (hp : 0 < p) (h : p * q' ≤ p' * q) : SpP p q p' q' (spx p q p' q').1 (spx p q p' q').2 := sp_spec _ _ _ _ _ hq hq' hp h (by omega)
structure BtP (p q p' q' x y : Int) : Prop where
  fq : Fq x y
  lo : p * y ≤ x * q
  hi : x * q' ≤ p' * y
  least : ∀ u v, 0 < v → p * v ≤ u * q → u * q' ≤ p' * v → ab x ≤ ab u ∧ y ≤ v
theorem btx_spec {p q p' q' : Int} (f : Fq p q) (f' : Fq p' q') (h : p * q' ≤ p' * q) : BtP p q p' q' (btx p q p' q').1 (btx p q p' q').2 := by
  unfold btx
  have hq := f.pos
  have hq' := f'.pos
  by_cases h1 : p' < 0
  · rw [if_pos h1]
    have h2 : -p' * q ≤ -p * q' := by rw [Int.neg_mul, Int.neg_mul]; omega
    have s := spx_spec hq' hq (show 0 < -p' by omega) h2
    generalize (spx (-p') q' (-p) q).1 = x at *
    generalize (spx (-p') q' (-p) q).2 = y at *
    obtain ⟨i1, i2, i3, i4, i5, i6⟩ := s
    have k := i6 (-p') q' hq' (Int.le_refl _) h2
    dsimp only
    rw [Int.neg_mul] at i4 i5
    refine ⟨⟨i2, bd_of_le f'.bp ?_, bd_of_le f'.bq ?_, ?_⟩, ?_, ?_, fun u v hv h3 h4 => ?_⟩
    · unfold ab; (repeat' split) <;> omega
    · rw [ab_pos (Int.le_of_lt i2), ab_pos (Int.le_of_lt hq')]; exact k.2
    · rw [gc_neg]; exact i3
    · rw [Int.neg_mul]; omega
    · rw [Int.neg_mul]; omega
    · have := i6 (-u) v hv (by simp only [Int.neg_mul]; omega) (by simp only [Int.neg_mul]; omega)
      refine ⟨?_, this.2⟩
      have hu := this.1
      unfold ab; (repeat' split) <;> omega
  · rw [if_neg h1]
    by_cases h2 : p ≤ 0
    · rw [if_pos h2]
      dsimp only
      refine ⟨fq_zero, by rw [Int.mul_one, Int.zero_mul]; exact h2, by rw [Int.mul_one, Int.zero_mul]; omega, fun u v hv _ _ => ⟨?_, by omega⟩⟩
      rw [show ab 0 = 0 from rfl]; exact ab_nonneg u
    · rw [if_neg h2]
      have s := spx_spec hq hq' (by omega) h
      generalize (spx p q p' q').1 = x at *
      generalize (spx p q p' q').2 = y at *
      obtain ⟨i1, i2, i3, i4, i5, i6⟩ := s
      have k := i6 p q hq (Int.le_refl _) h
      refine ⟨⟨i2, bd_of_le f.bp ?_, bd_of_le f.bq ?_, i3⟩, i4, i5, fun u v hv h3 h4 => ?_⟩
      · rw [ab_pos (Int.le_of_lt i1), ab_pos (show 0 ≤ p by omega)]; exact k.1
      · rw [ab_pos (Int.le_of_lt i2), ab_pos (Int.le_of_lt hq)]; exact k.2
      · have := i6 u v hv h3 h4
        exact ⟨by unfold ab; (repeat' split) <;> omega, this.2⟩
end Go.Proofs.Ytncmmbacoknefaa

/- Sq: What calls of simplest and of its reference give. -/
namespace Go.Proofs.Ytncmmbacoknefaa
open Go Go.RowKit Sx
set_option linter.unusedVariables false
set_option linter.unusedSimpArgs false
theorem gx_negative {p q : Int} (h : Fits p) (W : World) : Gives Try.prog 156 [RX p q] W (· = RX (-p) q) := by
  refine gives_known en_simplest_negative ?_
  refine known_of (enter Try.func156 simplest_negative.ok (args := [_]) (by simp) ?_)
  repeat' (first | simp (disch := omega) only [sxE, simplest_negative.E, Nat.reduceAdd, Nat.reduceEqDiff, Nat.reduceMul, Nat.reduceSub, Int.reduceAdd, Int.reduceSub, Int.reduceMul, Int.reduceNeg, Int.reduceLT, Int.reduceLE, Int.reduceEq, Int.reduceToNat, ↓reduceIte, Int.reducePow, Nat.reduceLeDiff, Nat.reduceLT, ne_eq, eq_self, List.length_cons, List.length_nil, qxE] | (with_reducible refine Sx.call_at (f := 153) (fun W hW => gx_neg h W) ?_))
theorem bd_nn {k : Nat} {x y : Int} (h : Bd k x) (h0 : 0 ≤ y) (hle : y ≤ x) : Bd k y := bd_of_le h (by rw [ab_pos h0, ab_pos (by omega)]; exact hle)
set_option maxRecDepth 100000 in
theorem gx_positive : ∀ (n : Nat) {a b c d : Int}, Bd 127 a → Bd 127 b → Bd 127 c → Bd 127 d → 0 < b → 0 < d → 0 < a → a * d ≤ c * b → b + d ≤ n → ∀ W, Gives Try.prog 157 [RX a b, RX c d] W (· = RX (sp n a b c d).1 (sp n a b c d).2)
  | 0, a, b, c, d, _, _, _, _, hb, hd, _, _, hn => fun W => by omega
  | n + 1, a, b, c, d, ba, bb, bc, bd, hb, hd, ha, h, hn => fun W => by
    have hbn : b ≠ 0 := by omega
    have hdn : d ≠ 0 := by omega
    have m1 := fun W => gx_divmod ba.fits bb.fits hbn W
    have m2 := fun W => gx_divmod bc.fits bd.fits hdn W
    have fr := fits_emod (z := a) bb.fits hbn
    have fq := fits_ediv ba.fits hbn
    have fq2 := fits_ediv bc.fits hdn
    have hc := cm_zero_iff (a % b)
    refine gives_known en_simplest_positive ?_
    unfold sp
    by_cases h1 : a % b = 0
    · rw [if_pos h1]
      have hc0 := hc.2 h1
      clear hc
      refine known_of (enter Try.func157 simplest_positive.ok (args := [_, _]) (by simp) ?_)
      repeat' (first | simp (disch := omega) only [sxE, simplest_positive.E, Nat.reduceAdd, Nat.reduceEqDiff, Nat.reduceMul, Nat.reduceSub, Int.reduceAdd, Int.reduceSub, Int.reduceMul, Int.reduceNeg, Int.reduceLT, Int.reduceLE, Int.reduceEq, Int.reduceToNat, ↓reduceIte, Int.reducePow, Nat.reduceLeDiff, Nat.reduceLT, ne_eq, eq_self, List.length_cons, List.length_nil, qxE, hc0] | (with_reducible refine Sx.call_at (f := 145) (fun W hW => m1 W) ?_) | (with_reducible refine Sx.call_at (f := 87) (fun W hW => gx_sign fr W) ?_) | (with_reducible refine Sx.call_at (f := 109) (fun W hW => gx_of i64_one W) ?_))
    · rw [if_neg h1]
      have hc0 : cm (a % b) 0 ≠ 0 := fun e => h1 (hc.1 e)
      have hgt := km_gt (c / d) (a / b)
      have hq0 := Int.ediv_nonneg (Int.le_of_lt ha) (Int.le_of_lt hb)
      clear hc
      by_cases h2 : a / b < c / d
      · rw [if_pos h2]
        have hg := hgt.2 h2
        have bq : Bd 127 (a / b) := bd_nn ba hq0 (Int.ediv_le_self _ (Int.le_of_lt ha))
        have fs : Fits (a / b + 1) := (bd_add (c := 128) bq (bd_le bd_one (show 1 ≤ 127 by decide)) (by decide) (by decide)).fits
        clear hgt
        refine known_of (enter Try.func157 simplest_positive.ok (args := [_, _]) (by simp) ?_)
        repeat' (first | simp (disch := omega) only [sxE, simplest_positive.E, Nat.reduceAdd, Nat.reduceEqDiff, Nat.reduceMul, Nat.reduceSub, Int.reduceAdd, Int.reduceSub, Int.reduceMul, Int.reduceNeg, Int.reduceLT, Int.reduceLE, Int.reduceEq, Int.reduceToNat, ↓reduceIte, Int.reducePow, Nat.reduceLeDiff, Nat.reduceLT, ne_eq, eq_self, List.length_cons, List.length_nil, qxE] | (with_reducible refine Sx.call_at (f := 145) (fun W hW => m1 W) ?_) | (with_reducible refine Sx.call_at (f := 145) (fun W hW => m2 W) ?_) | (with_reducible refine Sx.call_at (f := 87) (fun W hW => gx_sign fr W) ?_) | (with_reducible refine Sx.call_at (f := 109) (fun W hW => gx_of i64_one W) ?_) | (with_reducible refine Sx.call_at (f := 159) (fun W hW => gx_compare fq2 fq W) ?_) | (with_reducible refine Sx.call_at (f := 84) (fun W hW => gx_add fq fits_one fs W) ?_))
      · rw [if_neg h2]
        have hg : ¬ 0 < cm (c / d) (a / b) := fun e => h2 (hgt.1 e)
        obtain ⟨f1, f2, f3, f4, f5, f6, f7, f8⟩ := sp_facts hb hd ha h h1 h2
        have b1 := bd_nn bb (Int.le_of_lt f1) (Int.le_of_lt f2)
        have b2 := bd_nn bd (Int.le_of_lt f3) (Int.le_of_lt f4)
        have ih := gx_positive n bd b2 bb b1 f3 f1 hd f8 (by omega)
        have hsp := sp_spec n d (c % d) b (a % b) f3 f1 hd f8 (by omega)
        generalize (sp n d (c % d) b (a % b)).1 = x at *
        generalize (sp n d (c % d) b (a % b)).2 = y at *
        have k := hsp.least d (c % d) f3 (Int.le_refl _) f8
        have k2 := hsp.least b (a % b) f1 f8 (Int.le_refl _)
        have px := hsp.px
        have py := hsp.py
        have fx := (bd_nn bd (Int.le_of_lt px) k.1).fits
        have fy := (bd_nn b2 (Int.le_of_lt py) k.2).fits
        have hmx := Int.mul_nonneg f7 (Int.le_of_lt px)
        have hmb := Int.mul_le_mul_of_nonneg_left k2.1 f7
        have fm : Fits (a / b * x) := (bd_nn ba hmx (by omega)).fits
        have fs : Fits (a / b * x + y) := (bd_nn ba (by omega) (by omega)).fits
        clear hgt hsp k k2 hmx hmb b1 b2 f1 f2 f3 f4 f5 f6 f7 f8 hq0
        refine known_of (enter Try.func157 simplest_positive.ok (args := [_, _]) (by simp) ?_)
        repeat' (first | simp (disch := omega) only [sxE, simplest_positive.E, Nat.reduceAdd, Nat.reduceEqDiff, Nat.reduceMul, Nat.reduceSub, Int.reduceAdd, Int.reduceSub, Int.reduceMul, Int.reduceNeg, Int.reduceLT, Int.reduceLE, Int.reduceEq, Int.reduceToNat, ↓reduceIte, Int.reducePow, Nat.reduceLeDiff, Nat.reduceLT, ne_eq, eq_self, List.length_cons, List.length_nil, qxE] | (with_reducible refine Sx.call_at (f := 145) (fun W hW => m1 W) ?_) | (with_reducible refine Sx.call_at (f := 145) (fun W hW => m2 W) ?_) | (with_reducible refine Sx.call_at (f := 87) (fun W hW => gx_sign fr W) ?_) | (with_reducible refine Sx.call_at (f := 109) (fun W hW => gx_of i64_one W) ?_) | (with_reducible refine Sx.call_at (f := 159) (fun W hW => gx_compare fq2 fq W) ?_) | (with_reducible refine Sx.call_at (f := 157) (fun W hW => ih W) ?_) | (with_reducible refine Sx.call_at (f := 119) (fun W hW => gx_mul fq fx fm W) ?_) | (with_reducible refine Sx.call_at (f := 84) (fun W hW => gx_add fm fy fs W) ?_))
theorem gx_spx {p q p' q' : Int} (f : Fq p q) (f' : Fq p' q') (hp : 0 < p) (h : p * q' ≤ p' * q) (W : World) : Gives Try.prog 157 [RX p q, RX p' q'] W (· = RX (spx p q p' q').1 (spx p q p' q').2) :=
  gx_positive _ f.bp f.bq f'.bp f'.bq f.pos f'.pos hp h (by have := f.pos; have := f'.pos; omega) W
theorem CQ.vq {v : Value} {p q : Int} (h : CQ v p q) : ∃ t, (∀ W, Gives Try.prog 115 [v] W (· = .bool t)) ∧ (∀ W, Gives Try.prog 117 [v] W (· = .bool t)) ∧ (t = true → v = RX p q) := by
  rcases h with ⟨x, y, h1, h2, rfl, rfl, rfl⟩ | ⟨h, -, -⟩
  · refine ⟨_, fun W => gx_rvalid h1 h2 W, fun W => rx_rvalid h1 h2 W, fun h => ?_⟩
    unfold qn qd
    rw [h]; rfl
  · exact ⟨_, fun W => gx_rvalid0 h W, fun W => rx_rvalid0 h W, fun h => by cases h⟩
theorem Fq.v1 {p q : Int} (f : Fq p q) (W : World) : Gives Try.prog 115 [RX p q] W (· = .bool true) := by
  have := gx_rvalid f.fp f.fq W
  rwa [show rok true p q = true from rok_iff.2 ⟨rfl, f⟩] at this
theorem Fq.v2 {p q : Int} (f : Fq p q) (W : World) : Gives Try.prog 117 [RX p q] W (· = .bool true) := by
  have := rx_rvalid f.fp f.fq W
  rwa [show rok true p q = true from rok_iff.2 ⟨rfl, f⟩] at this
/-- What Between returns. -/
def btV (t : Bool) (p q p' q' : Int) : Value := if t && decide (p * q' ≤ p' * q) then .tuple #[RX (btx p q p' q').1 (btx p q p' q').2, .bool true] else .tuple #[RX 0 0, .bool false]
theorem fits_spx {p q p' q' : Int} (f : Fq p q) (f' : Fq p' q') (hp : 0 < p) (h : p * q' ≤ p' * q) : Fits (spx p q p' q').1 ∧ Fits (spx p q p' q').2 := by
  have s := spx_spec f.pos f'.pos hp h
  have k := s.least p q f.pos (Int.le_refl _) h
  exact ⟨(bd_nn f.bp (Int.le_of_lt s.px) k.1).fits, (bd_nn f.bq (Int.le_of_lt s.py) k.2).fits⟩
set_option maxRecDepth 100000 in
theorem gx_between {v v' : Value} {p q p' q' : Int} {t t' : Bool} (h : CQ v p q) (h' : CQ v' p' q') (v1 : ∀ W, Gives Try.prog 115 [v] W (· = .bool t)) (v2 : ∀ W, Gives Try.prog 115 [v'] W (· = .bool t')) (e1 : t = true → v = RX p q) (e2 : t' = true → v' = RX p' q') (W : World) :
    Gives Try.prog 113 [v, v'] W (· = btV (t && t') p q p' q') := by
  obtain ⟨c0, c1, c2, c3, c4, c5, c6, c7, c8, c9, rfl⟩ := h.ten
  obtain ⟨d0, d1, d2, d3, d4, d5, d6, d7, d8, d9, rfl⟩ := h'.ten
  have f := h.fq
  have f' := h'.fq
  have cmp := fun W => gx_rcompare h h' W
  refine gives_known en_simplest_Between ?_
  cases t
  · have e : btV (false && t') p q p' q' = .tuple #[RX 0 0, .bool false] := rfl
    rw [e]
    refine known_of (enter Try.func113 simplest_Between.ok (args := [_, _]) (by simp) ?_)
    repeat' (first | simp (disch := omega) only [sxE, simplest_Between.E, Nat.reduceAdd, Nat.reduceEqDiff, Nat.reduceMul, Nat.reduceSub, Int.reduceAdd, Int.reduceSub, Int.reduceMul, Int.reduceNeg, Int.reduceLT, Int.reduceLE, Int.reduceEq, Int.reduceToNat, ↓reduceIte, Int.reducePow, Nat.reduceLeDiff, Nat.reduceLT, ne_eq, eq_self, List.length_cons, List.length_nil, qxE] | (with_reducible refine Sx.call_at (f := 115) (fun W hW => v1 W) ?_))
  · cases t'
    · have e : btV (true && false) p q p' q' = .tuple #[RX 0 0, .bool false] := rfl
      rw [e]
      refine known_of (enter Try.func113 simplest_Between.ok (args := [_, _]) (by simp) ?_)
      repeat' (first | simp (disch := omega) only [sxE, simplest_Between.E, Nat.reduceAdd, Nat.reduceEqDiff, Nat.reduceMul, Nat.reduceSub, Int.reduceAdd, Int.reduceSub, Int.reduceMul, Int.reduceNeg, Int.reduceLT, Int.reduceLE, Int.reduceEq, Int.reduceToNat, ↓reduceIte, Int.reducePow, Nat.reduceLeDiff, Nat.reduceLT, ne_eq, eq_self, List.length_cons, List.length_nil, qxE] | (with_reducible refine Sx.call_at (f := 115) (fun W hW => v1 W) ?_) | (with_reducible refine Sx.call_at (f := 115) (fun W hW => v2 W) ?_))
    · have e1 := e1 rfl
      have e2 := e2 rfl
      unfold btV
      have hgt := km_gt (p * q') (p' * q)
      by_cases hle : p * q' ≤ p' * q
      · rw [decide_eq_true hle]
        have hg : ¬ 0 < cq p q p' q' := fun hh => by have := hgt.1 hh; omega
        rw [e1] at v1 cmp
        rw [e2] at v2 cmp
        rw [e1, e2]
        have s1 := cm_zero p'
        have s2 := cm_zero p
        unfold btx
        by_cases hneg : p' < 0
        · rw [if_pos hneg]
          have hs : cm p' 0 < 0 := by rw [s1, if_pos hneg]; decide
          have fn := f.neg
          have fn' := f'.neg
          have hle2 : -p' * q ≤ -p * q' := by rw [Int.neg_mul, Int.neg_mul]; omega
          have sp := fun W => gx_spx fn' fn (by omega) hle2 W
          have ft := fits_spx fn' fn (by omega) hle2
          generalize (spx (-p') q' (-p) q).1 = x at *
          generalize (spx (-p') q' (-p) q).2 = y at *
          refine known_of (enter Try.func113 simplest_Between.ok (args := [_, _]) (by simp) ?_)
          repeat' (first | simp (disch := omega) only [sxE, simplest_Between.E, Nat.reduceAdd, Nat.reduceEqDiff, Nat.reduceMul, Nat.reduceSub, Int.reduceAdd, Int.reduceSub, Int.reduceMul, Int.reduceNeg, Int.reduceLT, Int.reduceLE, Int.reduceEq, Int.reduceToNat, ↓reduceIte, Int.reducePow, Nat.reduceLeDiff, Nat.reduceLT, ne_eq, eq_self, List.length_cons, List.length_nil, qxE] | (with_reducible refine Sx.call_at (f := 115) (fun W hW => v1 W) ?_) | (with_reducible refine Sx.call_at (f := 115) (fun W hW => v2 W) ?_) | (with_reducible refine Sx.call_at (f := 116) (fun W hW => cmp W) ?_) | (with_reducible refine Sx.call_at (f := 87) (fun W hW => gx_sign f'.fp W) ?_) | (with_reducible refine Sx.call_at (f := 156) (fun W hW => gx_negative f'.fp W) ?_) | (with_reducible refine Sx.call_at (f := 156) (fun W hW => gx_negative f.fp W) ?_) | (with_reducible refine Sx.call_at (f := 156) (fun W hW => gx_negative ft.1 W) ?_) | (with_reducible refine Sx.call_at (f := 157) (fun W hW => sp W) ?_))
          try rfl
        · rw [if_neg hneg]
          have hs : ¬ cm p' 0 < 0 := by rw [s1, if_neg hneg]; split <;> decide
          by_cases hz : p ≤ 0
          · rw [if_pos hz]
            have hs2 : cm p 0 ≤ 0 := by rw [s2]; (repeat' split) <;> omega
            refine known_of (enter Try.func113 simplest_Between.ok (args := [_, _]) (by simp) ?_)
            repeat' (first | simp (disch := omega) only [sxE, simplest_Between.E, Nat.reduceAdd, Nat.reduceEqDiff, Nat.reduceMul, Nat.reduceSub, Int.reduceAdd, Int.reduceSub, Int.reduceMul, Int.reduceNeg, Int.reduceLT, Int.reduceLE, Int.reduceEq, Int.reduceToNat, ↓reduceIte, Int.reducePow, Nat.reduceLeDiff, Nat.reduceLT, ne_eq, eq_self, List.length_cons, List.length_nil, qxE] | (with_reducible refine Sx.call_at (f := 115) (fun W hW => v1 W) ?_) | (with_reducible refine Sx.call_at (f := 115) (fun W hW => v2 W) ?_) | (with_reducible refine Sx.call_at (f := 116) (fun W hW => cmp W) ?_) | (with_reducible refine Sx.call_at (f := 87) (fun W hW => gx_sign f'.fp W) ?_) | (with_reducible refine Sx.call_at (f := 87) (fun W hW => gx_sign f.fp W) ?_) | (with_reducible refine Sx.call_at (f := 112) (fun W hW => gx_rof i64_zero W) ?_))
            try rfl
          · rw [if_neg hz]
            have hs2 : ¬ cm p 0 ≤ 0 := by rw [s2]; (repeat' split) <;> omega
            have sp := fun W => gx_spx f f' (by omega) hle W
            generalize (spx p q p' q').1 = x at *
            generalize (spx p q p' q').2 = y at *
            refine known_of (enter Try.func113 simplest_Between.ok (args := [_, _]) (by simp) ?_)
            repeat' (first | simp (disch := omega) only [sxE, simplest_Between.E, Nat.reduceAdd, Nat.reduceEqDiff, Nat.reduceMul, Nat.reduceSub, Int.reduceAdd, Int.reduceSub, Int.reduceMul, Int.reduceNeg, Int.reduceLT, Int.reduceLE, Int.reduceEq, Int.reduceToNat, ↓reduceIte, Int.reducePow, Nat.reduceLeDiff, Nat.reduceLT, ne_eq, eq_self, List.length_cons, List.length_nil, qxE] | (with_reducible refine Sx.call_at (f := 115) (fun W hW => v1 W) ?_) | (with_reducible refine Sx.call_at (f := 115) (fun W hW => v2 W) ?_) | (with_reducible refine Sx.call_at (f := 116) (fun W hW => cmp W) ?_) | (with_reducible refine Sx.call_at (f := 87) (fun W hW => gx_sign f'.fp W) ?_) | (with_reducible refine Sx.call_at (f := 87) (fun W hW => gx_sign f.fp W) ?_) | (with_reducible refine Sx.call_at (f := 157) (fun W hW => sp W) ?_))
            try rfl
      · rw [decide_eq_false hle]
        have hg : 0 < cq p q p' q' := hgt.2 (by omega)
        refine known_of (enter Try.func113 simplest_Between.ok (args := [_, _]) (by simp) ?_)
        repeat' (first | simp (disch := omega) only [sxE, simplest_Between.E, Nat.reduceAdd, Nat.reduceEqDiff, Nat.reduceMul, Nat.reduceSub, Int.reduceAdd, Int.reduceSub, Int.reduceMul, Int.reduceNeg, Int.reduceLT, Int.reduceLE, Int.reduceEq, Int.reduceToNat, ↓reduceIte, Int.reducePow, Nat.reduceLeDiff, Nat.reduceLT, ne_eq, eq_self, List.length_cons, List.length_nil, qxE] | (with_reducible refine Sx.call_at (f := 115) (fun W hW => v1 W) ?_) | (with_reducible refine Sx.call_at (f := 115) (fun W hW => v2 W) ?_) | (with_reducible refine Sx.call_at (f := 116) (fun W hW => cmp W) ?_))
        try rfl
set_option maxRecDepth 100000 in
theorem rx_positive : ∀ (n : Nat) {a b c d : Int}, Bd 127 a → Bd 127 b → Bd 127 c → Bd 127 d → 0 < b → 0 < d → 0 < a → a * d ≤ c * b → b + d ≤ n → ∀ W, Gives Try.prog 176 [WX a, WX b, WX c, WX d] W (· = .tuple #[WX (sp n a b c d).1, WX (sp n a b c d).2])
  | 0, a, b, c, d, _, _, _, _, hb, hd, _, _, hn => fun W => by omega
  | n + 1, a, b, c, d, ba, bb, bc, bd, hb, hd, ha, h, hn => fun W => by
    have hbn : b ≠ 0 := by omega
    have m1 := fun W => rx_divmod ba.fits bb.fits hbn W
    have fr := fits_emod (z := a) bb.fits hbn
    have fq := fits_ediv ba.fits hbn
    have hc := cm_zero_iff (a % b)
    have hq0 := Int.ediv_nonneg (Int.le_of_lt ha) (Int.le_of_lt hb)
    have bq : Bd 127 (a / b) := bd_nn ba hq0 (Int.ediv_le_self _ (Int.le_of_lt ha))
    have bs : Bd 128 (a / b + 1) := bd_add bq (bd_le bd_one (show 1 ≤ 127 by decide)) (by decide) (by decide)
    have fs := bs.fits
    have ft : Fits ((a / b + 1) * d) := (bd_mul bs bd).fits
    have ft0 : Fits (a / b * d) := (bd_mul bq bd).fits
    have fls := fl_le (x := c) hd
    have e1 := Int.mul_ediv_add_emod a b
    rw [Int.mul_comm] at e1
    refine gives_known en_r04_positive ?_
    unfold sp
    by_cases h1 : a % b = 0
    · rw [if_pos h1]
      have hc0 := hc.2 h1
      have hle : cm (a / b * d) c ≤ 0 := by
        rw [km_le]
        refine mul_le_cancel hb ?_
        rw [h1, Int.add_zero] at e1
        have e2 : b * (a / b * d) = a / b * b * d := by rw [Int.mul_left_comm, Int.mul_assoc]
        rw [e2, e1, Int.mul_comm b c]
        exact h
      clear hc fls e1
      refine known_of (enter Try.func176 r04_positive.ok (args := [_, _, _, _]) (by simp) ?_)
      repeat' (first | simp (disch := omega) only [sxE, r04_positive.E, Nat.reduceAdd, Nat.reduceEqDiff, Nat.reduceMul, Nat.reduceSub, Int.reduceAdd, Int.reduceSub, Int.reduceMul, Int.reduceNeg, Int.reduceLT, Int.reduceLE, Int.reduceEq, Int.reduceToNat, ↓reduceIte, Int.reducePow, Nat.reduceLeDiff, Nat.reduceLT, ne_eq, eq_self, List.length_cons, List.length_nil, qxE, hc0] | (with_reducible refine Sx.call_at (f := 23) (fun W hW => m1 W) ?_) | (with_reducible refine Sx.call_at (f := 65) (fun W hW => rx_sign fr W) ?_) | (with_reducible refine Sx.call_at (f := 20) (fun W hW => rx_of i64_one W) ?_) | (with_reducible refine Sx.call_at (f := 57) (fun W hW => rx_mul fq bd.fits ft0 W) ?_) | (with_reducible refine Sx.call_at (f := 42) (fun W hW => rx_compare ft0 bc.fits W) ?_))
    · rw [if_neg h1]
      have hc0 : cm (a % b) 0 ≠ 0 := fun e => h1 (hc.1 e)
      clear hc
      by_cases h2 : a / b < c / d
      · rw [if_pos h2]
        have hle : cm ((a / b + 1) * d) c ≤ 0 := by
          rw [km_le]
          have := Int.mul_le_mul_of_nonneg_right (show a / b + 1 ≤ c / d by omega) (Int.le_of_lt hd)
          omega
        clear fls e1
        refine known_of (enter Try.func176 r04_positive.ok (args := [_, _, _, _]) (by simp) ?_)
        repeat' (first | simp (disch := omega) only [sxE, r04_positive.E, Nat.reduceAdd, Nat.reduceEqDiff, Nat.reduceMul, Nat.reduceSub, Int.reduceAdd, Int.reduceSub, Int.reduceMul, Int.reduceNeg, Int.reduceLT, Int.reduceLE, Int.reduceEq, Int.reduceToNat, ↓reduceIte, Int.reducePow, Nat.reduceLeDiff, Nat.reduceLT, ne_eq, eq_self, List.length_cons, List.length_nil, qxE] | (with_reducible refine Sx.call_at (f := 23) (fun W hW => m1 W) ?_) | (with_reducible refine Sx.call_at (f := 65) (fun W hW => rx_sign fr W) ?_) | (with_reducible refine Sx.call_at (f := 20) (fun W hW => rx_of i64_one W) ?_) | (with_reducible refine Sx.call_at (f := 22) (fun W hW => rx_add fq fits_one fs W) ?_) | (with_reducible refine Sx.call_at (f := 57) (fun W hW => rx_mul fs bd.fits ft W) ?_) | (with_reducible refine Sx.call_at (f := 42) (fun W hW => rx_compare ft bc.fits W) ?_))
      · rw [if_neg h2]
        obtain ⟨f1, f2, f3, f4, f5, f6, f7, f8⟩ := sp_facts hb hd ha h h1 h2
        have hle : ¬ cm ((a / b + 1) * d) c ≤ 0 := by
          rw [km_le, Int.add_mul, Int.one_mul]
          omega
        have b1 := bd_nn bb (Int.le_of_lt f1) (Int.le_of_lt f2)
        have b2 := bd_nn bd (Int.le_of_lt f3) (Int.le_of_lt f4)
        have es : c - a / b * d = c % d := by omega
        have fsub : Fits (c - a / b * d) := by rw [es]; exact b2.fits
        have msub := fun W => rx_sub bc.fits ft0 fsub W
        rw [es] at msub
        have ih := rx_positive n bd b2 bb b1 f3 f1 hd f8 (by omega)
        have hsp := sp_spec n d (c % d) b (a % b) f3 f1 hd f8 (by omega)
        generalize (sp n d (c % d) b (a % b)).1 = x at *
        generalize (sp n d (c % d) b (a % b)).2 = y at *
        have k := hsp.least d (c % d) f3 (Int.le_refl _) f8
        have k2 := hsp.least b (a % b) f1 f8 (Int.le_refl _)
        have px := hsp.px
        have py := hsp.py
        have fx := (bd_nn bd (Int.le_of_lt px) k.1).fits
        have fy := (bd_nn b2 (Int.le_of_lt py) k.2).fits
        have hmx := Int.mul_nonneg f7 (Int.le_of_lt px)
        have hmb := Int.mul_le_mul_of_nonneg_left k2.1 f7
        have fm : Fits (a / b * x) := (bd_nn ba hmx (by omega)).fits
        have fs2 : Fits (a / b * x + y) := (bd_nn ba (by omega) (by omega)).fits
        clear hsp k k2 hmx hmb b1 b2 f1 f2 f3 f4 f5 f6 f7 f8 hq0 fls e1 es
        refine known_of (enter Try.func176 r04_positive.ok (args := [_, _, _, _]) (by simp) ?_)
        repeat' (first | simp (disch := omega) only [sxE, r04_positive.E, Nat.reduceAdd, Nat.reduceEqDiff, Nat.reduceMul, Nat.reduceSub, Int.reduceAdd, Int.reduceSub, Int.reduceMul, Int.reduceNeg, Int.reduceLT, Int.reduceLE, Int.reduceEq, Int.reduceToNat, ↓reduceIte, Int.reducePow, Nat.reduceLeDiff, Nat.reduceLT, ne_eq, eq_self, List.length_cons, List.length_nil, qxE] | (with_reducible refine Sx.call_at (f := 23) (fun W hW => m1 W) ?_) | (with_reducible refine Sx.call_at (f := 65) (fun W hW => rx_sign fr W) ?_) | (with_reducible refine Sx.call_at (f := 20) (fun W hW => rx_of i64_one W) ?_) | (with_reducible refine Sx.call_at (f := 22) (fun W hW => rx_add fq fits_one fs W) ?_) | (with_reducible refine Sx.call_at (f := 57) (fun W hW => rx_mul fs bd.fits ft W) ?_) | (with_reducible refine Sx.call_at (f := 57) (fun W hW => rx_mul fq bd.fits ft0 W) ?_) | (with_reducible refine Sx.call_at (f := 57) (fun W hW => rx_mul fq fx fm W) ?_) | (with_reducible refine Sx.call_at (f := 42) (fun W hW => rx_compare ft bc.fits W) ?_) | (with_reducible refine Sx.call_at (f := 41) (fun W hW => msub W) ?_) | (with_reducible refine Sx.call_at (f := 176) (fun W hW => ih W) ?_) | (with_reducible refine Sx.call_at (f := 22) (fun W hW => rx_add fm fy fs2 W) ?_))
theorem rx_spx {p q p' q' : Int} (f : Fq p q) (f' : Fq p' q') (hp : 0 < p) (h : p * q' ≤ p' * q) (W : World) : Gives Try.prog 176 [WX p, WX q, WX p', WX q'] W (· = .tuple #[WX (spx p q p' q').1, WX (spx p q p' q').2]) :=
  rx_positive _ f.bp f.bq f'.bp f'.bq f.pos f'.pos hp h (by have := f.pos; have := f'.pos; omega) W
set_option maxRecDepth 100000 in
theorem rx_between {v v' : Value} {p q p' q' : Int} {t t' : Bool} (h : CQ v p q) (h' : CQ v' p' q') (v1 : ∀ W, Gives Try.prog 117 [v] W (· = .bool t)) (v2 : ∀ W, Gives Try.prog 117 [v'] W (· = .bool t')) (e1 : t = true → v = RX p q) (e2 : t' = true → v' = RX p' q') (W : World) :
    Gives Try.prog 152 [v, v'] W (· = btV (t && t') p q p' q') := by
  obtain ⟨c0, c1, c2, c3, c4, c5, c6, c7, c8, c9, rfl⟩ := h.ten
  obtain ⟨d0, d1, d2, d3, d4, d5, d6, d7, d8, d9, rfl⟩ := h'.ten
  have f := h.fq
  have f' := h'.fq
  have cmp := fun W => rx_rcompare h h' W
  refine gives_known en_r04_Between ?_
  cases t
  · have e : btV (false && t') p q p' q' = .tuple #[RX 0 0, .bool false] := rfl
    rw [e]
    refine known_of (enter Try.func152 r04_Between.ok (args := [_, _]) (by simp) ?_)
    repeat' (first | simp (disch := omega) only [sxE, r04_Between.E, Nat.reduceAdd, Nat.reduceEqDiff, Nat.reduceMul, Nat.reduceSub, Int.reduceAdd, Int.reduceSub, Int.reduceMul, Int.reduceNeg, Int.reduceLT, Int.reduceLE, Int.reduceEq, Int.reduceToNat, ↓reduceIte, Int.reducePow, Nat.reduceLeDiff, Nat.reduceLT, ne_eq, eq_self, List.length_cons, List.length_nil, qxE] | (with_reducible refine Sx.call_at (f := 117) (fun W hW => v1 W) ?_))
  · cases t'
    · have e : btV (true && false) p q p' q' = .tuple #[RX 0 0, .bool false] := rfl
      rw [e]
      refine known_of (enter Try.func152 r04_Between.ok (args := [_, _]) (by simp) ?_)
      repeat' (first | simp (disch := omega) only [sxE, r04_Between.E, Nat.reduceAdd, Nat.reduceEqDiff, Nat.reduceMul, Nat.reduceSub, Int.reduceAdd, Int.reduceSub, Int.reduceMul, Int.reduceNeg, Int.reduceLT, Int.reduceLE, Int.reduceEq, Int.reduceToNat, ↓reduceIte, Int.reducePow, Nat.reduceLeDiff, Nat.reduceLT, ne_eq, eq_self, List.length_cons, List.length_nil, qxE] | (with_reducible refine Sx.call_at (f := 117) (fun W hW => v1 W) ?_) | (with_reducible refine Sx.call_at (f := 117) (fun W hW => v2 W) ?_))
    · have e1 := e1 rfl
      have e2 := e2 rfl
      unfold btV
      have hgt := km_gt (p * q') (p' * q)
      by_cases hle : p * q' ≤ p' * q
      · rw [decide_eq_true hle]
        have hg : ¬ 0 < cq p q p' q' := fun hh => by have := hgt.1 hh; omega
        rw [e1] at v1 cmp
        rw [e2] at v2 cmp
        rw [e1, e2]
        have s1 := cm_zero p'
        have s2 := cm_zero p
        unfold btx
        by_cases hneg : p' < 0
        · rw [if_pos hneg]
          have hs : cm p' 0 < 0 := by rw [s1, if_pos hneg]; decide
          have hs3 : ¬ 0 ≤ cm p' 0 := by omega
          have fn := f.neg
          have fn' := f'.neg
          have hle2 : -p' * q ≤ -p * q' := by rw [Int.neg_mul, Int.neg_mul]; omega
          have sp := fun W => rx_spx fn' fn (by omega) hle2 W
          have ft := fits_spx fn' fn (by omega) hle2
          have hpn : p < 0 := by
            rcases Int.lt_or_le p 0 with hh | hh
            · exact hh
            · exfalso
              have h5 := Int.mul_nonneg hh (Int.le_of_lt f'.pos)
              have h6 := Int.mul_neg_of_neg_of_pos hneg f.pos
              omega
          have hs4 : cm p 0 ≤ 0 := by rw [s2, if_pos hpn]; decide
          generalize (spx (-p') q' (-p) q).1 = x at *
          generalize (spx (-p') q' (-p) q).2 = y at *
          refine known_of (enter Try.func152 r04_Between.ok (args := [_, _]) (by simp) ?_)
          repeat' (first | simp (disch := omega) only [sxE, r04_Between.E, Nat.reduceAdd, Nat.reduceEqDiff, Nat.reduceMul, Nat.reduceSub, Int.reduceAdd, Int.reduceSub, Int.reduceMul, Int.reduceNeg, Int.reduceLT, Int.reduceLE, Int.reduceEq, Int.reduceToNat, ↓reduceIte, Int.reducePow, Nat.reduceLeDiff, Nat.reduceLT, ne_eq, eq_self, List.length_cons, List.length_nil, qxE] | (with_reducible refine Sx.call_at (f := 117) (fun W hW => v1 W) ?_) | (with_reducible refine Sx.call_at (f := 117) (fun W hW => v2 W) ?_) | (with_reducible refine Sx.call_at (f := 100) (fun W hW => cmp W) ?_) | (with_reducible refine Sx.call_at (f := 65) (fun W hW => rx_sign f'.fp W) ?_) | (with_reducible refine Sx.call_at (f := 65) (fun W hW => rx_sign f.fp W) ?_) | (with_reducible refine Sx.call_at (f := 53) (fun W hW => rx_neg f'.fp W) ?_) | (with_reducible refine Sx.call_at (f := 53) (fun W hW => rx_neg f.fp W) ?_) | (with_reducible refine Sx.call_at (f := 53) (fun W hW => rx_neg ft.1 W) ?_) | (with_reducible refine Sx.call_at (f := 176) (fun W hW => sp W) ?_))
          try rfl
        · rw [if_neg hneg]
          have hs : ¬ cm p' 0 < 0 := by rw [s1, if_neg hneg]; split <;> decide
          have hs3 : 0 ≤ cm p' 0 := by omega
          by_cases hz : p ≤ 0
          · rw [if_pos hz]
            have hs2 : cm p 0 ≤ 0 := by rw [s2]; (repeat' split) <;> omega
            refine known_of (enter Try.func152 r04_Between.ok (args := [_, _]) (by simp) ?_)
            repeat' (first | simp (disch := omega) only [sxE, r04_Between.E, Nat.reduceAdd, Nat.reduceEqDiff, Nat.reduceMul, Nat.reduceSub, Int.reduceAdd, Int.reduceSub, Int.reduceMul, Int.reduceNeg, Int.reduceLT, Int.reduceLE, Int.reduceEq, Int.reduceToNat, ↓reduceIte, Int.reducePow, Nat.reduceLeDiff, Nat.reduceLT, ne_eq, eq_self, List.length_cons, List.length_nil, qxE] | (with_reducible refine Sx.call_at (f := 117) (fun W hW => v1 W) ?_) | (with_reducible refine Sx.call_at (f := 117) (fun W hW => v2 W) ?_) | (with_reducible refine Sx.call_at (f := 100) (fun W hW => cmp W) ?_) | (with_reducible refine Sx.call_at (f := 65) (fun W hW => rx_sign f'.fp W) ?_) | (with_reducible refine Sx.call_at (f := 65) (fun W hW => rx_sign f.fp W) ?_) | (with_reducible refine Sx.call_at (f := 82) (fun W hW => rx_rof i64_zero W) ?_))
            try rfl
          · rw [if_neg hz]
            have hs2 : ¬ cm p 0 ≤ 0 := by rw [s2]; (repeat' split) <;> omega
            have sp := fun W => rx_spx f f' (by omega) hle W
            generalize (spx p q p' q').1 = x at *
            generalize (spx p q p' q').2 = y at *
            refine known_of (enter Try.func152 r04_Between.ok (args := [_, _]) (by simp) ?_)
            repeat' (first | simp (disch := omega) only [sxE, r04_Between.E, Nat.reduceAdd, Nat.reduceEqDiff, Nat.reduceMul, Nat.reduceSub, Int.reduceAdd, Int.reduceSub, Int.reduceMul, Int.reduceNeg, Int.reduceLT, Int.reduceLE, Int.reduceEq, Int.reduceToNat, ↓reduceIte, Int.reducePow, Nat.reduceLeDiff, Nat.reduceLT, ne_eq, eq_self, List.length_cons, List.length_nil, qxE] | (with_reducible refine Sx.call_at (f := 117) (fun W hW => v1 W) ?_) | (with_reducible refine Sx.call_at (f := 117) (fun W hW => v2 W) ?_) | (with_reducible refine Sx.call_at (f := 100) (fun W hW => cmp W) ?_) | (with_reducible refine Sx.call_at (f := 65) (fun W hW => rx_sign f'.fp W) ?_) | (with_reducible refine Sx.call_at (f := 65) (fun W hW => rx_sign f.fp W) ?_) | (with_reducible refine Sx.call_at (f := 176) (fun W hW => sp W) ?_))
            try rfl
      · rw [decide_eq_false hle]
        have hg : 0 < cq p q p' q' := hgt.2 (by omega)
        refine known_of (enter Try.func152 r04_Between.ok (args := [_, _]) (by simp) ?_)
        repeat' (first | simp (disch := omega) only [sxE, r04_Between.E, Nat.reduceAdd, Nat.reduceEqDiff, Nat.reduceMul, Nat.reduceSub, Int.reduceAdd, Int.reduceSub, Int.reduceMul, Int.reduceNeg, Int.reduceLT, Int.reduceLE, Int.reduceEq, Int.reduceToNat, ↓reduceIte, Int.reducePow, Nat.reduceLeDiff, Nat.reduceLT, ne_eq, eq_self, List.length_cons, List.length_nil, qxE] | (with_reducible refine Sx.call_at (f := 117) (fun W hW => v1 W) ?_) | (with_reducible refine Sx.call_at (f := 117) (fun W hW => v2 W) ?_) | (with_reducible refine Sx.call_at (f := 100) (fun W hW => cmp W) ?_))
        try rfl
theorem btV_yes {p q p' q' : Int} (h : p * q' ≤ p' * q) : btV true p q p' q' = .tuple #[RX (btx p q p' q').1 (btx p q p' q').2, .bool true] := by unfold btV; rw [decide_eq_true h]; rfl
theorem gx_bt {p q p' q' : Int} (f : Fq p q) (f' : Fq p' q') (h : p * q' ≤ p' * q) (W : World) : Gives Try.prog 113 [RX p q, RX p' q'] W (· = .tuple #[RX (btx p q p' q').1 (btx p q p' q').2, .bool true]) :=
  gives_eq (gx_between f.cq f'.cq f.v1 f'.v1 (fun _ => rfl) (fun _ => rfl) W) (btV_yes h)
theorem rx_bt {p q p' q' : Int} (f : Fq p q) (f' : Fq p' q') (h : p * q' ≤ p' * q) (W : World) : Gives Try.prog 152 [RX p q, RX p' q'] W (· = .tuple #[RX (btx p q p' q').1 (btx p q p' q').2, .bool true]) :=
  gives_eq (rx_between f.cq f'.cq f.v2 f'.v2 (fun _ => rfl) (fun _ => rfl) W) (btV_yes h)
end Go.Proofs.Ytncmmbacoknefaa

/- Tp: A symbolic run: calls that move a tape. -/
namespace Go.Proofs.Ytncmmbacoknefaa
open Go Go.RowKit Sx
set_option linter.unusedVariables false
set_option linter.unusedSimpArgs false
namespace Sx
variable {C : Cx} {S : St} {K : St → Prop} {d : Option Nat}
/-- What is known of a tape in the caller's world w: it is a tape, and nothing else of w has turned. -/
def hK (w : World) (tb B Bm : Nat) : KnG where
  bs := List.range' tb (w.heap.size - tb)
  ok n W := n = tb ∧ (tb < w.heap.size ∧ B ≤ w.heap.size) ∧ TapeOk B Bm W tb ∧ w.heap.size ≤ W.heap.size ∧ ∀ i, i < w.heap.size → i ≠ tb → W.heap[i]? = w.heap[i]?
  lt := fun {n W} h b hb => by
    obtain ⟨h0, ⟨h1, h1b⟩, h2, h3, -⟩ := h
    rw [List.mem_range'] at hb
    obtain ⟨i, hi, rfl⟩ := hb
    omega
  keep := fun {n W W'} h hs hb ho => by
    obtain ⟨h0, ⟨hw, hB⟩, ⟨a, len, cap, k, h1, h2, h3, h4, h5, h6, h7, h8⟩, hsz, hg⟩ := h
    have all : ∀ i, i < w.heap.size → W'.heap[i]? = W.heap[i]? := fun i hi => by
      rcases Nat.lt_or_ge i tb with h | h
      · exact ho i (by omega) (by omega)
      · exact hb i (List.mem_range'.2 ⟨i - tb, by omega, by omega⟩)
    have ht := all tb hw
    refine ⟨h0, ⟨hw, hB⟩, ⟨a, len, cap, k, h1, Nat.le_trans h2 hs, (World.cell?_of_block (a := ⟨tb, 0, none⟩) ht).trans h3, (World.cell?_of_block (a := ⟨tb, 1, none⟩) ht).trans h4, (World.frozen?_of_block (a := ⟨tb, 1, none⟩) ht).trans h5, h6, h7, fun hl => ?_⟩, Nat.le_trans hsz hs, fun i hi hn => (all i hi).trans (hg i hi hn)⟩
    obtain ⟨bb, off, e, hne, hlt, hlm, hc⟩ := h8 hl
    refine ⟨bb, off, e, hne, hlt, hlm, fun i hi => ?_⟩
    obtain ⟨x, hx, hix⟩ := hc i hi
    exact ⟨x, (World.cell?_of_block (a := ⟨bb, off + i, none⟩) (all bb (by omega))).trans hx, hix⟩
/-- It tells of the tape in block tb, and goes on behind calls that move it. -/
structure TpK (k : KnG) (n tb B Bm : Nat) : Prop where
  tape : ∀ {W}, k.ok n W → TapeOk B Bm W tb
  go : ∀ {W W'}, k.ok n W → TapeOk B Bm W' tb → W.grownBy W' (some tb) → k.ok n W'
  ge : ∀ {W}, k.ok n W → n ≤ tb
  mem : ∀ {W}, k.ok n W → tb ∈ k.bs
theorem tpk_t (n tb : Nat) : TpK (tK tb) n tb (tb + 1) n where
  tape h := h.2
  go h ht hg := ⟨h.1, ht⟩
  ge h := h.1
  mem h := List.mem_singleton.2 rfl
theorem tpk_h (w : World) (tb B Bm : Nat) : TpK (hK w tb B Bm) tb tb B Bm where
  tape h := h.2.2.1
  go h ht hg := ⟨h.1, h.2.1, ht, Nat.le_trans h.2.2.2.1 hg.size, fun i hi hn => (hg.block i (Nat.lt_of_lt_of_le hi h.2.2.2.1) (fun e => hn (Option.some.inj e))).trans (h.2.2.2.2 i hi hn)⟩
  ge h := Nat.le_of_eq h.1
  mem h := List.mem_range'.2 ⟨0, by have := h.2.1; omega, by omega⟩
/-- A call that moves the tape and nothing else that is known. -/
theorem asks_tp {f : FuncId} {l : List Value} {L : List Kn} {ι : Type} {P : ι → Prop} {k : KnG} {tb B Bm : Nat} (v : ι → Value) (hk : TpK k C.w0.heap.size tb B Bm) (he : ∀ (l : Array Value) W, (callFunc f l).run C.P W = .ok (.enter f l) W) (hT : S.T = kX C.w0.heap.size L) (hm : .g k ∈ L) (hmv : C.mv S = S.T.bs)
    (hL : ∀ j ∈ L, j = .g k ∨ tb ∉ j.bs)
    (h : ∀ W, TapeOk B Bm W tb → Calls C.P f l.toArray W fun e w' => ∃ i, P i ∧ e = .returned (v i) ∧ TapeOk B Bm w' tb ∧ W.grownBy w' (some tb))
    (hK : ∀ i, P i → K (St.put S d (.v (v i)))) : asks C f l d K S := by
  refine asks_T (ι := {i // P i}) (fun i => v i.1) (fun _ => S.T) (fun W hW hok hbs => givesT_calls he (fun i => by rw [hT]; exact kX_stab C L) ?_) (fun i => hK i.1 i.2)
  rw [hT] at hok
  have ho : k.ok C.w0.heap.size W := hok _ hm
  refine (h W (hk.tape ho)).mono fun e w' ⟨i, hi, he, h1, h2⟩ => ⟨⟨i, hi⟩, he, ⟨h2.os, h2.tape, h2.output, h2.size, fun j hj hn => h2.block j hj fun e => hn (by cases e; rw [hmv, hT]; exact kX_bs.2 ⟨_, hm, hk.mem ho⟩)⟩, ?_, fun b hb => ⟨.inl hb, ?_⟩⟩
  · rw [hT]
    intro j hj
    rcases hL j hj with rfl | hb
    · exact hk.go ho h1 h2
    · refine (hok j hj).keep h2.size (fun b hbb => h2.block b ((hok j hj).lt b hbb).2 fun e => hb (by cases e; exact hbb)) fun b hbn hbl => h2.block b hbl fun e => ?_
      have := hk.ge ho
      have e2 : b = tb := Option.some.inj e
      omega
  · rw [hT] at hb
    exact Nat.lt_of_lt_of_le (kX_lt hok b hb).2 h2.size
/-- The start of a function that is given a tape. -/
theorem hK_start {w : World} {tb B Bm : Nat} (h : TapeOk B Bm w tb) : (kX (cut w tb).heap.size [.g (hK w tb B Bm)]).ok w ∧ ∀ b ∈ (kX (cut w tb).heap.size [.g (hK w tb B Bm)]).bs, (cut w tb).heap.size ≤ b ∧ b < w.heap.size := by
  have hc := cut_size (Nat.le_of_lt h.lt)
  have h1 : (kX (cut w tb).heap.size [.g (hK w tb B Bm)]).ok w := fun k hk => by
    rw [List.mem_singleton.1 hk]
    exact ⟨hc, ⟨h.lt, h.leB⟩, h, Nat.le_refl _, fun _ _ _ => rfl⟩
  exact ⟨h1, kX_lt h1⟩
theorem hK_end {w w' : World} {tb B Bm : Nat} {L : List Kn} (h : (kX (cut w tb).heap.size L).ok w') (hm : .g (hK w tb B Bm) ∈ L) (hb : Below (cut w tb).heap.size (cut w tb) w') : TapeOk B Bm w' tb ∧ w.grownBy w' (some tb) := by
  have hk : (hK w tb B Bm).ok (cut w tb).heap.size w' := h _ hm
  exact ⟨hk.2.2.1, hb.os, hb.tape, hb.output, hk.2.2.2.1, fun i hi hn => hk.2.2.2.2 i hi fun e => hn (by rw [e])⟩
theorem tpk_h' {w : World} {tb B Bm : Nat} (h : TapeOk B Bm w tb) : TpK (hK w tb B Bm) (cut w tb).heap.size tb B Bm := by
  rw [cut_size (Nat.le_of_lt h.lt)]; exact tpk_h w tb B Bm
end Sx
/-- What a call that moves the tape in block tb gives. -/
def TpC (f : FuncId) (l : List Value) (tb : Nat) {ι : Type} (P : ι → Prop) (v : ι → Value) : Prop := ∀ {B Bm : Nat} (W : World), TapeOk B Bm W tb → Calls Try.prog f l.toArray W fun e w' => ∃ i, P i ∧ e = .returned (v i) ∧ TapeOk B Bm w' tb ∧ W.grownBy w' (some tb)
theorem t_next (tb : Nat) {n : Int} (h1 : 1 ≤ n) (h2 : n ≤ 1000000) : TpC 31 [.pointer (some ⟨tb, 0, none⟩), .int .i64 n] tb (fun r : Int => 0 ≤ r ∧ r < n) (fun r => .int .i64 r) :=
  fun W h => (next_in tb n h1 h2 W h).mono fun e w' ⟨r, a, b, c, d⟩ => ⟨r, a, b, c, d⟩
theorem t_bool (tb : Nat) {n : Int} (h1 : 2 ≤ n) (h2 : n ≤ 1000) : TpC 52 [.pointer (some ⟨tb, 0, none⟩), .int .i64 n] tb (fun _ : Bool => True) (fun r => .bool r) :=
  fun W h => (bool_any tb n h1 h2 W h).mono fun e w' ⟨r, b, c, d⟩ => ⟨r, trivial, b, c, d⟩
theorem t_word (tb : Nat) : TpC 30 [.pointer (some ⟨tb, 0, none⟩)] tb U64 (fun r => .int .u64 r) :=
  fun W h => (word_any tb W h).mono fun e w' ⟨r, a, b, c, d⟩ => ⟨r, a, b, c, d⟩
theorem t_int (tb : Nat) : TpC 32 [.pointer (some ⟨tb, 0, none⟩)] tb I64 (fun r => .int .i64 r) :=
  fun W h => (int_any tb W h).mono fun e w' ⟨r, a, b, c, d⟩ => ⟨r, a, b, c, d⟩
/-- A raw Wide by its cells. -/
structure RC where
  c0 : Value
  c1 : Value
  c2 : Value
  c3 : Value
  c4 : Value
def RC.v (c : RC) : Value := .agg #[c.c0, c.c1, c.c2, c.c3, c.c4]
theorem asks_tc {C : Cx} {S : St} {K : St → Prop} {d : Option Nat} {f : FuncId} {l : List Value} {L : List Kn} {ι : Type} {P : ι → Prop} {v : ι → Value} {k : KnG} {tb B Bm : Nat} (hP : C.P = Try.prog) (hk : TpK k C.w0.heap.size tb B Bm) (h : TpC f l tb P v) (he : ∀ (l : Array Value) W, (callFunc f l).run Try.prog W = .ok (.enter f l) W) (hT : S.T = kX C.w0.heap.size L) (hm : .g k ∈ L) (hmv : C.mv S = S.T.bs)
    (hL : ∀ j ∈ L, j = .g k ∨ tb ∉ j.bs) (hK : ∀ i, P i → K (St.put S d (.v (v i)))) : asks C f l d K S :=
  asks_tp v hk (by rw [hP]; exact he) hT hm hmv hL (fun W hW => by rw [hP]; exact h W hW) hK
end Go.Proofs.Ytncmmbacoknefaa

/- CdT: MADE BY PROGRAM (sxgen.py): the small code of some functions, points of it and their equations. -/
namespace Go.Proofs.Ytncmmbacoknefaa
open Go Go.RowKit Sx
set_option linter.unusedVariables false
variable (C : Cx) (R L1 L2 L3 L4 : St → Prop)
namespace m_Tape__Ratio
def r0 : List G := [(some 2, none, (.new zR))]
def r1 : List G := [(some 7, none, (.mv (.tmp 0))), (some 8, none, (.call false 31 [(.tmp 7), (.const (.int .i64 200))])), (some 9, none, (.bin .sub (.tmp 8) (.const (.int .i64 100)))), (some 10, none, (.call false 20 [(.tmp 9)])), (some 11, none, (.mv (.tmp 0))), (some 12, none, (.call false 31 [(.tmp 11), (.const (.int .i64 60))])), (some 13, none, (.bin .add (.const (.int .i64 1)) (.tmp 12))), (some 14, none, (.call false 20 [(.tmp 13)])), (some 3, none, (.new zW)), (some 4, none, (.new zW)), (none, none, (.st true 5 (.tmp 3) (.tmp 10))), (none, none, (.st true 5 (.tmp 4) (.tmp 14)))]
def r2 : List G := [(some 15, none, (.mv (.tmp 0))), (some 16, none, (.call false 52 [(.tmp 15), (.const (.int .i64 4))]))]
def r3 : List G := [(some 17, none, (.mv (.tmp 0))), (some 18, none, (.call false 32 [(.tmp 17)])), (some 19, none, (.call false 20 [(.tmp 18)])), (some 20, none, (.mv (.tmp 0))), (some 21, none, (.call false 30 [(.tmp 20)])), (some 22, none, (.bin .or (.tmp 21) (.const (.int .u64 1)))), (some 23, none, (.call false 58 [(.tmp 22)])), (none, none, (.st true 5 (.tmp 3) (.tmp 19))), (none, none, (.st true 5 (.tmp 4) (.tmp 23)))]
def r4 : List G := [(some 24, none, (.mv (.tmp 0))), (some 25, none, (.call false 52 [(.tmp 24), (.const (.int .i64 8))]))]
def r5 : List G := [(some 27, none, (.ld true 5 (.tmp 3))), (some 28, none, (.call true 20 [(.const (.int .i64 4611686018427387904))])), (some 29, none, (.call true 57 [(.tmp 27), (.tmp 28)])), (some 26, none, (.mv (.tmp 29))), (some 30, none, (.ex (.tmp 26) 0)), (some 31, none, (.ex (.tmp 26) 1))]
def t5 : List G := [(none, none, (.st true 5 (.tmp 3) (.tmp 30)))]
def r6 : List G := [(some 33, none, (.ld true 5 (.tmp 3))), (some 34, none, (.ld true 5 (.tmp 4))), (some 35, none, (.call false 81 [(.tmp 33), (.tmp 34)])), (some 32, none, (.mv (.tmp 35))), (some 36, none, (.ex (.tmp 32) 0)), (some 37, none, (.ex (.tmp 32) 1)), (some 5, none, (.new zR)), (none, none, (.st true 10 (.tmp 5) (.tmp 36))), (some 6, none, (.mv (.tmp 37)))]
def r7 : List G := [(some 38, none, (.mv (.tmp 6))), (some 39, none, (.un .not (.tmp 38)))]
def r8 : List G := [(some 40, none, (.call false 82 [(.const (.int .i64 1))])), (none, none, (.st true 10 (.tmp 2) (.tmp 40)))]
def r9 : List G := [(some 41, none, (.ld true 10 (.tmp 5))), (none, none, (.st true 10 (.tmp 2) (.tmp 41)))]
def c : MC := (.seq (.reg r0 (some [0, 2])) (.seq (.reg r1 (some [0, 2, 3, 4])) (.seq (.seq (.reg r2 (some [0, 2, 3, 4, 16])) (.cond (.tmp 16) (.reg r3 (some [0, 2, 3, 4])) .skip)) (.seq (.seq (.reg r4 (some [2, 3, 4, 25])) (.cond (.tmp 25) (.dreg r5 t5 (some [2, 3, 4])) .skip)) (.seq (.reg r6 (some [2, 5, 6])) (.seq (.seq (.reg r7 (some [2, 5, 39])) (.cond (.tmp 39) (.seq (.reg r8 (some [2])) .ret) .skip)) (.seq (.reg r9 (some [2])) .ret)))))))
def ann : Ann := [(0, (some [0, 2], 0, [], [], [])), (1, (some [0, 2, 3, 4], 0, [], [], [])), (2, (some [0, 2, 3, 4, 16], 0, [], [], [])), (3, (some [0, 2, 3, 4], 0, [], [], [])), (4, (some [2, 3, 4, 25], 0, [], [], [])), (5, (some [2, 3, 4], 6, [5], [(0, 0), (1, 0), (2, 0), (3, 0), (4, 0), (5, 2)], [])), (6, (some [2, 5, 6], 0, [], [], [])), (7, (some [2, 5, 39], 0, [], [], [])), (8, (some [2], 0, [], [], [])), (9, (some [2], 0, [], [], []))]
theorem ok : compF Try.prog Try.f29 ann = some (42, c, [(2, some (true, 10))]) := by kernel_rfl
def p1 (S : St) : Prop := ops C r9 (kq [2] R) S
def p3 (S : St) : Prop := ops C r8 (kq [2] R) S
def p2 (S : St) : Prop := condX (S.ev (.tmp 39)) (p3 C R) (p1 C R) S
def p4 (S : St) : Prop := ops C r7 (kq [2, 5, 39] (p2 C R)) S
def p5 (S : St) : Prop := ops C r6 (kq [2, 5, 6] (p4 C R)) S
def p7 (S : St) : Prop := ops C r5 (ops C t5 (kq [2, 3, 4] (p5 C R))) S
def p6 (S : St) : Prop := condX (S.ev (.tmp 25)) (p7 C R) (p5 C R) S
def p8 (S : St) : Prop := ops C r4 (kq [2, 3, 4, 25] (p6 C R)) S
def p10 (S : St) : Prop := ops C r3 (kq [0, 2, 3, 4] (p8 C R)) S
def p9 (S : St) : Prop := condX (S.ev (.tmp 16)) (p10 C R) (p8 C R) S
def p11 (S : St) : Prop := ops C r2 (kq [0, 2, 3, 4, 16] (p9 C R)) S
def p12 (S : St) : Prop := ops C r1 (kq [0, 2, 3, 4] (p11 C R)) S
def p13 (S : St) : Prop := ops C r0 (kq [0, 2] (p12 C R)) S
theorem s (S : St) : X C c (retK R) S = p13 C R S := by kernel_rfl
theorem E : type_of% @r9.eq_1 ∧ type_of% @p1.eq_1 ∧ type_of% @r8.eq_1 ∧ type_of% @p3.eq_1 ∧ type_of% @p2.eq_1 ∧ type_of% @r7.eq_1 ∧ type_of% @p4.eq_1 ∧ type_of% @r6.eq_1 ∧ type_of% @p5.eq_1 ∧ type_of% @r5.eq_1 ∧ type_of% @t5.eq_1 ∧ type_of% @p7.eq_1 ∧ type_of% @p6.eq_1 ∧ type_of% @r4.eq_1 ∧ type_of% @p8.eq_1 ∧ type_of% @r3.eq_1 ∧ type_of% @p10.eq_1 ∧ type_of% @p9.eq_1 ∧ type_of% @r2.eq_1 ∧ type_of% @p11.eq_1 ∧ type_of% @r1.eq_1 ∧ type_of% @p12.eq_1 ∧ type_of% @r0.eq_1 ∧ type_of% @p13.eq_1 ∧ type_of% @s := ⟨@r9.eq_1, @p1.eq_1, @r8.eq_1, @p3.eq_1, @p2.eq_1, @r7.eq_1, @p4.eq_1, @r6.eq_1, @p5.eq_1, @r5.eq_1, @t5.eq_1, @p7.eq_1, @p6.eq_1, @r4.eq_1, @p8.eq_1, @r3.eq_1, @p10.eq_1, @p9.eq_1, @r2.eq_1, @p11.eq_1, @r1.eq_1, @p12.eq_1, @r0.eq_1, @p13.eq_1, @s⟩
end m_Tape__Ratio
end Go.Proofs.Ytncmmbacoknefaa

/- Tr: What a call of the tape's Ratio gives. -/
namespace Go.Proofs.Ytncmmbacoknefaa
open Go Go.RowKit Sx
set_option linter.unusedVariables false
set_option linter.unusedSimpArgs false
theorem mkV_cases {b : Bool} {z y : Int} : (mok b z y = true ∧ mkV b z y = .tuple #[RX (mn z y) (mD z y), .bool true]) ∨ (mok b z y = false ∧ mkV b z y = .tuple #[RX 0 0, .bool false]) := by
  unfold mkV
  cases h : mok b z y
  · exact .inr ⟨rfl, rfl⟩
  · exact .inl ⟨rfl, rfl⟩
theorem or_one {x : Int} (h : U64 x) : U64 (IntKind.u64.wrap (BitVec.ofInt IntKind.u64.bits x ||| BitVec.ofInt IntKind.u64.bits 1).toNat) ∧ IntKind.u64.wrap (BitVec.ofInt IntKind.u64.bits x ||| BitVec.ofInt IntKind.u64.bits 1).toNat ≠ 0 := by
  have hlt := (BitVec.ofInt IntKind.u64.bits x ||| BitVec.ofInt IntKind.u64.bits 1).isLt
  have hne : (BitVec.ofInt IntKind.u64.bits x ||| BitVec.ofInt IntKind.u64.bits 1).toNat ≠ 0 := by
    intro e
    rw [BitVec.toNat_or] at e
    have h2 := Nat.or_eq_zero_iff.1 e
    have : (BitVec.ofInt IntKind.u64.bits 1).toNat = 1 := by decide
    omega
  generalize (BitVec.ofInt IntKind.u64.bits x ||| BitVec.ofInt IntKind.u64.bits 1).toNat = n at *
  have hb : (n : Int) < 18446744073709551616 := by
    have : (2 : Nat) ^ IntKind.u64.bits = 18446744073709551616 := by decide
    rw [this] at hlt; omega
  have e : IntKind.u64.wrap (n : Int) = n := IntWalk.u64_in _ (by omega)
  rw [e]
  exact ⟨⟨by omega, by omega⟩, by omega⟩
/-- The Ratio of a valid fraction. -/
def IsR (v : Value) : Prop := ∃ x : Int × Int, Fq x.1 x.2 ∧ v = RX x.1 x.2
set_option maxRecDepth 100000 in
theorem t_ratio (tb : Nat) : TpC 29 [.pointer (some ⟨tb, 0, none⟩)] tb (fun x : Int × Int => Fq x.1 x.2) (fun x => RX x.1 x.2) := by
  intro B Bm w ht
  refine Calls.mono (enterG Try.func29 m_Tape__Ratio.ok (args := [.pointer (some ⟨tb, 0, none⟩)]) (w0 := cut w tb) (T := kX (cut w tb).heap.size [.g (hK w tb B Bm)]) (R := fun v X => (IsR) v ∧ X = kX (cut w tb).heap.size [.g (hK w tb B Bm)]) (by simp) (below_cut (Nat.le_of_lt ht.lt)) (hK_start ht).1 (kX_stab (Sx.cx _ (cut w tb) _) _) (hK_start ht).2 ?run) ?fin; have hk := tpk_h' ht
  case fin =>
    rintro e w' ⟨v, X, rfl, ⟨⟨x, hx, rfl⟩, rfl⟩, hX, hb, -⟩
    obtain ⟨h1, h2⟩ := hK_end hX (List.mem_singleton.2 rfl) hb
    exact ⟨x, hx, rfl, h1, h2⟩
  case run =>
    try dsimp only
    repeat' (first | simp (disch := omega) only [sxE, m_Tape__Ratio.E, Nat.reduceAdd, Nat.reduceEqDiff, Nat.reduceMul, Nat.reduceSub, Int.reduceAdd, Int.reduceSub, Int.reduceMul, Int.reduceNeg, Int.reduceLT, Int.reduceLE, Int.reduceEq, Int.reduceToNat, ↓reduceIte, Int.reducePow, Nat.reduceLeDiff, Nat.reduceLT, ne_eq, eq_self, List.length_cons, List.length_nil, qxE])
    refine asks_tc rfl (hk) (t_next tb (by decide) (by decide)) en_m_Tape__Next rfl (by first | exact List.mem_singleton.2 rfl | simp) rfl (by first | exact fun j hj => .inl (List.mem_singleton.1 hj) | simp) ?_
    intro r1 ⟨a1, a2⟩
    have i1 : I64 (r1 - 100) := ⟨by omega, by omega⟩
    repeat' (first | simp (disch := omega) only [sxE, m_Tape__Ratio.E, Nat.reduceAdd, Nat.reduceEqDiff, Nat.reduceMul, Nat.reduceSub, Int.reduceAdd, Int.reduceSub, Int.reduceMul, Int.reduceNeg, Int.reduceLT, Int.reduceLE, Int.reduceEq, Int.reduceToNat, ↓reduceIte, Int.reducePow, Nat.reduceLeDiff, Nat.reduceLT, ne_eq, eq_self, List.length_cons, List.length_nil, qxE] | (with_reducible refine Sx.call_at (f := 20) (fun W hW => rx_of i1 W) ?_))
    refine asks_tc rfl (hk) (t_next tb (by decide) (by decide)) en_m_Tape__Next rfl (by first | exact List.mem_singleton.2 rfl | simp) rfl (by first | exact fun j hj => .inl (List.mem_singleton.1 hj) | simp) ?_
    intro r2 ⟨b1, b2⟩
    have i2 : I64 (1 + r2) := ⟨by omega, by omega⟩
    have f1 := (bd_i64 i1).fits
    have f2 := (bd_i64 i2).fits
    repeat' (first | simp (disch := omega) only [sxE, m_Tape__Ratio.E, Nat.reduceAdd, Nat.reduceEqDiff, Nat.reduceMul, Nat.reduceSub, Int.reduceAdd, Int.reduceSub, Int.reduceMul, Int.reduceNeg, Int.reduceLT, Int.reduceLE, Int.reduceEq, Int.reduceToNat, ↓reduceIte, Int.reducePow, Nat.reduceLeDiff, Nat.reduceLT, ne_eq, eq_self, List.length_cons, List.length_nil, qxE] | (with_reducible refine Sx.call_at (f := 20) (fun W hW => rx_of i2 W) ?_))
    have bN := bd_i64 i1
    have bD := bd_i64 i2
    have dne : 1 + r2 ≠ 0 := by omega
    refine asks_tc rfl (hk) (t_bool tb (by decide) (by decide)) en_m_Tape__Bool rfl (by first | exact List.mem_singleton.2 rfl | simp) rfl (by first | exact fun j hj => .inl (List.mem_singleton.1 hj) | simp) ?_
    rintro (_ | _) -
    case' true =>
      repeat' (first | simp (disch := omega) only [sxE, m_Tape__Ratio.E, Nat.reduceAdd, Nat.reduceEqDiff, Nat.reduceMul, Nat.reduceSub, Int.reduceAdd, Int.reduceSub, Int.reduceMul, Int.reduceNeg, Int.reduceLT, Int.reduceLE, Int.reduceEq, Int.reduceToNat, ↓reduceIte, Int.reducePow, Nat.reduceLeDiff, Nat.reduceLT, ne_eq, eq_self, List.length_cons, List.length_nil, qxE])
      refine asks_tc rfl (hk) (t_int tb) en_m_Tape__Int rfl (by first | exact List.mem_singleton.2 rfl | simp) rfl (by first | exact fun j hj => .inl (List.mem_singleton.1 hj) | simp) ?_
      intro z hz
      clear bN bD dne i1 i2 f1 f2 a1 a2 b1 b2
      repeat' (first | simp (disch := omega) only [sxE, m_Tape__Ratio.E, Nat.reduceAdd, Nat.reduceEqDiff, Nat.reduceMul, Nat.reduceSub, Int.reduceAdd, Int.reduceSub, Int.reduceMul, Int.reduceNeg, Int.reduceLT, Int.reduceLE, Int.reduceEq, Int.reduceToNat, ↓reduceIte, Int.reducePow, Nat.reduceLeDiff, Nat.reduceLT, ne_eq, eq_self, List.length_cons, List.length_nil, qxE] | (with_reducible refine Sx.call_at (f := 20) (fun W hW => rx_of hz W) ?_))
      refine asks_tc rfl (hk) (t_word tb) en_m_Tape__Word rfl (by first | exact List.mem_singleton.2 rfl | simp) rfl (by first | exact fun j hj => .inl (List.mem_singleton.1 hj) | simp) ?_
      intro y hy
      obtain ⟨o1, o2⟩ := or_one hy
      have bN := bd_i64 hz
      have bD := bd_u64 o1
      have dne := o2
      have i1 : True := trivial
      have i2 : True := trivial
      have a1 : True := trivial
      have a2 : True := trivial
      have b1 : True := trivial
      have b2 : True := trivial
      have f1 := bN.fits
      have f2 := bD.fits
      repeat' (first | simp (disch := omega) only [sxE, m_Tape__Ratio.E, Nat.reduceAdd, Nat.reduceEqDiff, Nat.reduceMul, Nat.reduceSub, Int.reduceAdd, Int.reduceSub, Int.reduceMul, Int.reduceNeg, Int.reduceLT, Int.reduceLE, Int.reduceEq, Int.reduceToNat, ↓reduceIte, Int.reducePow, Nat.reduceLeDiff, Nat.reduceLT, ne_eq, eq_self, List.length_cons, List.length_nil, qxE])
      generalize IntKind.u64.wrap (BitVec.ofInt IntKind.u64.bits y ||| BitVec.ofInt IntKind.u64.bits 1).toNat = D at *
      repeat' (first | simp (disch := omega) only [sxE, m_Tape__Ratio.E, Nat.reduceAdd, Nat.reduceEqDiff, Nat.reduceMul, Nat.reduceSub, Int.reduceAdd, Int.reduceSub, Int.reduceMul, Int.reduceNeg, Int.reduceLT, Int.reduceLE, Int.reduceEq, Int.reduceToNat, ↓reduceIte, Int.reducePow, Nat.reduceLeDiff, Nat.reduceLT, ne_eq, eq_self, List.length_cons, List.length_nil, qxE] | (with_reducible refine Sx.call_at (f := 58) (fun W hW => rx_ofU o1 W) ?_))
    case' false =>
      repeat' (first | simp (disch := omega) only [sxE, m_Tape__Ratio.E, Nat.reduceAdd, Nat.reduceEqDiff, Nat.reduceMul, Nat.reduceSub, Int.reduceAdd, Int.reduceSub, Int.reduceMul, Int.reduceNeg, Int.reduceLT, Int.reduceLE, Int.reduceEq, Int.reduceToNat, ↓reduceIte, Int.reducePow, Nat.reduceLeDiff, Nat.reduceLT, ne_eq, eq_self, List.length_cons, List.length_nil, qxE])
    all_goals
      clear i1 i2 a1 a2 b1 b2
      refine asks_tc rfl (hk) (t_bool tb (by decide) (by decide)) en_m_Tape__Bool rfl (by first | exact List.mem_singleton.2 rfl | simp) rfl (by first | exact fun j hj => .inl (List.mem_singleton.1 hj) | simp) ?_
      rintro (_ | _) -
      case' true =>
        have i62 : I64 4611686018427387904 := ⟨by decide, by decide⟩
        have f3 := (bd_mul bN (bd_i64 i62)).fits
        have f62 := (bd_i64 i62).fits
        repeat' (first | simp (disch := omega) only [sxE, m_Tape__Ratio.E, Nat.reduceAdd, Nat.reduceEqDiff, Nat.reduceMul, Nat.reduceSub, Int.reduceAdd, Int.reduceSub, Int.reduceMul, Int.reduceNeg, Int.reduceLT, Int.reduceLE, Int.reduceEq, Int.reduceToNat, ↓reduceIte, Int.reducePow, Nat.reduceLeDiff, Nat.reduceLT, ne_eq, eq_self, List.length_cons, List.length_nil, qxE] | (with_reducible refine Sx.call_at (f := 20) (fun W hW => rx_of i62 W) ?_) | (with_reducible refine Sx.call_at (f := 57) (fun W hW => rx_mul f1 f62 f3 W) ?_))
        clear f1 bN i62 f62
        have f1 := f3
        clear f3
        have bN := True.intro
      case' false =>
        repeat' (first | simp (disch := omega) only [sxE, m_Tape__Ratio.E, Nat.reduceAdd, Nat.reduceEqDiff, Nat.reduceMul, Nat.reduceSub, Int.reduceAdd, Int.reduceSub, Int.reduceMul, Int.reduceNeg, Int.reduceLT, Int.reduceLE, Int.reduceEq, Int.reduceToNat, ↓reduceIte, Int.reducePow, Nat.reduceLeDiff, Nat.reduceLT, ne_eq, eq_self, List.length_cons, List.length_nil, qxE])
      all_goals
        clear bN
        have mk1 := fun W => rx_rmake f1.rw f2.rw W
        rcases mkV_cases (b := true && true) with ⟨hm, e⟩ | ⟨hm, e⟩
        · rw [e] at mk1
          have hq := mok_fq hm
          clear e hm
          repeat' (first | simp (disch := omega) only [sxE, m_Tape__Ratio.E, Nat.reduceAdd, Nat.reduceEqDiff, Nat.reduceMul, Nat.reduceSub, Int.reduceAdd, Int.reduceSub, Int.reduceMul, Int.reduceNeg, Int.reduceLT, Int.reduceLE, Int.reduceEq, Int.reduceToNat, ↓reduceIte, Int.reducePow, Nat.reduceLeDiff, Nat.reduceLT, ne_eq, eq_self, List.length_cons, List.length_nil, qxE] | (with_reducible refine Sx.call_at (f := 81) (fun W hW => mk1 W) ?_))
          exact ⟨(_, _), hq, rfl⟩
        · rw [e] at mk1
          clear e hm
          repeat' (first | simp (disch := omega) only [sxE, m_Tape__Ratio.E, Nat.reduceAdd, Nat.reduceEqDiff, Nat.reduceMul, Nat.reduceSub, Int.reduceAdd, Int.reduceSub, Int.reduceMul, Int.reduceNeg, Int.reduceLT, Int.reduceLE, Int.reduceEq, Int.reduceToNat, ↓reduceIte, Int.reducePow, Nat.reduceLeDiff, Nat.reduceLT, ne_eq, eq_self, List.length_cons, List.length_nil, qxE] | (with_reducible refine Sx.call_at (f := 81) (fun W hW => mk1 W) ?_) | (with_reducible refine Sx.call_at (f := 82) (fun W hW => rx_rof i64_one W) ?_))
          exact ⟨(1, 1), fq_int (bd_le bd_one (by decide)), rfl⟩
end Go.Proofs.Ytncmmbacoknefaa

/- Rw: Make on atoms; raw Wides and Ratios as arguments. -/
namespace Go.Proofs.Ytncmmbacoknefaa
open Go Go.RowKit Sx
set_option linter.unusedVariables false
set_option linter.unusedSimpArgs false
/-- The given code of an equality of Wides or of Ratios; for the run. -/
theorem gx_make {z y : Int} (h : Fits z) (h' : Fits y) (W : World) : Gives Try.prog 110 [WX z, WX y] W (· = mkV true z y) := gx_rmake h.rw h'.rw W
theorem mkV_yes {z y : Int} (h : mok true z y = true) : mkV true z y = .tuple #[RX (mn z y) (mD z y), .bool true] := by unfold mkV; rw [if_pos h]
theorem fits_i64 {x : Int} (h : I64 x) : Fits x := (bd_i64 h).fits
theorem i64n (n : Int) (h : -1000000 ≤ n ∧ n ≤ 1000000) : I64 n := ⟨by omega, by omega⟩
theorem bb_self (b : Bool) : (b == b) = true := by cases b <;> rfl
theorem rw_cq {c0 c1 c2 c3 c4 d0 d1 d2 d3 d4 : Value} {t t' : Bool} {z y : Int} (h : RW (.agg #[c0, c1, c2, c3, c4]) t z) (h' : RW (.agg #[d0, d1, d2, d3, d4]) t' y) : ∃ p q, CQ (.agg #[c0, c1, c2, c3, c4, d0, d1, d2, d3, d4]) p q := by
  rcases h with ⟨-, e, h⟩ | ⟨-, e, -⟩ <;> rcases h' with ⟨-, e', h'⟩ | ⟨-, e', -⟩
  · cases e; cases e'
    exact ⟨_, _, .inl ⟨z, y, h, h', rfl, rfl, rfl⟩⟩
  · cases e; cases e'
    exact ⟨0, 1, .inr ⟨.inr (.inl ⟨z, h, rfl⟩), rfl, rfl⟩⟩
  · cases e; cases e'
    exact ⟨0, 1, .inr ⟨.inl ⟨y, h', rfl⟩, rfl, rfl⟩⟩
  · cases e; cases e'
    exact ⟨0, 1, .inr ⟨.inr (.inr rfl), rfl, rfl⟩⟩
theorem cq_raw (n n' : Bool) {a b c d a' b' c' d' : Int} (ha : U64 a) (hb : U64 b) (hc : U64 c) (hd : U64 d) (ha' : U64 a') (hb' : U64 b') (hc' : U64 c') (hd' : U64 d') :
    ∃ p q, CQ (.agg #[.bool n, .int .u64 a, .int .u64 b, .int .u64 c, .int .u64 d, .bool n', .int .u64 a', .int .u64 b', .int .u64 c', .int .u64 d']) p q := by
  obtain ⟨t, z, h⟩ := rw_raw n ha hb hc hd
  obtain ⟨t', y, h'⟩ := rw_raw n' ha' hb' hc' hd'
  exact rw_cq h h'
end Go.Proofs.Ytncmmbacoknefaa

/- CdK: MADE BY PROGRAM (sxgen.py): the small code of some functions, points of it and their equations. -/
namespace Go.Proofs.Ytncmmbacoknefaa
open Go Go.RowKit Sx
set_option linter.unusedVariables false
variable (C : Cx) (R L1 L2 L3 L4 : St → Prop)
namespace cone_Start
def r0 : List G := [(some 0, none, (.new [(.bool false), (.bool false), (.int .u64 0), (.int .u64 0), (.int .u64 0), (.int .u64 0), (.bool false), (.int .u64 0), (.int .u64 0), (.int .u64 0), (.int .u64 0), (.bool false), (.int .u64 0), (.int .u64 0), (.int .u64 0), (.int .u64 0), (.bool false), (.int .u64 0), (.int .u64 0), (.int .u64 0), (.int .u64 0)]))]
def r1 : List G := [(some 1, none, (.bd [(.bool false), (.bool false), (.int .u64 0), (.int .u64 0), (.int .u64 0), (.int .u64 0), (.bool false), (.int .u64 0), (.int .u64 0), (.int .u64 0), (.int .u64 0), (.bool false), (.int .u64 0), (.int .u64 0), (.int .u64 0), (.int .u64 0), (.bool false), (.int .u64 0), (.int .u64 0), (.int .u64 0), (.int .u64 0)] [(0, 1, (.const (.bool true)))])), (none, none, (.st true 21 (.tmp 0) (.tmp 1)))]
def c : MC := (.seq (.reg r0 (some [0])) (.seq (.reg r1 (some [0])) .ret))
def ann : Ann := [(0, (some [0], 0, [], [], [])), (1, (some [0], 0, [], [], []))]
theorem ok : compF Try.prog Try.f49 ann = some (2, c, [(0, some (true, 21))]) := by kernel_rfl
def p1 (S : St) : Prop := ops C r1 (kq [0] R) S
def p2 (S : St) : Prop := ops C r0 (kq [0] (p1 C R)) S
theorem s (S : St) : X C c (retK R) S = p2 C R S := by kernel_rfl
theorem E : type_of% @r1.eq_1 ∧ type_of% @p1.eq_1 ∧ type_of% @r0.eq_1 ∧ type_of% @p2.eq_1 ∧ type_of% @s := ⟨@r1.eq_1, @p1.eq_1, @r0.eq_1, @p2.eq_1, @s⟩
end cone_Start
namespace cone_Valid
def r0 : List G := [(some 1, none, (.box true 21 (.tmp 0))), (some 2, none, (.mv (.const (.bool false))))]
def r1 : List G := [(some 3, none, (.fa 0 (.tmp 1))), (some 4, none, (.ld false 1 (.tmp 3)))]
def r2 : List G := [(some 5, none, (.ld true 21 (.tmp 1))), (some 6, none, (.call true 49 [])), (some 7, none, (.eqg false 76 (.tmp 5) (.tmp 6)))]
def t2 : List G := [(some 2, none, (.mv (.tmp 7)))]
def r3 : List G := [(some 8, none, (.fa 1 (.tmp 1))), (some 9, none, (.ld true 10 (.tmp 8))), (some 10, none, (.call false 115 [(.tmp 9)])), (some 11, none, (.mv (.tmp 10))), (some 12, some (11, true), (.fa 11 (.tmp 1))), (some 13, some (11, true), (.ld true 10 (.tmp 12))), (some 14, some (11, true), (.call false 115 [(.tmp 13)])), (some 15, none, (.pick (.tmp 11) (.tmp 14) (.const (.bool false)))), (some 16, none, (.mv (.tmp 15))), (some 17, some (16, true), (.fa 1 (.tmp 1))), (some 18, some (16, true), (.ld true 10 (.tmp 17))), (some 19, some (16, true), (.fa 11 (.tmp 1))), (some 20, some (16, true), (.ld true 10 (.tmp 19))), (some 21, some (16, true), (.call false 116 [(.tmp 18), (.tmp 20)])), (some 22, some (16, true), (.bin .leq (.tmp 21) (.const (.int .i64 0)))), (some 23, none, (.pick (.tmp 16) (.tmp 22) (.const (.bool false)))), (some 2, none, (.mv (.tmp 23)))]
def c : MC := (.seq (.reg r0 (some [1])) (.seq (.seq (.reg r1 (some [1, 4])) (.cond (.tmp 4) (.seq (.dreg r2 t2 (some [2])) .ret) .skip)) (.seq (.reg r3 (some [2])) .ret)))
def ann : Ann := [(0, (some [1], 0, [], [], [])), (1, (some [1, 4], 0, [], [], [])), (2, (some [2], 3, [], [(0, 0), (1, 0), (2, 0)], [])), (3, (some [2], 0, [], [], []))]
theorem ok : compF Try.prog Try.f101 ann = some (24, c, [(2, none)]) := by kernel_rfl
def p1 (S : St) : Prop := ops C r3 (kq [2] R) S
def p3 (S : St) : Prop := ops C r2 (ops C t2 (kq [2] R)) S
def p2 (S : St) : Prop := condX (S.ev (.tmp 4)) (p3 C R) (p1 C R) S
def p4 (S : St) : Prop := ops C r1 (kq [1, 4] (p2 C R)) S
def p5 (S : St) : Prop := ops C r0 (kq [1] (p4 C R)) S
theorem s (S : St) : X C c (retK R) S = p5 C R S := by kernel_rfl
theorem E : type_of% @r3.eq_1 ∧ type_of% @p1.eq_1 ∧ type_of% @r2.eq_1 ∧ type_of% @t2.eq_1 ∧ type_of% @p3.eq_1 ∧ type_of% @p2.eq_1 ∧ type_of% @r1.eq_1 ∧ type_of% @p4.eq_1 ∧ type_of% @r0.eq_1 ∧ type_of% @p5.eq_1 ∧ type_of% @s := ⟨@r3.eq_1, @p1.eq_1, @r2.eq_1, @t2.eq_1, @p3.eq_1, @p2.eq_1, @r1.eq_1, @p4.eq_1, @r0.eq_1, @p5.eq_1, @s⟩
end cone_Valid
namespace cone_Through
def r0 : List G := [(some 4, none, (.box true 5 (.tmp 0))), (some 8, none, (.new [(.bool false), (.bool false), (.int .u64 0), (.int .u64 0), (.int .u64 0), (.int .u64 0), (.bool false), (.int .u64 0), (.int .u64 0), (.int .u64 0), (.int .u64 0), (.bool false), (.int .u64 0), (.int .u64 0), (.int .u64 0), (.int .u64 0), (.bool false), (.int .u64 0), (.int .u64 0), (.int .u64 0), (.int .u64 0)])), (some 9, none, (.mv (.const (.bool false))))]
def r1 : List G := [(some 20, none, (.ld true 5 (.tmp 4))), (some 21, none, (.call false 107 [(.tmp 20)])), (some 22, none, (.un .not (.tmp 21))), (some 23, none, (.mv (.tmp 22))), (some 24, some (23, false), (.fa 1 (.tmp 4))), (some 25, some (23, false), (.ia 4 1 (.tmp 24) (.const (.int .i64 3)))), (some 26, some (23, false), (.ld false 1 (.tmp 25))), (some 27, some (23, false), (.bin .neq (.tmp 26) (.const (.int .u64 0)))), (some 28, none, (.pick (.tmp 23) (.const (.bool true)) (.tmp 27))), (some 29, none, (.mv (.tmp 28))), (some 30, some (29, false), (.fa 1 (.tmp 4))), (some 31, some (29, false), (.ia 4 1 (.tmp 30) (.const (.int .i64 2)))), (some 32, some (29, false), (.ld false 1 (.tmp 31))), (some 33, some (29, false), (.bin .neq (.tmp 32) (.const (.int .u64 0)))), (some 34, none, (.pick (.tmp 29) (.const (.bool true)) (.tmp 33))), (some 35, none, (.mv (.tmp 34))), (some 36, some (35, false), (.fa 1 (.tmp 4))), (some 37, some (35, false), (.ia 4 1 (.tmp 36) (.const (.int .i64 1)))), (some 38, some (35, false), (.ld false 1 (.tmp 37))), (some 39, some (35, false), (.bin .geq (.tmp 38) (.const (.int .u64 4)))), (some 40, none, (.pick (.tmp 35) (.const (.bool true)) (.tmp 39))), (some 41, none, (.mv (.tmp 40))), (some 42, some (41, false), (.mv (.tmp 2))), (some 43, some (41, false), (.bin .lss (.tmp 42) (.const (.int .i64 0)))), (some 44, none, (.pick (.tmp 41) (.const (.bool true)) (.tmp 43))), (some 45, none, (.mv (.tmp 44))), (some 46, some (45, false), (.mv (.tmp 2))), (some 47, some (45, false), (.bin .gtr (.tmp 46) (.const (.int .i64 4611686018427387904)))), (some 48, none, (.pick (.tmp 45) (.const (.bool true)) (.tmp 47))), (some 49, none, (.mv (.tmp 48))), (some 50, some (49, false), (.mv (.tmp 3))), (some 51, some (49, false), (.bin .eql (.tmp 50) (.const (.int .u64 0)))), (some 52, none, (.pick (.tmp 49) (.const (.bool true)) (.tmp 51)))]
def r2 : List G := [(some 53, none, (.bd [(.bool false), (.bool false), (.int .u64 0), (.int .u64 0), (.int .u64 0), (.int .u64 0), (.bool false), (.int .u64 0), (.int .u64 0), (.int .u64 0), (.int .u64 0), (.bool false), (.int .u64 0), (.int .u64 0), (.int .u64 0), (.int .u64 0), (.bool false), (.int .u64 0), (.int .u64 0), (.int .u64 0), (.int .u64 0)] [])), (none, none, (.st true 21 (.tmp 8) (.tmp 53))), (some 9, none, (.mv (.const (.bool false))))]
def r3 : List G := [(some 55, none, (.mv (.tmp 1))), (some 56, none, (.call true 109 [(.tmp 55)])), (some 57, none, (.ld true 5 (.tmp 4))), (some 58, none, (.call true 108 [(.tmp 56), (.tmp 57)])), (some 54, none, (.mv (.tmp 58))), (some 59, none, (.ex (.tmp 54) 0)), (some 60, none, (.ex (.tmp 54) 1))]
def t3 : List G := [(some 10, none, (.new zW)), (none, none, (.st true 5 (.tmp 10) (.tmp 59))), (some 11, none, (.mv (.tmp 60)))]
def r4 : List G := [(some 62, none, (.ld true 5 (.tmp 10))), (some 63, none, (.mv (.tmp 2))), (some 64, none, (.call true 109 [(.tmp 63)])), (some 65, none, (.call true 108 [(.tmp 62), (.tmp 64)])), (some 61, none, (.mv (.tmp 65))), (some 66, none, (.ex (.tmp 61) 0)), (some 67, none, (.ex (.tmp 61) 1))]
def t4 : List G := [(some 12, none, (.new zW)), (none, none, (.st true 5 (.tmp 12) (.tmp 66))), (some 13, none, (.mv (.tmp 67)))]
def r5 : List G := [(some 69, none, (.ld true 5 (.tmp 10))), (some 70, none, (.mv (.tmp 2))), (some 71, none, (.call true 109 [(.tmp 70)])), (some 72, none, (.call true 84 [(.tmp 69), (.tmp 71)])), (some 68, none, (.mv (.tmp 72))), (some 73, none, (.ex (.tmp 68) 0)), (some 74, none, (.ex (.tmp 68) 1))]
def t5 : List G := [(some 14, none, (.new zW)), (none, none, (.st true 5 (.tmp 14) (.tmp 73))), (some 15, none, (.mv (.tmp 74)))]
def r6 : List G := [(some 76, none, (.ld true 5 (.tmp 12))), (some 77, none, (.mv (.tmp 3))), (some 78, none, (.call true 111 [(.tmp 77)])), (some 79, none, (.call true 110 [(.tmp 76), (.tmp 78)])), (some 75, none, (.mv (.tmp 79))), (some 80, none, (.ex (.tmp 75) 0)), (some 81, none, (.ex (.tmp 75) 1))]
def t6 : List G := [(some 16, none, (.new zR)), (none, none, (.st true 10 (.tmp 16) (.tmp 80))), (some 17, none, (.mv (.tmp 81)))]
def r7 : List G := [(some 83, none, (.ld true 5 (.tmp 14))), (some 84, none, (.mv (.tmp 3))), (some 85, none, (.call true 111 [(.tmp 84)])), (some 86, none, (.call true 110 [(.tmp 83), (.tmp 85)])), (some 82, none, (.mv (.tmp 86))), (some 87, none, (.ex (.tmp 82) 0)), (some 88, none, (.ex (.tmp 82) 1))]
def t7 : List G := [(some 18, none, (.new zR)), (none, none, (.st true 10 (.tmp 18) (.tmp 87))), (some 19, none, (.mv (.tmp 88)))]
def r8 : List G := [(some 89, none, (.ld true 10 (.tmp 16))), (some 90, none, (.ld true 10 (.tmp 18))), (some 91, none, (.bd [(.bool false), (.bool false), (.int .u64 0), (.int .u64 0), (.int .u64 0), (.int .u64 0), (.bool false), (.int .u64 0), (.int .u64 0), (.int .u64 0), (.int .u64 0), (.bool false), (.int .u64 0), (.int .u64 0), (.int .u64 0), (.int .u64 0), (.bool false), (.int .u64 0), (.int .u64 0), (.int .u64 0), (.int .u64 0)] [(1, 10, (.tmp 89)), (11, 10, (.tmp 90))])), (none, none, (.st true 21 (.tmp 8) (.tmp 91))), (some 9, none, (.mv (.const (.bool true))))]
def c : MC := (.seq (.reg r0 (some [1, 2, 3, 4, 8])) (.seq (.seq (.reg r1 (some [1, 2, 3, 4, 8, 52])) (.cond (.tmp 52) (.seq (.reg r2 (some [8, 9])) .ret) .skip)) (.seq (.dreg r3 t3 (some [2, 3, 8, 10])) (.seq (.dreg r4 t4 (some [2, 3, 8, 10, 12])) (.seq (.dreg r5 t5 (some [3, 8, 12, 14])) (.seq (.dreg r6 t6 (some [3, 8, 14, 16])) (.seq (.dreg r7 t7 (some [8, 16, 18])) (.seq (.reg r8 (some [8, 9])) .ret))))))))
def ann : Ann := [(0, (some [1, 2, 3, 4, 8], 0, [], [], [])), (1, (some [1, 2, 3, 4, 8, 52], 0, [], [], [])), (2, (some [8, 9], 0, [], [], [])), (3, (some [2, 3, 8, 10], 8, [6], [(0, 0), (1, 0), (2, 0), (3, 0), (4, 0), (5, 0), (6, 2)], [7])), (4, (some [2, 3, 8, 10, 12], 8, [6], [(0, 0), (1, 0), (2, 0), (3, 0), (4, 0), (5, 0), (6, 2)], [7])), (5, (some [3, 8, 12, 14], 8, [6], [(0, 0), (1, 0), (2, 0), (3, 0), (4, 0), (5, 0), (6, 2)], [7])), (6, (some [3, 8, 14, 16], 8, [6], [(0, 0), (1, 0), (2, 0), (3, 0), (4, 0), (5, 0), (6, 2)], [7])), (7, (some [8, 16, 18], 8, [6], [(0, 0), (1, 0), (2, 0), (3, 0), (4, 0), (5, 0), (6, 2)], [7])), (8, (some [8, 9], 0, [], [], []))]
theorem ok : compF Try.prog Try.f55 ann = some (92, c, [(8, some (true, 21)), (9, none)]) := by kernel_rfl
def p1 (S : St) : Prop := ops C r8 (kq [8, 9] R) S
def p2 (S : St) : Prop := ops C r7 (ops C t7 (kq [8, 16, 18] (p1 C R))) S
def p3 (S : St) : Prop := ops C r6 (ops C t6 (kq [3, 8, 14, 16] (p2 C R))) S
def p4 (S : St) : Prop := ops C r5 (ops C t5 (kq [3, 8, 12, 14] (p3 C R))) S
def p5 (S : St) : Prop := ops C r4 (ops C t4 (kq [2, 3, 8, 10, 12] (p4 C R))) S
def p6 (S : St) : Prop := ops C r3 (ops C t3 (kq [2, 3, 8, 10] (p5 C R))) S
def p8 (S : St) : Prop := ops C r2 (kq [8, 9] R) S
def p7 (S : St) : Prop := condX (S.ev (.tmp 52)) (p8 C R) (p6 C R) S
def p9 (S : St) : Prop := ops C r1 (kq [1, 2, 3, 4, 8, 52] (p7 C R)) S
def p10 (S : St) : Prop := ops C r0 (kq [1, 2, 3, 4, 8] (p9 C R)) S
theorem s (S : St) : X C c (retK R) S = p10 C R S := by kernel_rfl
theorem E : type_of% @r8.eq_1 ∧ type_of% @p1.eq_1 ∧ type_of% @r7.eq_1 ∧ type_of% @t7.eq_1 ∧ type_of% @p2.eq_1 ∧ type_of% @r6.eq_1 ∧ type_of% @t6.eq_1 ∧ type_of% @p3.eq_1 ∧ type_of% @r5.eq_1 ∧ type_of% @t5.eq_1 ∧ type_of% @p4.eq_1 ∧ type_of% @r4.eq_1 ∧ type_of% @t4.eq_1 ∧ type_of% @p5.eq_1 ∧ type_of% @r3.eq_1 ∧ type_of% @t3.eq_1 ∧ type_of% @p6.eq_1 ∧ type_of% @r2.eq_1 ∧ type_of% @p8.eq_1 ∧ type_of% @p7.eq_1 ∧ type_of% @r1.eq_1 ∧ type_of% @p9.eq_1 ∧ type_of% @r0.eq_1 ∧ type_of% @p10.eq_1 ∧ type_of% @s := ⟨@r8.eq_1, @p1.eq_1, @r7.eq_1, @t7.eq_1, @p2.eq_1, @r6.eq_1, @t6.eq_1, @p3.eq_1, @r5.eq_1, @t5.eq_1, @p4.eq_1, @r4.eq_1, @t4.eq_1, @p5.eq_1, @r3.eq_1, @t3.eq_1, @p6.eq_1, @r2.eq_1, @p8.eq_1, @p7.eq_1, @r1.eq_1, @p9.eq_1, @r0.eq_1, @p10.eq_1, @s⟩
end cone_Through
namespace cone_Meet
def r0 : List G := [(some 2, none, (.box true 21 (.tmp 0))), (some 3, none, (.box true 21 (.tmp 1))), (some 4, none, (.new [(.bool false), (.bool false), (.int .u64 0), (.int .u64 0), (.int .u64 0), (.int .u64 0), (.bool false), (.int .u64 0), (.int .u64 0), (.int .u64 0), (.int .u64 0), (.bool false), (.int .u64 0), (.int .u64 0), (.int .u64 0), (.int .u64 0), (.bool false), (.int .u64 0), (.int .u64 0), (.int .u64 0), (.int .u64 0)])), (some 5, none, (.mv (.const (.bool false))))]
def r1 : List G := [(some 7, none, (.ld true 21 (.tmp 2))), (some 8, none, (.call false 101 [(.tmp 7)])), (some 9, none, (.un .not (.tmp 8))), (some 10, none, (.mv (.tmp 9))), (some 11, some (10, false), (.ld true 21 (.tmp 3))), (some 12, some (10, false), (.call false 101 [(.tmp 11)])), (some 13, some (10, false), (.un .not (.tmp 12))), (some 14, none, (.pick (.tmp 10) (.const (.bool true)) (.tmp 13))), (some 6, none, (.mv (.tmp 14)))]
def r2 : List G := [(some 15, none, (.bd [(.bool false), (.bool false), (.int .u64 0), (.int .u64 0), (.int .u64 0), (.int .u64 0), (.bool false), (.int .u64 0), (.int .u64 0), (.int .u64 0), (.int .u64 0), (.bool false), (.int .u64 0), (.int .u64 0), (.int .u64 0), (.int .u64 0), (.bool false), (.int .u64 0), (.int .u64 0), (.int .u64 0), (.int .u64 0)] [])), (none, none, (.st true 21 (.tmp 4) (.tmp 15))), (some 5, none, (.mv (.const (.bool false))))]
def r3 : List G := [(some 17, none, (.fa 0 (.tmp 2))), (some 18, none, (.ld false 1 (.tmp 17))), (some 16, none, (.mv (.tmp 18)))]
def r4 : List G := [(some 19, none, (.ld true 21 (.tmp 3))), (none, none, (.st true 21 (.tmp 4) (.tmp 19))), (some 5, none, (.mv (.const (.bool true))))]
def r5 : List G := [(some 21, none, (.fa 0 (.tmp 3))), (some 22, none, (.ld false 1 (.tmp 21))), (some 20, none, (.mv (.tmp 22)))]
def r6 : List G := [(some 23, none, (.ld true 21 (.tmp 2))), (none, none, (.st true 21 (.tmp 4) (.tmp 23))), (some 5, none, (.mv (.const (.bool true))))]
def r7 : List G := [(some 24, none, (.fa 1 (.tmp 3))), (some 25, none, (.ld true 10 (.tmp 24))), (some 26, none, (.fa 1 (.tmp 2))), (some 27, none, (.ld true 10 (.tmp 26))), (some 28, none, (.call false 116 [(.tmp 25), (.tmp 27)])), (some 29, none, (.bin .gtr (.tmp 28) (.const (.int .i64 0))))]
def r8 : List G := [(some 30, none, (.fa 1 (.tmp 3))), (some 31, none, (.ld true 10 (.tmp 30))), (some 32, none, (.fa 1 (.tmp 2))), (none, none, (.st true 10 (.tmp 32) (.tmp 31)))]
def r9 : List G := [(some 33, none, (.fa 11 (.tmp 3))), (some 34, none, (.ld true 10 (.tmp 33))), (some 35, none, (.fa 11 (.tmp 2))), (some 36, none, (.ld true 10 (.tmp 35))), (some 37, none, (.call false 116 [(.tmp 34), (.tmp 36)])), (some 38, none, (.bin .lss (.tmp 37) (.const (.int .i64 0))))]
def r10 : List G := [(some 39, none, (.fa 11 (.tmp 3))), (some 40, none, (.ld true 10 (.tmp 39))), (some 41, none, (.fa 11 (.tmp 2))), (none, none, (.st true 10 (.tmp 41) (.tmp 40)))]
def r11 : List G := [(some 42, none, (.fa 1 (.tmp 2))), (some 43, none, (.ld true 10 (.tmp 42))), (some 44, none, (.fa 11 (.tmp 2))), (some 45, none, (.ld true 10 (.tmp 44))), (some 46, none, (.call false 116 [(.tmp 43), (.tmp 45)])), (some 47, none, (.bin .gtr (.tmp 46) (.const (.int .i64 0))))]
def r12 : List G := [(some 48, none, (.bd [(.bool false), (.bool false), (.int .u64 0), (.int .u64 0), (.int .u64 0), (.int .u64 0), (.bool false), (.int .u64 0), (.int .u64 0), (.int .u64 0), (.int .u64 0), (.bool false), (.int .u64 0), (.int .u64 0), (.int .u64 0), (.int .u64 0), (.bool false), (.int .u64 0), (.int .u64 0), (.int .u64 0), (.int .u64 0)] [])), (none, none, (.st true 21 (.tmp 4) (.tmp 48))), (some 5, none, (.mv (.const (.bool false))))]
def r13 : List G := [(some 49, none, (.ld true 21 (.tmp 2))), (none, none, (.st true 21 (.tmp 4) (.tmp 49))), (some 5, none, (.mv (.const (.bool true))))]
def c : MC := (.seq (.reg r0 (some [2, 3, 4])) (.seq (.block 0 (.seq (.reg r1 (some [2, 3, 4, 6])) (.cond (.tmp 6) (.seq (.reg r2 (some [4, 5])) .ret) (.seq (.reg r3 (some [2, 3, 4, 16])) (.cond (.tmp 16) (.seq (.reg r4 (some [4, 5])) .ret) (.seq (.reg r5 (some [2, 3, 4, 20])) (.cond (.tmp 20) (.seq (.reg r6 (some [4, 5])) .ret) .skip))))))) (.seq (.seq (.reg r7 (some [2, 3, 4, 29])) (.cond (.tmp 29) (.reg r8 (some [2, 3, 4])) .skip)) (.seq (.seq (.reg r9 (some [2, 3, 4, 38])) (.cond (.tmp 38) (.reg r10 (some [2, 4])) .skip)) (.seq (.seq (.reg r11 (some [2, 4, 47])) (.cond (.tmp 47) (.seq (.reg r12 (some [4, 5])) .ret) .skip)) (.seq (.reg r13 (some [4, 5])) .ret))))))
def ann : Ann := [(0, (some [2, 3, 4], 0, [], [], [])), (1, (some [2, 3, 4, 6], 0, [], [], [])), (2, (some [4, 5], 0, [], [], [])), (3, (some [2, 3, 4, 16], 0, [], [], [])), (4, (some [4, 5], 0, [], [], [])), (5, (some [2, 3, 4, 20], 0, [], [], [])), (6, (some [4, 5], 0, [], [], [])), (7, (some [2, 3, 4, 29], 0, [], [], [])), (8, (some [2, 3, 4], 0, [], [], [])), (9, (some [2, 3, 4, 38], 0, [], [], [])), (10, (some [2, 4], 0, [], [], [])), (11, (some [2, 4, 47], 0, [], [], [])), (12, (some [4, 5], 0, [], [], [])), (13, (some [4, 5], 0, [], [], []))]
theorem ok : compF Try.prog Try.f60 ann = some (50, c, [(4, some (true, 21)), (5, none)]) := by kernel_rfl
def p1 (S : St) : Prop := ops C r13 (kq [4, 5] R) S
def p3 (S : St) : Prop := ops C r12 (kq [4, 5] R) S
def p2 (S : St) : Prop := condX (S.ev (.tmp 47)) (p3 C R) (p1 C R) S
def p4 (S : St) : Prop := ops C r11 (kq [2, 4, 47] (p2 C R)) S
def p6 (S : St) : Prop := ops C r10 (kq [2, 4] (p4 C R)) S
def p5 (S : St) : Prop := condX (S.ev (.tmp 38)) (p6 C R) (p4 C R) S
def p7 (S : St) : Prop := ops C r9 (kq [2, 3, 4, 38] (p5 C R)) S
def p9 (S : St) : Prop := ops C r8 (kq [2, 3, 4] (p7 C R)) S
def p8 (S : St) : Prop := condX (S.ev (.tmp 29)) (p9 C R) (p7 C R) S
def p10 (S : St) : Prop := ops C r7 (kq [2, 3, 4, 29] (p8 C R)) S
def p12 (S : St) : Prop := ops C r2 (kq [4, 5] R) S
def p14 (S : St) : Prop := ops C r4 (kq [4, 5] R) S
def p16 (S : St) : Prop := ops C r6 (kq [4, 5] R) S
def p15 (S : St) : Prop := condX (S.ev (.tmp 20)) (p16 C R) (p10 C R) S
def p17 (S : St) : Prop := ops C r5 (kq [2, 3, 4, 20] (p15 C R)) S
def p13 (S : St) : Prop := condX (S.ev (.tmp 16)) (p14 C R) (p17 C R) S
def p18 (S : St) : Prop := ops C r3 (kq [2, 3, 4, 16] (p13 C R)) S
def p11 (S : St) : Prop := condX (S.ev (.tmp 6)) (p12 C R) (p18 C R) S
def p19 (S : St) : Prop := ops C r1 (kq [2, 3, 4, 6] (p11 C R)) S
def p20 (S : St) : Prop := ops C r0 (kq [2, 3, 4] (p19 C R)) S
theorem s (S : St) : X C c (retK R) S = p20 C R S := by kernel_rfl
theorem E : type_of% @r13.eq_1 ∧ type_of% @p1.eq_1 ∧ type_of% @r12.eq_1 ∧ type_of% @p3.eq_1 ∧ type_of% @p2.eq_1 ∧ type_of% @r11.eq_1 ∧ type_of% @p4.eq_1 ∧ type_of% @r10.eq_1 ∧ type_of% @p6.eq_1 ∧ type_of% @p5.eq_1 ∧ type_of% @r9.eq_1 ∧ type_of% @p7.eq_1 ∧ type_of% @r8.eq_1 ∧ type_of% @p9.eq_1 ∧ type_of% @p8.eq_1 ∧ type_of% @r7.eq_1 ∧ type_of% @p10.eq_1 ∧ type_of% @r2.eq_1 ∧ type_of% @p12.eq_1 ∧ type_of% @r4.eq_1 ∧ type_of% @p14.eq_1 ∧ type_of% @r6.eq_1 ∧ type_of% @p16.eq_1 ∧ type_of% @p15.eq_1 ∧ type_of% @r5.eq_1 ∧ type_of% @p17.eq_1 ∧ type_of% @p13.eq_1 ∧ type_of% @r3.eq_1 ∧ type_of% @p18.eq_1 ∧ type_of% @p11.eq_1 ∧ type_of% @r1.eq_1 ∧ type_of% @p19.eq_1 ∧ type_of% @r0.eq_1 ∧ type_of% @p20.eq_1 ∧ type_of% @s := ⟨@r13.eq_1, @p1.eq_1, @r12.eq_1, @p3.eq_1, @p2.eq_1, @r11.eq_1, @p4.eq_1, @r10.eq_1, @p6.eq_1, @p5.eq_1, @r9.eq_1, @p7.eq_1, @r8.eq_1, @p9.eq_1, @p8.eq_1, @r7.eq_1, @p10.eq_1, @r2.eq_1, @p12.eq_1, @r4.eq_1, @p14.eq_1, @r6.eq_1, @p16.eq_1, @p15.eq_1, @r5.eq_1, @p17.eq_1, @p13.eq_1, @r3.eq_1, @p18.eq_1, @p11.eq_1, @r1.eq_1, @p19.eq_1, @r0.eq_1, @p20.eq_1, @s⟩
end cone_Meet
namespace cone_Contains
def r0 : List G := [(some 2, none, (.box true 21 (.tmp 0))), (some 3, none, (.box true 10 (.tmp 1))), (some 4, none, (.mv (.const (.bool false))))]
def r1 : List G := [(some 5, none, (.ld true 21 (.tmp 2))), (some 6, none, (.call false 101 [(.tmp 5)])), (some 7, none, (.un .not (.tmp 6))), (some 8, none, (.mv (.tmp 7))), (some 9, some (8, false), (.ld true 10 (.tmp 3))), (some 10, some (8, false), (.call false 115 [(.tmp 9)])), (some 11, some (8, false), (.un .not (.tmp 10))), (some 12, none, (.pick (.tmp 8) (.const (.bool true)) (.tmp 11)))]
def r2 : List G := [(some 4, none, (.mv (.const (.bool false))))]
def r3 : List G := [(some 13, none, (.fa 0 (.tmp 2))), (some 14, none, (.ld false 1 (.tmp 13))), (some 15, none, (.mv (.tmp 14))), (some 16, some (15, false), (.fa 1 (.tmp 2))), (some 17, some (15, false), (.ld true 10 (.tmp 16))), (some 18, some (15, false), (.ld true 10 (.tmp 3))), (some 19, some (15, false), (.call false 116 [(.tmp 17), (.tmp 18)])), (some 20, some (15, false), (.bin .leq (.tmp 19) (.const (.int .i64 0)))), (some 21, some (15, false), (.mv (.tmp 20))), (some 22, some (21, true), (.ld true 10 (.tmp 3))), (some 23, some (21, true), (.fa 11 (.tmp 2))), (some 24, some (21, true), (.ld true 10 (.tmp 23))), (some 25, some (21, true), (.call false 116 [(.tmp 22), (.tmp 24)])), (some 26, some (21, true), (.bin .leq (.tmp 25) (.const (.int .i64 0)))), (some 27, some (15, false), (.pick (.tmp 21) (.tmp 26) (.const (.bool false)))), (some 28, none, (.pick (.tmp 15) (.const (.bool true)) (.tmp 27))), (some 4, none, (.mv (.tmp 28)))]
def c : MC := (.seq (.reg r0 (some [2, 3])) (.seq (.seq (.reg r1 (some [2, 3, 12])) (.cond (.tmp 12) (.seq (.reg r2 (some [4])) .ret) .skip)) (.seq (.reg r3 (some [4])) .ret)))
def ann : Ann := [(0, (some [2, 3], 0, [], [], [])), (1, (some [2, 3, 12], 0, [], [], [])), (2, (some [4], 0, [], [], [])), (3, (some [4], 0, [], [], []))]
theorem ok : compF Try.prog Try.f59 ann = some (29, c, [(4, none)]) := by kernel_rfl
def p1 (S : St) : Prop := ops C r3 (kq [4] R) S
def p3 (S : St) : Prop := ops C r2 (kq [4] R) S
def p2 (S : St) : Prop := condX (S.ev (.tmp 12)) (p3 C R) (p1 C R) S
def p4 (S : St) : Prop := ops C r1 (kq [2, 3, 12] (p2 C R)) S
def p5 (S : St) : Prop := ops C r0 (kq [2, 3] (p4 C R)) S
theorem s (S : St) : X C c (retK R) S = p5 C R S := by kernel_rfl
theorem E : type_of% @r3.eq_1 ∧ type_of% @p1.eq_1 ∧ type_of% @r2.eq_1 ∧ type_of% @p3.eq_1 ∧ type_of% @p2.eq_1 ∧ type_of% @r1.eq_1 ∧ type_of% @p4.eq_1 ∧ type_of% @r0.eq_1 ∧ type_of% @p5.eq_1 ∧ type_of% @s := ⟨@r3.eq_1, @p1.eq_1, @r2.eq_1, @p3.eq_1, @p2.eq_1, @r1.eq_1, @p4.eq_1, @r0.eq_1, @p5.eq_1, @s⟩
end cone_Contains
namespace cone_Choose
def r0 : List G := [(some 1, none, (.box true 21 (.tmp 0))), (some 2, none, (.new zR))]
def r1 : List G := [(some 6, none, (.ld true 21 (.tmp 1))), (some 7, none, (.call false 101 [(.tmp 6)])), (some 8, none, (.un .not (.tmp 7))), (some 5, none, (.mv (.tmp 8)))]
def r2 : List G := [(some 9, none, (.bd zR [])), (none, none, (.st true 10 (.tmp 2) (.tmp 9)))]
def r3 : List G := [(some 11, none, (.fa 0 (.tmp 1))), (some 12, none, (.ld false 1 (.tmp 11))), (some 10, none, (.mv (.tmp 12)))]
def r4 : List G := [(some 13, none, (.call false 112 [(.const (.int .i64 0))])), (none, none, (.st true 10 (.tmp 2) (.tmp 13)))]
def r5 : List G := [(some 15, none, (.fa 1 (.tmp 1))), (some 16, none, (.ld true 10 (.tmp 15))), (some 17, none, (.fa 11 (.tmp 1))), (some 18, none, (.ld true 10 (.tmp 17))), (some 19, none, (.call false 113 [(.tmp 16), (.tmp 18)])), (some 14, none, (.mv (.tmp 19))), (some 20, none, (.ex (.tmp 14) 0)), (some 21, none, (.ex (.tmp 14) 1)), (some 3, none, (.new zR)), (none, none, (.st true 10 (.tmp 3) (.tmp 20))), (some 4, none, (.mv (.tmp 21)))]
def r6 : List G := [(some 22, none, (.ld true 10 (.tmp 3))), (none, none, (.st true 10 (.tmp 2) (.tmp 22)))]
def c : MC := (.seq (.reg r0 (some [1, 2])) (.seq (.block 0 (.seq (.reg r1 (some [1, 2, 5])) (.cond (.tmp 5) (.seq (.reg r2 (some [2])) .ret) (.seq (.reg r3 (some [1, 2, 10])) (.cond (.tmp 10) (.seq (.reg r4 (some [2])) .ret) .skip))))) (.seq (.reg r5 (some [2, 3])) (.seq (.reg r6 (some [2])) .ret))))
def ann : Ann := [(0, (some [1, 2], 0, [], [], [])), (1, (some [1, 2, 5], 0, [], [], [])), (2, (some [2], 0, [], [], [])), (3, (some [1, 2, 10], 0, [], [], [])), (4, (some [2], 0, [], [], [])), (5, (some [2, 3], 0, [], [], [])), (6, (some [2], 0, [], [], []))]
theorem ok : compF Try.prog Try.f56 ann = some (23, c, [(2, some (true, 10))]) := by kernel_rfl
def p1 (S : St) : Prop := ops C r6 (kq [2] R) S
def p2 (S : St) : Prop := ops C r5 (kq [2, 3] (p1 C R)) S
def p4 (S : St) : Prop := ops C r2 (kq [2] R) S
def p6 (S : St) : Prop := ops C r4 (kq [2] R) S
def p5 (S : St) : Prop := condX (S.ev (.tmp 10)) (p6 C R) (p2 C R) S
def p7 (S : St) : Prop := ops C r3 (kq [1, 2, 10] (p5 C R)) S
def p3 (S : St) : Prop := condX (S.ev (.tmp 5)) (p4 C R) (p7 C R) S
def p8 (S : St) : Prop := ops C r1 (kq [1, 2, 5] (p3 C R)) S
def p9 (S : St) : Prop := ops C r0 (kq [1, 2] (p8 C R)) S
theorem s (S : St) : X C c (retK R) S = p9 C R S := by kernel_rfl
theorem E : type_of% @r6.eq_1 ∧ type_of% @p1.eq_1 ∧ type_of% @r5.eq_1 ∧ type_of% @p2.eq_1 ∧ type_of% @r2.eq_1 ∧ type_of% @p4.eq_1 ∧ type_of% @r4.eq_1 ∧ type_of% @p6.eq_1 ∧ type_of% @p5.eq_1 ∧ type_of% @r3.eq_1 ∧ type_of% @p7.eq_1 ∧ type_of% @p3.eq_1 ∧ type_of% @r1.eq_1 ∧ type_of% @p8.eq_1 ∧ type_of% @r0.eq_1 ∧ type_of% @p9.eq_1 ∧ type_of% @s := ⟨@r6.eq_1, @p1.eq_1, @r5.eq_1, @p2.eq_1, @r2.eq_1, @p4.eq_1, @r4.eq_1, @p6.eq_1, @p5.eq_1, @r3.eq_1, @p7.eq_1, @p3.eq_1, @r1.eq_1, @p8.eq_1, @r0.eq_1, @p9.eq_1, @s⟩
end cone_Choose
namespace r13_Start
def r0 : List G := [(some 0, none, (.new [(.bool false), (.bool false), (.int .u64 0), (.int .u64 0), (.int .u64 0), (.int .u64 0), (.bool false), (.int .u64 0), (.int .u64 0), (.int .u64 0), (.int .u64 0), (.bool false), (.int .u64 0), (.int .u64 0), (.int .u64 0), (.int .u64 0), (.bool false), (.int .u64 0), (.int .u64 0), (.int .u64 0), (.int .u64 0)]))]
def r1 : List G := [(some 1, none, (.bd [(.bool false), (.bool false), (.int .u64 0), (.int .u64 0), (.int .u64 0), (.int .u64 0), (.bool false), (.int .u64 0), (.int .u64 0), (.int .u64 0), (.int .u64 0), (.bool false), (.int .u64 0), (.int .u64 0), (.int .u64 0), (.int .u64 0), (.bool false), (.int .u64 0), (.int .u64 0), (.int .u64 0), (.int .u64 0)] [(0, 1, (.const (.bool true)))])), (none, none, (.st true 21 (.tmp 0) (.tmp 1)))]
def c : MC := (.seq (.reg r0 (some [0])) (.seq (.reg r1 (some [0])) .ret))
def ann : Ann := [(0, (some [0], 0, [], [], [])), (1, (some [0], 0, [], [], []))]
theorem ok : compF Try.prog Try.f50 ann = some (2, c, [(0, some (true, 21))]) := by kernel_rfl
def p1 (S : St) : Prop := ops C r1 (kq [0] R) S
def p2 (S : St) : Prop := ops C r0 (kq [0] (p1 C R)) S
theorem s (S : St) : X C c (retK R) S = p2 C R S := by kernel_rfl
theorem E : type_of% @r1.eq_1 ∧ type_of% @p1.eq_1 ∧ type_of% @r0.eq_1 ∧ type_of% @p2.eq_1 ∧ type_of% @s := ⟨@r1.eq_1, @p1.eq_1, @r0.eq_1, @p2.eq_1, @s⟩
end r13_Start
namespace r13_Valid
def r0 : List G := [(some 1, none, (.box true 21 (.tmp 0))), (some 2, none, (.mv (.const (.bool false))))]
def r1 : List G := [(some 3, none, (.fa 0 (.tmp 1))), (some 4, none, (.ld false 1 (.tmp 3)))]
def r2 : List G := [(some 5, none, (.ld true 21 (.tmp 1))), (some 6, none, (.call true 50 [])), (some 7, none, (.eqg false 76 (.tmp 5) (.tmp 6)))]
def t2 : List G := [(some 2, none, (.mv (.tmp 7)))]
def r3 : List G := [(some 8, none, (.fa 1 (.tmp 1))), (some 9, none, (.ld true 10 (.tmp 8))), (some 10, none, (.call false 117 [(.tmp 9)])), (some 11, none, (.mv (.tmp 10))), (some 12, some (11, true), (.fa 11 (.tmp 1))), (some 13, some (11, true), (.ld true 10 (.tmp 12))), (some 14, some (11, true), (.call false 117 [(.tmp 13)])), (some 15, none, (.pick (.tmp 11) (.tmp 14) (.const (.bool false)))), (some 16, none, (.mv (.tmp 15))), (some 17, some (16, true), (.fa 1 (.tmp 1))), (some 18, some (16, true), (.ld true 10 (.tmp 17))), (some 19, some (16, true), (.fa 11 (.tmp 1))), (some 20, some (16, true), (.ld true 10 (.tmp 19))), (some 21, some (16, true), (.call false 100 [(.tmp 18), (.tmp 20)])), (some 22, some (16, true), (.bin .leq (.tmp 21) (.const (.int .i64 0)))), (some 23, none, (.pick (.tmp 16) (.tmp 22) (.const (.bool false)))), (some 2, none, (.mv (.tmp 23)))]
def c : MC := (.seq (.reg r0 (some [1])) (.seq (.seq (.reg r1 (some [1, 4])) (.cond (.tmp 4) (.seq (.dreg r2 t2 (some [2])) .ret) .skip)) (.seq (.reg r3 (some [2])) .ret)))
def ann : Ann := [(0, (some [1], 0, [], [], [])), (1, (some [1, 4], 0, [], [], [])), (2, (some [2], 3, [], [(0, 0), (1, 0), (2, 0)], [])), (3, (some [2], 0, [], [], []))]
theorem ok : compF Try.prog Try.f103 ann = some (24, c, [(2, none)]) := by kernel_rfl
def p1 (S : St) : Prop := ops C r3 (kq [2] R) S
def p3 (S : St) : Prop := ops C r2 (ops C t2 (kq [2] R)) S
def p2 (S : St) : Prop := condX (S.ev (.tmp 4)) (p3 C R) (p1 C R) S
def p4 (S : St) : Prop := ops C r1 (kq [1, 4] (p2 C R)) S
def p5 (S : St) : Prop := ops C r0 (kq [1] (p4 C R)) S
theorem s (S : St) : X C c (retK R) S = p5 C R S := by kernel_rfl
theorem E : type_of% @r3.eq_1 ∧ type_of% @p1.eq_1 ∧ type_of% @r2.eq_1 ∧ type_of% @t2.eq_1 ∧ type_of% @p3.eq_1 ∧ type_of% @p2.eq_1 ∧ type_of% @r1.eq_1 ∧ type_of% @p4.eq_1 ∧ type_of% @r0.eq_1 ∧ type_of% @p5.eq_1 ∧ type_of% @s := ⟨@r3.eq_1, @p1.eq_1, @r2.eq_1, @t2.eq_1, @p3.eq_1, @p2.eq_1, @r1.eq_1, @p4.eq_1, @r0.eq_1, @p5.eq_1, @s⟩
end r13_Valid
namespace r13_Meet
def r0 : List G := [(some 2, none, (.box true 21 (.tmp 0))), (some 3, none, (.box true 21 (.tmp 1))), (some 4, none, (.new [(.bool false), (.bool false), (.int .u64 0), (.int .u64 0), (.int .u64 0), (.int .u64 0), (.bool false), (.int .u64 0), (.int .u64 0), (.int .u64 0), (.int .u64 0), (.bool false), (.int .u64 0), (.int .u64 0), (.int .u64 0), (.int .u64 0), (.bool false), (.int .u64 0), (.int .u64 0), (.int .u64 0), (.int .u64 0)])), (some 5, none, (.mv (.const (.bool false))))]
def r1 : List G := [(some 6, none, (.ld true 21 (.tmp 2))), (some 7, none, (.call false 103 [(.tmp 6)])), (some 8, none, (.un .not (.tmp 7))), (some 9, none, (.mv (.tmp 8))), (some 10, some (9, false), (.ld true 21 (.tmp 3))), (some 11, some (9, false), (.call false 103 [(.tmp 10)])), (some 12, some (9, false), (.un .not (.tmp 11))), (some 13, none, (.pick (.tmp 9) (.const (.bool true)) (.tmp 12)))]
def r2 : List G := [(some 14, none, (.bd [(.bool false), (.bool false), (.int .u64 0), (.int .u64 0), (.int .u64 0), (.int .u64 0), (.bool false), (.int .u64 0), (.int .u64 0), (.int .u64 0), (.int .u64 0), (.bool false), (.int .u64 0), (.int .u64 0), (.int .u64 0), (.int .u64 0), (.bool false), (.int .u64 0), (.int .u64 0), (.int .u64 0), (.int .u64 0)] [])), (none, none, (.st true 21 (.tmp 4) (.tmp 14))), (some 5, none, (.mv (.const (.bool false))))]
def r3 : List G := [(some 15, none, (.fa 0 (.tmp 2))), (some 16, none, (.ld false 1 (.tmp 15)))]
def r4 : List G := [(some 17, none, (.ld true 21 (.tmp 3))), (none, none, (.st true 21 (.tmp 4) (.tmp 17))), (some 5, none, (.mv (.const (.bool true))))]
def r5 : List G := [(some 18, none, (.fa 0 (.tmp 3))), (some 19, none, (.ld false 1 (.tmp 18)))]
def r6 : List G := [(some 20, none, (.ld true 21 (.tmp 2))), (none, none, (.st true 21 (.tmp 4) (.tmp 20))), (some 5, none, (.mv (.const (.bool true))))]
def r7 : List G := [(some 21, none, (.fa 1 (.tmp 3))), (some 22, none, (.ld true 10 (.tmp 21))), (some 23, none, (.fa 1 (.tmp 2))), (some 24, none, (.ld true 10 (.tmp 23))), (some 25, none, (.call false 100 [(.tmp 22), (.tmp 24)])), (some 26, none, (.bin .gtr (.tmp 25) (.const (.int .i64 0))))]
def r8 : List G := [(some 27, none, (.fa 1 (.tmp 3))), (some 28, none, (.ld true 10 (.tmp 27))), (some 29, none, (.fa 1 (.tmp 2))), (none, none, (.st true 10 (.tmp 29) (.tmp 28)))]
def r9 : List G := [(some 30, none, (.fa 11 (.tmp 3))), (some 31, none, (.ld true 10 (.tmp 30))), (some 32, none, (.fa 11 (.tmp 2))), (some 33, none, (.ld true 10 (.tmp 32))), (some 34, none, (.call false 100 [(.tmp 31), (.tmp 33)])), (some 35, none, (.bin .lss (.tmp 34) (.const (.int .i64 0))))]
def r10 : List G := [(some 36, none, (.fa 11 (.tmp 3))), (some 37, none, (.ld true 10 (.tmp 36))), (some 38, none, (.fa 11 (.tmp 2))), (none, none, (.st true 10 (.tmp 38) (.tmp 37)))]
def r11 : List G := [(some 39, none, (.fa 1 (.tmp 2))), (some 40, none, (.ld true 10 (.tmp 39))), (some 41, none, (.fa 11 (.tmp 2))), (some 42, none, (.ld true 10 (.tmp 41))), (some 43, none, (.call false 100 [(.tmp 40), (.tmp 42)])), (some 44, none, (.bin .gtr (.tmp 43) (.const (.int .i64 0))))]
def r12 : List G := [(some 45, none, (.bd [(.bool false), (.bool false), (.int .u64 0), (.int .u64 0), (.int .u64 0), (.int .u64 0), (.bool false), (.int .u64 0), (.int .u64 0), (.int .u64 0), (.int .u64 0), (.bool false), (.int .u64 0), (.int .u64 0), (.int .u64 0), (.int .u64 0), (.bool false), (.int .u64 0), (.int .u64 0), (.int .u64 0), (.int .u64 0)] [])), (none, none, (.st true 21 (.tmp 4) (.tmp 45))), (some 5, none, (.mv (.const (.bool false))))]
def r13 : List G := [(some 46, none, (.ld true 21 (.tmp 2))), (none, none, (.st true 21 (.tmp 4) (.tmp 46))), (some 5, none, (.mv (.const (.bool true))))]
def c : MC := (.seq (.reg r0 (some [2, 3, 4])) (.seq (.seq (.reg r1 (some [2, 3, 4, 13])) (.cond (.tmp 13) (.seq (.reg r2 (some [4, 5])) .ret) .skip)) (.seq (.seq (.reg r3 (some [2, 3, 4, 16])) (.cond (.tmp 16) (.seq (.reg r4 (some [4, 5])) .ret) .skip)) (.seq (.seq (.reg r5 (some [2, 3, 4, 19])) (.cond (.tmp 19) (.seq (.reg r6 (some [4, 5])) .ret) .skip)) (.seq (.seq (.reg r7 (some [2, 3, 4, 26])) (.cond (.tmp 26) (.reg r8 (some [2, 3, 4])) .skip)) (.seq (.seq (.reg r9 (some [2, 3, 4, 35])) (.cond (.tmp 35) (.reg r10 (some [2, 4])) .skip)) (.seq (.seq (.reg r11 (some [2, 4, 44])) (.cond (.tmp 44) (.seq (.reg r12 (some [4, 5])) .ret) .skip)) (.seq (.reg r13 (some [4, 5])) .ret))))))))
def ann : Ann := [(0, (some [2, 3, 4], 0, [], [], [])), (1, (some [2, 3, 4, 13], 0, [], [], [])), (2, (some [4, 5], 0, [], [], [])), (3, (some [2, 3, 4, 16], 0, [], [], [])), (4, (some [4, 5], 0, [], [], [])), (5, (some [2, 3, 4, 19], 0, [], [], [])), (6, (some [4, 5], 0, [], [], [])), (7, (some [2, 3, 4, 26], 0, [], [], [])), (8, (some [2, 3, 4], 0, [], [], [])), (9, (some [2, 3, 4, 35], 0, [], [], [])), (10, (some [2, 4], 0, [], [], [])), (11, (some [2, 4, 44], 0, [], [], [])), (12, (some [4, 5], 0, [], [], [])), (13, (some [4, 5], 0, [], [], []))]
theorem ok : compF Try.prog Try.f102 ann = some (47, c, [(4, some (true, 21)), (5, none)]) := by kernel_rfl
def p1 (S : St) : Prop := ops C r13 (kq [4, 5] R) S
def p3 (S : St) : Prop := ops C r12 (kq [4, 5] R) S
def p2 (S : St) : Prop := condX (S.ev (.tmp 44)) (p3 C R) (p1 C R) S
def p4 (S : St) : Prop := ops C r11 (kq [2, 4, 44] (p2 C R)) S
def p6 (S : St) : Prop := ops C r10 (kq [2, 4] (p4 C R)) S
def p5 (S : St) : Prop := condX (S.ev (.tmp 35)) (p6 C R) (p4 C R) S
def p7 (S : St) : Prop := ops C r9 (kq [2, 3, 4, 35] (p5 C R)) S
def p9 (S : St) : Prop := ops C r8 (kq [2, 3, 4] (p7 C R)) S
def p8 (S : St) : Prop := condX (S.ev (.tmp 26)) (p9 C R) (p7 C R) S
def p10 (S : St) : Prop := ops C r7 (kq [2, 3, 4, 26] (p8 C R)) S
def p12 (S : St) : Prop := ops C r6 (kq [4, 5] R) S
def p11 (S : St) : Prop := condX (S.ev (.tmp 19)) (p12 C R) (p10 C R) S
def p13 (S : St) : Prop := ops C r5 (kq [2, 3, 4, 19] (p11 C R)) S
def p15 (S : St) : Prop := ops C r4 (kq [4, 5] R) S
def p14 (S : St) : Prop := condX (S.ev (.tmp 16)) (p15 C R) (p13 C R) S
def p16 (S : St) : Prop := ops C r3 (kq [2, 3, 4, 16] (p14 C R)) S
def p18 (S : St) : Prop := ops C r2 (kq [4, 5] R) S
def p17 (S : St) : Prop := condX (S.ev (.tmp 13)) (p18 C R) (p16 C R) S
def p19 (S : St) : Prop := ops C r1 (kq [2, 3, 4, 13] (p17 C R)) S
def p20 (S : St) : Prop := ops C r0 (kq [2, 3, 4] (p19 C R)) S
theorem s (S : St) : X C c (retK R) S = p20 C R S := by kernel_rfl
theorem E : type_of% @r13.eq_1 ∧ type_of% @p1.eq_1 ∧ type_of% @r12.eq_1 ∧ type_of% @p3.eq_1 ∧ type_of% @p2.eq_1 ∧ type_of% @r11.eq_1 ∧ type_of% @p4.eq_1 ∧ type_of% @r10.eq_1 ∧ type_of% @p6.eq_1 ∧ type_of% @p5.eq_1 ∧ type_of% @r9.eq_1 ∧ type_of% @p7.eq_1 ∧ type_of% @r8.eq_1 ∧ type_of% @p9.eq_1 ∧ type_of% @p8.eq_1 ∧ type_of% @r7.eq_1 ∧ type_of% @p10.eq_1 ∧ type_of% @r6.eq_1 ∧ type_of% @p12.eq_1 ∧ type_of% @p11.eq_1 ∧ type_of% @r5.eq_1 ∧ type_of% @p13.eq_1 ∧ type_of% @r4.eq_1 ∧ type_of% @p15.eq_1 ∧ type_of% @p14.eq_1 ∧ type_of% @r3.eq_1 ∧ type_of% @p16.eq_1 ∧ type_of% @r2.eq_1 ∧ type_of% @p18.eq_1 ∧ type_of% @p17.eq_1 ∧ type_of% @r1.eq_1 ∧ type_of% @p19.eq_1 ∧ type_of% @r0.eq_1 ∧ type_of% @p20.eq_1 ∧ type_of% @s := ⟨@r13.eq_1, @p1.eq_1, @r12.eq_1, @p3.eq_1, @p2.eq_1, @r11.eq_1, @p4.eq_1, @r10.eq_1, @p6.eq_1, @p5.eq_1, @r9.eq_1, @p7.eq_1, @r8.eq_1, @p9.eq_1, @p8.eq_1, @r7.eq_1, @p10.eq_1, @r6.eq_1, @p12.eq_1, @p11.eq_1, @r5.eq_1, @p13.eq_1, @r4.eq_1, @p15.eq_1, @p14.eq_1, @r3.eq_1, @p16.eq_1, @r2.eq_1, @p18.eq_1, @p17.eq_1, @r1.eq_1, @p19.eq_1, @r0.eq_1, @p20.eq_1, @s⟩
end r13_Meet
namespace r13_Contains
def r0 : List G := [(some 2, none, (.box true 21 (.tmp 0))), (some 3, none, (.box true 10 (.tmp 1))), (some 4, none, (.mv (.const (.bool false))))]
def r1 : List G := [(some 5, none, (.ld true 21 (.tmp 2))), (some 6, none, (.call false 103 [(.tmp 5)])), (some 7, none, (.mv (.tmp 6))), (some 8, some (7, true), (.ld true 10 (.tmp 3))), (some 9, some (7, true), (.call false 117 [(.tmp 8)])), (some 10, none, (.pick (.tmp 7) (.tmp 9) (.const (.bool false)))), (some 11, none, (.mv (.tmp 10))), (some 12, some (11, true), (.fa 0 (.tmp 2))), (some 13, some (11, true), (.ld false 1 (.tmp 12))), (some 14, some (11, true), (.mv (.tmp 13))), (some 15, some (14, false), (.fa 1 (.tmp 2))), (some 16, some (14, false), (.ld true 10 (.tmp 15))), (some 17, some (14, false), (.ld true 10 (.tmp 3))), (some 18, some (14, false), (.call false 100 [(.tmp 16), (.tmp 17)])), (some 19, some (14, false), (.bin .leq (.tmp 18) (.const (.int .i64 0)))), (some 20, some (14, false), (.mv (.tmp 19))), (some 21, some (20, true), (.ld true 10 (.tmp 3))), (some 22, some (20, true), (.fa 11 (.tmp 2))), (some 23, some (20, true), (.ld true 10 (.tmp 22))), (some 24, some (20, true), (.call false 100 [(.tmp 21), (.tmp 23)])), (some 25, some (20, true), (.bin .leq (.tmp 24) (.const (.int .i64 0)))), (some 26, some (14, false), (.pick (.tmp 20) (.tmp 25) (.const (.bool false)))), (some 27, some (11, true), (.pick (.tmp 14) (.const (.bool true)) (.tmp 26))), (some 28, none, (.pick (.tmp 11) (.tmp 27) (.const (.bool false)))), (some 4, none, (.mv (.tmp 28)))]
def c : MC := (.seq (.reg r0 (some [2, 3])) (.seq (.reg r1 (some [4])) .ret))
def ann : Ann := [(0, (some [2, 3], 0, [], [], [])), (1, (some [4], 0, [], [], []))]
theorem ok : compF Try.prog Try.f104 ann = some (29, c, [(4, none)]) := by kernel_rfl
def p1 (S : St) : Prop := ops C r1 (kq [4] R) S
def p2 (S : St) : Prop := ops C r0 (kq [2, 3] (p1 C R)) S
theorem s (S : St) : X C c (retK R) S = p2 C R S := by kernel_rfl
theorem E : type_of% @r1.eq_1 ∧ type_of% @p1.eq_1 ∧ type_of% @r0.eq_1 ∧ type_of% @p2.eq_1 ∧ type_of% @s := ⟨@r1.eq_1, @p1.eq_1, @r0.eq_1, @p2.eq_1, @s⟩
end r13_Contains
namespace r13_Choose
def r0 : List G := [(some 1, none, (.box true 21 (.tmp 0))), (some 2, none, (.new zR))]
def r1 : List G := [(some 5, none, (.ld true 21 (.tmp 1))), (some 6, none, (.call false 103 [(.tmp 5)])), (some 7, none, (.un .not (.tmp 6)))]
def r2 : List G := [(some 8, none, (.bd zR [])), (none, none, (.st true 10 (.tmp 2) (.tmp 8)))]
def r3 : List G := [(some 9, none, (.fa 0 (.tmp 1))), (some 10, none, (.ld false 1 (.tmp 9)))]
def r4 : List G := [(some 11, none, (.call false 82 [(.const (.int .i64 0))])), (none, none, (.st true 10 (.tmp 2) (.tmp 11)))]
def r5 : List G := [(some 13, none, (.fa 1 (.tmp 1))), (some 14, none, (.ld true 10 (.tmp 13))), (some 15, none, (.fa 11 (.tmp 1))), (some 16, none, (.ld true 10 (.tmp 15))), (some 17, none, (.call false 152 [(.tmp 14), (.tmp 16)])), (some 12, none, (.mv (.tmp 17))), (some 18, none, (.ex (.tmp 12) 0)), (some 19, none, (.ex (.tmp 12) 1)), (some 3, none, (.new zR)), (none, none, (.st true 10 (.tmp 3) (.tmp 18))), (some 4, none, (.mv (.tmp 19)))]
def r6 : List G := [(some 20, none, (.ld true 10 (.tmp 3))), (none, none, (.st true 10 (.tmp 2) (.tmp 20)))]
def c : MC := (.seq (.reg r0 (some [1, 2])) (.seq (.seq (.reg r1 (some [1, 2, 7])) (.cond (.tmp 7) (.seq (.reg r2 (some [2])) .ret) .skip)) (.seq (.seq (.reg r3 (some [1, 2, 10])) (.cond (.tmp 10) (.seq (.reg r4 (some [2])) .ret) .skip)) (.seq (.reg r5 (some [2, 3])) (.seq (.reg r6 (some [2])) .ret)))))
def ann : Ann := [(0, (some [1, 2], 0, [], [], [])), (1, (some [1, 2, 7], 0, [], [], [])), (2, (some [2], 0, [], [], [])), (3, (some [1, 2, 10], 0, [], [], [])), (4, (some [2], 0, [], [], [])), (5, (some [2, 3], 0, [], [], [])), (6, (some [2], 0, [], [], []))]
theorem ok : compF Try.prog Try.f105 ann = some (21, c, [(2, some (true, 10))]) := by kernel_rfl
def p1 (S : St) : Prop := ops C r6 (kq [2] R) S
def p2 (S : St) : Prop := ops C r5 (kq [2, 3] (p1 C R)) S
def p4 (S : St) : Prop := ops C r4 (kq [2] R) S
def p3 (S : St) : Prop := condX (S.ev (.tmp 10)) (p4 C R) (p2 C R) S
def p5 (S : St) : Prop := ops C r3 (kq [1, 2, 10] (p3 C R)) S
def p7 (S : St) : Prop := ops C r2 (kq [2] R) S
def p6 (S : St) : Prop := condX (S.ev (.tmp 7)) (p7 C R) (p5 C R) S
def p8 (S : St) : Prop := ops C r1 (kq [1, 2, 7] (p6 C R)) S
def p9 (S : St) : Prop := ops C r0 (kq [1, 2] (p8 C R)) S
theorem s (S : St) : X C c (retK R) S = p9 C R S := by kernel_rfl
theorem E : type_of% @r6.eq_1 ∧ type_of% @p1.eq_1 ∧ type_of% @r5.eq_1 ∧ type_of% @p2.eq_1 ∧ type_of% @r4.eq_1 ∧ type_of% @p4.eq_1 ∧ type_of% @p3.eq_1 ∧ type_of% @r3.eq_1 ∧ type_of% @p5.eq_1 ∧ type_of% @r2.eq_1 ∧ type_of% @p7.eq_1 ∧ type_of% @p6.eq_1 ∧ type_of% @r1.eq_1 ∧ type_of% @p8.eq_1 ∧ type_of% @r0.eq_1 ∧ type_of% @p9.eq_1 ∧ type_of% @s := ⟨@r6.eq_1, @p1.eq_1, @r5.eq_1, @p2.eq_1, @r4.eq_1, @p4.eq_1, @p3.eq_1, @r3.eq_1, @p5.eq_1, @r2.eq_1, @p7.eq_1, @p6.eq_1, @r1.eq_1, @p8.eq_1, @r0.eq_1, @p9.eq_1, @s⟩
end r13_Choose
end Go.Proofs.Ytncmmbacoknefaa

/- Ka: Cones as atoms: cells, equality; Sub of the program. -/
namespace Go.Proofs.Ytncmmbacoknefaa
open Go Go.RowKit
set_option linter.unusedVariables false
set_option linter.unusedSimpArgs false
/-- The Cone of two fractions. -/
def KX (o : Bool) (p q p' q' : Int) : Value := .agg #[.bool o, .bool (sg p), .int .u64 (lb0 (ab p)), .int .u64 (lb1 (ab p)), .int .u64 (lb2 (ab p)), .int .u64 (lb3 (ab p)), .bool (sg q), .int .u64 (lb0 (ab q)), .int .u64 (lb1 (ab q)), .int .u64 (lb2 (ab q)), .int .u64 (lb3 (ab q)), .bool (sg p'), .int .u64 (lb0 (ab p')), .int .u64 (lb1 (ab p')), .int .u64 (lb2 (ab p')), .int .u64 (lb3 (ab p')), .bool (sg q'), .int .u64 (lb0 (ab q')), .int .u64 (lb1 (ab q')), .int .u64 (lb2 (ab q')), .int .u64 (lb3 (ab q'))]
namespace Sx
variable {C : Cx} {S : St} {K : St → Prop} {d : Option Nat}
theorem x_foldK (o : Bool) (p q p' q' : Int) : Value.agg [.bool o, .bool (sg p), .int .u64 (lb0 (ab p)), .int .u64 (lb1 (ab p)), .int .u64 (lb2 (ab p)), .int .u64 (lb3 (ab p)), .bool (sg q), .int .u64 (lb0 (ab q)), .int .u64 (lb1 (ab q)), .int .u64 (lb2 (ab q)), .int .u64 (lb3 (ab q)), .bool (sg p'), .int .u64 (lb0 (ab p')), .int .u64 (lb1 (ab p')), .int .u64 (lb2 (ab p')), .int .u64 (lb3 (ab p')), .bool (sg q'), .int .u64 (lb0 (ab q')), .int .u64 (lb1 (ab q')), .int .u64 (lb2 (ab q')), .int .u64 (lb3 (ab q'))].toArray = KX o p q p' q' := rfl
theorem x_foldK0 (o : Bool) : Value.agg [.bool o, .bool false, .int .u64 0, .int .u64 0, .int .u64 0, .int .u64 0, .bool false, .int .u64 0, .int .u64 0, .int .u64 0, .int .u64 0, .bool false, .int .u64 0, .int .u64 0, .int .u64 0, .int .u64 0, .bool false, .int .u64 0, .int .u64 0, .int .u64 0, .int .u64 0].toArray = KX o 0 0 0 0 := rfl
theorem x_cK (o : Bool) (p q p' q' : Int) : cellsO true (some (.v (KX o p q p' q'))) = some [.bool o, .bool (sg p), .int .u64 (lb0 (ab p)), .int .u64 (lb1 (ab p)), .int .u64 (lb2 (ab p)), .int .u64 (lb3 (ab p)), .bool (sg q), .int .u64 (lb0 (ab q)), .int .u64 (lb1 (ab q)), .int .u64 (lb2 (ab q)), .int .u64 (lb3 (ab q)), .bool (sg p'), .int .u64 (lb0 (ab p')), .int .u64 (lb1 (ab p')), .int .u64 (lb2 (ab p')), .int .u64 (lb3 (ab p')), .bool (sg q'), .int .u64 (lb0 (ab q')), .int .u64 (lb1 (ab q')), .int .u64 (lb2 (ab q')), .int .u64 (lb3 (ab q'))] := rfl
theorem x_vK (o : Bool) (p q p' q' : Int) : cellsV (some (.v (KX o p q p' q'))) = some [.bool o, .bool (sg p), .int .u64 (lb0 (ab p)), .int .u64 (lb1 (ab p)), .int .u64 (lb2 (ab p)), .int .u64 (lb3 (ab p)), .bool (sg q), .int .u64 (lb0 (ab q)), .int .u64 (lb1 (ab q)), .int .u64 (lb2 (ab q)), .int .u64 (lb3 (ab q)), .bool (sg p'), .int .u64 (lb0 (ab p')), .int .u64 (lb1 (ab p')), .int .u64 (lb2 (ab p')), .int .u64 (lb3 (ab p')), .bool (sg q'), .int .u64 (lb0 (ab q')), .int .u64 (lb1 (ab q')), .int .u64 (lb2 (ab q')), .int .u64 (lb3 (ab q'))] := rfl
theorem x_fK0 (o : Bool) (p q p' q' : Int) : fdS false 1 0 (some (.v (KX o p q p' q'))) = some (True, .bool o) := rfl
theorem x_fK1 (o : Bool) (p q p' q' : Int) : fdS true 10 1 (some (.v (KX o p q p' q'))) = some (True, RX p q) := rfl
theorem x_fK2 (o : Bool) (p q p' q' : Int) : fdS true 10 11 (some (.v (KX o p q p' q'))) = some (True, RX p' q') := rfl
theorem kxE : type_of% @x_foldK ∧ type_of% @x_foldK0 ∧ type_of% @x_cK ∧ type_of% @x_vK ∧ type_of% @x_fK0 ∧ type_of% @x_fK1 ∧ type_of% @x_fK2 :=
  ⟨@x_foldK, @x_foldK0, @x_cK, @x_vK, @x_fK0, @x_fK1, @x_fK2⟩
end Sx
open Sx
theorem guardT_cone : Try.prog.eqGuardType Try.prog.depth 76 = false := by kernel_rfl
theorem eq_ratio9 (n : Bool) (a b c d : Int) (n1 : Bool) (a1 b1 c1 d1 : Int) (n' : Bool) (a' b' c' d' : Int) (n1' : Bool) (a1' b1' c1' d1' : Int) (w : World) :
    (Op.equalIn 9999 53 (.agg #[.bool n, .int .u64 a, .int .u64 b, .int .u64 c, .int .u64 d, .bool n1, .int .u64 a1, .int .u64 b1, .int .u64 c1, .int .u64 d1]) (.agg #[.bool n', .int .u64 a', .int .u64 b', .int .u64 c', .int .u64 d', .bool n1', .int .u64 a1', .int .u64 b1', .int .u64 c1', .int .u64 d1'])).run Try.prog w = .ok (weq n a b c d n' a' b' c' d' && weq n1 a1 b1 c1 d1 n1' a1' b1' c1' d1') w := by
  have h := fun W => eq_wide n a b c d n' a' b' c' d' 9995 W
  have h' := fun W => eq_wide n1 a1 b1 c1 d1 n1' a1' b1' c1' d1' 9995 W
  generalize weq n a b c d n' a' b' c' d' = e at *
  generalize weq n1 a1 b1 c1 d1 n1' a1' b1' c1' d1' = e' at *
  cases e <;> cases e' <;> simp [go_sem, h, h']
/-- A raw Cone's cells. -/
abbrev KR (o : Bool) (n : Bool) (a b c d : Int) (n1 : Bool) (a1 b1 c1 d1 : Int) (m : Bool) (e f g h : Int) (m1 : Bool) (e1 f1 g1 h1 : Int) : Value :=
  .agg #[.bool o, .bool n, .int .u64 a, .int .u64 b, .int .u64 c, .int .u64 d, .bool n1, .int .u64 a1, .int .u64 b1, .int .u64 c1, .int .u64 d1, .bool m, .int .u64 e, .int .u64 f, .int .u64 g, .int .u64 h, .bool m1, .int .u64 e1, .int .u64 f1, .int .u64 g1, .int .u64 h1]
theorem eq_cone (o : Bool) (n : Bool) (a b c d : Int) (n1 : Bool) (a1 b1 c1 d1 : Int) (m : Bool) (e f g h : Int) (m1 : Bool) (e1 f1 g1 h1 : Int)
    (o' : Bool) (n' : Bool) (a' b' c' d' : Int) (n1' : Bool) (a1' b1' c1' d1' : Int) (m' : Bool) (e' f' g' h' : Int) (m1' : Bool) (e1' f1' g1' h1' : Int) (w : World) :
    (Op.equalIn 10000 76 (KR o n a b c d n1 a1 b1 c1 d1 m e f g h m1 e1 f1 g1 h1) (KR o' n' a' b' c' d' n1' a1' b1' c1' d1' m' e' f' g' h' m1' e1' f1' g1' h1')).run Try.prog w =
      .ok ((o == o') && (weq n a b c d n' a' b' c' d' && weq n1 a1 b1 c1 d1 n1' a1' b1' c1' d1') && (weq m e f g h m' e' f' g' h' && weq m1 e1 f1 g1 h1 m1' e1' f1' g1' h1')) w := by
  have E1 := fun W => eq_ratio9 n a b c d n1 a1 b1 c1 d1 n' a' b' c' d' n1' a1' b1' c1' d1' W
  have E2 := fun W => eq_ratio9 m e f g h m1 e1 f1 g1 h1 m' e' f' g' h' m1' e1' f1' g1' h1' W
  generalize (weq n a b c d n' a' b' c' d' && weq n1 a1 b1 c1 d1 n1' a1' b1' c1' d1') = x at *
  generalize (weq m e f g h m' e' f' g' h' && weq m1 e1 f1 g1 h1 m1' e1' f1' g1' h1') = y at *
  unfold KR
  cases o <;> cases o' <;> cases x <;> cases y <;> simp [go_sem, E1, E2]
theorem eqk_run {ng : Bool} {xo yo : Operand} {o o' : Bool} {p q p1 q1 p' q' p1' q1' : Int} (h : Fits p) (h1 : Fits q) (h2 : Fits p1) (h3 : Fits q1) (h' : Fits p') (h1' : Fits q') (h2' : Fits p1') (h3' : Fits q1') (W : World) :
    ((do eqGuard (if ng then .neq else .eql) 76 xo yo (KX o p q p1 q1) (KX o' p' q' p1' q1'); binOp (if ng then .neq else .eql) 76 (KX o p q p1 q1) (KX o' p' q' p1' q1')) : Sem Value).run Try.prog W = .ok (.bool (if ng then !((o == o') && (decide (p = p') && decide (q = q')) && (decide (p1 = p1') && decide (q1 = q1'))) else ((o == o') && (decide (p = p') && decide (q = q')) && (decide (p1 = p1') && decide (q1 = q1'))))) W := by
  have := eqb_run (ng := ng) (xo := xo) (yo := yo) guardT_cone (eq_cone o (sg p) (lb0 (ab p)) (lb1 (ab p)) (lb2 (ab p)) (lb3 (ab p)) (sg q) (lb0 (ab q)) (lb1 (ab q)) (lb2 (ab q)) (lb3 (ab q)) (sg p1) (lb0 (ab p1)) (lb1 (ab p1)) (lb2 (ab p1)) (lb3 (ab p1)) (sg q1) (lb0 (ab q1)) (lb1 (ab q1)) (lb2 (ab q1)) (lb3 (ab q1)) o' (sg p') (lb0 (ab p')) (lb1 (ab p')) (lb2 (ab p')) (lb3 (ab p')) (sg q') (lb0 (ab q')) (lb1 (ab q')) (lb2 (ab q')) (lb3 (ab q')) (sg p1') (lb0 (ab p1')) (lb1 (ab p1')) (lb2 (ab p1')) (lb3 (ab p1')) (sg q1') (lb0 (ab q1')) (lb1 (ab q1')) (lb2 (ab q1')) (lb3 (ab q1')) W)
  rw [we_inj h h', we_inj h1 h1', we_inj h2 h2', we_inj h3 h3'] at this
  exact this
theorem gx_sub {x y : Int} (h : Fits x) (h' : Fits y) (hf : Fits (x - y)) (W : World) : Gives Try.prog 108 [WX x, WX y] W (· = .tuple #[WX (x - y), .bool true]) :=
  gives_eq (gives_known en_wide_Sub (sub_w h.is h'.is W)) (tup2 (by rw [cl_fit hf]; rfl) (by rw [fb_fit hf]))
end Go.Proofs.Ytncmmbacoknefaa

/- Kb: Cones: what both programs' Valid, Meet, Contains and Choose return. -/
namespace Go.Proofs.Ytncmmbacoknefaa
open Go Go.RowKit Sx
set_option linter.unusedVariables false
set_option linter.unusedSimpArgs false
structure Cn where
  o : Bool
  p : Int
  q : Int
  p1 : Int
  q1 : Int
def Cn.v (c : Cn) : Value := KX c.o c.p c.q c.p1 c.q1
def c0 : Cn := ⟨false, 0, 0, 0, 0⟩
def cO : Cn := ⟨true, 0, 0, 0, 0⟩
structure Cl (p q p1 q1 : Int) : Prop where
  f : Fq p q
  g : Fq p1 q1
  le : p * q1 ≤ p1 * q
/-- A valid cone. -/
def Cn.ok (c : Cn) : Prop := c = cO ∨ (c.o = false ∧ Cl c.p c.q c.p1 c.q1)
theorem cO_ok : cO.ok := .inl rfl
theorem Cl.ok {p q p1 q1 : Int} (h : Cl p q p1 q1) : (Cn.mk false p q p1 q1).ok := .inr ⟨rfl, h⟩
/-- v counts as a cone: valid or not, and which. -/
structure KV (v : Value) (t : Bool) (c : Cn) : Prop where
  v1 : ∀ W, Gives Try.prog 101 [v] W (· = .bool t)
  v2 : ∀ W, Gives Try.prog 103 [v] W (· = .bool t)
  cells : ∃ x0 x1 x2 x3 x4 x5 x6 x7 x8 x9 x10 x11 x12 x13 x14 x15 x16 x17 x18 x19 x20, v = .agg #[x0, x1, x2, x3, x4, x5, x6, x7, x8, x9, x10, x11, x12, x13, x14, x15, x16, x17, x18, x19, x20]
  is : t = true → v = c.v ∧ c.ok
/-- The meeting of two valid cones. -/
def cmt (c c' : Cn) : Cn × Bool :=
  if c.o then (c', true) else if c'.o then (c, true) else
    let lo := if c.p * c'.q < c'.p * c.q then (c'.p, c'.q) else (c.p, c.q)
    let hi := if c'.p1 * c.q1 < c.p1 * c'.q1 then (c'.p1, c'.q1) else (c.p1, c.q1)
    if lo.1 * hi.2 ≤ hi.1 * lo.2 then (⟨false, lo.1, lo.2, hi.1, hi.2⟩, true) else (c0, false)
def mtv (u : Bool) (c c' : Cn) : Cn × Bool := if u then cmt c c' else (c0, false)
def mtV (u : Bool) (c c' : Cn) : Value := .tuple #[(mtv u c c').1.v, .bool (mtv u c c').2]
/-- A cone has a slope. -/
def Cn.has (c : Cn) (p q : Int) : Bool := c.o || (decide (c.p * q ≤ p * c.q) && decide (p * c.q1 ≤ c.p1 * q))
/-- The slope that is chosen. -/
def cho (t : Bool) (c : Cn) : Int × Int := if t then (if c.o then (0, 1) else btx c.p c.q c.p1 c.q1) else (0, 0)
structure Kf (x : Cn) : Prop where
  a : Fits x.p
  b : Fits x.q
  c : Fits x.p1
  d : Fits x.q1
theorem Cn.ok.kf {c : Cn} (h : c.ok) : Kf c := by
  rcases h with rfl | ⟨-, h⟩
  · exact ⟨fits_zero, fits_zero, fits_zero, fits_zero⟩
  · exact ⟨h.f.fp, h.f.fq, h.g.fp, h.g.fq⟩
theorem c0_kf : Kf c0 := ⟨fits_zero, fits_zero, fits_zero, fits_zero⟩
theorem cmt_ok {c c' : Cn} (h : c.ok) (h' : c'.ok) : (cmt c c').2 = true → (cmt c c').1.ok := by
  unfold cmt
  rcases h with rfl | ⟨ho, h⟩
  · exact fun _ => h'
  · rw [ho]
    rcases h' with rfl | ⟨ho', h'⟩
    · exact fun _ => .inr ⟨ho, h⟩
    · rw [ho']
      dsimp only
      (repeat' split) <;> intro e <;> first | (cases e; done) | (refine Cl.ok ⟨?_, ?_, ?_⟩ <;> first | exact h.f | exact h.g | exact h'.f | exact h'.g | assumption) | simp_all
theorem cmt_no {c c' : Cn} : (cmt c c').2 = false → (cmt c c').1 = c0 := by
  unfold cmt
  dsimp only
  (repeat' split) <;> first | exact fun e => Bool.noConfusion e | exact fun _ => rfl
theorem mtv_kf {t t' : Bool} {c c' : Cn} (h : t = true → c.ok) (h' : t' = true → c'.ok) : Kf (mtv (t && t') c c').1 := by
  unfold mtv
  split
  · rename_i e
    rw [Bool.and_eq_true] at e
    rcases hb : (cmt c c').2 with _ | _
    · rw [cmt_no hb]; exact c0_kf
    · exact (cmt_ok (h e.1) (h' e.2) hb).kf
  · exact c0_kf
theorem cho_fits {t : Bool} {c : Cn} (h : t = true → c.ok) : Fits (cho t c).1 ∧ Fits (cho t c).2 := by
  unfold cho
  split
  · rename_i e
    rcases h e with rfl | ⟨ho, h⟩
    · exact ⟨fits_zero, fits_one⟩
    · rw [ho]
      have := (btx_spec h.f h.g h.le).fq
      exact ⟨this.fp, this.fq⟩
  · exact ⟨fits_zero, fits_zero⟩
theorem gx_kstart (W : World) : Gives Try.prog 49 [] W (· = KX true 0 0 0 0) := by
  refine gives_known en_cone_Start ?_
  refine known_of (enter Try.func49 cone_Start.ok (args := []) (by simp) ?_)
  repeat' (first | simp (disch := omega) only [sxE, cone_Start.E, Nat.reduceAdd, Nat.reduceEqDiff, Nat.reduceMul, Nat.reduceSub, Int.reduceAdd, Int.reduceSub, Int.reduceMul, Int.reduceNeg, Int.reduceLT, Int.reduceLE, Int.reduceEq, Int.reduceToNat, ↓reduceIte, Int.reducePow, Nat.reduceLeDiff, Nat.reduceLT, ne_eq, eq_self, List.length_cons, List.length_nil, qxE, kxE])
theorem rx_kstart (W : World) : Gives Try.prog 50 [] W (· = KX true 0 0 0 0) := by
  refine gives_known en_r13_Start ?_
  refine known_of (enter Try.func50 r13_Start.ok (args := []) (by simp) ?_)
  repeat' (first | simp (disch := omega) only [sxE, r13_Start.E, Nat.reduceAdd, Nat.reduceEqDiff, Nat.reduceMul, Nat.reduceSub, Int.reduceAdd, Int.reduceSub, Int.reduceMul, Int.reduceNeg, Int.reduceLT, Int.reduceLE, Int.reduceEq, Int.reduceToNat, ↓reduceIte, Int.reducePow, Nat.reduceLeDiff, Nat.reduceLT, ne_eq, eq_self, List.length_cons, List.length_nil, qxE, kxE])
set_option maxRecDepth 100000 in
theorem gx_kvalO (W : World) : Gives Try.prog 101 [KX true 0 0 0 0] W (· = .bool true) := by
  have z := fits_zero
  refine gives_known en_cone_Valid ?_
  refine known_of (enter Try.func101 cone_Valid.ok (args := [_]) (by simp) ?_)
  repeat' (first | simp (disch := omega) only [sxE, cone_Valid.E, Nat.reduceAdd, Nat.reduceEqDiff, Nat.reduceMul, Nat.reduceSub, Int.reduceAdd, Int.reduceSub, Int.reduceMul, Int.reduceNeg, Int.reduceLT, Int.reduceLE, Int.reduceEq, Int.reduceToNat, ↓reduceIte, Int.reducePow, Nat.reduceLeDiff, Nat.reduceLT, ne_eq, eq_self, List.length_cons, List.length_nil, qxE, kxE] | (with_reducible refine Sx.call_at (f := 49) (fun W hW => gx_kstart W) ?_) | (with_reducible refine eq_is (fun W => by first | exact eqk_run z z z z z z z z W) ?_))
  rfl
set_option maxRecDepth 100000 in
theorem gx_kval {p q p1 q1 : Int} (h : Cl p q p1 q1) (W : World) : Gives Try.prog 101 [KX false p q p1 q1] W (· = .bool true) := by
  obtain ⟨f, g, le⟩ := h
  have c1 := fun W => gx_rcompare f.cq g.cq W
  have c2 : cq p q p1 q1 ≤ 0 := (km_le _ _).2 le
  refine gives_known en_cone_Valid ?_
  refine known_of (enter Try.func101 cone_Valid.ok (args := [_]) (by simp) ?_)
  repeat' (first | simp (disch := omega) only [sxE, cone_Valid.E, Nat.reduceAdd, Nat.reduceEqDiff, Nat.reduceMul, Nat.reduceSub, Int.reduceAdd, Int.reduceSub, Int.reduceMul, Int.reduceNeg, Int.reduceLT, Int.reduceLE, Int.reduceEq, Int.reduceToNat, ↓reduceIte, Int.reducePow, Nat.reduceLeDiff, Nat.reduceLT, ne_eq, eq_self, List.length_cons, List.length_nil, qxE, kxE] | (with_reducible refine Sx.call_at (f := 115) (fun W hW => f.v1 W) ?_) | (with_reducible refine Sx.call_at (f := 115) (fun W hW => g.v1 W) ?_) | (with_reducible refine Sx.call_at (f := 116) (fun W hW => c1 W) ?_))
  exact vb (decide_eq_true c2)
set_option maxRecDepth 100000 in
theorem rx_kvalO (W : World) : Gives Try.prog 103 [KX true 0 0 0 0] W (· = .bool true) := by
  have z := fits_zero
  refine gives_known en_r13_Valid ?_
  refine known_of (enter Try.func103 r13_Valid.ok (args := [_]) (by simp) ?_)
  repeat' (first | simp (disch := omega) only [sxE, r13_Valid.E, Nat.reduceAdd, Nat.reduceEqDiff, Nat.reduceMul, Nat.reduceSub, Int.reduceAdd, Int.reduceSub, Int.reduceMul, Int.reduceNeg, Int.reduceLT, Int.reduceLE, Int.reduceEq, Int.reduceToNat, ↓reduceIte, Int.reducePow, Nat.reduceLeDiff, Nat.reduceLT, ne_eq, eq_self, List.length_cons, List.length_nil, qxE, kxE] | (with_reducible refine Sx.call_at (f := 50) (fun W hW => rx_kstart W) ?_) | (with_reducible refine eq_is (fun W => by first | exact eqk_run z z z z z z z z W) ?_))
  rfl
set_option maxRecDepth 100000 in
theorem rx_kval {p q p1 q1 : Int} (h : Cl p q p1 q1) (W : World) : Gives Try.prog 103 [KX false p q p1 q1] W (· = .bool true) := by
  obtain ⟨f, g, le⟩ := h
  have c1 := fun W => rx_rcompare f.cq g.cq W
  have c2 : cq p q p1 q1 ≤ 0 := (km_le _ _).2 le
  refine gives_known en_r13_Valid ?_
  refine known_of (enter Try.func103 r13_Valid.ok (args := [_]) (by simp) ?_)
  repeat' (first | simp (disch := omega) only [sxE, r13_Valid.E, Nat.reduceAdd, Nat.reduceEqDiff, Nat.reduceMul, Nat.reduceSub, Int.reduceAdd, Int.reduceSub, Int.reduceMul, Int.reduceNeg, Int.reduceLT, Int.reduceLE, Int.reduceEq, Int.reduceToNat, ↓reduceIte, Int.reducePow, Nat.reduceLeDiff, Nat.reduceLT, ne_eq, eq_self, List.length_cons, List.length_nil, qxE, kxE] | (with_reducible refine Sx.call_at (f := 117) (fun W hW => f.v2 W) ?_) | (with_reducible refine Sx.call_at (f := 117) (fun W hW => g.v2 W) ?_) | (with_reducible refine Sx.call_at (f := 100) (fun W hW => c1 W) ?_))
  exact vb (decide_eq_true c2)
theorem kv_ok {c : Cn} (h : c.ok) : KV c.v true c := by
  refine ⟨?_, ?_, ⟨_, _, _, _, _, _, _, _, _, _, _, _, _, _, _, _, _, _, _, _, _, rfl⟩, fun _ => ⟨rfl, h⟩⟩
  all_goals
    rcases h with rfl | ⟨ho, h⟩
  · exact gx_kvalO
  · unfold Cn.v; rw [ho]; exact gx_kval h
  · exact rx_kvalO
  · unfold Cn.v; rw [ho]; exact rx_kval h
theorem weq0 {n : Bool} {a b c d : Int} (h : weq n a b c d false 0 0 0 0 = true) : n = false ∧ a = 0 ∧ b = 0 ∧ c = 0 ∧ d = 0 := by
  unfold weq meq at h
  simp at h
  simpa [and_assoc] using h
theorem kv_half {x0 x1 x2 x3 x4 x5 x6 x7 x8 x9 y0 y1 y2 y3 y4 y5 y6 y7 y8 y9 : Value} {p q p1 q1 : Int} (h : .agg #[x0, x1, x2, x3, x4, x5, x6, x7, x8, x9] = RX p q) (h' : .agg #[y0, y1, y2, y3, y4, y5, y6, y7, y8, y9] = RX p1 q1) :
    Value.agg #[.bool false, x0, x1, x2, x3, x4, x5, x6, x7, x8, x9, y0, y1, y2, y3, y4, y5, y6, y7, y8, y9] = KX false p q p1 q1 := by
  cases h
  cases h'
  rfl
set_option maxRecDepth 100000 in
theorem gv_half {x0 x1 x2 x3 x4 x5 x6 x7 x8 x9 y0 y1 y2 y3 y4 y5 y6 y7 y8 y9 : Value} {p q p1 q1 : Int} {t t' : Bool} (h : CQ (.agg #[x0, x1, x2, x3, x4, x5, x6, x7, x8, x9]) p q) (h' : CQ (.agg #[y0, y1, y2, y3, y4, y5, y6, y7, y8, y9]) p1 q1)
    (v : ∀ W, Gives Try.prog 115 [.agg #[x0, x1, x2, x3, x4, x5, x6, x7, x8, x9]] W (· = .bool t)) (v' : ∀ W, Gives Try.prog 115 [.agg #[y0, y1, y2, y3, y4, y5, y6, y7, y8, y9]] W (· = .bool t')) (W : World) :
    Gives Try.prog 101 [.agg #[.bool false, x0, x1, x2, x3, x4, x5, x6, x7, x8, x9, y0, y1, y2, y3, y4, y5, y6, y7, y8, y9]] W (· = .bool (t && t' && decide (cq p q p1 q1 ≤ 0))) := by
  have c1 := fun W => gx_rcompare h h' W
  refine gives_known en_cone_Valid ?_
  generalize cq p q p1 q1 = c at *
  cases t
  · refine known_of (enter Try.func101 cone_Valid.ok (args := [_]) (by simp) ?_)
    repeat' (first | simp (disch := omega) only [sxE, cone_Valid.E, Nat.reduceAdd, Nat.reduceEqDiff, Nat.reduceMul, Nat.reduceSub, Int.reduceAdd, Int.reduceSub, Int.reduceMul, Int.reduceNeg, Int.reduceLT, Int.reduceLE, Int.reduceEq, Int.reduceToNat, ↓reduceIte, Int.reducePow, Nat.reduceLeDiff, Nat.reduceLT, ne_eq, eq_self, List.length_cons, List.length_nil, qxE] | (with_reducible refine Sx.call_at (f := 115) (fun W hW => v W) ?_))
    rfl
  · cases t'
    · refine known_of (enter Try.func101 cone_Valid.ok (args := [_]) (by simp) ?_)
      repeat' (first | simp (disch := omega) only [sxE, cone_Valid.E, Nat.reduceAdd, Nat.reduceEqDiff, Nat.reduceMul, Nat.reduceSub, Int.reduceAdd, Int.reduceSub, Int.reduceMul, Int.reduceNeg, Int.reduceLT, Int.reduceLE, Int.reduceEq, Int.reduceToNat, ↓reduceIte, Int.reducePow, Nat.reduceLeDiff, Nat.reduceLT, ne_eq, eq_self, List.length_cons, List.length_nil, qxE] | (with_reducible refine Sx.call_at (f := 115) (fun W hW => v W) ?_) | (with_reducible refine Sx.call_at (f := 115) (fun W hW => v' W) ?_))
      rfl
    · refine known_of (enter Try.func101 cone_Valid.ok (args := [_]) (by simp) ?_)
      repeat' (first | simp (disch := omega) only [sxE, cone_Valid.E, Nat.reduceAdd, Nat.reduceEqDiff, Nat.reduceMul, Nat.reduceSub, Int.reduceAdd, Int.reduceSub, Int.reduceMul, Int.reduceNeg, Int.reduceLT, Int.reduceLE, Int.reduceEq, Int.reduceToNat, ↓reduceIte, Int.reducePow, Nat.reduceLeDiff, Nat.reduceLT, ne_eq, eq_self, List.length_cons, List.length_nil, qxE] | (with_reducible refine Sx.call_at (f := 115) (fun W hW => v W) ?_) | (with_reducible refine Sx.call_at (f := 115) (fun W hW => v' W) ?_) | (with_reducible refine Sx.call_at (f := 116) (fun W hW => c1 W) ?_))
      rfl
set_option maxRecDepth 100000 in
theorem rv_half {x0 x1 x2 x3 x4 x5 x6 x7 x8 x9 y0 y1 y2 y3 y4 y5 y6 y7 y8 y9 : Value} {p q p1 q1 : Int} {t t' : Bool} (h : CQ (.agg #[x0, x1, x2, x3, x4, x5, x6, x7, x8, x9]) p q) (h' : CQ (.agg #[y0, y1, y2, y3, y4, y5, y6, y7, y8, y9]) p1 q1)
    (v : ∀ W, Gives Try.prog 117 [.agg #[x0, x1, x2, x3, x4, x5, x6, x7, x8, x9]] W (· = .bool t)) (v' : ∀ W, Gives Try.prog 117 [.agg #[y0, y1, y2, y3, y4, y5, y6, y7, y8, y9]] W (· = .bool t')) (W : World) :
    Gives Try.prog 103 [.agg #[.bool false, x0, x1, x2, x3, x4, x5, x6, x7, x8, x9, y0, y1, y2, y3, y4, y5, y6, y7, y8, y9]] W (· = .bool (t && t' && decide (cq p q p1 q1 ≤ 0))) := by
  have c1 := fun W => rx_rcompare h h' W
  refine gives_known en_r13_Valid ?_
  generalize cq p q p1 q1 = c at *
  cases t
  · refine known_of (enter Try.func103 r13_Valid.ok (args := [_]) (by simp) ?_)
    repeat' (first | simp (disch := omega) only [sxE, r13_Valid.E, Nat.reduceAdd, Nat.reduceEqDiff, Nat.reduceMul, Nat.reduceSub, Int.reduceAdd, Int.reduceSub, Int.reduceMul, Int.reduceNeg, Int.reduceLT, Int.reduceLE, Int.reduceEq, Int.reduceToNat, ↓reduceIte, Int.reducePow, Nat.reduceLeDiff, Nat.reduceLT, ne_eq, eq_self, List.length_cons, List.length_nil, qxE] | (with_reducible refine Sx.call_at (f := 117) (fun W hW => v W) ?_))
    rfl
  · cases t'
    · refine known_of (enter Try.func103 r13_Valid.ok (args := [_]) (by simp) ?_)
      repeat' (first | simp (disch := omega) only [sxE, r13_Valid.E, Nat.reduceAdd, Nat.reduceEqDiff, Nat.reduceMul, Nat.reduceSub, Int.reduceAdd, Int.reduceSub, Int.reduceMul, Int.reduceNeg, Int.reduceLT, Int.reduceLE, Int.reduceEq, Int.reduceToNat, ↓reduceIte, Int.reducePow, Nat.reduceLeDiff, Nat.reduceLT, ne_eq, eq_self, List.length_cons, List.length_nil, qxE] | (with_reducible refine Sx.call_at (f := 117) (fun W hW => v W) ?_) | (with_reducible refine Sx.call_at (f := 117) (fun W hW => v' W) ?_))
      rfl
    · refine known_of (enter Try.func103 r13_Valid.ok (args := [_]) (by simp) ?_)
      repeat' (first | simp (disch := omega) only [sxE, r13_Valid.E, Nat.reduceAdd, Nat.reduceEqDiff, Nat.reduceMul, Nat.reduceSub, Int.reduceAdd, Int.reduceSub, Int.reduceMul, Int.reduceNeg, Int.reduceLT, Int.reduceLE, Int.reduceEq, Int.reduceToNat, ↓reduceIte, Int.reducePow, Nat.reduceLeDiff, Nat.reduceLT, ne_eq, eq_self, List.length_cons, List.length_nil, qxE] | (with_reducible refine Sx.call_at (f := 117) (fun W hW => v W) ?_) | (with_reducible refine Sx.call_at (f := 117) (fun W hW => v' W) ?_) | (with_reducible refine Sx.call_at (f := 100) (fun W hW => c1 W) ?_))
      rfl
theorem kv_false {x0 x1 x2 x3 x4 x5 x6 x7 x8 x9 y0 y1 y2 y3 y4 y5 y6 y7 y8 y9 : Value} {p q p1 q1 : Int} (h : CQ (.agg #[x0, x1, x2, x3, x4, x5, x6, x7, x8, x9]) p q) (h' : CQ (.agg #[y0, y1, y2, y3, y4, y5, y6, y7, y8, y9]) p1 q1) :
    ∃ t c, KV (.agg #[.bool false, x0, x1, x2, x3, x4, x5, x6, x7, x8, x9, y0, y1, y2, y3, y4, y5, y6, y7, y8, y9]) t c := by
  obtain ⟨t, v1, v2, e⟩ := h.vq
  obtain ⟨t', v1', v2', e'⟩ := h'.vq
  refine ⟨_, ⟨false, p, q, p1, q1⟩, fun W => gv_half h h' v1 v1' W, fun W => rv_half h h' v2 v2' W, ⟨_, _, _, _, _, _, _, _, _, _, _, _, _, _, _, _, _, _, _, _, _, rfl⟩, fun ht => ?_⟩
  rw [Bool.and_eq_true, Bool.and_eq_true, decide_eq_true_eq] at ht
  exact ⟨kv_half (e ht.1.1) (e' ht.1.2), Cl.ok ⟨h.fq, h'.fq, (km_le _ _).1 ht.2⟩⟩
theorem eqkr_run {ng : Bool} {xo yo : Operand} {o : Bool} {n : Bool} {a b c d : Int} {n1 : Bool} {a1 b1 c1 d1 : Int} {m : Bool} {e f g h : Int} {m1 : Bool} {e1 f1 g1 h1 : Int} (W : World) :
    ((do eqGuard (if ng then .neq else .eql) 76 xo yo (KR o n a b c d n1 a1 b1 c1 d1 m e f g h m1 e1 f1 g1 h1) (KX true 0 0 0 0); binOp (if ng then .neq else .eql) 76 (KR o n a b c d n1 a1 b1 c1 d1 m e f g h m1 e1 f1 g1 h1) (KX true 0 0 0 0)) : Sem Value).run Try.prog W =
      .ok (.bool (if ng then !((o == true) && (weq n a b c d false 0 0 0 0 && weq n1 a1 b1 c1 d1 false 0 0 0 0) && (weq m e f g h false 0 0 0 0 && weq m1 e1 f1 g1 h1 false 0 0 0 0)) else ((o == true) && (weq n a b c d false 0 0 0 0 && weq n1 a1 b1 c1 d1 false 0 0 0 0) && (weq m e f g h false 0 0 0 0 && weq m1 e1 f1 g1 h1 false 0 0 0 0)))) W :=
  eqb_run (ng := ng) (xo := xo) (yo := yo) guardT_cone (eq_cone o n a b c d n1 a1 b1 c1 d1 m e f g h m1 e1 f1 g1 h1 true false 0 0 0 0 false 0 0 0 0 false 0 0 0 0 false 0 0 0 0 W)
def kz (n : Bool) (a b c d : Int) (n1 : Bool) (a1 b1 c1 d1 : Int) (m : Bool) (e f g h : Int) (m1 : Bool) (e1 f1 g1 h1 : Int) : Bool := (true == true) && (weq n a b c d false 0 0 0 0 && weq n1 a1 b1 c1 d1 false 0 0 0 0) && (weq m e f g h false 0 0 0 0 && weq m1 e1 f1 g1 h1 false 0 0 0 0)
theorem kz_eq {n : Bool} {a b c d : Int} {n1 : Bool} {a1 b1 c1 d1 : Int} {m : Bool} {e f g h : Int} {m1 : Bool} {e1 f1 g1 h1 : Int} (H : kz n a b c d n1 a1 b1 c1 d1 m e f g h m1 e1 f1 g1 h1 = true) : KR true n a b c d n1 a1 b1 c1 d1 m e f g h m1 e1 f1 g1 h1 = KX true 0 0 0 0 := by
  unfold kz at H
  simp only [Bool.and_eq_true] at H
  obtain ⟨⟨-, k1, k2⟩, k3, k4⟩ := H
  obtain ⟨rfl, rfl, rfl, rfl, rfl⟩ := weq0 k1
  obtain ⟨rfl, rfl, rfl, rfl, rfl⟩ := weq0 k2
  obtain ⟨rfl, rfl, rfl, rfl, rfl⟩ := weq0 k3
  obtain ⟨rfl, rfl, rfl, rfl, rfl⟩ := weq0 k4
  rfl
set_option maxRecDepth 100000 in
theorem gv_open (n : Bool) (a b c d : Int) (n1 : Bool) (a1 b1 c1 d1 : Int) (m : Bool) (e f g h : Int) (m1 : Bool) (e1 f1 g1 h1 : Int) (W : World) : Gives Try.prog 101 [KR true n a b c d n1 a1 b1 c1 d1 m e f g h m1 e1 f1 g1 h1] W (· = .bool (kz n a b c d n1 a1 b1 c1 d1 m e f g h m1 e1 f1 g1 h1)) := by
  refine gives_known en_cone_Valid ?_
  refine known_of (enter Try.func101 cone_Valid.ok (args := [_]) (by simp) ?_)
  repeat' (first | simp (disch := omega) only [sxE, cone_Valid.E, Nat.reduceAdd, Nat.reduceEqDiff, Nat.reduceMul, Nat.reduceSub, Int.reduceAdd, Int.reduceSub, Int.reduceMul, Int.reduceNeg, Int.reduceLT, Int.reduceLE, Int.reduceEq, Int.reduceToNat, ↓reduceIte, Int.reducePow, Nat.reduceLeDiff, Nat.reduceLT, ne_eq, eq_self, List.length_cons, List.length_nil, qxE, kxE] | (with_reducible refine Sx.call_at (f := 49) (fun W hW => gx_kstart W) ?_) | (with_reducible refine eq_is (fun W => by exact eqkr_run W) ?_))
  rfl
set_option maxRecDepth 100000 in
theorem rv_open (n : Bool) (a b c d : Int) (n1 : Bool) (a1 b1 c1 d1 : Int) (m : Bool) (e f g h : Int) (m1 : Bool) (e1 f1 g1 h1 : Int) (W : World) : Gives Try.prog 103 [KR true n a b c d n1 a1 b1 c1 d1 m e f g h m1 e1 f1 g1 h1] W (· = .bool (kz n a b c d n1 a1 b1 c1 d1 m e f g h m1 e1 f1 g1 h1)) := by
  refine gives_known en_r13_Valid ?_
  refine known_of (enter Try.func103 r13_Valid.ok (args := [_]) (by simp) ?_)
  repeat' (first | simp (disch := omega) only [sxE, r13_Valid.E, Nat.reduceAdd, Nat.reduceEqDiff, Nat.reduceMul, Nat.reduceSub, Int.reduceAdd, Int.reduceSub, Int.reduceMul, Int.reduceNeg, Int.reduceLT, Int.reduceLE, Int.reduceEq, Int.reduceToNat, ↓reduceIte, Int.reducePow, Nat.reduceLeDiff, Nat.reduceLT, ne_eq, eq_self, List.length_cons, List.length_nil, qxE, kxE] | (with_reducible refine Sx.call_at (f := 50) (fun W hW => rx_kstart W) ?_) | (with_reducible refine eq_is (fun W => by exact eqkr_run W) ?_))
  rfl
theorem kv_open (n : Bool) (a b c d : Int) (n1 : Bool) (a1 b1 c1 d1 : Int) (m : Bool) (e f g h : Int) (m1 : Bool) (e1 f1 g1 h1 : Int) : ∃ t x, KV (KR true n a b c d n1 a1 b1 c1 d1 m e f g h m1 e1 f1 g1 h1) t x :=
  ⟨_, cO, fun W => gv_open _ _ _ _ _ _ _ _ _ _ _ _ _ _ _ _ _ _ _ _ W, fun W => rv_open _ _ _ _ _ _ _ _ _ _ _ _ _ _ _ _ _ _ _ _ W, ⟨_, _, _, _, _, _, _, _, _, _, _, _, _, _, _, _, _, _, _, _, _, rfl⟩, fun h => ⟨kz_eq h, cO_ok⟩⟩
theorem kv_raw (o : Bool) (n : Bool) {a b c d : Int} (n1 : Bool) {a1 b1 c1 d1 : Int} (m : Bool) {e f g h : Int} (m1 : Bool) {e1 f1 g1 h1 : Int} (k1 : U64 a) (k2 : U64 b) (k3 : U64 c) (k4 : U64 d) (k5 : U64 a1) (k6 : U64 b1) (k7 : U64 c1) (k8 : U64 d1) (k9 : U64 e) (k10 : U64 f) (k11 : U64 g) (k12 : U64 h) (k13 : U64 e1) (k14 : U64 f1) (k15 : U64 g1) (k16 : U64 h1) :
    ∃ t x, KV (KR o n a b c d n1 a1 b1 c1 d1 m e f g h m1 e1 f1 g1 h1) t x := by
  cases o
  · obtain ⟨p, q, h⟩ := cq_raw n n1 k1 k2 k3 k4 k5 k6 k7 k8
    obtain ⟨p1, q1, h'⟩ := cq_raw m m1 k9 k10 k11 k12 k13 k14 k15 k16
    exact kv_false h h'
  · exact kv_open _ _ _ _ _ _ _ _ _ _ _ _ _ _ _ _ _ _ _ _
end Go.Proofs.Ytncmmbacoknefaa

/- Kc: Cones: what both programs' Meet, Contains and Choose return. (Printed by gen/cone.py.) -/
namespace Go.Proofs.Ytncmmbacoknefaa
open Go Go.RowKit Sx
set_option linter.unusedVariables false
set_option linter.unusedSimpArgs false
set_option maxRecDepth 100000 in
theorem gx_meetN {x0 x1 x2 x3 x4 x5 x6 x7 x8 x9 x10 x11 x12 x13 x14 x15 x16 x17 x18 x19 x20 y0 y1 y2 y3 y4 y5 y6 y7 y8 y9 y10 y11 y12 y13 y14 y15 y16 y17 y18 y19 y20 : Value} {t t' : Bool}
    (v : ∀ W, Gives Try.prog 101 [.agg #[x0, x1, x2, x3, x4, x5, x6, x7, x8, x9, x10, x11, x12, x13, x14, x15, x16, x17, x18, x19, x20]] W (· = .bool t)) (v' : ∀ W, Gives Try.prog 101 [.agg #[y0, y1, y2, y3, y4, y5, y6, y7, y8, y9, y10, y11, y12, y13, y14, y15, y16, y17, y18, y19, y20]] W (· = .bool t')) (h : (t && t') = false) (W : World) :
    Gives Try.prog 60 [.agg #[x0, x1, x2, x3, x4, x5, x6, x7, x8, x9, x10, x11, x12, x13, x14, x15, x16, x17, x18, x19, x20], .agg #[y0, y1, y2, y3, y4, y5, y6, y7, y8, y9, y10, y11, y12, y13, y14, y15, y16, y17, y18, y19, y20]] W (· = .tuple #[KX false 0 0 0 0, .bool false]) := by
  refine gives_known en_cone_Meet ?_
  cases t
  · refine known_of (enter Try.func60 cone_Meet.ok (args := [_, _]) (by simp) ?_)
    repeat' (first | simp (disch := omega) only [sxE, cone_Meet.E, Nat.reduceAdd, Nat.reduceEqDiff, Nat.reduceMul, Nat.reduceSub, Int.reduceAdd, Int.reduceSub, Int.reduceMul, Int.reduceNeg, Int.reduceLT, Int.reduceLE, Int.reduceEq, Int.reduceToNat, ↓reduceIte, Int.reducePow, Nat.reduceLeDiff, Nat.reduceLT, ne_eq, eq_self, List.length_cons, List.length_nil, qxE, kxE] | (with_reducible refine Sx.call_at (f := 101) (fun W hW => v W) ?_))
  · obtain rfl : t' = false := h
    refine known_of (enter Try.func60 cone_Meet.ok (args := [_, _]) (by simp) ?_)
    repeat' (first | simp (disch := omega) only [sxE, cone_Meet.E, Nat.reduceAdd, Nat.reduceEqDiff, Nat.reduceMul, Nat.reduceSub, Int.reduceAdd, Int.reduceSub, Int.reduceMul, Int.reduceNeg, Int.reduceLT, Int.reduceLE, Int.reduceEq, Int.reduceToNat, ↓reduceIte, Int.reducePow, Nat.reduceLeDiff, Nat.reduceLT, ne_eq, eq_self, List.length_cons, List.length_nil, qxE, kxE] | (with_reducible refine Sx.call_at (f := 101) (fun W hW => v W) ?_) | (with_reducible refine Sx.call_at (f := 101) (fun W hW => v' W) ?_))
set_option maxRecDepth 100000 in
theorem gx_meetO {o : Bool} {p q p1 q1 : Int} (v : ∀ W, Gives Try.prog 101 [KX o p q p1 q1] W (· = .bool true)) (W : World) : Gives Try.prog 60 [KX true 0 0 0 0, KX o p q p1 q1] W (· = .tuple #[KX o p q p1 q1, .bool true]) := by
  have v0 := fun W => gx_kvalO W
  refine gives_known en_cone_Meet ?_
  refine known_of (enter Try.func60 cone_Meet.ok (args := [_, _]) (by simp) ?_)
  repeat' (first | simp (disch := omega) only [sxE, cone_Meet.E, Nat.reduceAdd, Nat.reduceEqDiff, Nat.reduceMul, Nat.reduceSub, Int.reduceAdd, Int.reduceSub, Int.reduceMul, Int.reduceNeg, Int.reduceLT, Int.reduceLE, Int.reduceEq, Int.reduceToNat, ↓reduceIte, Int.reducePow, Nat.reduceLeDiff, Nat.reduceLT, ne_eq, eq_self, List.length_cons, List.length_nil, qxE, kxE] | (with_reducible refine Sx.call_at (f := 101) (fun W hW => v0 W) ?_) | (with_reducible refine Sx.call_at (f := 101) (fun W hW => v W) ?_))
set_option maxRecDepth 100000 in
theorem gx_meetR {p q p1 q1 : Int} (h : Cl p q p1 q1) (W : World) : Gives Try.prog 60 [KX false p q p1 q1, KX true 0 0 0 0] W (· = .tuple #[KX false p q p1 q1, .bool true]) := by
  have v0 := fun W => gx_kvalO W
  have v := fun W => gx_kval h W
  refine gives_known en_cone_Meet ?_
  refine known_of (enter Try.func60 cone_Meet.ok (args := [_, _]) (by simp) ?_)
  repeat' (first | simp (disch := omega) only [sxE, cone_Meet.E, Nat.reduceAdd, Nat.reduceEqDiff, Nat.reduceMul, Nat.reduceSub, Int.reduceAdd, Int.reduceSub, Int.reduceMul, Int.reduceNeg, Int.reduceLT, Int.reduceLE, Int.reduceEq, Int.reduceToNat, ↓reduceIte, Int.reducePow, Nat.reduceLeDiff, Nat.reduceLT, ne_eq, eq_self, List.length_cons, List.length_nil, qxE, kxE] | (with_reducible refine Sx.call_at (f := 101) (fun W hW => v W) ?_) | (with_reducible refine Sx.call_at (f := 101) (fun W hW => v0 W) ?_))
set_option maxRecDepth 100000 in
set_option maxHeartbeats 1000000 in
theorem gx_meetC {p q p1 q1 r s r1 s1 : Int} (h : Cl p q p1 q1) (h' : Cl r s r1 s1) (W : World) : Gives Try.prog 60 [KX false p q p1 q1, KX false r s r1 s1] W (· = mtV true ⟨false, p, q, p1, q1⟩ ⟨false, r, s, r1, s1⟩) := by
  have v := fun W => gx_kval h W
  have v' := fun W => gx_kval h' W
  have c1 := fun W => gx_rcompare h'.f.cq h.f.cq W
  have c2 := fun W => gx_rcompare h'.g.cq h.g.cq W
  have c3 := fun W => gx_rcompare h.f.cq h.g.cq W
  have c4 := fun W => gx_rcompare h.f.cq h'.g.cq W
  have c5 := fun W => gx_rcompare h'.f.cq h.g.cq W
  have c6 := fun W => gx_rcompare h'.f.cq h'.g.cq W
  refine gives_known en_cone_Meet ?_
  have k1 : 0 < cq r s p q ↔ p * s < r * q := km_gt _ _
  have k2 : cq r1 s1 p1 q1 < 0 ↔ r1 * q1 < p1 * s1 := km_lt _ _
  have k3 : 0 < cq p q p1 q1 ↔ ¬ p * q1 ≤ p1 * q := by rw [Int.not_le]; exact km_gt _ _
  have k4 : 0 < cq p q r1 s1 ↔ ¬ p * s1 ≤ r1 * q := by rw [Int.not_le]; exact km_gt _ _
  have k5 : 0 < cq r s p1 q1 ↔ ¬ r * q1 ≤ p1 * s := by rw [Int.not_le]; exact km_gt _ _
  have k6 : 0 < cq r s r1 s1 ↔ ¬ r * s1 ≤ r1 * s := by rw [Int.not_le]; exact km_gt _ _
  clear h h'
  by_cases b1 : p * s < r * q
  · have d1 := k1.2 b1
    by_cases b2 : r1 * q1 < p1 * s1
    · have d2 := k2.2 b2
      by_cases b3 : r * s1 ≤ r1 * s
      · have d3 : ¬ 0 < cq r s r1 s1 := fun e => k6.1 e b3
        have e : mtV true ⟨false, p, q, p1, q1⟩ ⟨false, r, s, r1, s1⟩ = .tuple #[KX false r s r1 s1, .bool true] := by simp [mtV, mtv, cmt, b1, b2, b3, Cn.v]
        rw [e]
        clear e k1 k2 k3 k4 k5 k6 b1 b2 b3
        refine known_of (enter Try.func60 cone_Meet.ok (args := [_, _]) (by simp) ?_)
        repeat' (first | simp (disch := omega) only [sxE, cone_Meet.E, Nat.reduceAdd, Nat.reduceEqDiff, Nat.reduceMul, Nat.reduceSub, Int.reduceAdd, Int.reduceSub, Int.reduceMul, Int.reduceNeg, Int.reduceLT, Int.reduceLE, Int.reduceEq, Int.reduceToNat, ↓reduceIte, Int.reducePow, Nat.reduceLeDiff, Nat.reduceLT, ne_eq, eq_self, List.length_cons, List.length_nil, qxE, kxE] | (with_reducible refine Sx.call_at (f := 101) (fun W hW => v W) ?_) | (with_reducible refine Sx.call_at (f := 101) (fun W hW => v' W) ?_) | (with_reducible refine Sx.call_at (f := 116) (fun W hW => c1 W) ?_) | (with_reducible refine Sx.call_at (f := 116) (fun W hW => c2 W) ?_) | (with_reducible refine Sx.call_at (f := 116) (fun W hW => c6 W) ?_))
      · have d3 : 0 < cq r s r1 s1 := k6.2 b3
        have e : mtV true ⟨false, p, q, p1, q1⟩ ⟨false, r, s, r1, s1⟩ = .tuple #[KX false 0 0 0 0, .bool false] := by simp [mtV, mtv, cmt, b1, b2, b3, Cn.v, c0]
        rw [e]
        clear e k1 k2 k3 k4 k5 k6 b1 b2 b3
        refine known_of (enter Try.func60 cone_Meet.ok (args := [_, _]) (by simp) ?_)
        repeat' (first | simp (disch := omega) only [sxE, cone_Meet.E, Nat.reduceAdd, Nat.reduceEqDiff, Nat.reduceMul, Nat.reduceSub, Int.reduceAdd, Int.reduceSub, Int.reduceMul, Int.reduceNeg, Int.reduceLT, Int.reduceLE, Int.reduceEq, Int.reduceToNat, ↓reduceIte, Int.reducePow, Nat.reduceLeDiff, Nat.reduceLT, ne_eq, eq_self, List.length_cons, List.length_nil, qxE, kxE] | (with_reducible refine Sx.call_at (f := 101) (fun W hW => v W) ?_) | (with_reducible refine Sx.call_at (f := 101) (fun W hW => v' W) ?_) | (with_reducible refine Sx.call_at (f := 116) (fun W hW => c1 W) ?_) | (with_reducible refine Sx.call_at (f := 116) (fun W hW => c2 W) ?_) | (with_reducible refine Sx.call_at (f := 116) (fun W hW => c6 W) ?_))
    · have d2 : ¬ cq r1 s1 p1 q1 < 0 := fun e => b2 (k2.1 e)
      by_cases b3 : r * q1 ≤ p1 * s
      · have d3 : ¬ 0 < cq r s p1 q1 := fun e => k5.1 e b3
        have e : mtV true ⟨false, p, q, p1, q1⟩ ⟨false, r, s, r1, s1⟩ = .tuple #[KX false r s p1 q1, .bool true] := by simp [mtV, mtv, cmt, b1, b2, b3, Cn.v]
        rw [e]
        clear e k1 k2 k3 k4 k5 k6 b1 b2 b3
        refine known_of (enter Try.func60 cone_Meet.ok (args := [_, _]) (by simp) ?_)
        repeat' (first | simp (disch := omega) only [sxE, cone_Meet.E, Nat.reduceAdd, Nat.reduceEqDiff, Nat.reduceMul, Nat.reduceSub, Int.reduceAdd, Int.reduceSub, Int.reduceMul, Int.reduceNeg, Int.reduceLT, Int.reduceLE, Int.reduceEq, Int.reduceToNat, ↓reduceIte, Int.reducePow, Nat.reduceLeDiff, Nat.reduceLT, ne_eq, eq_self, List.length_cons, List.length_nil, qxE, kxE] | (with_reducible refine Sx.call_at (f := 101) (fun W hW => v W) ?_) | (with_reducible refine Sx.call_at (f := 101) (fun W hW => v' W) ?_) | (with_reducible refine Sx.call_at (f := 116) (fun W hW => c1 W) ?_) | (with_reducible refine Sx.call_at (f := 116) (fun W hW => c2 W) ?_) | (with_reducible refine Sx.call_at (f := 116) (fun W hW => c5 W) ?_))
      · have d3 : 0 < cq r s p1 q1 := k5.2 b3
        have e : mtV true ⟨false, p, q, p1, q1⟩ ⟨false, r, s, r1, s1⟩ = .tuple #[KX false 0 0 0 0, .bool false] := by simp [mtV, mtv, cmt, b1, b2, b3, Cn.v, c0]
        rw [e]
        clear e k1 k2 k3 k4 k5 k6 b1 b2 b3
        refine known_of (enter Try.func60 cone_Meet.ok (args := [_, _]) (by simp) ?_)
        repeat' (first | simp (disch := omega) only [sxE, cone_Meet.E, Nat.reduceAdd, Nat.reduceEqDiff, Nat.reduceMul, Nat.reduceSub, Int.reduceAdd, Int.reduceSub, Int.reduceMul, Int.reduceNeg, Int.reduceLT, Int.reduceLE, Int.reduceEq, Int.reduceToNat, ↓reduceIte, Int.reducePow, Nat.reduceLeDiff, Nat.reduceLT, ne_eq, eq_self, List.length_cons, List.length_nil, qxE, kxE] | (with_reducible refine Sx.call_at (f := 101) (fun W hW => v W) ?_) | (with_reducible refine Sx.call_at (f := 101) (fun W hW => v' W) ?_) | (with_reducible refine Sx.call_at (f := 116) (fun W hW => c1 W) ?_) | (with_reducible refine Sx.call_at (f := 116) (fun W hW => c2 W) ?_) | (with_reducible refine Sx.call_at (f := 116) (fun W hW => c5 W) ?_))
  · have d1 : ¬ 0 < cq r s p q := fun e => b1 (k1.1 e)
    by_cases b2 : r1 * q1 < p1 * s1
    · have d2 := k2.2 b2
      by_cases b3 : p * s1 ≤ r1 * q
      · have d3 : ¬ 0 < cq p q r1 s1 := fun e => k4.1 e b3
        have e : mtV true ⟨false, p, q, p1, q1⟩ ⟨false, r, s, r1, s1⟩ = .tuple #[KX false p q r1 s1, .bool true] := by simp [mtV, mtv, cmt, b1, b2, b3, Cn.v]
        rw [e]
        clear e k1 k2 k3 k4 k5 k6 b1 b2 b3
        refine known_of (enter Try.func60 cone_Meet.ok (args := [_, _]) (by simp) ?_)
        repeat' (first | simp (disch := omega) only [sxE, cone_Meet.E, Nat.reduceAdd, Nat.reduceEqDiff, Nat.reduceMul, Nat.reduceSub, Int.reduceAdd, Int.reduceSub, Int.reduceMul, Int.reduceNeg, Int.reduceLT, Int.reduceLE, Int.reduceEq, Int.reduceToNat, ↓reduceIte, Int.reducePow, Nat.reduceLeDiff, Nat.reduceLT, ne_eq, eq_self, List.length_cons, List.length_nil, qxE, kxE] | (with_reducible refine Sx.call_at (f := 101) (fun W hW => v W) ?_) | (with_reducible refine Sx.call_at (f := 101) (fun W hW => v' W) ?_) | (with_reducible refine Sx.call_at (f := 116) (fun W hW => c1 W) ?_) | (with_reducible refine Sx.call_at (f := 116) (fun W hW => c2 W) ?_) | (with_reducible refine Sx.call_at (f := 116) (fun W hW => c4 W) ?_))
      · have d3 : 0 < cq p q r1 s1 := k4.2 b3
        have e : mtV true ⟨false, p, q, p1, q1⟩ ⟨false, r, s, r1, s1⟩ = .tuple #[KX false 0 0 0 0, .bool false] := by simp [mtV, mtv, cmt, b1, b2, b3, Cn.v, c0]
        rw [e]
        clear e k1 k2 k3 k4 k5 k6 b1 b2 b3
        refine known_of (enter Try.func60 cone_Meet.ok (args := [_, _]) (by simp) ?_)
        repeat' (first | simp (disch := omega) only [sxE, cone_Meet.E, Nat.reduceAdd, Nat.reduceEqDiff, Nat.reduceMul, Nat.reduceSub, Int.reduceAdd, Int.reduceSub, Int.reduceMul, Int.reduceNeg, Int.reduceLT, Int.reduceLE, Int.reduceEq, Int.reduceToNat, ↓reduceIte, Int.reducePow, Nat.reduceLeDiff, Nat.reduceLT, ne_eq, eq_self, List.length_cons, List.length_nil, qxE, kxE] | (with_reducible refine Sx.call_at (f := 101) (fun W hW => v W) ?_) | (with_reducible refine Sx.call_at (f := 101) (fun W hW => v' W) ?_) | (with_reducible refine Sx.call_at (f := 116) (fun W hW => c1 W) ?_) | (with_reducible refine Sx.call_at (f := 116) (fun W hW => c2 W) ?_) | (with_reducible refine Sx.call_at (f := 116) (fun W hW => c4 W) ?_))
    · have d2 : ¬ cq r1 s1 p1 q1 < 0 := fun e => b2 (k2.1 e)
      by_cases b3 : p * q1 ≤ p1 * q
      · have d3 : ¬ 0 < cq p q p1 q1 := fun e => k3.1 e b3
        have e : mtV true ⟨false, p, q, p1, q1⟩ ⟨false, r, s, r1, s1⟩ = .tuple #[KX false p q p1 q1, .bool true] := by simp [mtV, mtv, cmt, b1, b2, b3, Cn.v]
        rw [e]
        clear e k1 k2 k3 k4 k5 k6 b1 b2 b3
        refine known_of (enter Try.func60 cone_Meet.ok (args := [_, _]) (by simp) ?_)
        repeat' (first | simp (disch := omega) only [sxE, cone_Meet.E, Nat.reduceAdd, Nat.reduceEqDiff, Nat.reduceMul, Nat.reduceSub, Int.reduceAdd, Int.reduceSub, Int.reduceMul, Int.reduceNeg, Int.reduceLT, Int.reduceLE, Int.reduceEq, Int.reduceToNat, ↓reduceIte, Int.reducePow, Nat.reduceLeDiff, Nat.reduceLT, ne_eq, eq_self, List.length_cons, List.length_nil, qxE, kxE] | (with_reducible refine Sx.call_at (f := 101) (fun W hW => v W) ?_) | (with_reducible refine Sx.call_at (f := 101) (fun W hW => v' W) ?_) | (with_reducible refine Sx.call_at (f := 116) (fun W hW => c1 W) ?_) | (with_reducible refine Sx.call_at (f := 116) (fun W hW => c2 W) ?_) | (with_reducible refine Sx.call_at (f := 116) (fun W hW => c3 W) ?_))
      · have d3 : 0 < cq p q p1 q1 := k3.2 b3
        have e : mtV true ⟨false, p, q, p1, q1⟩ ⟨false, r, s, r1, s1⟩ = .tuple #[KX false 0 0 0 0, .bool false] := by simp [mtV, mtv, cmt, b1, b2, b3, Cn.v, c0]
        rw [e]
        clear e k1 k2 k3 k4 k5 k6 b1 b2 b3
        refine known_of (enter Try.func60 cone_Meet.ok (args := [_, _]) (by simp) ?_)
        repeat' (first | simp (disch := omega) only [sxE, cone_Meet.E, Nat.reduceAdd, Nat.reduceEqDiff, Nat.reduceMul, Nat.reduceSub, Int.reduceAdd, Int.reduceSub, Int.reduceMul, Int.reduceNeg, Int.reduceLT, Int.reduceLE, Int.reduceEq, Int.reduceToNat, ↓reduceIte, Int.reducePow, Nat.reduceLeDiff, Nat.reduceLT, ne_eq, eq_self, List.length_cons, List.length_nil, qxE, kxE] | (with_reducible refine Sx.call_at (f := 101) (fun W hW => v W) ?_) | (with_reducible refine Sx.call_at (f := 101) (fun W hW => v' W) ?_) | (with_reducible refine Sx.call_at (f := 116) (fun W hW => c1 W) ?_) | (with_reducible refine Sx.call_at (f := 116) (fun W hW => c2 W) ?_) | (with_reducible refine Sx.call_at (f := 116) (fun W hW => c3 W) ?_))
theorem gx_meet {v v' : Value} {t t' : Bool} {c c' : Cn} (h : KV v t c) (h' : KV v' t' c') (W : World) : Gives Try.prog 60 [v, v'] W (· = mtV (t && t') c c') := by
  cases hb : t && t'
  · obtain ⟨x0, x1, x2, x3, x4, x5, x6, x7, x8, x9, x10, x11, x12, x13, x14, x15, x16, x17, x18, x19, x20, rfl⟩ := h.cells
    obtain ⟨y0, y1, y2, y3, y4, y5, y6, y7, y8, y9, y10, y11, y12, y13, y14, y15, y16, y17, y18, y19, y20, rfl⟩ := h'.cells
    exact gx_meetN h.v1 h'.v1 hb W
  · obtain ⟨rfl, rfl⟩ : t = true ∧ t' = true := by simpa using hb
    obtain ⟨rfl, hc⟩ := h.is rfl
    obtain ⟨rfl, hc'⟩ := h'.is rfl
    have v := h'.v1
    obtain ⟨o, p, q, p1, q1⟩ := c
    obtain ⟨o', r, s, r1, s1⟩ := c'
    rcases hc with e | ⟨e, hc⟩
    · cases e
      exact gx_meetO v W
    · cases e
      rcases hc' with e | ⟨e, hc'⟩
      · cases e
        exact gx_meetR hc W
      · cases e
        exact gx_meetC hc hc' W
set_option maxRecDepth 100000 in
theorem gx_has {v s : Value} {t u : Bool} {c : Cn} {p q : Int} (h : KV v t c) (hs : CQ s p q) (vs : ∀ W, Gives Try.prog 115 [s] W (· = .bool u)) (W : World) : Gives Try.prog 59 [v, s] W (· = .bool (t && u && c.has p q)) := by
  refine gives_known en_cone_Contains ?_
  have v1 := h.v1
  obtain ⟨s0, s1, s2, s3, s4, s5, s6, s7, s8, s9, rfl⟩ := hs.ten
  cases t
  · obtain ⟨x0, x1, x2, x3, x4, x5, x6, x7, x8, x9, x10, x11, x12, x13, x14, x15, x16, x17, x18, x19, x20, rfl⟩ := h.cells
    refine known_of (enter Try.func59 cone_Contains.ok (args := [_, _]) (by simp) ?_)
    repeat' (first | simp (disch := omega) only [sxE, cone_Contains.E, Nat.reduceAdd, Nat.reduceEqDiff, Nat.reduceMul, Nat.reduceSub, Int.reduceAdd, Int.reduceSub, Int.reduceMul, Int.reduceNeg, Int.reduceLT, Int.reduceLE, Int.reduceEq, Int.reduceToNat, ↓reduceIte, Int.reducePow, Nat.reduceLeDiff, Nat.reduceLT, ne_eq, eq_self, List.length_cons, List.length_nil, qxE, kxE] | (with_reducible refine Sx.call_at (f := 101) (fun W hW => v1 W) ?_))
    rfl
  · obtain ⟨rfl, hc⟩ := h.is rfl
    clear h
    obtain ⟨o, r, k, r1, k1⟩ := c
    cases u
    · change ∀ W, Gives _ _ [KX o r k r1 k1] W _ at v1
      show Calls _ _ #[KX o r k r1 k1, _] _ _
      refine known_of (enter Try.func59 cone_Contains.ok (args := [_, _]) (by simp) ?_)
      repeat' (first | simp (disch := omega) only [sxE, cone_Contains.E, Nat.reduceAdd, Nat.reduceEqDiff, Nat.reduceMul, Nat.reduceSub, Int.reduceAdd, Int.reduceSub, Int.reduceMul, Int.reduceNeg, Int.reduceLT, Int.reduceLE, Int.reduceEq, Int.reduceToNat, ↓reduceIte, Int.reducePow, Nat.reduceLeDiff, Nat.reduceLT, ne_eq, eq_self, List.length_cons, List.length_nil, qxE, kxE] | (with_reducible refine Sx.call_at (f := 101) (fun W hW => v1 W) ?_) | (with_reducible refine Sx.call_at (f := 115) (fun W hW => vs W) ?_))
      rfl
    · rcases hc with e | ⟨e, hc⟩
      · cases e
        change ∀ W, Gives _ _ [KX true 0 0 0 0] W _ at v1
        show Calls _ _ #[KX true 0 0 0 0, _] _ _
        refine known_of (enter Try.func59 cone_Contains.ok (args := [_, _]) (by simp) ?_)
        repeat' (first | simp (disch := omega) only [sxE, cone_Contains.E, Nat.reduceAdd, Nat.reduceEqDiff, Nat.reduceMul, Nat.reduceSub, Int.reduceAdd, Int.reduceSub, Int.reduceMul, Int.reduceNeg, Int.reduceLT, Int.reduceLE, Int.reduceEq, Int.reduceToNat, ↓reduceIte, Int.reducePow, Nat.reduceLeDiff, Nat.reduceLT, ne_eq, eq_self, List.length_cons, List.length_nil, qxE, kxE] | (with_reducible refine Sx.call_at (f := 101) (fun W hW => v1 W) ?_) | (with_reducible refine Sx.call_at (f := 115) (fun W hW => vs W) ?_))
        rfl
      · cases e
        change ∀ W, Gives _ _ [KX false r k r1 k1] W _ at v1
        have c1 := fun W => gx_rcompare hc.f.cq hs W
        have c2 := fun W => gx_rcompare hs hc.g.cq W
        have k1' : cq r k p q ≤ 0 ↔ r * q ≤ p * k := km_le _ _
        have k2' : cq p q r1 k1 ≤ 0 ↔ p * k1 ≤ r1 * q := km_le _ _
        clear hc hs
        by_cases b1 : r * q ≤ p * k
        · have d1 := k1'.2 b1
          have e : (true && true && (Cn.mk false r k r1 k1).has p q) = decide (cq p q r1 k1 ≤ 0) := by rw [Bool.eq_iff_iff]; simp [Cn.has, b1, k2']
          rw [e]
          clear e b1 k1' k2'
          show Calls _ _ #[KX false r k r1 k1, _] _ _
          refine known_of (enter Try.func59 cone_Contains.ok (args := [_, _]) (by simp) ?_)
          repeat' (first | simp (disch := omega) only [sxE, cone_Contains.E, Nat.reduceAdd, Nat.reduceEqDiff, Nat.reduceMul, Nat.reduceSub, Int.reduceAdd, Int.reduceSub, Int.reduceMul, Int.reduceNeg, Int.reduceLT, Int.reduceLE, Int.reduceEq, Int.reduceToNat, ↓reduceIte, Int.reducePow, Nat.reduceLeDiff, Nat.reduceLT, ne_eq, eq_self, List.length_cons, List.length_nil, qxE, kxE] | (with_reducible refine Sx.call_at (f := 101) (fun W hW => v1 W) ?_) | (with_reducible refine Sx.call_at (f := 115) (fun W hW => vs W) ?_) | (with_reducible refine Sx.call_at (f := 116) (fun W hW => c1 W) ?_) | (with_reducible refine Sx.call_at (f := 116) (fun W hW => c2 W) ?_))
        · have d1 : ¬ cq r k p q ≤ 0 := fun e => b1 (k1'.1 e)
          have e : (true && true && (Cn.mk false r k r1 k1).has p q) = false := by simp [Cn.has, b1]
          rw [e]
          clear e b1 k1' k2'
          show Calls _ _ #[KX false r k r1 k1, _] _ _
          refine known_of (enter Try.func59 cone_Contains.ok (args := [_, _]) (by simp) ?_)
          repeat' (first | simp (disch := omega) only [sxE, cone_Contains.E, Nat.reduceAdd, Nat.reduceEqDiff, Nat.reduceMul, Nat.reduceSub, Int.reduceAdd, Int.reduceSub, Int.reduceMul, Int.reduceNeg, Int.reduceLT, Int.reduceLE, Int.reduceEq, Int.reduceToNat, ↓reduceIte, Int.reducePow, Nat.reduceLeDiff, Nat.reduceLT, ne_eq, eq_self, List.length_cons, List.length_nil, qxE, kxE] | (with_reducible refine Sx.call_at (f := 101) (fun W hW => v1 W) ?_) | (with_reducible refine Sx.call_at (f := 115) (fun W hW => vs W) ?_) | (with_reducible refine Sx.call_at (f := 116) (fun W hW => c1 W) ?_) | (with_reducible refine Sx.call_at (f := 116) (fun W hW => c2 W) ?_))
set_option maxRecDepth 100000 in
theorem gx_choose {v : Value} {t : Bool} {c : Cn} (h : KV v t c) (W : World) : Gives Try.prog 56 [v] W (· = RX (cho t c).1 (cho t c).2) := by
  have v1 := h.v1
  cases t
  · obtain ⟨x0, x1, x2, x3, x4, x5, x6, x7, x8, x9, x10, x11, x12, x13, x14, x15, x16, x17, x18, x19, x20, rfl⟩ := h.cells
    show Gives _ _ _ W (· = RX 0 0)
    refine gives_known en_cone_Choose ?_
    refine known_of (enter Try.func56 cone_Choose.ok (args := [_]) (by simp) ?_)
    repeat' (first | simp (disch := omega) only [sxE, cone_Choose.E, Nat.reduceAdd, Nat.reduceEqDiff, Nat.reduceMul, Nat.reduceSub, Int.reduceAdd, Int.reduceSub, Int.reduceMul, Int.reduceNeg, Int.reduceLT, Int.reduceLE, Int.reduceEq, Int.reduceToNat, ↓reduceIte, Int.reducePow, Nat.reduceLeDiff, Nat.reduceLT, ne_eq, eq_self, List.length_cons, List.length_nil, qxE, kxE] | (with_reducible refine Sx.call_at (f := 101) (fun W hW => v1 W) ?_))
  · obtain ⟨rfl, hc⟩ := h.is rfl
    clear h
    obtain ⟨o, r, k, r1, k1⟩ := c
    rcases hc with e | ⟨e, hc⟩
    · cases e
      change ∀ W, Gives _ _ [KX true 0 0 0 0] W _ at v1
      have o0 := fun W => gx_rof (z := 0) ⟨by decide, by decide⟩ W
      show Gives _ _ [KX true 0 0 0 0] W (· = RX 0 1)
      refine gives_known en_cone_Choose ?_
      refine known_of (enter Try.func56 cone_Choose.ok (args := [_]) (by simp) ?_)
      repeat' (first | simp (disch := omega) only [sxE, cone_Choose.E, Nat.reduceAdd, Nat.reduceEqDiff, Nat.reduceMul, Nat.reduceSub, Int.reduceAdd, Int.reduceSub, Int.reduceMul, Int.reduceNeg, Int.reduceLT, Int.reduceLE, Int.reduceEq, Int.reduceToNat, ↓reduceIte, Int.reducePow, Nat.reduceLeDiff, Nat.reduceLT, ne_eq, eq_self, List.length_cons, List.length_nil, qxE, kxE] | (with_reducible refine Sx.call_at (f := 101) (fun W hW => v1 W) ?_) | (with_reducible refine Sx.call_at (f := 112) (fun W hW => o0 W) ?_))
    · cases e
      change ∀ W, Gives _ _ [KX false r k r1 k1] W _ at v1
      have bt := fun W => gx_bt hc.f hc.g hc.le W
      show Gives _ _ [KX false r k r1 k1] W (· = RX (btx r k r1 k1).1 (btx r k r1 k1).2)
      refine gives_known en_cone_Choose ?_
      generalize btx r k r1 k1 = x at *
      refine known_of (enter Try.func56 cone_Choose.ok (args := [_]) (by simp) ?_)
      repeat' (first | simp (disch := omega) only [sxE, cone_Choose.E, Nat.reduceAdd, Nat.reduceEqDiff, Nat.reduceMul, Nat.reduceSub, Int.reduceAdd, Int.reduceSub, Int.reduceMul, Int.reduceNeg, Int.reduceLT, Int.reduceLE, Int.reduceEq, Int.reduceToNat, ↓reduceIte, Int.reducePow, Nat.reduceLeDiff, Nat.reduceLT, ne_eq, eq_self, List.length_cons, List.length_nil, qxE, kxE] | (with_reducible refine Sx.call_at (f := 101) (fun W hW => v1 W) ?_) | (with_reducible refine Sx.call_at (f := 113) (fun W hW => bt W) ?_))
set_option maxRecDepth 100000 in
theorem rx_meetN {x0 x1 x2 x3 x4 x5 x6 x7 x8 x9 x10 x11 x12 x13 x14 x15 x16 x17 x18 x19 x20 y0 y1 y2 y3 y4 y5 y6 y7 y8 y9 y10 y11 y12 y13 y14 y15 y16 y17 y18 y19 y20 : Value} {t t' : Bool}
    (v : ∀ W, Gives Try.prog 103 [.agg #[x0, x1, x2, x3, x4, x5, x6, x7, x8, x9, x10, x11, x12, x13, x14, x15, x16, x17, x18, x19, x20]] W (· = .bool t)) (v' : ∀ W, Gives Try.prog 103 [.agg #[y0, y1, y2, y3, y4, y5, y6, y7, y8, y9, y10, y11, y12, y13, y14, y15, y16, y17, y18, y19, y20]] W (· = .bool t')) (h : (t && t') = false) (W : World) :
    Gives Try.prog 102 [.agg #[x0, x1, x2, x3, x4, x5, x6, x7, x8, x9, x10, x11, x12, x13, x14, x15, x16, x17, x18, x19, x20], .agg #[y0, y1, y2, y3, y4, y5, y6, y7, y8, y9, y10, y11, y12, y13, y14, y15, y16, y17, y18, y19, y20]] W (· = .tuple #[KX false 0 0 0 0, .bool false]) := by
  refine gives_known en_r13_Meet ?_
  cases t
  · refine known_of (enter Try.func102 r13_Meet.ok (args := [_, _]) (by simp) ?_)
    repeat' (first | simp (disch := omega) only [sxE, r13_Meet.E, Nat.reduceAdd, Nat.reduceEqDiff, Nat.reduceMul, Nat.reduceSub, Int.reduceAdd, Int.reduceSub, Int.reduceMul, Int.reduceNeg, Int.reduceLT, Int.reduceLE, Int.reduceEq, Int.reduceToNat, ↓reduceIte, Int.reducePow, Nat.reduceLeDiff, Nat.reduceLT, ne_eq, eq_self, List.length_cons, List.length_nil, qxE, kxE] | (with_reducible refine Sx.call_at (f := 103) (fun W hW => v W) ?_))
  · obtain rfl : t' = false := h
    refine known_of (enter Try.func102 r13_Meet.ok (args := [_, _]) (by simp) ?_)
    repeat' (first | simp (disch := omega) only [sxE, r13_Meet.E, Nat.reduceAdd, Nat.reduceEqDiff, Nat.reduceMul, Nat.reduceSub, Int.reduceAdd, Int.reduceSub, Int.reduceMul, Int.reduceNeg, Int.reduceLT, Int.reduceLE, Int.reduceEq, Int.reduceToNat, ↓reduceIte, Int.reducePow, Nat.reduceLeDiff, Nat.reduceLT, ne_eq, eq_self, List.length_cons, List.length_nil, qxE, kxE] | (with_reducible refine Sx.call_at (f := 103) (fun W hW => v W) ?_) | (with_reducible refine Sx.call_at (f := 103) (fun W hW => v' W) ?_))
set_option maxRecDepth 100000 in
theorem rx_meetO {o : Bool} {p q p1 q1 : Int} (v : ∀ W, Gives Try.prog 103 [KX o p q p1 q1] W (· = .bool true)) (W : World) : Gives Try.prog 102 [KX true 0 0 0 0, KX o p q p1 q1] W (· = .tuple #[KX o p q p1 q1, .bool true]) := by
  have v0 := fun W => rx_kvalO W
  refine gives_known en_r13_Meet ?_
  refine known_of (enter Try.func102 r13_Meet.ok (args := [_, _]) (by simp) ?_)
  repeat' (first | simp (disch := omega) only [sxE, r13_Meet.E, Nat.reduceAdd, Nat.reduceEqDiff, Nat.reduceMul, Nat.reduceSub, Int.reduceAdd, Int.reduceSub, Int.reduceMul, Int.reduceNeg, Int.reduceLT, Int.reduceLE, Int.reduceEq, Int.reduceToNat, ↓reduceIte, Int.reducePow, Nat.reduceLeDiff, Nat.reduceLT, ne_eq, eq_self, List.length_cons, List.length_nil, qxE, kxE] | (with_reducible refine Sx.call_at (f := 103) (fun W hW => v0 W) ?_) | (with_reducible refine Sx.call_at (f := 103) (fun W hW => v W) ?_))
set_option maxRecDepth 100000 in
theorem rx_meetR {p q p1 q1 : Int} (h : Cl p q p1 q1) (W : World) : Gives Try.prog 102 [KX false p q p1 q1, KX true 0 0 0 0] W (· = .tuple #[KX false p q p1 q1, .bool true]) := by
  have v0 := fun W => rx_kvalO W
  have v := fun W => rx_kval h W
  refine gives_known en_r13_Meet ?_
  refine known_of (enter Try.func102 r13_Meet.ok (args := [_, _]) (by simp) ?_)
  repeat' (first | simp (disch := omega) only [sxE, r13_Meet.E, Nat.reduceAdd, Nat.reduceEqDiff, Nat.reduceMul, Nat.reduceSub, Int.reduceAdd, Int.reduceSub, Int.reduceMul, Int.reduceNeg, Int.reduceLT, Int.reduceLE, Int.reduceEq, Int.reduceToNat, ↓reduceIte, Int.reducePow, Nat.reduceLeDiff, Nat.reduceLT, ne_eq, eq_self, List.length_cons, List.length_nil, qxE, kxE] | (with_reducible refine Sx.call_at (f := 103) (fun W hW => v W) ?_) | (with_reducible refine Sx.call_at (f := 103) (fun W hW => v0 W) ?_))
set_option maxRecDepth 100000 in
set_option maxHeartbeats 1000000 in
theorem rx_meetC {p q p1 q1 r s r1 s1 : Int} (h : Cl p q p1 q1) (h' : Cl r s r1 s1) (W : World) : Gives Try.prog 102 [KX false p q p1 q1, KX false r s r1 s1] W (· = mtV true ⟨false, p, q, p1, q1⟩ ⟨false, r, s, r1, s1⟩) := by
  have v := fun W => rx_kval h W
  have v' := fun W => rx_kval h' W
  have c1 := fun W => rx_rcompare h'.f.cq h.f.cq W
  have c2 := fun W => rx_rcompare h'.g.cq h.g.cq W
  have c3 := fun W => rx_rcompare h.f.cq h.g.cq W
  have c4 := fun W => rx_rcompare h.f.cq h'.g.cq W
  have c5 := fun W => rx_rcompare h'.f.cq h.g.cq W
  have c6 := fun W => rx_rcompare h'.f.cq h'.g.cq W
  refine gives_known en_r13_Meet ?_
  have k1 : 0 < cq r s p q ↔ p * s < r * q := km_gt _ _
  have k2 : cq r1 s1 p1 q1 < 0 ↔ r1 * q1 < p1 * s1 := km_lt _ _
  have k3 : 0 < cq p q p1 q1 ↔ ¬ p * q1 ≤ p1 * q := by rw [Int.not_le]; exact km_gt _ _
  have k4 : 0 < cq p q r1 s1 ↔ ¬ p * s1 ≤ r1 * q := by rw [Int.not_le]; exact km_gt _ _
  have k5 : 0 < cq r s p1 q1 ↔ ¬ r * q1 ≤ p1 * s := by rw [Int.not_le]; exact km_gt _ _
  have k6 : 0 < cq r s r1 s1 ↔ ¬ r * s1 ≤ r1 * s := by rw [Int.not_le]; exact km_gt _ _
  clear h h'
  by_cases b1 : p * s < r * q
  · have d1 := k1.2 b1
    by_cases b2 : r1 * q1 < p1 * s1
    · have d2 := k2.2 b2
      by_cases b3 : r * s1 ≤ r1 * s
      · have d3 : ¬ 0 < cq r s r1 s1 := fun e => k6.1 e b3
        have e : mtV true ⟨false, p, q, p1, q1⟩ ⟨false, r, s, r1, s1⟩ = .tuple #[KX false r s r1 s1, .bool true] := by simp [mtV, mtv, cmt, b1, b2, b3, Cn.v]
        rw [e]
        clear e k1 k2 k3 k4 k5 k6 b1 b2 b3
        refine known_of (enter Try.func102 r13_Meet.ok (args := [_, _]) (by simp) ?_)
        repeat' (first | simp (disch := omega) only [sxE, r13_Meet.E, Nat.reduceAdd, Nat.reduceEqDiff, Nat.reduceMul, Nat.reduceSub, Int.reduceAdd, Int.reduceSub, Int.reduceMul, Int.reduceNeg, Int.reduceLT, Int.reduceLE, Int.reduceEq, Int.reduceToNat, ↓reduceIte, Int.reducePow, Nat.reduceLeDiff, Nat.reduceLT, ne_eq, eq_self, List.length_cons, List.length_nil, qxE, kxE] | (with_reducible refine Sx.call_at (f := 103) (fun W hW => v W) ?_) | (with_reducible refine Sx.call_at (f := 103) (fun W hW => v' W) ?_) | (with_reducible refine Sx.call_at (f := 100) (fun W hW => c1 W) ?_) | (with_reducible refine Sx.call_at (f := 100) (fun W hW => c2 W) ?_) | (with_reducible refine Sx.call_at (f := 100) (fun W hW => c6 W) ?_))
      · have d3 : 0 < cq r s r1 s1 := k6.2 b3
        have e : mtV true ⟨false, p, q, p1, q1⟩ ⟨false, r, s, r1, s1⟩ = .tuple #[KX false 0 0 0 0, .bool false] := by simp [mtV, mtv, cmt, b1, b2, b3, Cn.v, c0]
        rw [e]
        clear e k1 k2 k3 k4 k5 k6 b1 b2 b3
        refine known_of (enter Try.func102 r13_Meet.ok (args := [_, _]) (by simp) ?_)
        repeat' (first | simp (disch := omega) only [sxE, r13_Meet.E, Nat.reduceAdd, Nat.reduceEqDiff, Nat.reduceMul, Nat.reduceSub, Int.reduceAdd, Int.reduceSub, Int.reduceMul, Int.reduceNeg, Int.reduceLT, Int.reduceLE, Int.reduceEq, Int.reduceToNat, ↓reduceIte, Int.reducePow, Nat.reduceLeDiff, Nat.reduceLT, ne_eq, eq_self, List.length_cons, List.length_nil, qxE, kxE] | (with_reducible refine Sx.call_at (f := 103) (fun W hW => v W) ?_) | (with_reducible refine Sx.call_at (f := 103) (fun W hW => v' W) ?_) | (with_reducible refine Sx.call_at (f := 100) (fun W hW => c1 W) ?_) | (with_reducible refine Sx.call_at (f := 100) (fun W hW => c2 W) ?_) | (with_reducible refine Sx.call_at (f := 100) (fun W hW => c6 W) ?_))
    · have d2 : ¬ cq r1 s1 p1 q1 < 0 := fun e => b2 (k2.1 e)
      by_cases b3 : r * q1 ≤ p1 * s
      · have d3 : ¬ 0 < cq r s p1 q1 := fun e => k5.1 e b3
        have e : mtV true ⟨false, p, q, p1, q1⟩ ⟨false, r, s, r1, s1⟩ = .tuple #[KX false r s p1 q1, .bool true] := by simp [mtV, mtv, cmt, b1, b2, b3, Cn.v]
        rw [e]
        clear e k1 k2 k3 k4 k5 k6 b1 b2 b3
        refine known_of (enter Try.func102 r13_Meet.ok (args := [_, _]) (by simp) ?_)
        repeat' (first | simp (disch := omega) only [sxE, r13_Meet.E, Nat.reduceAdd, Nat.reduceEqDiff, Nat.reduceMul, Nat.reduceSub, Int.reduceAdd, Int.reduceSub, Int.reduceMul, Int.reduceNeg, Int.reduceLT, Int.reduceLE, Int.reduceEq, Int.reduceToNat, ↓reduceIte, Int.reducePow, Nat.reduceLeDiff, Nat.reduceLT, ne_eq, eq_self, List.length_cons, List.length_nil, qxE, kxE] | (with_reducible refine Sx.call_at (f := 103) (fun W hW => v W) ?_) | (with_reducible refine Sx.call_at (f := 103) (fun W hW => v' W) ?_) | (with_reducible refine Sx.call_at (f := 100) (fun W hW => c1 W) ?_) | (with_reducible refine Sx.call_at (f := 100) (fun W hW => c2 W) ?_) | (with_reducible refine Sx.call_at (f := 100) (fun W hW => c5 W) ?_))
      · have d3 : 0 < cq r s p1 q1 := k5.2 b3
        have e : mtV true ⟨false, p, q, p1, q1⟩ ⟨false, r, s, r1, s1⟩ = .tuple #[KX false 0 0 0 0, .bool false] := by simp [mtV, mtv, cmt, b1, b2, b3, Cn.v, c0]
        rw [e]
        clear e k1 k2 k3 k4 k5 k6 b1 b2 b3
        refine known_of (enter Try.func102 r13_Meet.ok (args := [_, _]) (by simp) ?_)
        repeat' (first | simp (disch := omega) only [sxE, r13_Meet.E, Nat.reduceAdd, Nat.reduceEqDiff, Nat.reduceMul, Nat.reduceSub, Int.reduceAdd, Int.reduceSub, Int.reduceMul, Int.reduceNeg, Int.reduceLT, Int.reduceLE, Int.reduceEq, Int.reduceToNat, ↓reduceIte, Int.reducePow, Nat.reduceLeDiff, Nat.reduceLT, ne_eq, eq_self, List.length_cons, List.length_nil, qxE, kxE] | (with_reducible refine Sx.call_at (f := 103) (fun W hW => v W) ?_) | (with_reducible refine Sx.call_at (f := 103) (fun W hW => v' W) ?_) | (with_reducible refine Sx.call_at (f := 100) (fun W hW => c1 W) ?_) | (with_reducible refine Sx.call_at (f := 100) (fun W hW => c2 W) ?_) | (with_reducible refine Sx.call_at (f := 100) (fun W hW => c5 W) ?_))
  · have d1 : ¬ 0 < cq r s p q := fun e => b1 (k1.1 e)
    by_cases b2 : r1 * q1 < p1 * s1
    · have d2 := k2.2 b2
      by_cases b3 : p * s1 ≤ r1 * q
      · have d3 : ¬ 0 < cq p q r1 s1 := fun e => k4.1 e b3
        have e : mtV true ⟨false, p, q, p1, q1⟩ ⟨false, r, s, r1, s1⟩ = .tuple #[KX false p q r1 s1, .bool true] := by simp [mtV, mtv, cmt, b1, b2, b3, Cn.v]
        rw [e]
        clear e k1 k2 k3 k4 k5 k6 b1 b2 b3
        refine known_of (enter Try.func102 r13_Meet.ok (args := [_, _]) (by simp) ?_)
        repeat' (first | simp (disch := omega) only [sxE, r13_Meet.E, Nat.reduceAdd, Nat.reduceEqDiff, Nat.reduceMul, Nat.reduceSub, Int.reduceAdd, Int.reduceSub, Int.reduceMul, Int.reduceNeg, Int.reduceLT, Int.reduceLE, Int.reduceEq, Int.reduceToNat, ↓reduceIte, Int.reducePow, Nat.reduceLeDiff, Nat.reduceLT, ne_eq, eq_self, List.length_cons, List.length_nil, qxE, kxE] | (with_reducible refine Sx.call_at (f := 103) (fun W hW => v W) ?_) | (with_reducible refine Sx.call_at (f := 103) (fun W hW => v' W) ?_) | (with_reducible refine Sx.call_at (f := 100) (fun W hW => c1 W) ?_) | (with_reducible refine Sx.call_at (f := 100) (fun W hW => c2 W) ?_) | (with_reducible refine Sx.call_at (f := 100) (fun W hW => c4 W) ?_))
      · have d3 : 0 < cq p q r1 s1 := k4.2 b3
        have e : mtV true ⟨false, p, q, p1, q1⟩ ⟨false, r, s, r1, s1⟩ = .tuple #[KX false 0 0 0 0, .bool false] := by simp [mtV, mtv, cmt, b1, b2, b3, Cn.v, c0]
        rw [e]
        clear e k1 k2 k3 k4 k5 k6 b1 b2 b3
        refine known_of (enter Try.func102 r13_Meet.ok (args := [_, _]) (by simp) ?_)
        repeat' (first | simp (disch := omega) only [sxE, r13_Meet.E, Nat.reduceAdd, Nat.reduceEqDiff, Nat.reduceMul, Nat.reduceSub, Int.reduceAdd, Int.reduceSub, Int.reduceMul, Int.reduceNeg, Int.reduceLT, Int.reduceLE, Int.reduceEq, Int.reduceToNat, ↓reduceIte, Int.reducePow, Nat.reduceLeDiff, Nat.reduceLT, ne_eq, eq_self, List.length_cons, List.length_nil, qxE, kxE] | (with_reducible refine Sx.call_at (f := 103) (fun W hW => v W) ?_) | (with_reducible refine Sx.call_at (f := 103) (fun W hW => v' W) ?_) | (with_reducible refine Sx.call_at (f := 100) (fun W hW => c1 W) ?_) | (with_reducible refine Sx.call_at (f := 100) (fun W hW => c2 W) ?_) | (with_reducible refine Sx.call_at (f := 100) (fun W hW => c4 W) ?_))
    · have d2 : ¬ cq r1 s1 p1 q1 < 0 := fun e => b2 (k2.1 e)
      by_cases b3 : p * q1 ≤ p1 * q
      · have d3 : ¬ 0 < cq p q p1 q1 := fun e => k3.1 e b3
        have e : mtV true ⟨false, p, q, p1, q1⟩ ⟨false, r, s, r1, s1⟩ = .tuple #[KX false p q p1 q1, .bool true] := by simp [mtV, mtv, cmt, b1, b2, b3, Cn.v]
        rw [e]
        clear e k1 k2 k3 k4 k5 k6 b1 b2 b3
        refine known_of (enter Try.func102 r13_Meet.ok (args := [_, _]) (by simp) ?_)
        repeat' (first | simp (disch := omega) only [sxE, r13_Meet.E, Nat.reduceAdd, Nat.reduceEqDiff, Nat.reduceMul, Nat.reduceSub, Int.reduceAdd, Int.reduceSub, Int.reduceMul, Int.reduceNeg, Int.reduceLT, Int.reduceLE, Int.reduceEq, Int.reduceToNat, ↓reduceIte, Int.reducePow, Nat.reduceLeDiff, Nat.reduceLT, ne_eq, eq_self, List.length_cons, List.length_nil, qxE, kxE] | (with_reducible refine Sx.call_at (f := 103) (fun W hW => v W) ?_) | (with_reducible refine Sx.call_at (f := 103) (fun W hW => v' W) ?_) | (with_reducible refine Sx.call_at (f := 100) (fun W hW => c1 W) ?_) | (with_reducible refine Sx.call_at (f := 100) (fun W hW => c2 W) ?_) | (with_reducible refine Sx.call_at (f := 100) (fun W hW => c3 W) ?_))
      · have d3 : 0 < cq p q p1 q1 := k3.2 b3
        have e : mtV true ⟨false, p, q, p1, q1⟩ ⟨false, r, s, r1, s1⟩ = .tuple #[KX false 0 0 0 0, .bool false] := by simp [mtV, mtv, cmt, b1, b2, b3, Cn.v, c0]
        rw [e]
        clear e k1 k2 k3 k4 k5 k6 b1 b2 b3
        refine known_of (enter Try.func102 r13_Meet.ok (args := [_, _]) (by simp) ?_)
        repeat' (first | simp (disch := omega) only [sxE, r13_Meet.E, Nat.reduceAdd, Nat.reduceEqDiff, Nat.reduceMul, Nat.reduceSub, Int.reduceAdd, Int.reduceSub, Int.reduceMul, Int.reduceNeg, Int.reduceLT, Int.reduceLE, Int.reduceEq, Int.reduceToNat, ↓reduceIte, Int.reducePow, Nat.reduceLeDiff, Nat.reduceLT, ne_eq, eq_self, List.length_cons, List.length_nil, qxE, kxE] | (with_reducible refine Sx.call_at (f := 103) (fun W hW => v W) ?_) | (with_reducible refine Sx.call_at (f := 103) (fun W hW => v' W) ?_) | (with_reducible refine Sx.call_at (f := 100) (fun W hW => c1 W) ?_) | (with_reducible refine Sx.call_at (f := 100) (fun W hW => c2 W) ?_) | (with_reducible refine Sx.call_at (f := 100) (fun W hW => c3 W) ?_))
theorem rx_meet {v v' : Value} {t t' : Bool} {c c' : Cn} (h : KV v t c) (h' : KV v' t' c') (W : World) : Gives Try.prog 102 [v, v'] W (· = mtV (t && t') c c') := by
  cases hb : t && t'
  · obtain ⟨x0, x1, x2, x3, x4, x5, x6, x7, x8, x9, x10, x11, x12, x13, x14, x15, x16, x17, x18, x19, x20, rfl⟩ := h.cells
    obtain ⟨y0, y1, y2, y3, y4, y5, y6, y7, y8, y9, y10, y11, y12, y13, y14, y15, y16, y17, y18, y19, y20, rfl⟩ := h'.cells
    exact rx_meetN h.v2 h'.v2 hb W
  · obtain ⟨rfl, rfl⟩ : t = true ∧ t' = true := by simpa using hb
    obtain ⟨rfl, hc⟩ := h.is rfl
    obtain ⟨rfl, hc'⟩ := h'.is rfl
    have v := h'.v2
    obtain ⟨o, p, q, p1, q1⟩ := c
    obtain ⟨o', r, s, r1, s1⟩ := c'
    rcases hc with e | ⟨e, hc⟩
    · cases e
      exact rx_meetO v W
    · cases e
      rcases hc' with e | ⟨e, hc'⟩
      · cases e
        exact rx_meetR hc W
      · cases e
        exact rx_meetC hc hc' W
set_option maxRecDepth 100000 in
theorem rx_has {v s : Value} {t u : Bool} {c : Cn} {p q : Int} (h : KV v t c) (hs : CQ s p q) (vs : ∀ W, Gives Try.prog 117 [s] W (· = .bool u)) (W : World) : Gives Try.prog 104 [v, s] W (· = .bool (t && u && c.has p q)) := by
  refine gives_known en_r13_Contains ?_
  have v1 := h.v2
  obtain ⟨s0, s1, s2, s3, s4, s5, s6, s7, s8, s9, rfl⟩ := hs.ten
  cases t
  · obtain ⟨x0, x1, x2, x3, x4, x5, x6, x7, x8, x9, x10, x11, x12, x13, x14, x15, x16, x17, x18, x19, x20, rfl⟩ := h.cells
    refine known_of (enter Try.func104 r13_Contains.ok (args := [_, _]) (by simp) ?_)
    repeat' (first | simp (disch := omega) only [sxE, r13_Contains.E, Nat.reduceAdd, Nat.reduceEqDiff, Nat.reduceMul, Nat.reduceSub, Int.reduceAdd, Int.reduceSub, Int.reduceMul, Int.reduceNeg, Int.reduceLT, Int.reduceLE, Int.reduceEq, Int.reduceToNat, ↓reduceIte, Int.reducePow, Nat.reduceLeDiff, Nat.reduceLT, ne_eq, eq_self, List.length_cons, List.length_nil, qxE, kxE] | (with_reducible refine Sx.call_at (f := 103) (fun W hW => v1 W) ?_))
    rfl
  · obtain ⟨rfl, hc⟩ := h.is rfl
    clear h
    obtain ⟨o, r, k, r1, k1⟩ := c
    cases u
    · change ∀ W, Gives _ _ [KX o r k r1 k1] W _ at v1
      show Calls _ _ #[KX o r k r1 k1, _] _ _
      refine known_of (enter Try.func104 r13_Contains.ok (args := [_, _]) (by simp) ?_)
      repeat' (first | simp (disch := omega) only [sxE, r13_Contains.E, Nat.reduceAdd, Nat.reduceEqDiff, Nat.reduceMul, Nat.reduceSub, Int.reduceAdd, Int.reduceSub, Int.reduceMul, Int.reduceNeg, Int.reduceLT, Int.reduceLE, Int.reduceEq, Int.reduceToNat, ↓reduceIte, Int.reducePow, Nat.reduceLeDiff, Nat.reduceLT, ne_eq, eq_self, List.length_cons, List.length_nil, qxE, kxE] | (with_reducible refine Sx.call_at (f := 103) (fun W hW => v1 W) ?_) | (with_reducible refine Sx.call_at (f := 117) (fun W hW => vs W) ?_))
      rfl
    · rcases hc with e | ⟨e, hc⟩
      · cases e
        change ∀ W, Gives _ _ [KX true 0 0 0 0] W _ at v1
        show Calls _ _ #[KX true 0 0 0 0, _] _ _
        refine known_of (enter Try.func104 r13_Contains.ok (args := [_, _]) (by simp) ?_)
        repeat' (first | simp (disch := omega) only [sxE, r13_Contains.E, Nat.reduceAdd, Nat.reduceEqDiff, Nat.reduceMul, Nat.reduceSub, Int.reduceAdd, Int.reduceSub, Int.reduceMul, Int.reduceNeg, Int.reduceLT, Int.reduceLE, Int.reduceEq, Int.reduceToNat, ↓reduceIte, Int.reducePow, Nat.reduceLeDiff, Nat.reduceLT, ne_eq, eq_self, List.length_cons, List.length_nil, qxE, kxE] | (with_reducible refine Sx.call_at (f := 103) (fun W hW => v1 W) ?_) | (with_reducible refine Sx.call_at (f := 117) (fun W hW => vs W) ?_))
        rfl
      · cases e
        change ∀ W, Gives _ _ [KX false r k r1 k1] W _ at v1
        have c1 := fun W => rx_rcompare hc.f.cq hs W
        have c2 := fun W => rx_rcompare hs hc.g.cq W
        have k1' : cq r k p q ≤ 0 ↔ r * q ≤ p * k := km_le _ _
        have k2' : cq p q r1 k1 ≤ 0 ↔ p * k1 ≤ r1 * q := km_le _ _
        clear hc hs
        by_cases b1 : r * q ≤ p * k
        · have d1 := k1'.2 b1
          have e : (true && true && (Cn.mk false r k r1 k1).has p q) = decide (cq p q r1 k1 ≤ 0) := by rw [Bool.eq_iff_iff]; simp [Cn.has, b1, k2']
          rw [e]
          clear e b1 k1' k2'
          show Calls _ _ #[KX false r k r1 k1, _] _ _
          refine known_of (enter Try.func104 r13_Contains.ok (args := [_, _]) (by simp) ?_)
          repeat' (first | simp (disch := omega) only [sxE, r13_Contains.E, Nat.reduceAdd, Nat.reduceEqDiff, Nat.reduceMul, Nat.reduceSub, Int.reduceAdd, Int.reduceSub, Int.reduceMul, Int.reduceNeg, Int.reduceLT, Int.reduceLE, Int.reduceEq, Int.reduceToNat, ↓reduceIte, Int.reducePow, Nat.reduceLeDiff, Nat.reduceLT, ne_eq, eq_self, List.length_cons, List.length_nil, qxE, kxE] | (with_reducible refine Sx.call_at (f := 103) (fun W hW => v1 W) ?_) | (with_reducible refine Sx.call_at (f := 117) (fun W hW => vs W) ?_) | (with_reducible refine Sx.call_at (f := 100) (fun W hW => c1 W) ?_) | (with_reducible refine Sx.call_at (f := 100) (fun W hW => c2 W) ?_))
        · have d1 : ¬ cq r k p q ≤ 0 := fun e => b1 (k1'.1 e)
          have e : (true && true && (Cn.mk false r k r1 k1).has p q) = false := by simp [Cn.has, b1]
          rw [e]
          clear e b1 k1' k2'
          show Calls _ _ #[KX false r k r1 k1, _] _ _
          refine known_of (enter Try.func104 r13_Contains.ok (args := [_, _]) (by simp) ?_)
          repeat' (first | simp (disch := omega) only [sxE, r13_Contains.E, Nat.reduceAdd, Nat.reduceEqDiff, Nat.reduceMul, Nat.reduceSub, Int.reduceAdd, Int.reduceSub, Int.reduceMul, Int.reduceNeg, Int.reduceLT, Int.reduceLE, Int.reduceEq, Int.reduceToNat, ↓reduceIte, Int.reducePow, Nat.reduceLeDiff, Nat.reduceLT, ne_eq, eq_self, List.length_cons, List.length_nil, qxE, kxE] | (with_reducible refine Sx.call_at (f := 103) (fun W hW => v1 W) ?_) | (with_reducible refine Sx.call_at (f := 117) (fun W hW => vs W) ?_) | (with_reducible refine Sx.call_at (f := 100) (fun W hW => c1 W) ?_) | (with_reducible refine Sx.call_at (f := 100) (fun W hW => c2 W) ?_))
set_option maxRecDepth 100000 in
theorem rx_choose {v : Value} {t : Bool} {c : Cn} (h : KV v t c) (W : World) : Gives Try.prog 105 [v] W (· = RX (cho t c).1 (cho t c).2) := by
  have v1 := h.v2
  cases t
  · obtain ⟨x0, x1, x2, x3, x4, x5, x6, x7, x8, x9, x10, x11, x12, x13, x14, x15, x16, x17, x18, x19, x20, rfl⟩ := h.cells
    show Gives _ _ _ W (· = RX 0 0)
    refine gives_known en_r13_Choose ?_
    refine known_of (enter Try.func105 r13_Choose.ok (args := [_]) (by simp) ?_)
    repeat' (first | simp (disch := omega) only [sxE, r13_Choose.E, Nat.reduceAdd, Nat.reduceEqDiff, Nat.reduceMul, Nat.reduceSub, Int.reduceAdd, Int.reduceSub, Int.reduceMul, Int.reduceNeg, Int.reduceLT, Int.reduceLE, Int.reduceEq, Int.reduceToNat, ↓reduceIte, Int.reducePow, Nat.reduceLeDiff, Nat.reduceLT, ne_eq, eq_self, List.length_cons, List.length_nil, qxE, kxE] | (with_reducible refine Sx.call_at (f := 103) (fun W hW => v1 W) ?_))
  · obtain ⟨rfl, hc⟩ := h.is rfl
    clear h
    obtain ⟨o, r, k, r1, k1⟩ := c
    rcases hc with e | ⟨e, hc⟩
    · cases e
      change ∀ W, Gives _ _ [KX true 0 0 0 0] W _ at v1
      have o0 := fun W => rx_rof (z := 0) ⟨by decide, by decide⟩ W
      show Gives _ _ [KX true 0 0 0 0] W (· = RX 0 1)
      refine gives_known en_r13_Choose ?_
      refine known_of (enter Try.func105 r13_Choose.ok (args := [_]) (by simp) ?_)
      repeat' (first | simp (disch := omega) only [sxE, r13_Choose.E, Nat.reduceAdd, Nat.reduceEqDiff, Nat.reduceMul, Nat.reduceSub, Int.reduceAdd, Int.reduceSub, Int.reduceMul, Int.reduceNeg, Int.reduceLT, Int.reduceLE, Int.reduceEq, Int.reduceToNat, ↓reduceIte, Int.reducePow, Nat.reduceLeDiff, Nat.reduceLT, ne_eq, eq_self, List.length_cons, List.length_nil, qxE, kxE] | (with_reducible refine Sx.call_at (f := 103) (fun W hW => v1 W) ?_) | (with_reducible refine Sx.call_at (f := 82) (fun W hW => o0 W) ?_))
    · cases e
      change ∀ W, Gives _ _ [KX false r k r1 k1] W _ at v1
      have bt := fun W => rx_bt hc.f hc.g hc.le W
      show Gives _ _ [KX false r k r1 k1] W (· = RX (btx r k r1 k1).1 (btx r k r1 k1).2)
      refine gives_known en_r13_Choose ?_
      generalize btx r k r1 k1 = x at *
      refine known_of (enter Try.func105 r13_Choose.ok (args := [_]) (by simp) ?_)
      repeat' (first | simp (disch := omega) only [sxE, r13_Choose.E, Nat.reduceAdd, Nat.reduceEqDiff, Nat.reduceMul, Nat.reduceSub, Int.reduceAdd, Int.reduceSub, Int.reduceMul, Int.reduceNeg, Int.reduceLT, Int.reduceLE, Int.reduceEq, Int.reduceToNat, ↓reduceIte, Int.reducePow, Nat.reduceLeDiff, Nat.reduceLT, ne_eq, eq_self, List.length_cons, List.length_nil, qxE, kxE] | (with_reducible refine Sx.call_at (f := 103) (fun W hW => v1 W) ?_) | (with_reducible refine Sx.call_at (f := 152) (fun W hW => bt W) ?_))
end Go.Proofs.Ytncmmbacoknefaa
