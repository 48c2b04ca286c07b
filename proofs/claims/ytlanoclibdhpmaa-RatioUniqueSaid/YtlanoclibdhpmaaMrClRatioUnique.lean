/- MADE BY PROGRAM (sxgen.py): the small code of some functions, points of it and their equations. -/
import Derived.Test.YtlanoclibdhpmaaProg
import Derived.Test.YtlanoclibdhpmaaMr2
namespace Go.Proofs.Ytlanoclibdhpmaa
open Go Go.RowKit Sx
set_option linter.unusedVariables false
variable (C : Cx) (R L1 L2 L3 L4 : St → Prop)

/-! ### tscodec/tscodeclaw03.RatioUnique -/
def w03_RatioUnique_r0 : List G := [(some 4, none, (.mv (.const (.bool false))))]
def w03_RatioUnique_c2 : MC := (.reg w03_RatioUnique_r0 (some [0, 1]))
def w03_RatioUnique_r1 : List G := [(some 13, none, (.mv (.tmp 0))), (some 14, none, (.call false 14 [(.tmp 13)])), (some 5, none, (.mv (.tmp 14)))]
def w03_RatioUnique_c4 : MC := (.reg w03_RatioUnique_r1 (some [1, 5]))
def w03_RatioUnique_r2 : List G := [(some 15, none, (.mv (.tmp 5))), (some 16, none, (.call false 23 [(.tmp 15)])), (some 6, none, (.new zR)), (none, none, (.st true 10 (.tmp 6) (.tmp 16)))]
def w03_RatioUnique_c6 : MC := (.reg w03_RatioUnique_r2 (some [1, 6]))
def w03_RatioUnique_r3 : List G := [(some 17, none, (.mv (.tmp 1))), (some 18, none, (.bin .eql (.tmp 17) (.const (.int .i64 0))))]
def w03_RatioUnique_c9 : MC := (.reg w03_RatioUnique_r3 (some [1, 6, 18]))
def w03_RatioUnique_r4 : List G := [(some 1, none, (.mv (.const (.int .i64 7))))]
def w03_RatioUnique_c11 : MC := (.reg w03_RatioUnique_r4 (some [1, 6]))
def w03_RatioUnique_c10 : MC := (.cond (.tmp 18) w03_RatioUnique_c11 .skip)
def w03_RatioUnique_c8 : MC := (.seq w03_RatioUnique_c9 w03_RatioUnique_c10)
def w03_RatioUnique_r5 : List G := [(some 20, none, (.fa 0 (.tmp 6))), (some 21, none, (.ld true 5 (.tmp 20))), (some 22, none, (.mv (.tmp 1))), (some 23, none, (.call true 16 [(.tmp 22)])), (some 24, none, (.call true 29 [(.tmp 21), (.tmp 23)])), (some 19, none, (.mv (.tmp 24))), (some 25, none, (.ex (.tmp 19) 0)), (some 26, none, (.ex (.tmp 19) 1))]
def w03_RatioUnique_t5 : List G := [(some 7, none, (.new zW)), (none, none, (.st true 5 (.tmp 7) (.tmp 25))), (some 8, none, (.mv (.tmp 26)))]
def w03_RatioUnique_c13 : MC := (.dreg w03_RatioUnique_r5 w03_RatioUnique_t5 (some [1, 6, 7, 8]))
def w03_RatioUnique_r6 : List G := [(some 28, none, (.fa 5 (.tmp 6))), (some 29, none, (.ld true 5 (.tmp 28))), (some 30, none, (.mv (.tmp 1))), (some 31, none, (.call true 16 [(.tmp 30)])), (some 32, none, (.call true 29 [(.tmp 29), (.tmp 31)])), (some 27, none, (.mv (.tmp 32))), (some 33, none, (.ex (.tmp 27) 0)), (some 34, none, (.ex (.tmp 27) 1))]
def w03_RatioUnique_t6 : List G := [(some 9, none, (.new zW)), (none, none, (.st true 5 (.tmp 9) (.tmp 33))), (some 10, none, (.mv (.tmp 34)))]
def w03_RatioUnique_c15 : MC := (.dreg w03_RatioUnique_r6 w03_RatioUnique_t6 (some [6, 7, 8, 9, 10]))
def w03_RatioUnique_r7 : List G := [(some 36, none, (.ld true 5 (.tmp 7))), (some 37, none, (.ld true 5 (.tmp 9))), (some 38, none, (.call false 19 [(.tmp 36), (.tmp 37)])), (some 35, none, (.mv (.tmp 38))), (some 39, none, (.ex (.tmp 35) 0)), (some 40, none, (.ex (.tmp 35) 1)), (some 11, none, (.new zR)), (none, none, (.st true 10 (.tmp 11) (.tmp 39))), (some 12, none, (.mv (.tmp 40)))]
def w03_RatioUnique_c17 : MC := (.reg w03_RatioUnique_r7 (some [6, 8, 10, 11, 12]))
def w03_RatioUnique_r8 : List G := [(some 41, none, (.call false 22 [])), (some 42, none, (.mv (.tmp 41))), (some 43, some (42, true), (.mv (.tmp 8))), (some 44, none, (.pick (.tmp 42) (.tmp 43) (.const (.bool false)))), (some 45, none, (.mv (.tmp 44))), (some 46, some (45, true), (.mv (.tmp 10))), (some 47, none, (.pick (.tmp 45) (.tmp 46) (.const (.bool false)))), (some 48, none, (.mv (.tmp 47))), (some 49, some (48, true), (.mv (.tmp 12))), (some 50, none, (.pick (.tmp 48) (.tmp 49) (.const (.bool false)))), (some 51, none, (.mv (.tmp 50))), (some 52, some (51, true), (.ld true 10 (.tmp 6))), (some 53, some (51, true), (.ld true 10 (.tmp 11))), (some 54, some (51, true), (.eqg false 35 (.tmp 52) (.tmp 53))), (some 55, none, (.pick (.tmp 51) (.tmp 54) (.const (.bool false)))), (some 56, none, (.mv (.tmp 55))), (some 57, some (56, true), (.ld true 10 (.tmp 6))), (some 58, some (56, true), (.ld true 10 (.tmp 11))), (some 59, some (56, true), (.call false 30 [(.tmp 57), (.tmp 58)])), (some 60, some (56, true), (.bin .eql (.tmp 59) (.const (.int .i64 0)))), (some 61, none, (.pick (.tmp 56) (.tmp 60) (.const (.bool false)))), (some 4, none, (.mv (.tmp 61)))]
def w03_RatioUnique_c19 : MC := (.reg w03_RatioUnique_r8 (some [4]))
def w03_RatioUnique_c18 : MC := (.seq w03_RatioUnique_c19 .ret)
def w03_RatioUnique_c16 : MC := (.seq w03_RatioUnique_c17 w03_RatioUnique_c18)
def w03_RatioUnique_c14 : MC := (.seq w03_RatioUnique_c15 w03_RatioUnique_c16)
def w03_RatioUnique_c12 : MC := (.seq w03_RatioUnique_c13 w03_RatioUnique_c14)
def w03_RatioUnique_c7 : MC := (.seq w03_RatioUnique_c8 w03_RatioUnique_c12)
def w03_RatioUnique_c5 : MC := (.seq w03_RatioUnique_c6 w03_RatioUnique_c7)
def w03_RatioUnique_c3 : MC := (.seq w03_RatioUnique_c4 w03_RatioUnique_c5)
def w03_RatioUnique_c1 : MC := (.seq w03_RatioUnique_c2 w03_RatioUnique_c3)
def w03_RatioUnique_ann : Ann := [(0, (some [0, 1], 0, [], [], [])), (1, (some [1, 5], 0, [], [], [])), (2, (some [1, 6], 0, [], [], [])), (3, (some [1, 6, 18], 0, [], [], [])), (4, (some [1, 6], 0, [], [], [])), (5, (some [1, 6, 7, 8], 9, [7], [(0, 0), (1, 0), (2, 0), (3, 0), (4, 0), (5, 0), (6, 0), (7, 2)], [8])), (6, (some [6, 7, 8, 9, 10], 9, [7], [(0, 0), (1, 0), (2, 0), (3, 0), (4, 0), (5, 0), (6, 0), (7, 2)], [8])), (7, (some [6, 8, 10, 11, 12], 0, [], [], [])), (8, (some [4], 0, [], [], []))]
theorem w03_RatioUnique_ok : compF Try.prog Try.f5 w03_RatioUnique_ann = some (62, w03_RatioUnique_c1, [(4, none)]) := by kernel_rfl
def w03_RatioUnique_p1 : St → Prop := X C w03_RatioUnique_c19 (thenK R (retK R))
theorem w03_RatioUnique_p1_e (S : St) : w03_RatioUnique_p1 C R S = Sx.ops C w03_RatioUnique_r8 (kq [4] R) S := rfl
def w03_RatioUnique_p2 : St → Prop := X C w03_RatioUnique_c17 (thenK (w03_RatioUnique_p1 C R) (retK R))
theorem w03_RatioUnique_p2_e (S : St) : w03_RatioUnique_p2 C R S = Sx.ops C w03_RatioUnique_r7 (kq [6, 8, 10, 11, 12] (w03_RatioUnique_p1 C R)) S := rfl
def w03_RatioUnique_p3 : St → Prop := X C w03_RatioUnique_c15 (thenK (w03_RatioUnique_p2 C R) (retK R))
theorem w03_RatioUnique_p3_e (S : St) : w03_RatioUnique_p3 C R S = Sx.ops C w03_RatioUnique_r6 (Sx.ops C w03_RatioUnique_t6 (kq [6, 7, 8, 9, 10] (w03_RatioUnique_p2 C R))) S := rfl
def w03_RatioUnique_p4 : St → Prop := X C w03_RatioUnique_c13 (thenK (w03_RatioUnique_p3 C R) (retK R))
theorem w03_RatioUnique_p4_e (S : St) : w03_RatioUnique_p4 C R S = Sx.ops C w03_RatioUnique_r5 (Sx.ops C w03_RatioUnique_t5 (kq [1, 6, 7, 8] (w03_RatioUnique_p3 C R))) S := rfl
def w03_RatioUnique_p6 : St → Prop := X C w03_RatioUnique_c11 (thenK (w03_RatioUnique_p4 C R) (retK R))
theorem w03_RatioUnique_p6_e (S : St) : w03_RatioUnique_p6 C R S = Sx.ops C w03_RatioUnique_r4 (kq [1, 6] (w03_RatioUnique_p4 C R)) S := rfl
def w03_RatioUnique_p5 : St → Prop := X C w03_RatioUnique_c10 (thenK (w03_RatioUnique_p4 C R) (retK R))
theorem w03_RatioUnique_p5_e (S : St) : w03_RatioUnique_p5 C R S = condX (S.ev (.tmp 18)) (w03_RatioUnique_p6 C R) (w03_RatioUnique_p4 C R) S := rfl
def w03_RatioUnique_p7 : St → Prop := X C w03_RatioUnique_c9 (thenK (w03_RatioUnique_p5 C R) (thenK (w03_RatioUnique_p4 C R) (retK R)))
theorem w03_RatioUnique_p7_e (S : St) : w03_RatioUnique_p7 C R S = Sx.ops C w03_RatioUnique_r3 (kq [1, 6, 18] (w03_RatioUnique_p5 C R)) S := rfl
def w03_RatioUnique_p8 : St → Prop := X C w03_RatioUnique_c6 (thenK (w03_RatioUnique_p7 C R) (retK R))
theorem w03_RatioUnique_p8_e (S : St) : w03_RatioUnique_p8 C R S = Sx.ops C w03_RatioUnique_r2 (kq [1, 6] (w03_RatioUnique_p7 C R)) S := rfl
def w03_RatioUnique_p9 : St → Prop := X C w03_RatioUnique_c4 (thenK (w03_RatioUnique_p8 C R) (retK R))
theorem w03_RatioUnique_p9_e (S : St) : w03_RatioUnique_p9 C R S = Sx.ops C w03_RatioUnique_r1 (kq [1, 5] (w03_RatioUnique_p8 C R)) S := rfl
def w03_RatioUnique_p10 : St → Prop := X C w03_RatioUnique_c2 (thenK (w03_RatioUnique_p9 C R) (retK R))
theorem w03_RatioUnique_p10_e (S : St) : w03_RatioUnique_p10 C R S = Sx.ops C w03_RatioUnique_r0 (kq [0, 1] (w03_RatioUnique_p9 C R)) S := rfl
set_option maxRecDepth 100000 in
theorem w03_RatioUnique_s (S : St) : X C w03_RatioUnique_c1 (retK R) S = (w03_RatioUnique_p10 C R) S := rfl
theorem w03_RatioUnique_start {R : Value → Prop} {args : List Value} {w : World} : type_of% (enter (R := R) (args := args) (w := w) Try.func5 w03_RatioUnique_ok) := enter Try.func5 w03_RatioUnique_ok
theorem w03_RatioUnique_startX {R : Value → Ext → Prop} {args : List Value} {w : World} : type_of% (enterX (R := R) (args := args) (w := w) Try.func5 w03_RatioUnique_ok) := enterX Try.func5 w03_RatioUnique_ok
theorem w03_RatioUnique_startG {R : Value → Ext → Prop} {args : List Value} {w w0 : World} {T : Ext} : type_of% (enterG (R := R) (args := args) (w := w) (w0 := w0) (T := T) Try.func5 w03_RatioUnique_ok) := enterG Try.func5 w03_RatioUnique_ok
theorem w03_RatioUnique_E : type_of% @w03_RatioUnique_r8.eq_1 ∧ type_of% @w03_RatioUnique_p1_e ∧ type_of% @w03_RatioUnique_r7.eq_1 ∧ type_of% @w03_RatioUnique_p2_e ∧ type_of% @w03_RatioUnique_r6.eq_1 ∧ type_of% @w03_RatioUnique_t6.eq_1 ∧ type_of% @w03_RatioUnique_p3_e ∧ type_of% @w03_RatioUnique_r5.eq_1 ∧ type_of% @w03_RatioUnique_t5.eq_1 ∧ type_of% @w03_RatioUnique_p4_e ∧ type_of% @w03_RatioUnique_r4.eq_1 ∧ type_of% @w03_RatioUnique_p6_e ∧ type_of% @w03_RatioUnique_p5_e ∧ type_of% @w03_RatioUnique_r3.eq_1 ∧ type_of% @w03_RatioUnique_p7_e ∧ type_of% @w03_RatioUnique_r2.eq_1 ∧ type_of% @w03_RatioUnique_p8_e ∧ type_of% @w03_RatioUnique_r1.eq_1 ∧ type_of% @w03_RatioUnique_p9_e ∧ type_of% @w03_RatioUnique_r0.eq_1 ∧ type_of% @w03_RatioUnique_p10_e ∧ type_of% @w03_RatioUnique_s := ⟨@w03_RatioUnique_r8.eq_1, @w03_RatioUnique_p1_e, @w03_RatioUnique_r7.eq_1, @w03_RatioUnique_p2_e, @w03_RatioUnique_r6.eq_1, @w03_RatioUnique_t6.eq_1, @w03_RatioUnique_p3_e, @w03_RatioUnique_r5.eq_1, @w03_RatioUnique_t5.eq_1, @w03_RatioUnique_p4_e, @w03_RatioUnique_r4.eq_1, @w03_RatioUnique_p6_e, @w03_RatioUnique_p5_e, @w03_RatioUnique_r3.eq_1, @w03_RatioUnique_p7_e, @w03_RatioUnique_r2.eq_1, @w03_RatioUnique_p8_e, @w03_RatioUnique_r1.eq_1, @w03_RatioUnique_p9_e, @w03_RatioUnique_r0.eq_1, @w03_RatioUnique_p10_e, @w03_RatioUnique_s⟩
end Go.Proofs.Ytlanoclibdhpmaa
