/- MADE BY PROGRAM (sxgen.py): the small code of some functions, points of it and their equations. -/
import Derived.Test.YtlanoclibdhpmaaProg
import Derived.Test.YtlanoclibdhpmaaMr2
namespace Go.Proofs.Ytlanoclibdhpmaa
open Go Go.RowKit Sx
set_option linter.unusedVariables false
variable (C : Cx) (R L1 L2 L3 L4 : St → Prop)

/-! ### tscodec/tscodeclaw03.RatioOrder -/
def w03_RatioOrder_r0 : List G := [(some 2, none, (.mv (.const (.bool false))))]
def w03_RatioOrder_c2 : MC := (.reg w03_RatioOrder_r0 (some [0]))
def w03_RatioOrder_r1 : List G := [(some 10, none, (.mv (.tmp 0))), (some 11, none, (.call false 14 [(.tmp 10)])), (some 3, none, (.mv (.tmp 11)))]
def w03_RatioOrder_c4 : MC := (.reg w03_RatioOrder_r1 (some [3]))
def w03_RatioOrder_r2 : List G := [(some 12, none, (.mv (.tmp 3))), (some 13, none, (.call false 23 [(.tmp 12)])), (some 14, none, (.mv (.tmp 3))), (some 15, none, (.call false 23 [(.tmp 14)])), (some 16, none, (.mv (.tmp 3))), (some 17, none, (.call false 23 [(.tmp 16)])), (some 4, none, (.new zR)), (some 5, none, (.new zR)), (some 6, none, (.new zR)), (none, none, (.st true 10 (.tmp 4) (.tmp 13))), (none, none, (.st true 10 (.tmp 5) (.tmp 15))), (none, none, (.st true 10 (.tmp 6) (.tmp 17)))]
def w03_RatioOrder_c6 : MC := (.reg w03_RatioOrder_r2 (some [4, 5, 6]))
def w03_RatioOrder_r3 : List G := [(some 18, none, (.ld true 10 (.tmp 4))), (some 19, none, (.ld true 10 (.tmp 5))), (some 20, none, (.call true 30 [(.tmp 18), (.tmp 19)])), (some 21, none, (.ld true 10 (.tmp 5))), (some 22, none, (.ld true 10 (.tmp 6))), (some 23, none, (.call true 30 [(.tmp 21), (.tmp 22)])), (some 24, none, (.ld true 10 (.tmp 4))), (some 25, none, (.ld true 10 (.tmp 6))), (some 26, none, (.call true 30 [(.tmp 24), (.tmp 25)]))]
def w03_RatioOrder_t3 : List G := [(some 7, none, (.mv (.tmp 20))), (some 8, none, (.mv (.tmp 23))), (some 9, none, (.mv (.tmp 26)))]
def w03_RatioOrder_c8 : MC := (.dreg w03_RatioOrder_r3 w03_RatioOrder_t3 (some [4, 5, 7, 8, 9]))
def w03_RatioOrder_r4 : List G := [(some 27, none, (.call false 22 [])), (some 28, none, (.mv (.tmp 27))), (some 29, some (28, true), (.mv (.tmp 7))), (some 30, some (28, true), (.ld true 10 (.tmp 5))), (some 31, some (28, true), (.ld true 10 (.tmp 4))), (some 32, some (28, true), (.call false 30 [(.tmp 30), (.tmp 31)])), (some 33, some (28, true), (.un .neg (.tmp 32))), (some 34, some (28, true), (.bin .eql (.tmp 29) (.tmp 33))), (some 35, none, (.pick (.tmp 28) (.tmp 34) (.const (.bool false)))), (some 36, none, (.mv (.tmp 35))), (some 37, some (36, true), (.mv (.tmp 7))), (some 38, some (36, true), (.bin .gtr (.tmp 37) (.const (.int .i64 0)))), (some 39, some (36, true), (.mv (.tmp 38))), (some 40, some (39, false), (.mv (.tmp 8))), (some 41, some (39, false), (.bin .gtr (.tmp 40) (.const (.int .i64 0)))), (some 42, some (36, true), (.pick (.tmp 39) (.const (.bool true)) (.tmp 41))), (some 43, some (36, true), (.mv (.tmp 42))), (some 44, some (43, false), (.mv (.tmp 9))), (some 45, some (43, false), (.bin .leq (.tmp 44) (.const (.int .i64 0)))), (some 46, some (36, true), (.pick (.tmp 43) (.const (.bool true)) (.tmp 45))), (some 47, none, (.pick (.tmp 36) (.tmp 46) (.const (.bool false)))), (some 48, none, (.mv (.tmp 47))), (some 49, some (48, true), (.mv (.tmp 7))), (some 50, some (48, true), (.bin .eql (.tmp 49) (.const (.int .i64 0)))), (some 51, some (48, true), (.ld true 10 (.tmp 4))), (some 52, some (48, true), (.ld true 10 (.tmp 5))), (some 53, some (48, true), (.eqg false 35 (.tmp 51) (.tmp 52))), (some 54, some (48, true), (.bq false (.tmp 50) (.tmp 53))), (some 55, none, (.pick (.tmp 48) (.tmp 54) (.const (.bool false)))), (some 2, none, (.mv (.tmp 55)))]
def w03_RatioOrder_c10 : MC := (.reg w03_RatioOrder_r4 (some [2]))
def w03_RatioOrder_c9 : MC := (.seq w03_RatioOrder_c10 .ret)
def w03_RatioOrder_c7 : MC := (.seq w03_RatioOrder_c8 w03_RatioOrder_c9)
def w03_RatioOrder_c5 : MC := (.seq w03_RatioOrder_c6 w03_RatioOrder_c7)
def w03_RatioOrder_c3 : MC := (.seq w03_RatioOrder_c4 w03_RatioOrder_c5)
def w03_RatioOrder_c1 : MC := (.seq w03_RatioOrder_c2 w03_RatioOrder_c3)
def w03_RatioOrder_ann : Ann := [(0, (some [0], 0, [], [], [])), (1, (some [3], 0, [], [], [])), (2, (some [4, 5, 6], 0, [], [], [])), (3, (some [4, 5, 7, 8, 9], 9, [], [(0, 0), (1, 0), (2, 0), (3, 0), (4, 0), (5, 0), (6, 0), (7, 0), (8, 0)], [])), (4, (some [2], 0, [], [], []))]
theorem w03_RatioOrder_ok : compF Try.prog Try.f6 w03_RatioOrder_ann = some (56, w03_RatioOrder_c1, [(2, none)]) := by kernel_rfl
def w03_RatioOrder_p1 : St → Prop := X C w03_RatioOrder_c10 (thenK R (retK R))
theorem w03_RatioOrder_p1_e (S : St) : w03_RatioOrder_p1 C R S = Sx.ops C w03_RatioOrder_r4 (kq [2] R) S := rfl
def w03_RatioOrder_p2 : St → Prop := X C w03_RatioOrder_c8 (thenK (w03_RatioOrder_p1 C R) (retK R))
theorem w03_RatioOrder_p2_e (S : St) : w03_RatioOrder_p2 C R S = Sx.ops C w03_RatioOrder_r3 (Sx.ops C w03_RatioOrder_t3 (kq [4, 5, 7, 8, 9] (w03_RatioOrder_p1 C R))) S := rfl
def w03_RatioOrder_p3 : St → Prop := X C w03_RatioOrder_c6 (thenK (w03_RatioOrder_p2 C R) (retK R))
theorem w03_RatioOrder_p3_e (S : St) : w03_RatioOrder_p3 C R S = Sx.ops C w03_RatioOrder_r2 (kq [4, 5, 6] (w03_RatioOrder_p2 C R)) S := rfl
def w03_RatioOrder_p4 : St → Prop := X C w03_RatioOrder_c4 (thenK (w03_RatioOrder_p3 C R) (retK R))
theorem w03_RatioOrder_p4_e (S : St) : w03_RatioOrder_p4 C R S = Sx.ops C w03_RatioOrder_r1 (kq [3] (w03_RatioOrder_p3 C R)) S := rfl
def w03_RatioOrder_p5 : St → Prop := X C w03_RatioOrder_c2 (thenK (w03_RatioOrder_p4 C R) (retK R))
theorem w03_RatioOrder_p5_e (S : St) : w03_RatioOrder_p5 C R S = Sx.ops C w03_RatioOrder_r0 (kq [0] (w03_RatioOrder_p4 C R)) S := rfl
set_option maxRecDepth 100000 in
theorem w03_RatioOrder_s (S : St) : X C w03_RatioOrder_c1 (retK R) S = (w03_RatioOrder_p5 C R) S := rfl
theorem w03_RatioOrder_start {R : Value → Prop} {args : List Value} {w : World} : type_of% (enter (R := R) (args := args) (w := w) Try.func6 w03_RatioOrder_ok) := enter Try.func6 w03_RatioOrder_ok
theorem w03_RatioOrder_startX {R : Value → Ext → Prop} {args : List Value} {w : World} : type_of% (enterX (R := R) (args := args) (w := w) Try.func6 w03_RatioOrder_ok) := enterX Try.func6 w03_RatioOrder_ok
theorem w03_RatioOrder_startG {R : Value → Ext → Prop} {args : List Value} {w w0 : World} {T : Ext} : type_of% (enterG (R := R) (args := args) (w := w) (w0 := w0) (T := T) Try.func6 w03_RatioOrder_ok) := enterG Try.func6 w03_RatioOrder_ok
theorem w03_RatioOrder_E : type_of% @w03_RatioOrder_r4.eq_1 ∧ type_of% @w03_RatioOrder_p1_e ∧ type_of% @w03_RatioOrder_r3.eq_1 ∧ type_of% @w03_RatioOrder_t3.eq_1 ∧ type_of% @w03_RatioOrder_p2_e ∧ type_of% @w03_RatioOrder_r2.eq_1 ∧ type_of% @w03_RatioOrder_p3_e ∧ type_of% @w03_RatioOrder_r1.eq_1 ∧ type_of% @w03_RatioOrder_p4_e ∧ type_of% @w03_RatioOrder_r0.eq_1 ∧ type_of% @w03_RatioOrder_p5_e ∧ type_of% @w03_RatioOrder_s := ⟨@w03_RatioOrder_r4.eq_1, @w03_RatioOrder_p1_e, @w03_RatioOrder_r3.eq_1, @w03_RatioOrder_t3.eq_1, @w03_RatioOrder_p2_e, @w03_RatioOrder_r2.eq_1, @w03_RatioOrder_p3_e, @w03_RatioOrder_r1.eq_1, @w03_RatioOrder_p4_e, @w03_RatioOrder_r0.eq_1, @w03_RatioOrder_p5_e, @w03_RatioOrder_s⟩
end Go.Proofs.Ytlanoclibdhpmaa
