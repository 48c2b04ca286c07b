/- Several texts in one: SxN, CdV, WideC, RefC, WideD, MadeW, LawT, SxV, Tp, Ck, Wk, Ro, Rg, Eb, CdY, DvP, DvQ, DvR, CdW, LtC, Gw. -/
import Derived.Test.YtncmmbacoknefaaGreatProg
import Derived.Test.YtncmmbacoknefaaGreatRows
import Derived.WalkKit
import Derived.ProofKit
import Derived.WalkLawsBesides
import Derived.WalkSpells
import Derived.RegionTactic
import Derived.ChangeAlike
import Derived.BigRegion
import Derived.Outline
import Derived.Handy
import Derived.Deep.RegionWith
import Derived.Laws.AppendOwn
import Derived.Laws.OwnMore
import Derived.Deep.Onto
import Derived.Deep.Upon
import Derived.Laws.MathBits
import Derived.Lib.BitFns
import Derived.Lib.ItoaNum
import Derived.IntWalk
import Derived.Test.YtncmmbacoknefaaGreatSm2
set_option linter.defProp false

/- SxN: MADE BY PROGRAM (sxen.py): a call of a function that has a body enters it. -/
namespace Go.Proofs.YtncmmbacoknefaaGreat
open Go Go.RowKit
theorem en_m_New (l : Array Value) (W : World) : (callFunc 15 l).run Tryz.prog W = .ok (.enter 15 l) W := Sx.en_of Tryz.func15 (by kernel_rfl) (by kernel_rfl) l W
theorem en_m_Tape__Samples (l : Array Value) (W : World) : (callFunc 16 l).run Tryz.prog W = .ok (.enter 16 l) W := Sx.en_of Tryz.func16 (by kernel_rfl) (by kernel_rfl) l W
theorem en_m_Tape__Tolerance (l : Array Value) (W : World) : (callFunc 17 l).run Tryz.prog W = .ok (.enter 17 l) W := Sx.en_of Tryz.func17 (by kernel_rfl) (by kernel_rfl) l W
theorem en_r13_Valid (l : Array Value) (W : World) : (callFunc 39 l).run Tryz.prog W = .ok (.enter 39 l) W := Sx.en_of Tryz.func39 (by kernel_rfl) (by kernel_rfl) l W
theorem en_r13_Through (l : Array Value) (W : World) : (callFunc 40 l).run Tryz.prog W = .ok (.enter 40 l) W := Sx.en_of Tryz.func40 (by kernel_rfl) (by kernel_rfl) l W
theorem en_r01_Distance (l : Array Value) (W : World) : (callFunc 42 l).run Tryz.prog W = .ok (.enter 42 l) W := Sx.en_of Tryz.func42 (by kernel_rfl) (by kernel_rfl) l W
theorem en_r13_Meet (l : Array Value) (W : World) : (callFunc 45 l).run Tryz.prog W = .ok (.enter 45 l) W := Sx.en_of Tryz.func45 (by kernel_rfl) (by kernel_rfl) l W
theorem en_swing_All (l : Array Value) (W : World) : (callFunc 46 l).run Tryz.prog W = .ok (.enter 46 l) W := Sx.en_of Tryz.func46 (by kernel_rfl) (by kernel_rfl) l W
theorem en_w14_known (l : Array Value) (W : World) : (callFunc 47 l).run Tryz.prog W = .ok (.enter 47 l) W := Sx.en_of Tryz.func47 (by kernel_rfl) (by kernel_rfl) l W
theorem en_r03_Valid (l : Array Value) (W : World) : (callFunc 49 l).run Tryz.prog W = .ok (.enter 49 l) W := Sx.en_of Tryz.func49 (by kernel_rfl) (by kernel_rfl) l W
theorem en_r02_Of (l : Array Value) (W : World) : (callFunc 50 l).run Tryz.prog W = .ok (.enter 50 l) W := Sx.en_of Tryz.func50 (by kernel_rfl) (by kernel_rfl) l W
theorem en_r02_Add (l : Array Value) (W : World) : (callFunc 51 l).run Tryz.prog W = .ok (.enter 51 l) W := Sx.en_of Tryz.func51 (by kernel_rfl) (by kernel_rfl) l W
theorem en_r02_Sub (l : Array Value) (W : World) : (callFunc 53 l).run Tryz.prog W = .ok (.enter 53 l) W := Sx.en_of Tryz.func53 (by kernel_rfl) (by kernel_rfl) l W
theorem en_r02_Compare (l : Array Value) (W : World) : (callFunc 54 l).run Tryz.prog W = .ok (.enter 54 l) W := Sx.en_of Tryz.func54 (by kernel_rfl) (by kernel_rfl) l W
theorem en_r13_Start (l : Array Value) (W : World) : (callFunc 55 l).run Tryz.prog W = .ok (.enter 55 l) W := Sx.en_of Tryz.func55 (by kernel_rfl) (by kernel_rfl) l W
theorem en_swing_Start (l : Array Value) (W : World) : (callFunc 64 l).run Tryz.prog W = .ok (.enter 64 l) W := Sx.en_of Tryz.func64 (by kernel_rfl) (by kernel_rfl) l W
theorem en_r02_OfUnsigned (l : Array Value) (W : World) : (callFunc 75 l).run Tryz.prog W = .ok (.enter 75 l) W := Sx.en_of Tryz.func75 (by kernel_rfl) (by kernel_rfl) l W
theorem en_r02_Mul (l : Array Value) (W : World) : (callFunc 76 l).run Tryz.prog W = .ok (.enter 76 l) W := Sx.en_of Tryz.func76 (by kernel_rfl) (by kernel_rfl) l W
theorem en_r03_Make (l : Array Value) (W : World) : (callFunc 77 l).run Tryz.prog W = .ok (.enter 77 l) W := Sx.en_of Tryz.func77 (by kernel_rfl) (by kernel_rfl) l W
theorem en_r03_Of (l : Array Value) (W : World) : (callFunc 78 l).run Tryz.prog W = .ok (.enter 78 l) W := Sx.en_of Tryz.func78 (by kernel_rfl) (by kernel_rfl) l W
theorem en_stamps_Increasing (l : Array Value) (W : World) : (callFunc 79 l).run Tryz.prog W = .ok (.enter 79 l) W := Sx.en_of Tryz.func79 (by kernel_rfl) (by kernel_rfl) l W
theorem en_wide_Of (l : Array Value) (W : World) : (callFunc 81 l).run Tryz.prog W = .ok (.enter 81 l) W := Sx.en_of Tryz.func81 (by kernel_rfl) (by kernel_rfl) l W
theorem en_r13_Tolerance (l : Array Value) (W : World) : (callFunc 93 l).run Tryz.prog W = .ok (.enter 93 l) W := Sx.en_of Tryz.func93 (by kernel_rfl) (by kernel_rfl) l W
theorem en_series_Check (l : Array Value) (W : World) : (callFunc 94 l).run Tryz.prog W = .ok (.enter 94 l) W := Sx.en_of Tryz.func94 (by kernel_rfl) (by kernel_rfl) l W
theorem en_r03_Compare (l : Array Value) (W : World) : (callFunc 99 l).run Tryz.prog W = .ok (.enter 99 l) W := Sx.en_of Tryz.func99 (by kernel_rfl) (by kernel_rfl) l W
theorem en_r02_Valid (l : Array Value) (W : World) : (callFunc 100 l).run Tryz.prog W = .ok (.enter 100 l) W := Sx.en_of Tryz.func100 (by kernel_rfl) (by kernel_rfl) l W
theorem en_swing_door__step (l : Array Value) (W : World) : (callFunc 102 l).run Tryz.prog W = .ok (.enter 102 l) W := Sx.en_of Tryz.func102 (by kernel_rfl) (by kernel_rfl) l W
theorem en_swing_door__end (l : Array Value) (W : World) : (callFunc 103 l).run Tryz.prog W = .ok (.enter 103 l) W := Sx.en_of Tryz.func103 (by kernel_rfl) (by kernel_rfl) l W
theorem en_r02_Sign (l : Array Value) (W : World) : (callFunc 104 l).run Tryz.prog W = .ok (.enter 104 l) W := Sx.en_of Tryz.func104 (by kernel_rfl) (by kernel_rfl) l W
theorem en_r03_small (l : Array Value) (W : World) : (callFunc 105 l).run Tryz.prog W = .ok (.enter 105 l) W := Sx.en_of Tryz.func105 (by kernel_rfl) (by kernel_rfl) l W
theorem en_r03_gcd (l : Array Value) (W : World) : (callFunc 106 l).run Tryz.prog W = .ok (.enter 106 l) W := Sx.en_of Tryz.func106 (by kernel_rfl) (by kernel_rfl) l W
theorem en_r03_abs (l : Array Value) (W : World) : (callFunc 107 l).run Tryz.prog W = .ok (.enter 107 l) W := Sx.en_of Tryz.func107 (by kernel_rfl) (by kernel_rfl) l W
theorem en_r03_one (l : Array Value) (W : World) : (callFunc 108 l).run Tryz.prog W = .ok (.enter 108 l) W := Sx.en_of Tryz.func108 (by kernel_rfl) (by kernel_rfl) l W
theorem en_r02_clean (l : Array Value) (W : World) : (callFunc 109 l).run Tryz.prog W = .ok (.enter 109 l) W := Sx.en_of Tryz.func109 (by kernel_rfl) (by kernel_rfl) l W
theorem en_r02_of (l : Array Value) (W : World) : (callFunc 110 l).run Tryz.prog W = .ok (.enter 110 l) W := Sx.en_of Tryz.func110 (by kernel_rfl) (by kernel_rfl) l W
theorem en_r02_wide (l : Array Value) (W : World) : (callFunc 111 l).run Tryz.prog W = .ok (.enter 111 l) W := Sx.en_of Tryz.func111 (by kernel_rfl) (by kernel_rfl) l W
theorem en_r02_add (l : Array Value) (W : World) : (callFunc 112 l).run Tryz.prog W = .ok (.enter 112 l) W := Sx.en_of Tryz.func112 (by kernel_rfl) (by kernel_rfl) l W
theorem en_r02_compare (l : Array Value) (W : World) : (callFunc 113 l).run Tryz.prog W = .ok (.enter 113 l) W := Sx.en_of Tryz.func113 (by kernel_rfl) (by kernel_rfl) l W
theorem en_r02_sub (l : Array Value) (W : World) : (callFunc 114 l).run Tryz.prog W = .ok (.enter 114 l) W := Sx.en_of Tryz.func114 (by kernel_rfl) (by kernel_rfl) l W
theorem en_r03_clean (l : Array Value) (W : World) : (callFunc 115 l).run Tryz.prog W = .ok (.enter 115 l) W := Sx.en_of Tryz.func115 (by kernel_rfl) (by kernel_rfl) l W
theorem en_r02_DivMod (l : Array Value) (W : World) : (callFunc 116 l).run Tryz.prog W = .ok (.enter 116 l) W := Sx.en_of Tryz.func116 (by kernel_rfl) (by kernel_rfl) l W
theorem en_r02_Neg (l : Array Value) (W : World) : (callFunc 117 l).run Tryz.prog W = .ok (.enter 117 l) W := Sx.en_of Tryz.func117 (by kernel_rfl) (by kernel_rfl) l W
theorem en_wide_Mul (l : Array Value) (W : World) : (callFunc 126 l).run Tryz.prog W = .ok (.enter 126 l) W := Sx.en_of Tryz.func126 (by kernel_rfl) (by kernel_rfl) l W
theorem en_swing_tolerable (l : Array Value) (W : World) : (callFunc 127 l).run Tryz.prog W = .ok (.enter 127 l) W := Sx.en_of Tryz.func127 (by kernel_rfl) (by kernel_rfl) l W
theorem en_r02_mul (l : Array Value) (W : World) : (callFunc 134 l).run Tryz.prog W = .ok (.enter 134 l) W := Sx.en_of Tryz.func134 (by kernel_rfl) (by kernel_rfl) l W
theorem en_checked_Distance (l : Array Value) (W : World) : (callFunc 135 l).run Tryz.prog W = .ok (.enter 135 l) W := Sx.en_of Tryz.func135 (by kernel_rfl) (by kernel_rfl) l W
theorem en_wide_Add (l : Array Value) (W : World) : (callFunc 137 l).run Tryz.prog W = .ok (.enter 137 l) W := Sx.en_of Tryz.func137 (by kernel_rfl) (by kernel_rfl) l W
theorem en_wide_Sign (l : Array Value) (W : World) : (callFunc 140 l).run Tryz.prog W = .ok (.enter 140 l) W := Sx.en_of Tryz.func140 (by kernel_rfl) (by kernel_rfl) l W
theorem en_series_Times (l : Array Value) (W : World) : (callFunc 146 l).run Tryz.prog W = .ok (.enter 146 l) W := Sx.en_of Tryz.func146 (by kernel_rfl) (by kernel_rfl) l W
theorem en_cone_Through (l : Array Value) (W : World) : (callFunc 147 l).run Tryz.prog W = .ok (.enter 147 l) W := Sx.en_of Tryz.func147 (by kernel_rfl) (by kernel_rfl) l W
theorem en_cone_Meet (l : Array Value) (W : World) : (callFunc 148 l).run Tryz.prog W = .ok (.enter 148 l) W := Sx.en_of Tryz.func148 (by kernel_rfl) (by kernel_rfl) l W
theorem en_swing_door__begin (l : Array Value) (W : World) : (callFunc 151 l).run Tryz.prog W = .ok (.enter 151 l) W := Sx.en_of Tryz.func151 (by kernel_rfl) (by kernel_rfl) l W
theorem en_cone_Choose (l : Array Value) (W : World) : (callFunc 152 l).run Tryz.prog W = .ok (.enter 152 l) W := Sx.en_of Tryz.func152 (by kernel_rfl) (by kernel_rfl) l W
theorem en_r02_Unsigned (l : Array Value) (W : World) : (callFunc 153 l).run Tryz.prog W = .ok (.enter 153 l) W := Sx.en_of Tryz.func153 (by kernel_rfl) (by kernel_rfl) l W
theorem en_r02_trim (l : Array Value) (W : World) : (callFunc 154 l).run Tryz.prog W = .ok (.enter 154 l) W := Sx.en_of Tryz.func154 (by kernel_rfl) (by kernel_rfl) l W
theorem en_r02_divmod (l : Array Value) (W : World) : (callFunc 157 l).run Tryz.prog W = .ok (.enter 157 l) W := Sx.en_of Tryz.func157 (by kernel_rfl) (by kernel_rfl) l W
theorem en_cone_Start (l : Array Value) (W : World) : (callFunc 158 l).run Tryz.prog W = .ok (.enter 158 l) W := Sx.en_of Tryz.func158 (by kernel_rfl) (by kernel_rfl) l W
theorem en_cone_Valid (l : Array Value) (W : World) : (callFunc 159 l).run Tryz.prog W = .ok (.enter 159 l) W := Sx.en_of Tryz.func159 (by kernel_rfl) (by kernel_rfl) l W
theorem en_wide_clean (l : Array Value) (W : World) : (callFunc 161 l).run Tryz.prog W = .ok (.enter 161 l) W := Sx.en_of Tryz.func161 (by kernel_rfl) (by kernel_rfl) l W
theorem en_wide_mul (l : Array Value) (W : World) : (callFunc 162 l).run Tryz.prog W = .ok (.enter 162 l) W := Sx.en_of Tryz.func162 (by kernel_rfl) (by kernel_rfl) l W
theorem en_wide_signed (l : Array Value) (W : World) : (callFunc 163 l).run Tryz.prog W = .ok (.enter 163 l) W := Sx.en_of Tryz.func163 (by kernel_rfl) (by kernel_rfl) l W
theorem en_wide_add (l : Array Value) (W : World) : (callFunc 165 l).run Tryz.prog W = .ok (.enter 165 l) W := Sx.en_of Tryz.func165 (by kernel_rfl) (by kernel_rfl) l W
theorem en_wide_compare (l : Array Value) (W : World) : (callFunc 166 l).run Tryz.prog W = .ok (.enter 166 l) W := Sx.en_of Tryz.func166 (by kernel_rfl) (by kernel_rfl) l W
theorem en_wide_sub (l : Array Value) (W : World) : (callFunc 167 l).run Tryz.prog W = .ok (.enter 167 l) W := Sx.en_of Tryz.func167 (by kernel_rfl) (by kernel_rfl) l W
theorem en_ratio_clean (l : Array Value) (W : World) : (callFunc 168 l).run Tryz.prog W = .ok (.enter 168 l) W := Sx.en_of Tryz.func168 (by kernel_rfl) (by kernel_rfl) l W
theorem en_ratio_product (l : Array Value) (W : World) : (callFunc 169 l).run Tryz.prog W = .ok (.enter 169 l) W := Sx.en_of Tryz.func169 (by kernel_rfl) (by kernel_rfl) l W
theorem en_wide_OfUnsigned (l : Array Value) (W : World) : (callFunc 170 l).run Tryz.prog W = .ok (.enter 170 l) W := Sx.en_of Tryz.func170 (by kernel_rfl) (by kernel_rfl) l W
theorem en_wide_DivMod (l : Array Value) (W : World) : (callFunc 171 l).run Tryz.prog W = .ok (.enter 171 l) W := Sx.en_of Tryz.func171 (by kernel_rfl) (by kernel_rfl) l W
theorem en_series_field_int64 (l : Array Value) (W : World) : (callFunc 174 l).run Tryz.prog W = .ok (.enter 174 l) W := Sx.en_of Tryz.func174 (by kernel_rfl) (by kernel_rfl) l W
theorem en_wide_Valid (l : Array Value) (W : World) : (callFunc 176 l).run Tryz.prog W = .ok (.enter 176 l) W := Sx.en_of Tryz.func176 (by kernel_rfl) (by kernel_rfl) l W
theorem en_wide_Sub (l : Array Value) (W : World) : (callFunc 177 l).run Tryz.prog W = .ok (.enter 177 l) W := Sx.en_of Tryz.func177 (by kernel_rfl) (by kernel_rfl) l W
theorem en_ratio_Make (l : Array Value) (W : World) : (callFunc 178 l).run Tryz.prog W = .ok (.enter 178 l) W := Sx.en_of Tryz.func178 (by kernel_rfl) (by kernel_rfl) l W
theorem en_ratio_Compare (l : Array Value) (W : World) : (callFunc 179 l).run Tryz.prog W = .ok (.enter 179 l) W := Sx.en_of Tryz.func179 (by kernel_rfl) (by kernel_rfl) l W
theorem en_ratio_Of (l : Array Value) (W : World) : (callFunc 180 l).run Tryz.prog W = .ok (.enter 180 l) W := Sx.en_of Tryz.func180 (by kernel_rfl) (by kernel_rfl) l W
theorem en_simplest_Between (l : Array Value) (W : World) : (callFunc 181 l).run Tryz.prog W = .ok (.enter 181 l) W := Sx.en_of Tryz.func181 (by kernel_rfl) (by kernel_rfl) l W
theorem en_r02_size (l : Array Value) (W : World) : (callFunc 183 l).run Tryz.prog W = .ok (.enter 183 l) W := Sx.en_of Tryz.func183 (by kernel_rfl) (by kernel_rfl) l W
theorem en_r02_up (l : Array Value) (W : World) : (callFunc 184 l).run Tryz.prog W = .ok (.enter 184 l) W := Sx.en_of Tryz.func184 (by kernel_rfl) (by kernel_rfl) l W
theorem en_r02_half (l : Array Value) (W : World) : (callFunc 185 l).run Tryz.prog W = .ok (.enter 185 l) W := Sx.en_of Tryz.func185 (by kernel_rfl) (by kernel_rfl) l W
theorem en_ratio_Valid (l : Array Value) (W : World) : (callFunc 186 l).run Tryz.prog W = .ok (.enter 186 l) W := Sx.en_of Tryz.func186 (by kernel_rfl) (by kernel_rfl) l W
theorem en_wide_div (l : Array Value) (W : World) : (callFunc 189 l).run Tryz.prog W = .ok (.enter 189 l) W := Sx.en_of Tryz.func189 (by kernel_rfl) (by kernel_rfl) l W
theorem en_wide_Neg (l : Array Value) (W : World) : (callFunc 190 l).run Tryz.prog W = .ok (.enter 190 l) W := Sx.en_of Tryz.func190 (by kernel_rfl) (by kernel_rfl) l W
theorem en_ratio_divisor (l : Array Value) (W : World) : (callFunc 191 l).run Tryz.prog W = .ok (.enter 191 l) W := Sx.en_of Tryz.func191 (by kernel_rfl) (by kernel_rfl) l W
theorem en_ratio_small (l : Array Value) (W : World) : (callFunc 192 l).run Tryz.prog W = .ok (.enter 192 l) W := Sx.en_of Tryz.func192 (by kernel_rfl) (by kernel_rfl) l W
theorem en_wide_Compare (l : Array Value) (W : World) : (callFunc 193 l).run Tryz.prog W = .ok (.enter 193 l) W := Sx.en_of Tryz.func193 (by kernel_rfl) (by kernel_rfl) l W
theorem en_simplest_negative (l : Array Value) (W : World) : (callFunc 194 l).run Tryz.prog W = .ok (.enter 194 l) W := Sx.en_of Tryz.func194 (by kernel_rfl) (by kernel_rfl) l W
theorem en_simplest_positive (l : Array Value) (W : World) : (callFunc 195 l).run Tryz.prog W = .ok (.enter 195 l) W := Sx.en_of Tryz.func195 (by kernel_rfl) (by kernel_rfl) l W
theorem en_wide_length (l : Array Value) (W : World) : (callFunc 199 l).run Tryz.prog W = .ok (.enter 199 l) W := Sx.en_of Tryz.func199 (by kernel_rfl) (by kernel_rfl) l W
theorem en_wide_left (l : Array Value) (W : World) : (callFunc 200 l).run Tryz.prog W = .ok (.enter 200 l) W := Sx.en_of Tryz.func200 (by kernel_rfl) (by kernel_rfl) l W
theorem en_wide_halved (l : Array Value) (W : World) : (callFunc 201 l).run Tryz.prog W = .ok (.enter 201 l) W := Sx.en_of Tryz.func201 (by kernel_rfl) (by kernel_rfl) l W
end Go.Proofs.YtncmmbacoknefaaGreat

/- CdV: MADE BY PROGRAM (sxgen.py): the small code of some functions, points of it and their equations. -/
namespace Go.Proofs.YtncmmbacoknefaaGreat
open Go Go.RowKit Sx
set_option linter.unusedVariables false
variable (C : Cx) (R L1 L2 L3 L4 : St → Prop)
namespace wide_Add
def r0 : List G := [(some 2, none, .box true 5 (.tmp 0)), (some 3, none, .box true 5 (.tmp 1)), (some 4, none, .new zW), (some 5, none, .mv (.const (.bool false)))]
def r1 : List G := [(some 8, none, .ld true 5 (.tmp 2)), (some 9, none, .call true 161 [.tmp 8]), (some 10, none, .ld true 5 (.tmp 3)), (some 11, none, .call true 161 [.tmp 10])]
def t1 : List G := [(none, none, .st true 5 (.tmp 2) (.tmp 9)), (none, none, .st true 5 (.tmp 3) (.tmp 11))]
def r2 : List G := [(some 12, none, .fa 0 (.tmp 2)), (some 13, none, .ld false 1 (.tmp 12)), (some 14, none, .fa 0 (.tmp 3)), (some 15, none, .ld false 1 (.tmp 14)), (some 16, none, .bq false (.tmp 13) (.tmp 15))]
def r3 : List G := [(some 18, none, .fa 1 (.tmp 2)), (some 19, none, .ld true 4 (.tmp 18)), (some 20, none, .fa 1 (.tmp 3)), (some 21, none, .ld true 4 (.tmp 20)), (some 22, none, .call false 165 [.tmp 19, .tmp 21]), (some 17, none, .mv (.tmp 22)), (some 23, none, .ex (.tmp 17) 0), (some 24, none, .ex (.tmp 17) 1), (some 6, none, .new [.int .u64 0, .int .u64 0, .int .u64 0, .int .u64 0]), (none, none, .st true 4 (.tmp 6) (.tmp 23)), (some 7, none, .mv (.tmp 24))]
def r4 : List G := [(some 25, none, .mv (.tmp 7)), (some 26, none, .bin .neq (.tmp 25) (.const (.int .u64 0)))]
def r5 : List G := [(some 27, none, .bd zW []), (none, none, .st true 5 (.tmp 4) (.tmp 27)), (some 5, none, .mv (.const (.bool false)))]
def r6 : List G := [(some 28, none, .fa 0 (.tmp 2)), (some 29, none, .ld false 1 (.tmp 28)), (some 30, none, .ld true 4 (.tmp 6)), (some 31, none, .call false 163 [.tmp 29, .tmp 30]), (none, none, .st true 5 (.tmp 4) (.tmp 31)), (some 5, none, .mv (.const (.bool true)))]
def r7 : List G := [(some 32, none, .fa 1 (.tmp 2)), (some 33, none, .ld true 4 (.tmp 32)), (some 34, none, .fa 1 (.tmp 3)), (some 35, none, .ld true 4 (.tmp 34)), (some 36, none, .call false 166 [.tmp 33, .tmp 35]), (some 37, none, .bin .geq (.tmp 36) (.const (.int .i64 0)))]
def r8 : List G := [(some 38, none, .fa 0 (.tmp 2)), (some 39, none, .ld false 1 (.tmp 38)), (some 40, none, .fa 1 (.tmp 2)), (some 41, none, .ld true 4 (.tmp 40)), (some 42, none, .fa 1 (.tmp 3)), (some 43, none, .ld true 4 (.tmp 42)), (some 44, none, .call true 167 [.tmp 41, .tmp 43]), (some 45, none, .call true 163 [.tmp 39, .tmp 44])]
def t8 : List G := [(none, none, .st true 5 (.tmp 4) (.tmp 45)), (some 5, none, .mv (.const (.bool true)))]
def r9 : List G := [(some 46, none, .fa 0 (.tmp 3)), (some 47, none, .ld false 1 (.tmp 46)), (some 48, none, .fa 1 (.tmp 3)), (some 49, none, .ld true 4 (.tmp 48)), (some 50, none, .fa 1 (.tmp 2)), (some 51, none, .ld true 4 (.tmp 50)), (some 52, none, .call true 167 [.tmp 49, .tmp 51]), (some 53, none, .call true 163 [.tmp 47, .tmp 52])]
def t9 : List G := [(none, none, .st true 5 (.tmp 4) (.tmp 53)), (some 5, none, .mv (.const (.bool true)))]
def c : MC := (.seq (.reg r0 (some [2, 3, 4])) (.seq (.dreg r1 t1 (some [2, 3, 4])) (.seq (.seq (.reg r2 (some [2, 3, 4, 16])) (.cond (.tmp 16) (.seq (.reg r3 (some [2, 4, 6, 7])) (.seq (.seq (.reg r4 (some [2, 4, 6, 26])) (.cond (.tmp 26) (.seq (.reg r5 (some [4, 5])) .ret) .skip)) (.seq (.reg r6 (some [4, 5])) .ret))) .skip)) (.seq (.seq (.reg r7 (some [2, 3, 4, 37])) (.cond (.tmp 37) (.seq (.dreg r8 t8 (some [4, 5])) .ret) .skip)) (.seq (.dreg r9 t9 (some [4, 5])) .ret)))))
def ann : Ann := [(0, (some [2, 3, 4], 0, [], [], [])), (1, (some [2, 3, 4], 4, [], [(0, 0), (1, 0), (2, 0), (3, 0)], [])), (2, (some [2, 3, 4, 16], 0, [], [], [])), (3, (some [2, 4, 6, 7], 0, [], [], [])), (4, (some [2, 4, 6, 26], 0, [], [], [])), (5, (some [4, 5], 0, [], [], [])), (6, (some [4, 5], 0, [], [], [])), (7, (some [2, 3, 4, 37], 0, [], [], [])), (8, (some [4, 5], 8, [], [(0, 0), (1, 0), (2, 0), (3, 0), (4, 0), (5, 0), (6, 0), (7, 0)], [])), (9, (some [4, 5], 8, [], [(0, 0), (1, 0), (2, 0), (3, 0), (4, 0), (5, 0), (6, 0), (7, 0)], []))]
theorem ok : compF Tryz.prog Tryz.f137 ann = some (54, c, [(4, some (true, 5)), (5, none)]) := by kernel_rfl
def p1 (S : St) : Prop := ops C r9 (ops C t9 (kq [4, 5] R)) S
def p3 (S : St) : Prop := ops C r8 (ops C t8 (kq [4, 5] R)) S
def p2 (S : St) : Prop := condX (S.ev (.tmp 37)) (p3 C R) (p1 C R) S
def p4 (S : St) : Prop := ops C r7 (kq [2, 3, 4, 37] (p2 C R)) S
def p6 (S : St) : Prop := ops C r6 (kq [4, 5] R) S
def p8 (S : St) : Prop := ops C r5 (kq [4, 5] R) S
def p7 (S : St) : Prop := condX (S.ev (.tmp 26)) (p8 C R) (p6 C R) S
def p9 (S : St) : Prop := ops C r4 (kq [2, 4, 6, 26] (p7 C R)) S
def p10 (S : St) : Prop := ops C r3 (kq [2, 4, 6, 7] (p9 C R)) S
def p5 (S : St) : Prop := condX (S.ev (.tmp 16)) (p10 C R) (p4 C R) S
def p11 (S : St) : Prop := ops C r2 (kq [2, 3, 4, 16] (p5 C R)) S
def p12 (S : St) : Prop := ops C r1 (ops C t1 (kq [2, 3, 4] (p11 C R))) S
def p13 (S : St) : Prop := ops C r0 (kq [2, 3, 4] (p12 C R)) S
theorem s (S : St) : X C c (retK R) S = p13 C R S := by kernel_rfl
def E := ai @r9.eq_1 <| ai @t9.eq_1 <| ai @p1.eq_1 <| ai @r8.eq_1 <| ai @t8.eq_1 <| ai @p3.eq_1 <| ai @p2.eq_1 <| ai @r7.eq_1 <| ai @p4.eq_1 <| ai @r6.eq_1 <| ai @p6.eq_1 <| ai @r5.eq_1 <| ai @p8.eq_1 <| ai @p7.eq_1 <| ai @r4.eq_1 <| ai @p9.eq_1 <| ai @r3.eq_1 <| ai @p10.eq_1 <| ai @p5.eq_1 <| ai @r2.eq_1 <| ai @p11.eq_1 <| ai @r1.eq_1 <| ai @t1.eq_1 <| ai @p12.eq_1 <| ai @r0.eq_1 <| ai @p13.eq_1 <| @s
end wide_Add
namespace wide_Mul
def r0 : List G := [(some 2, none, .box true 5 (.tmp 0)), (some 3, none, .box true 5 (.tmp 1)), (some 4, none, .new zW), (some 5, none, .mv (.const (.bool false)))]
def r1 : List G := [(some 8, none, .ld true 5 (.tmp 2)), (some 9, none, .call true 161 [.tmp 8]), (some 10, none, .ld true 5 (.tmp 3)), (some 11, none, .call true 161 [.tmp 10])]
def t1 : List G := [(none, none, .st true 5 (.tmp 2) (.tmp 9)), (none, none, .st true 5 (.tmp 3) (.tmp 11))]
def r2 : List G := [(some 13, none, .fa 1 (.tmp 2)), (some 14, none, .ld true 4 (.tmp 13)), (some 15, none, .fa 1 (.tmp 3)), (some 16, none, .ld true 4 (.tmp 15)), (some 17, none, .call false 162 [.tmp 14, .tmp 16]), (some 12, none, .mv (.tmp 17)), (some 18, none, .ex (.tmp 12) 0), (some 19, none, .ex (.tmp 12) 1), (some 6, none, .new [.int .u64 0, .int .u64 0, .int .u64 0, .int .u64 0]), (none, none, .st true 4 (.tmp 6) (.tmp 18)), (some 7, none, .mv (.tmp 19))]
def r3 : List G := [(some 20, none, .mv (.tmp 7)), (some 21, none, .un .not (.tmp 20))]
def r4 : List G := [(some 22, none, .bd zW []), (none, none, .st true 5 (.tmp 4) (.tmp 22)), (some 5, none, .mv (.const (.bool false)))]
def r5 : List G := [(some 23, none, .fa 0 (.tmp 2)), (some 24, none, .ld false 1 (.tmp 23)), (some 25, none, .fa 0 (.tmp 3)), (some 26, none, .ld false 1 (.tmp 25)), (some 27, none, .bq true (.tmp 24) (.tmp 26)), (some 28, none, .ld true 4 (.tmp 6)), (some 29, none, .call false 163 [.tmp 27, .tmp 28]), (none, none, .st true 5 (.tmp 4) (.tmp 29)), (some 5, none, .mv (.const (.bool true)))]
def c : MC := (.seq (.reg r0 (some [2, 3, 4])) (.seq (.dreg r1 t1 (some [2, 3, 4])) (.seq (.reg r2 (some [2, 3, 4, 6, 7])) (.seq (.seq (.reg r3 (some [2, 3, 4, 6, 21])) (.cond (.tmp 21) (.seq (.reg r4 (some [4, 5])) .ret) .skip)) (.seq (.reg r5 (some [4, 5])) .ret)))))
def ann : Ann := [(0, (some [2, 3, 4], 0, [], [], [])), (1, (some [2, 3, 4], 4, [], [(0, 0), (1, 0), (2, 0), (3, 0)], [])), (2, (some [2, 3, 4, 6, 7], 0, [], [], [])), (3, (some [2, 3, 4, 6, 21], 0, [], [], [])), (4, (some [4, 5], 0, [], [], [])), (5, (some [4, 5], 0, [], [], []))]
theorem ok : compF Tryz.prog Tryz.f126 ann = some (30, c, [(4, some (true, 5)), (5, none)]) := by kernel_rfl
def p1 (S : St) : Prop := ops C r5 (kq [4, 5] R) S
def p3 (S : St) : Prop := ops C r4 (kq [4, 5] R) S
def p2 (S : St) : Prop := condX (S.ev (.tmp 21)) (p3 C R) (p1 C R) S
def p4 (S : St) : Prop := ops C r3 (kq [2, 3, 4, 6, 21] (p2 C R)) S
def p5 (S : St) : Prop := ops C r2 (kq [2, 3, 4, 6, 7] (p4 C R)) S
def p6 (S : St) : Prop := ops C r1 (ops C t1 (kq [2, 3, 4] (p5 C R))) S
def p7 (S : St) : Prop := ops C r0 (kq [2, 3, 4] (p6 C R)) S
theorem s (S : St) : X C c (retK R) S = p7 C R S := by kernel_rfl
def E := ai @r5.eq_1 <| ai @p1.eq_1 <| ai @r4.eq_1 <| ai @p3.eq_1 <| ai @p2.eq_1 <| ai @r3.eq_1 <| ai @p4.eq_1 <| ai @r2.eq_1 <| ai @p5.eq_1 <| ai @r1.eq_1 <| ai @t1.eq_1 <| ai @p6.eq_1 <| ai @r0.eq_1 <| ai @p7.eq_1 <| @s
end wide_Mul
namespace r02_Add
def r0 : List G := [(some 2, none, .box true 5 (.tmp 0)), (some 3, none, .box true 5 (.tmp 1)), (some 4, none, .new zW), (some 5, none, .mv (.const (.bool false)))]
def r1 : List G := [(some 8, none, .ld true 5 (.tmp 2)), (some 9, none, .call true 109 [.tmp 8]), (some 10, none, .ld true 5 (.tmp 3)), (some 11, none, .call true 109 [.tmp 10])]
def t1 : List G := [(none, none, .st true 5 (.tmp 2) (.tmp 9)), (none, none, .st true 5 (.tmp 3) (.tmp 11))]
def r2 : List G := [(some 12, none, .ld true 5 (.tmp 2)), (some 14, none, .ld true 5 (.tmp 3)), (some 13, none, .call false 110 [.tmp 12]), (some 15, none, .call false 110 [.tmp 14])]
def t2 : List G := [(some 6, none, .mv (.tmp 13)), (some 7, none, .mv (.tmp 15))]
def r3 : List G := [(some 17, none, .fa 0 (.tmp 2)), (some 18, none, .ld false 1 (.tmp 17)), (some 19, none, .fa 0 (.tmp 3)), (some 20, none, .ld false 1 (.tmp 19)), (some 21, none, .bq false (.tmp 18) (.tmp 20)), (some 16, none, .mv (.tmp 21))]
def r4 : List G := [(some 22, none, .fa 0 (.tmp 2)), (some 23, none, .ld false 1 (.tmp 22)), (some 24, none, .mv (.tmp 6)), (some 25, none, .mv (.tmp 7)), (some 26, none, .call false 112 [.tmp 24, .tmp 25]), (some 27, none, .call false 111 [.tmp 23, .tmp 26]), (some 28, none, .ex (.tmp 27) 0), (some 29, none, .ex (.tmp 27) 1)]
def t4 : List G := [(none, none, .st true 5 (.tmp 4) (.tmp 28)), (some 5, none, .mv (.tmp 29))]
def r5 : List G := [(some 31, none, .mv (.tmp 6)), (some 32, none, .mv (.tmp 7)), (some 33, none, .call false 113 [.tmp 31, .tmp 32]), (some 34, none, .bin .geq (.tmp 33) (.const (.int .i64 0))), (some 30, none, .mv (.tmp 34))]
def r6 : List G := [(some 35, none, .fa 0 (.tmp 2)), (some 36, none, .ld false 1 (.tmp 35)), (some 37, none, .mv (.tmp 6)), (some 38, none, .mv (.tmp 7)), (some 39, none, .call false 114 [.tmp 37, .tmp 38]), (some 40, none, .call false 111 [.tmp 36, .tmp 39]), (some 41, none, .ex (.tmp 40) 0), (some 42, none, .ex (.tmp 40) 1)]
def t6 : List G := [(none, none, .st true 5 (.tmp 4) (.tmp 41)), (some 5, none, .mv (.tmp 42))]
def r7 : List G := [(some 43, none, .fa 0 (.tmp 3)), (some 44, none, .ld false 1 (.tmp 43)), (some 45, none, .mv (.tmp 7)), (some 46, none, .mv (.tmp 6)), (some 47, none, .call false 114 [.tmp 45, .tmp 46]), (some 48, none, .call false 111 [.tmp 44, .tmp 47]), (some 49, none, .ex (.tmp 48) 0), (some 50, none, .ex (.tmp 48) 1)]
def t7 : List G := [(none, none, .st true 5 (.tmp 4) (.tmp 49)), (some 5, none, .mv (.tmp 50))]
def c : MC := (.seq (.reg r0 (some [2, 3, 4])) (.seq (.dreg r1 t1 (some [2, 3, 4])) (.seq (.creg true false r2 t2 (some [2, 3, 4, 6, 7])) (.seq (.block 0 (.seq (.reg r3 (some [2, 3, 4, 6, 7, 16])) (.cond (.tmp 16) (.seq (.creg true false r4 t4 (some [4, 5])) .ret) (.seq (.reg r5 (some [2, 3, 4, 6, 7, 30])) (.cond (.tmp 30) (.seq (.creg true false r6 t6 (some [4, 5])) .ret) .skip))))) (.seq (.creg true false r7 t7 (some [4, 5])) .ret)))))
def ann : Ann := [(0, (some [2, 3, 4], 0, [], [], [])), (1, (some [2, 3, 4], 4, [], [(0, 0), (1, 0), (2, 0), (3, 0)], [])), (2, (some [2, 3, 4, 6, 7], 200004, [], [(0, 0), (2, 0), (1, 1), (3, 1)], [])), (3, (some [2, 3, 4, 6, 7, 16], 0, [], [], [])), (4, (some [4, 5], 200008, [], [(0, 0), (1, 0), (2, 0), (3, 0), (4, 1), (5, 1), (6, 0), (7, 0)], [])), (5, (some [2, 3, 4, 6, 7, 30], 0, [], [], [])), (6, (some [4, 5], 200008, [], [(0, 0), (1, 0), (2, 0), (3, 0), (4, 1), (5, 1), (6, 0), (7, 0)], [])), (7, (some [4, 5], 200008, [], [(0, 0), (1, 0), (2, 0), (3, 0), (4, 1), (5, 1), (6, 0), (7, 0)], []))]
theorem ok : compF Tryz.prog Tryz.f51 ann = some (51, c, [(4, some (true, 5)), (5, none)]) := by kernel_rfl
def p1 (S : St) : Prop := cregX C true false r7 t7 (kq [4, 5] R) S
def p3 (S : St) : Prop := cregX C true false r4 t4 (kq [4, 5] R) S
def p5 (S : St) : Prop := cregX C true false r6 t6 (kq [4, 5] R) S
def p4 (S : St) : Prop := condX (S.ev (.tmp 30)) (p5 C R) (p1 C R) S
def p6 (S : St) : Prop := ops C r5 (kq [2, 3, 4, 6, 7, 30] (p4 C R)) S
def p2 (S : St) : Prop := condX (S.ev (.tmp 16)) (p3 C R) (p6 C R) S
def p7 (S : St) : Prop := ops C r3 (kq [2, 3, 4, 6, 7, 16] (p2 C R)) S
def p8 (S : St) : Prop := cregX C true false r2 t2 (kq [2, 3, 4, 6, 7] (p7 C R)) S
def p9 (S : St) : Prop := ops C r1 (ops C t1 (kq [2, 3, 4] (p8 C R))) S
def p10 (S : St) : Prop := ops C r0 (kq [2, 3, 4] (p9 C R)) S
theorem s (S : St) : X C c (retK R) S = p10 C R S := by kernel_rfl
def E := ai @r7.eq_1 <| ai @t7.eq_1 <| ai @p1.eq_1 <| ai @r4.eq_1 <| ai @t4.eq_1 <| ai @p3.eq_1 <| ai @r6.eq_1 <| ai @t6.eq_1 <| ai @p5.eq_1 <| ai @p4.eq_1 <| ai @r5.eq_1 <| ai @p6.eq_1 <| ai @p2.eq_1 <| ai @r3.eq_1 <| ai @p7.eq_1 <| ai @r2.eq_1 <| ai @t2.eq_1 <| ai @p8.eq_1 <| ai @r1.eq_1 <| ai @t1.eq_1 <| ai @p9.eq_1 <| ai @r0.eq_1 <| ai @p10.eq_1 <| @s
end r02_Add
namespace r02_Mul
def r0 : List G := [(some 2, none, .box true 5 (.tmp 0)), (some 3, none, .box true 5 (.tmp 1)), (some 4, none, .new zW), (some 5, none, .mv (.const (.bool false)))]
def r1 : List G := [(some 6, none, .ld true 5 (.tmp 2)), (some 7, none, .call true 109 [.tmp 6]), (some 8, none, .ld true 5 (.tmp 3)), (some 9, none, .call true 109 [.tmp 8])]
def t1 : List G := [(none, none, .st true 5 (.tmp 2) (.tmp 7)), (none, none, .st true 5 (.tmp 3) (.tmp 9))]
def r2 : List G := [(some 10, none, .fa 0 (.tmp 2)), (some 11, none, .ld false 1 (.tmp 10)), (some 12, none, .fa 0 (.tmp 3)), (some 13, none, .ld false 1 (.tmp 12)), (some 14, none, .bq true (.tmp 11) (.tmp 13)), (some 15, none, .ld true 5 (.tmp 2)), (some 17, none, .ld true 5 (.tmp 3)), (some 16, none, .call false 110 [.tmp 15]), (some 18, none, .call false 110 [.tmp 17]), (some 19, none, .call false 134 [.tmp 16, .tmp 18]), (some 20, none, .call false 111 [.tmp 14, .tmp 19]), (some 21, none, .ex (.tmp 20) 0), (some 22, none, .ex (.tmp 20) 1)]
def t2 : List G := [(none, none, .st true 5 (.tmp 4) (.tmp 21)), (some 5, none, .mv (.tmp 22))]
def c : MC := (.seq (.reg r0 (some [2, 3, 4])) (.seq (.dreg r1 t1 (some [2, 3, 4])) (.seq (.creg true false r2 t2 (some [4, 5])) .ret)))
def ann : Ann := [(0, (some [2, 3, 4], 0, [], [], [])), (1, (some [2, 3, 4], 4, [], [(0, 0), (1, 0), (2, 0), (3, 0)], [])), (2, (some [4, 5], 200013, [], [(0, 0), (1, 0), (2, 0), (3, 0), (4, 0), (5, 0), (7, 0), (6, 1), (8, 1), (9, 1), (10, 1), (11, 0), (12, 0)], []))]
theorem ok : compF Tryz.prog Tryz.f76 ann = some (23, c, [(4, some (true, 5)), (5, none)]) := by kernel_rfl
def p1 (S : St) : Prop := cregX C true false r2 t2 (kq [4, 5] R) S
def p2 (S : St) : Prop := ops C r1 (ops C t1 (kq [2, 3, 4] (p1 C R))) S
def p3 (S : St) : Prop := ops C r0 (kq [2, 3, 4] (p2 C R)) S
theorem s (S : St) : X C c (retK R) S = p3 C R S := by kernel_rfl
def E := ai @r2.eq_1 <| ai @t2.eq_1 <| ai @p1.eq_1 <| ai @r1.eq_1 <| ai @t1.eq_1 <| ai @p2.eq_1 <| ai @r0.eq_1 <| ai @p3.eq_1 <| @s
end r02_Mul
end Go.Proofs.YtncmmbacoknefaaGreat

/- WideC: The package wide, continued: sums, differences, products (a symbolic run). -/
namespace Go.Proofs.YtncmmbacoknefaaGreat
open Go Go.RowKit Sx
set_option linter.unusedVariables false
set_option linter.unusedSimpArgs false
set_option maxRecDepth 100000 in
set_option maxHeartbeats 1000000 in
theorem add_any (n : Bool) (a b c d : Int) (n' : Bool) (a' b' c' d' : Int) (ha : U64 a) (hb : U64 b) (hc : U64 c) (hd : U64 d) (ha' : U64 a') (hb' : U64 b') (hc' : U64 c') (hd' : U64 d') (w : World) :
  Calls Tryz.prog 137 #[WV n a b c d, WV n' a' b' c' d'] w fun e w' => e = .returned (.tuple #[WE (cl (wv n a b c d + wv n' a' b' c' d')), .bool (fb (wv n a b c d + wv n' a' b' c' d'))]) ∧ Below w.heap.size w w' := by
 have cA := fun W => gives_known en_wide_clean (clean_any n a b c d W)
 have cB := fun W => gives_known en_wide_clean (clean_any n' a' b' c' d' W)
 rw [wv_sv n a b c d, wv_sv n' a' b' c' d']
 have m1 := mv_nonneg ha hb hc hd
 have m2 := mv_nonneg ha' hb' hc' hd'
 have u1 := mv_up4 ha hb hc hd
 have u2 := mv_up4 ha' hb' hc' hd'
 have C1 := cm4_mv (a3 := d) (b3 := d') ha hb hc ha' hb' hc'
 generalize cn n a b c d = p at *
 generalize cn n' a' b' c' d' = q at *
 by_cases hpq : p = q
 ·subst hpq
  rw [sv_add]
  have k1 := fun W => gives_known en_wide_add (wadd_any a b c d a' b' c' d' ha hb hc hd ha' hb' hc' hd' W)
  have h0 : 0 ≤ MV a b c d + MV a' b' c' d' := by omega
  generalize MV a b c d + MV a' b' c' d' = S at *
  clear m1 m2 u1 u2 C1 ha hb hc hd ha' hb' hc' hd'
  by_cases hu : up4 S = 0
  ·have hf : Fits (sv p S) := (fits_sv h0).2 hu
   have k2 := fun W => gives_known en_wide_signed (signed_any p (lb0 S) (lb1 S) (lb2 S) (lb3 S) W)
   rw [sv_signed h0 hu] at k2
   rw [hu] at k1
   rw [cl_fit hf, fb_fit hf]
   clear hf hu h0
   generalize sv p S = y at *
   refine known_of (enter Tryz.func137 wide_Add.ok (args := [_, _]) (by simp) ?_)
   repeat' (first | simp (disch := omega) only [sxE, wide_Add.E, Nat.reduceAdd, Nat.reduceEqDiff, Nat.reduceMul, Nat.reduceSub, Int.reduceAdd, Int.reduceSub, Int.reduceMul, Int.reduceNeg, Int.reduceLT, Int.reduceLE, Int.reduceEq, Int.reduceToNat, ↓reduceIte, Int.reducePow, Nat.reduceLeDiff, Nat.reduceLT, ne_eq, eq_self, List.length_cons, List.length_nil, beq_self_eq_true] | (with_reducible refine Sx.call_at (f := 161) (fun W hW => cA W) ?_) | (with_reducible refine Sx.call_at (f := 161) (fun W hW => cB W) ?_) | (with_reducible refine Sx.call_at (f := 165) (fun W hW => k1 W) ?_) | (with_reducible refine Sx.call_at (f := 163) (fun W hW => k2 W) ?_) | (with_reducible refine cregF ?_))
  ·have hf : ¬Fits (sv p S) := fun h => hu ((fits_sv h0).1 h)
   rw [cl_not hf, fb_not hf, we_zero]
   have hu' : up4 S ≠ 0 := hu
   clear hf
   generalize up4 S = U at *
   refine known_of (enter Tryz.func137 wide_Add.ok (args := [_, _]) (by simp) ?_)
   repeat' (first | simp (disch := omega) only [sxE, wide_Add.E, Nat.reduceAdd, Nat.reduceEqDiff, Nat.reduceMul, Nat.reduceSub, Int.reduceAdd, Int.reduceSub, Int.reduceMul, Int.reduceNeg, Int.reduceLT, Int.reduceLE, Int.reduceEq, Int.reduceToNat, ↓reduceIte, Int.reducePow, Nat.reduceLeDiff, Nat.reduceLT, ne_eq, eq_self, List.length_cons, List.length_nil, beq_self_eq_true] | (with_reducible refine Sx.call_at (f := 161) (fun W hW => cA W) ?_) | (with_reducible refine Sx.call_at (f := 161) (fun W hW => cB W) ?_) | (with_reducible refine Sx.call_at (f := 165) (fun W hW => k1 W) ?_) | (with_reducible refine cregF ?_))
 ·have T0 : (p == q) = false := beq_eq_false_iff_ne.2 hpq
  have k3 := fun W => gives_known en_wide_compare (wcompare_any a b c d a' b' c' d' W)
  have k1 := fun W => gives_known en_wide_sub (wsub_any a b c d a' b' c' d' ha hb hc hd ha' hb' hc' hd' W)
  have k1' := fun W => gives_known en_wide_sub (wsub_any a' b' c' d' a b c d ha' hb' hc' hd' ha hb hc hd W)
  by_cases hle : MV a' b' c' d' ≤ MV a b c d
  ·have hu : up4 (MV a b c d - MV a' b' c' d') = 0 := up4_le (by omega) (by omega) u1
   have T : 0 ≤ cm4 a b c d a' b' c' d' := by rw [C1]; exact (cm_ge _ _).2 hle
   have h0 : 0 ≤ MV a b c d - MV a' b' c' d' := by omega
   rw [sv_sub hpq]
   clear m1 m2 u1 u2 C1 hle ha hb hc hd ha' hb' hc' hd' k1' hpq
   generalize MV a b c d - MV a' b' c' d' = S at *
   generalize cm4 a b c d a' b' c' d' = Z at *
   have hf : Fits (sv p S) := (fits_sv h0).2 hu
   have k2 := fun W => gives_known en_wide_signed (signed_any p (lb0 S) (lb1 S) (lb2 S) (lb3 S) W)
   rw [sv_signed h0 hu] at k2
   rw [cl_fit hf, fb_fit hf]
   clear hf hu h0
   generalize sv p S = y at *
   refine known_of (enter Tryz.func137 wide_Add.ok (args := [_, _]) (by simp) ?_)
   repeat' (first | simp (disch := omega) only [sxE, wide_Add.E, Nat.reduceAdd, Nat.reduceEqDiff, Nat.reduceMul, Nat.reduceSub, Int.reduceAdd, Int.reduceSub, Int.reduceMul, Int.reduceNeg, Int.reduceLT, Int.reduceLE, Int.reduceEq, Int.reduceToNat, ↓reduceIte, Int.reducePow, Nat.reduceLeDiff, Nat.reduceLT, ne_eq, eq_self, List.length_cons, List.length_nil, T0] | (with_reducible refine Sx.call_at (f := 161) (fun W hW => cA W) ?_) | (with_reducible refine Sx.call_at (f := 161) (fun W hW => cB W) ?_) | (with_reducible refine Sx.call_at (f := 166) (fun W hW => k3 W) ?_) | (with_reducible refine Sx.call_at (f := 167) (fun W hW => k1 W) ?_) | (with_reducible refine Sx.call_at (f := 163) (fun W hW => k2 W) ?_) | (with_reducible refine cregF ?_))
  ·have hu : up4 (MV a' b' c' d' - MV a b c d) = 0 := up4_le (by omega) (by omega) u2
   have T : ¬ 0 ≤ cm4 a b c d a' b' c' d' := by rw [C1]; exact fun h => hle ((cm_ge _ _).1 h)
   have h0 : 0 ≤ MV a' b' c' d' - MV a b c d := by omega
   rw [sv_sub' hpq]
   clear m1 m2 u1 u2 C1 hle ha hb hc hd ha' hb' hc' hd' k1 hpq
   generalize MV a' b' c' d' - MV a b c d = S at *
   generalize cm4 a b c d a' b' c' d' = Z at *
   have hf : Fits (sv q S) := (fits_sv h0).2 hu
   have k2 := fun W => gives_known en_wide_signed (signed_any q (lb0 S) (lb1 S) (lb2 S) (lb3 S) W)
   rw [sv_signed h0 hu] at k2
   rw [cl_fit hf, fb_fit hf]
   clear hf hu h0
   generalize sv q S = y at *
   refine known_of (enter Tryz.func137 wide_Add.ok (args := [_, _]) (by simp) ?_)
   repeat' (first | simp (disch := omega) only [sxE, wide_Add.E, Nat.reduceAdd, Nat.reduceEqDiff, Nat.reduceMul, Nat.reduceSub, Int.reduceAdd, Int.reduceSub, Int.reduceMul, Int.reduceNeg, Int.reduceLT, Int.reduceLE, Int.reduceEq, Int.reduceToNat, ↓reduceIte, Int.reducePow, Nat.reduceLeDiff, Nat.reduceLT, ne_eq, eq_self, List.length_cons, List.length_nil, T0] | (with_reducible refine Sx.call_at (f := 161) (fun W hW => cA W) ?_) | (with_reducible refine Sx.call_at (f := 161) (fun W hW => cB W) ?_) | (with_reducible refine Sx.call_at (f := 166) (fun W hW => k3 W) ?_) | (with_reducible refine Sx.call_at (f := 167) (fun W hW => k1' W) ?_) | (with_reducible refine Sx.call_at (f := 163) (fun W hW => k2 W) ?_) | (with_reducible refine cregF ?_))
set_option maxRecDepth 100000 in
set_option maxHeartbeats 1000000 in
theorem mul_any (n : Bool) (a b c d : Int) (n' : Bool) (a' b' c' d' : Int) (ha : U64 a) (hb : U64 b) (hc : U64 c) (hd : U64 d) (ha' : U64 a') (hb' : U64 b') (hc' : U64 c') (hd' : U64 d') (w : World) :
  Calls Tryz.prog 126 #[WV n a b c d, WV n' a' b' c' d'] w fun e w' => e = .returned (.tuple #[WE (cl (wv n a b c d * wv n' a' b' c' d')), .bool (fb (wv n a b c d * wv n' a' b' c' d'))]) ∧ Below w.heap.size w w' := by
 have cA := fun W => gives_known en_wide_clean (clean_any n a b c d W)
 have cB := fun W => gives_known en_wide_clean (clean_any n' a' b' c' d' W)
 rw [wv_sv n a b c d, wv_sv n' a' b' c' d', sv_mul]
 have h0 := Int.mul_nonneg (mv_nonneg ha hb hc hd) (mv_nonneg ha' hb' hc' hd')
 have k1 := fun W => gives_known en_wide_mul (wmul_any a b c d a' b' c' d' ha hb hc hd ha' hb' hc' hd' W)
 clear ha hb hc hd ha' hb' hc' hd'
 generalize cn n a b c d = p at *
 generalize cn n' a' b' c' d' = q at *
 generalize MV a b c d * MV a' b' c' d' = S at *
 rw [show (p != q) = !(p == q) from rfl]
 by_cases hu : up4 S = 0
 ·have hf : Fits (sv (!(p == q)) S) := (fits_sv h0).2 hu
  have k2 := fun W => gives_known en_wide_signed (signed_any (!(p == q)) (lb0 S) (lb1 S) (lb2 S) (lb3 S) W)
  rw [sv_signed h0 hu] at k2
  rw [hu, show ((0 : Int) == 0) = true from rfl] at k1
  rw [cl_fit hf, fb_fit hf]
  clear hf hu h0
  generalize sv (!(p == q)) S = y at *
  refine known_of (enter Tryz.func126 wide_Mul.ok (args := [_, _]) (by simp) ?_)
  repeat' (first | simp (disch := omega) only [sxE, wide_Mul.E, Nat.reduceAdd, Nat.reduceEqDiff, Nat.reduceMul, Nat.reduceSub, Int.reduceAdd, Int.reduceSub, Int.reduceMul, Int.reduceNeg, Int.reduceLT, Int.reduceLE, Int.reduceEq, Int.reduceToNat, ↓reduceIte, Int.reducePow, Nat.reduceLeDiff, Nat.reduceLT, ne_eq, eq_self, List.length_cons, List.length_nil] | (with_reducible refine Sx.call_at (f := 161) (fun W hW => cA W) ?_) | (with_reducible refine Sx.call_at (f := 161) (fun W hW => cB W) ?_) | (with_reducible refine Sx.call_at (f := 162) (fun W hW => k1 W) ?_) | (with_reducible refine Sx.call_at (f := 163) (fun W hW => k2 W) ?_) | (with_reducible refine cregF ?_))
 ·have hf : ¬Fits (sv (!(p == q)) S) := fun h => hu ((fits_sv h0).1 h)
  rw [beq_eq_false_iff_ne.2 hu] at k1
  rw [cl_not hf, fb_not hf, we_zero]
  clear hf hu
  refine known_of (enter Tryz.func126 wide_Mul.ok (args := [_, _]) (by simp) ?_)
  repeat' (first | simp (disch := omega) only [sxE, wide_Mul.E, Nat.reduceAdd, Nat.reduceEqDiff, Nat.reduceMul, Nat.reduceSub, Int.reduceAdd, Int.reduceSub, Int.reduceMul, Int.reduceNeg, Int.reduceLT, Int.reduceLE, Int.reduceEq, Int.reduceToNat, ↓reduceIte, Int.reducePow, Nat.reduceLeDiff, Nat.reduceLT, ne_eq, eq_self, List.length_cons, List.length_nil] | (with_reducible refine Sx.call_at (f := 161) (fun W hW => cA W) ?_) | (with_reducible refine Sx.call_at (f := 161) (fun W hW => cB W) ?_) | (with_reducible refine Sx.call_at (f := 162) (fun W hW => k1 W) ?_) | (with_reducible refine cregF ?_))
end Go.Proofs.YtncmmbacoknefaaGreat

/- RefC: The reference of wide, continued: its functions on Wides. -/
namespace Go.Proofs.YtncmmbacoknefaaGreat
open Go Go.ChangeShapes Go.WideShapes Go.ChangeAt Go.RowKit Sx
set_option linter.unusedVariables false
set_option linter.unusedSimpArgs false
theorem mz_len {a b c d : Int} (ha : U64 a) (hb : U64 b) (hc : U64 c) (hd : U64 d) : decide (0 < (wl (MV a b c d)).length) = !mz a b c d := by
 have h1 := mz_iff ha hb hc hd
 by_cases hm : MV a b c d = 0
 ·rw [h1.2 hm, hm, wl_nil (Int.le_refl _)]; rfl
 ·have h0 := mv_nonneg ha hb hc hd
  have h2 : (wl (MV a b c d)).length ≠ 0 := fun h => wl_ne (show 0 < MV a b c d by omega) (List.length_eq_zero_iff.1 h)
  have h3 : mz a b c d = false := by
   cases hz : mz a b c d
   ·rfl
   ·exact absurd (h1.1 hz) hm
  rw [h3]; exact dT (by omega)
theorem MagP.open {w w' : World} {m : Int} {e : Ending} (h : MagP w m e w') : ∃ a len cap, e = .returned (.slice a len cap) ∧ (wl m).length = len ∧ SlU w' (.slice a len cap) (wl m) ∧ Below w.heap.size w w' := by
 obtain ⟨v, rfl, ⟨hs, -⟩, hb⟩ := h
 have hs' := hs
 obtain ⟨a, len, cap, rfl, hl, _⟩ := hs
 exact ⟨a, len, cap, rfl, hl, hs', hb⟩
theorem mag_ask {P : Program} {f : FuncId} {args : Array Value} {w : World} {m : Int} (h : Calls P f args w (MagP w m)) : Calls P f args w fun e w' => ∃ v, e = .returned v ∧ SlU w' v (wl m) ∧ w.grownBy w' none :=
 h.mono fun e w' ⟨v, he, hs, hb⟩ => ⟨v, he, hs.1, gt_below hb _⟩
theorem rvalid_any (n : Bool) (a b c d : Int) (ha : U64 a) (hb : U64 b) (hc : U64 c) (hd : U64 d) (w : World) :
  Calls Tryz.prog 100 #[WV n a b c d] w fun e w' => e = .returned (.bool (!n || !mz a b c d)) ∧ Below w.heap.size w w' := by
 cases n
 ·clear ha hb hc hd
  go_enter Tryz.func100, Tryz.ntmps100
  go_wp2
  go_returns
  exact ⟨ret_b rfl, by (repeat' (first | (with_reducible assumption) | (with_reducible exact Below.refl _ _) | (with_reducible refine Below.alloc ?_ ?_ _) | (with_reducible refine Below.setCell ?_ ?_ _) | (with_reducible refine Below.drew ?_) | (with_reducible refine below_more ?_ (by with_reducible assumption)) | go_size | omega | (with_reducible refine below_drewN ?_)))⟩
 ·have hz := hid (mz_len ha hb hc hd)
  go_enter Tryz.func100, Tryz.ntmps100
  (repeat' (first | (go_big_may; (first | (go_at_call 110; refine (rof_any true a b c d ha hb hc hd _).mono ?_; rintro e w' hmag; obtain ⟨a1, l1, c1, rfl, hl1, hs1, hb1⟩ := hmag.open; have HL := hid hl1; clear hl1 hmag))) | go_values | go_skip | go_guarded | go_step | go_upon | (simp only [Int.not_lt, Int.not_le] at *; go_simp) | (go_values <;> (try go_simp)) | (go_ite <;> go_prune <;> (try go_simp)) | (split <;> (first | (rename_i hx; exact (hx _ rfl).elim) | go_prune))))
  go_ret
  refine ⟨ret_b ?_, by (repeat' (first | (with_reducible assumption) | (with_reducible exact Below.refl _ _) | (with_reducible refine Below.alloc ?_ ?_ _) | (with_reducible refine Below.setCell ?_ ?_ _) | (with_reducible refine Below.drew ?_) | (with_reducible refine below_more ?_ (by with_reducible assumption)) | go_size | omega | (with_reducible refine below_drewN ?_)))⟩
  have := hz.out
  rw [HL.out] at this
  simp [this]
theorem rclean_any (n : Bool) (a b c d : Int) (ha : U64 a) (hb : U64 b) (hc : U64 c) (hd : U64 d) (w : World) :
  Calls Tryz.prog 109 #[WV n a b c d] w fun e w' => e = .returned (WV (cn n a b c d) a b c d) ∧ Below w.heap.size w w' := by
 cases hz : (n && mz a b c d)
 ·have hv : (!n || !mz a b c d) = true := by revert hz; cases n <;> cases mz a b c d <;> simp
  have hcn : cn n a b c d = n := by revert hz; unfold cn; cases n <;> cases mz a b c d <;> simp
  rw [hcn]
  have C := fun W => rvalid_any n a b c d ha hb hc hd W
  simp only [hv] at C
  clear hz hcn hv ha hb hc hd
  go_enter Tryz.func109, Tryz.ntmps109
  (repeat' (first | (go_big_may; (first | (go_at_call 100; refine (C _).mono ?_; rintro e w' ⟨rfl, hbw⟩; have N1 := Bx.of (HB.below (b := w.heap.size) (cs := #[.bool n, .int .u64 a, .int .u64 b, .int .u64 c, .int .u64 d]) (by (repeat' (first | (with_reducible assumption) | ((with_reducible refine HB.new _ _ _ ?_) <;> (go_size; done)) | (with_reducible refine HB.old (by go_size) ?_) | (with_reducible refine HB.drew ?_) | (with_reducible refine HB.over5 ?_) | (with_reducible refine HB.over4 ?_) | (with_reducible refine HB.setne (by first | go_size | (dsimp only; omega)) ?_) | (with_reducible refine HN.set ?_) | (with_reducible refine HN.setne (by first | go_size | (dsimp only; omega)) ?_) | (with_reducible refine HN.drew ?_) | (with_reducible refine HN.old (by go_size) ?_) | (with_reducible exact HN.of5 (by assumption)) | (with_reducible exact HN.new5 _ _ (by go_size)) | (with_reducible exact HN.of4 (by assumption)) | (with_reducible exact HN.new4 _ _ (by go_size))))) hbw); have N2 := Bx.of (HB.below (b := w.heap.size + 1) (cs := #[.bool false, .int .u64 0, .int .u64 0, .int .u64 0, .int .u64 0]) (by (repeat' (first | (with_reducible assumption) | ((with_reducible refine HB.new _ _ _ ?_) <;> (go_size; done)) | (with_reducible refine HB.old (by go_size) ?_) | (with_reducible refine HB.drew ?_) | (with_reducible refine HB.over5 ?_) | (with_reducible refine HB.over4 ?_) | (with_reducible refine HB.setne (by first | go_size | (dsimp only; omega)) ?_) | (with_reducible refine HN.set ?_) | (with_reducible refine HN.setne (by first | go_size | (dsimp only; omega)) ?_) | (with_reducible refine HN.drew ?_) | (with_reducible refine HN.old (by go_size) ?_) | (with_reducible exact HN.of5 (by assumption)) | (with_reducible exact HN.new5 _ _ (by go_size)) | (with_reducible exact HN.of4 (by assumption)) | (with_reducible exact HN.new4 _ _ (by go_size))))) hbw); (try clear B1 B1c B1f B1l); (try clear B2 B2c B2f B2l); obtain ⟨B1, B1c, B1f, B1l⟩ := N1; obtain ⟨B2, B2c, B2f, B2l⟩ := N2; have hsz := hbw.size; (try simp only [World.size_alloc, World.size_setCell, World.size_drew] at hsz)))) | go_values | go_skip | go_guarded | go_step | go_upon | (simp only [Int.not_lt, Int.not_le] at *; go_simp) | (go_values <;> (try go_simp)) | (go_ite <;> go_prune <;> (try go_simp)) | (split <;> (first | (rename_i hx; exact (hx _ rfl).elim) | go_prune))))
  refine bodyPost_ret (v := WV n a b c d) ?_ rfl ⟨rfl, by (repeat' (first | (with_reducible assumption) | (with_reducible exact Below.refl _ _) | (with_reducible refine Below.alloc ?_ ?_ _) | (with_reducible refine Below.setCell ?_ ?_ _) | (with_reducible refine Below.drew ?_) | (with_reducible refine below_more ?_ (by with_reducible assumption)) | go_size | omega | (with_reducible refine below_drewN ?_)))⟩
  simp [results, Tryz.results109, go_sem, B2c, B2f, B2l]
 ·have hv : (!n || !mz a b c d) = false := by revert hz; cases n <;> cases mz a b c d <;> simp
  have hzz : mz a b c d = true := by revert hz; cases n <;> simp
  have hcn : cn n a b c d = false := by unfold cn; rw [hzz]; simp
  have hw : a = 0 ∧ b = 0 ∧ c = 0 ∧ d = 0 := by simpa [mz, meq] using hzz
  have C := fun W => rvalid_any n a b c d ha hb hc hd W
  simp only [hv] at C
  obtain ⟨rfl, rfl, rfl, rfl⟩ := hw
  rw [hcn]
  clear hz hcn hzz hv ha hb hc hd
  go_enter Tryz.func109, Tryz.ntmps109
  (repeat' (first | (go_big_may; (first | (go_at_call 100; refine (C _).mono ?_; rintro e w' ⟨rfl, hbw⟩; have N1 := Bx.of (HB.below (b := w.heap.size) (cs := #[.bool n, .int .u64 0, .int .u64 0, .int .u64 0, .int .u64 0]) (by (repeat' (first | (with_reducible assumption) | ((with_reducible refine HB.new _ _ _ ?_) <;> (go_size; done)) | (with_reducible refine HB.old (by go_size) ?_) | (with_reducible refine HB.drew ?_) | (with_reducible refine HB.over5 ?_) | (with_reducible refine HB.over4 ?_) | (with_reducible refine HB.setne (by first | go_size | (dsimp only; omega)) ?_) | (with_reducible refine HN.set ?_) | (with_reducible refine HN.setne (by first | go_size | (dsimp only; omega)) ?_) | (with_reducible refine HN.drew ?_) | (with_reducible refine HN.old (by go_size) ?_) | (with_reducible exact HN.of5 (by assumption)) | (with_reducible exact HN.new5 _ _ (by go_size)) | (with_reducible exact HN.of4 (by assumption)) | (with_reducible exact HN.new4 _ _ (by go_size))))) hbw); have N2 := Bx.of (HB.below (b := w.heap.size + 1) (cs := #[.bool false, .int .u64 0, .int .u64 0, .int .u64 0, .int .u64 0]) (by (repeat' (first | (with_reducible assumption) | ((with_reducible refine HB.new _ _ _ ?_) <;> (go_size; done)) | (with_reducible refine HB.old (by go_size) ?_) | (with_reducible refine HB.drew ?_) | (with_reducible refine HB.over5 ?_) | (with_reducible refine HB.over4 ?_) | (with_reducible refine HB.setne (by first | go_size | (dsimp only; omega)) ?_) | (with_reducible refine HN.set ?_) | (with_reducible refine HN.setne (by first | go_size | (dsimp only; omega)) ?_) | (with_reducible refine HN.drew ?_) | (with_reducible refine HN.old (by go_size) ?_) | (with_reducible exact HN.of5 (by assumption)) | (with_reducible exact HN.new5 _ _ (by go_size)) | (with_reducible exact HN.of4 (by assumption)) | (with_reducible exact HN.new4 _ _ (by go_size))))) hbw); (try clear B1 B1c B1f B1l); (try clear B2 B2c B2f B2l); obtain ⟨B1, B1c, B1f, B1l⟩ := N1; obtain ⟨B2, B2c, B2f, B2l⟩ := N2; have hsz := hbw.size; (try simp only [World.size_alloc, World.size_setCell, World.size_drew] at hsz)))) | go_values | go_skip | go_guarded | go_step | go_upon | (simp only [Int.not_lt, Int.not_le] at *; go_simp) | (go_values <;> (try go_simp)) | (go_ite <;> go_prune <;> (try go_simp)) | (split <;> (first | (rename_i hx; exact (hx _ rfl).elim) | go_prune))))
  refine bodyPost_ret (v := WV false 0 0 0 0) ?_ rfl ⟨rfl, by (repeat' (first | (with_reducible assumption) | (with_reducible exact Below.refl _ _) | (with_reducible refine Below.alloc ?_ ?_ _) | (with_reducible refine Below.setCell ?_ ?_ _) | (with_reducible refine Below.drew ?_) | (with_reducible refine below_more ?_ (by with_reducible assumption)) | go_size | omega | (with_reducible refine below_drewN ?_)))⟩
  simp [results, Tryz.results109, go_sem, B2c, B2f, B2l]
theorem rOf_any (v : Int) (hv : I64 v) (w : World) :
  Calls Tryz.prog 50 #[.int .i64 v] w fun e w' => e = .returned (WE v) ∧ Below w.heap.size w w' := by
 obtain ⟨v1, v2⟩ := hv
 generalize hR : WE v = R
 have HR := hid hR
 by_cases h : v < 0
 ·have e : WE v = WV true (IntKind.u64.wrap (-IntKind.u64.wrap v)) 0 0 0 := we_of_neg v ⟨v1, v2⟩ h
  have E := hid (e.symm.trans hR)
  clear e hR
  go_enter Tryz.func50, Tryz.ntmps50
  (repeat' (first | go_values | go_skip | go_guarded | go_step | go_upon | (simp only [Int.not_lt, Int.not_le] at *; go_simp) | (go_values <;> (try go_simp)) | (go_ite <;> go_prune <;> (try go_simp)) | (split <;> (first | (rename_i hx; exact (hx _ rfl).elim) | go_prune))))
  refine bodyPost_ret (v := WV true (IntKind.u64.wrap (-IntKind.u64.wrap v)) 0 0 0) ?_ rfl ⟨congrArg Ending.returned E.out, by (repeat' (first | (with_reducible assumption) | (with_reducible exact Below.refl _ _) | (with_reducible refine Below.alloc ?_ ?_ _) | (with_reducible refine Below.setCell ?_ ?_ _) | (with_reducible refine Below.drew ?_) | (with_reducible refine below_more ?_ (by with_reducible assumption)) | go_size | omega | (with_reducible refine below_drewN ?_)))⟩
  simp [results, Tryz.results50, go_sem]
 ·have e : WE v = WV false v 0 0 0 := we_uns v ⟨by omega, by omega⟩
  have E := hid (e.symm.trans hR)
  clear e hR
  go_enter Tryz.func50, Tryz.ntmps50
  (repeat' (first | go_values | go_skip | go_guarded | go_step | go_upon | (simp only [Int.not_lt, Int.not_le] at *; go_simp) | (go_values <;> (try go_simp)) | (go_ite <;> go_prune <;> (try go_simp)) | (split <;> (first | (rename_i hx; exact (hx _ rfl).elim) | go_prune))))
  refine bodyPost_ret (v := WV false v 0 0 0) ?_ rfl ⟨congrArg Ending.returned E.out, by (repeat' (first | (with_reducible assumption) | (with_reducible exact Below.refl _ _) | (with_reducible refine Below.alloc ?_ ?_ _) | (with_reducible refine Below.setCell ?_ ?_ _) | (with_reducible refine Below.drew ?_) | (with_reducible refine below_more ?_ (by with_reducible assumption)) | go_size | omega | (with_reducible refine below_drewN ?_)))⟩
  simp [results, Tryz.results50, go_sem]
theorem rneg_any (n : Bool) (a b c d : Int) (ha : U64 a) (hb : U64 b) (hc : U64 c) (hd : U64 d) (w : World) :
  Calls Tryz.prog 117 #[WV n a b c d] w fun e w' => e = .returned (WE (-wv n a b c d)) ∧ Below w.heap.size w w' := by
 have m1 := mv_nonneg ha hb hc hd
 have e1 : sv (!n) (MV a b c d) = -wv n a b c d := by unfold sv wv; cases n <;> simp
 have f1 : Fits (-wv n a b c d) := by rw [← e1]; exact (fits_sv m1).2 (mv_up4 ha hb hc hd)
 have C := fun (W : World) (a0 : Option Addr) (len cap : Nat) (h : SlU W (.slice a0 len cap) (wl (MV a b c d))) => rwide_any (!n) a0 len cap _ W h
 rw [VL_wl m1, e1, cl_fit f1, fb_fit f1] at C
 have O := fun W => mag_ask (rof_any n a b c d ha hb hc hd W)
 generalize -wv n a b c d = z at *
 clear m1 e1 f1 ha hb hc hd
 generalize hR : WE z = R
 have HR := hid hR
 clear hR
 go_enter Tryz.func117, Tryz.ntmps117
 go_wp2_with fail
 
 
 (refine wp_region_dq (row := none) (S := (fun Wz => Below w.heap.size w Wz ∧ w.heap.size + 2 ≤ Wz.heap.size ∧ Bx Wz (w.heap.size) (#[.bool n, .int .u64 a, .int .u64 b, .int .u64 c, .int .u64 d]) ∧ Bx Wz (w.heap.size + 1) (#[.bool false, .int .u64 0, .int .u64 0, .int .u64 0, .int .u64 0]))) (n0 := w.heap.size + 2) 10 [8] [(0, 0), (1, 0), (2, 0), (3, 0), (4, 1), (5, 1), (6, 0), (7, 0), (8, 2)] [(9, 3, #[.bool false, .int .u64 0, .int .u64 0, .int .u64 0, .int .u64 0])] (by kernel_rfl) (by kernel_rfl) (fun _ _ d _ _ h => by cases d <;> exact h) ⟨by (repeat' (first | (with_reducible assumption) | (with_reducible exact Below.refl _ _) | (with_reducible refine Below.alloc ?_ ?_ _) | (with_reducible refine Below.setCell ?_ ?_ _) | (with_reducible refine Below.drew ?_) | (with_reducible refine below_more ?_ (by with_reducible assumption)) | go_size | omega | (with_reducible refine below_drewN ?_))), (by first | go_size | omega), Bx.of (by (repeat' (first | (with_reducible assumption) | ((with_reducible refine HB.new _ _ _ ?_) <;> (go_size; done)) | (with_reducible refine HB.old (by go_size) ?_) | (with_reducible refine HB.drew ?_) | (with_reducible refine HB.over5 ?_) | (with_reducible refine HB.over4 ?_) | (with_reducible refine HB.setne (by first | go_size | (dsimp only; omega)) ?_) | (with_reducible refine HN.set ?_) | (with_reducible refine HN.setne (by first | go_size | (dsimp only; omega)) ?_) | (with_reducible refine HN.drew ?_) | (with_reducible refine HN.old (by go_size) ?_) | (with_reducible exact HN.of5 (by assumption)) | (with_reducible exact HN.new5 _ _ (by go_size)) | (with_reducible exact HN.of4 (by assumption)) | (with_reducible exact HN.new4 _ _ (by go_size))))), Bx.of (by (repeat' (first | (with_reducible assumption) | ((with_reducible refine HB.new _ _ _ ?_) <;> (go_size; done)) | (with_reducible refine HB.old (by go_size) ?_) | (with_reducible refine HB.drew ?_) | (with_reducible refine HB.over5 ?_) | (with_reducible refine HB.over4 ?_) | (with_reducible refine HB.setne (by first | go_size | (dsimp only; omega)) ?_) | (with_reducible refine HN.set ?_) | (with_reducible refine HN.setne (by first | go_size | (dsimp only; omega)) ?_) | (with_reducible refine HN.drew ?_) | (with_reducible refine HN.old (by go_size) ?_) | (with_reducible exact HN.of5 (by assumption)) | (with_reducible exact HN.new5 _ _ (by go_size)) | (with_reducible exact HN.of4 (by assumption)) | (with_reducible exact HN.new4 _ _ (by go_size)))))⟩ (fun _ _ h g => keep2 h (below_gt g) rfl) (fun _ h => h.2.1) (fun _ h => by cases h) (by intro x hx; simp only [List.mem_cons, List.not_mem_nil, or_false] at hx; rcases hx with rfl <;> exact ⟨_, rfl, rfl, rfl, rfl, fun ρ w => ⟨37, by kernel_rfl⟩⟩) ?_)
 refine' dq_pure (by rfl) (by rfl) ?hv1 ?rest1
 case hv1 => (intro w hw; (try dsimp only at hw); go_split_ands; go_simp; try with_reducible rfl)
 case' rest1 => try simp only [Act.put, List.setIfInBounds_toArray, List.set_cons_zero, List.set_cons_succ]
 refine' dq_pure (by rfl) (by rfl) ?hv2 ?rest2
 case hv2 => (intro w hw; (try dsimp only at hw); go_split_ands; go_simp; try with_reducible rfl)
 case' rest2 => try simp only [Act.put, List.setIfInBounds_toArray, List.set_cons_zero, List.set_cons_succ]
 refine' dq_pure (by rfl) (by rfl) ?hv3 ?rest3
 case hv3 => (intro w hw; (try dsimp only at hw); go_split_ands; go_simp; try with_reducible rfl)
 case' rest3 => try simp only [Act.put, List.setIfInBounds_toArray, List.set_cons_zero, List.set_cons_succ]
 refine' dq_pure (by rfl) (by rfl) ?hv4 ?rest4
 case hv4 => (intro w hw; (try dsimp only at hw); go_split_ands; go_simp; try with_reducible rfl)
 case' rest4 => try simp only [Act.put, List.setIfInBounds_toArray, List.set_cons_zero, List.set_cons_succ]
 refine' dq_ask (R := fun v w' => SlU w' v (wl (MV a b c d))) (by rfl) (by rfl) ?hv5 ?hc5 ?rest5 (fun _ _ h g => keep2 h (below_gt g) rfl)
 case hv5 => (intro w; go_simp; exact ⟨rfl, rfl⟩)
 case hc5 => exact (fun wq hsq htq => O wq)
 case' rest5 => try simp only [Act.put, List.setIfInBounds_toArray, List.set_cons_zero, List.set_cons_succ]
 (rintro v1 x1 hS1 hg1 hs1; have hs1' := hs1; obtain ⟨a1, l1, c1, rfl, -⟩ := hs1')
 refine' dq_ask (R := fun v _ => v = .tuple #[WE z, .bool true]) (by rfl) (by rfl) ?hv6 ?hc6 ?rest6 (fun _ _ h g => keep2 h (below_gt g) rfl)
 case hv6 => (intro w; go_simp; exact ⟨rfl, rfl⟩)
 case hc6 => exact (fun wq hsq htq => (C _ a1 l1 c1 (hs1.below (below_gt htq))).mono (fun e w' ⟨he, hb⟩ => ⟨_, he, rfl, gt_below hb _⟩))
 case' rest6 => try simp only [Act.put, List.setIfInBounds_toArray, List.set_cons_zero, List.set_cons_succ]
 (rintro v2 x2 hS2 hg2 rfl; clear hs1)
 refine' dq_pure (by rfl) (by rfl) ?hv7 ?rest7
 case hv7 => (intro w hw; (try dsimp only at hw); go_split_ands; go_simp; try with_reducible rfl)
 case' rest7 => try simp only [Act.put, List.setIfInBounds_toArray, List.set_cons_zero, List.set_cons_succ]
 refine' dq_pure (by rfl) (by rfl) ?hv8 ?rest8
 case hv8 => (intro w hw; (try dsimp only at hw); go_split_ands; go_simp; try with_reducible rfl)
 case' rest8 => try simp only [Act.put, List.setIfInBounds_toArray, List.set_cons_zero, List.set_cons_succ]
 refine' dq_late (by rfl) (by rfl) ?hv9 ?rest9
 case hv9 => (intro w; go_simp; try with_reducible rfl)
 case' rest9 => try simp only [Act.put, List.setIfInBounds_toArray, List.set_cons_zero, List.set_cons_succ]
 refine dq_nil ?_
 simp only [fa, List.drop_succ_cons, List.drop_zero]
 intro p3 hp3 hd3
 rintro W ⟨⟨hb0, hn0, ⟨B1, B1c, B1f, B1l⟩, ⟨B2, B2c, B2f, B2l⟩⟩, hgl⟩ hbs
 obtain ⟨P3, P3c, P3f, P3l⟩ := Bx.of (hbs (p3, #[.bool false, .int .u64 0, .int .u64 0, .int .u64 0, .int .u64 0]) (by simp))
 clear hd3
 clear hbs
 (repeat' (first | go_values | go_skip | go_guarded | go_step | go_upon | (simp only [Int.not_lt, Int.not_le] at *; go_simp) | (go_values <;> (try go_simp)) | (go_ite <;> go_prune <;> (try go_simp)) | (split <;> (first | (rename_i hx; exact (hx _ rfl).elim) | go_prune))))
 refine bodyPost_ret (v := WE z) ?_ rfl ⟨congrArg Ending.returned HR.out, by (repeat' (first | (with_reducible assumption) | (with_reducible exact Below.refl _ _) | (with_reducible refine Below.alloc ?_ ?_ _) | (with_reducible refine Below.setCell ?_ ?_ _) | (with_reducible refine Below.drew ?_) | (with_reducible refine below_more ?_ (by with_reducible assumption)) | go_size | omega | (with_reducible refine below_drewN ?_)))⟩
 simp [results, Tryz.results117, go_sem, B1c, B1f, B1l, B2c, B2f, B2l]
set_option maxHeartbeats 1000000 in
set_option maxRecDepth 100000 in
theorem rmul2_any (n : Bool) (a b c d : Int) (n' : Bool) (a' b' c' d' : Int) (ha : U64 a) (hb : U64 b) (hc : U64 c) (hd : U64 d) (ha' : U64 a') (hb' : U64 b') (hc' : U64 c') (hd' : U64 d') (w : World) :
  Calls Tryz.prog 76 #[WV n a b c d, WV n' a' b' c' d'] w fun e w' => e = .returned (.tuple #[WE (cl (wv n a b c d * wv n' a' b' c' d')), .bool (fb (wv n a b c d * wv n' a' b' c' d'))]) ∧ Below w.heap.size w w' := by
 rw [wv_sv n a b c d, wv_sv n' a' b' c' d', sv_mul]
 have m1 := mv_nonneg ha hb hc hd
 have m2 := mv_nonneg ha' hb' hc' hd'
 have k1 := (wl_fit m1).2 (mv_up4 ha hb hc hd)
 have k2 := (wl_fit m2).2 (mv_up4 ha' hb' hc' hd')
 have cA := fun W => gives_known en_r02_clean (rclean_any n a b c d ha hb hc hd W)
 have cB := fun W => gives_known en_r02_clean (rclean_any n' a' b' c' d' ha' hb' hc' hd' W)
 generalize cn n a b c d = p at *
 generalize cn n' a' b' c' d' = q at *
 have OA := fun W => rof_any p a b c d ha hb hc hd W
 have OB := fun W => rof_any q a' b' c' d' ha' hb' hc' hd' W
 clear ha hb hc hd ha' hb' hc' hd'
 generalize MV a b c d = m at *
 generalize MV a' b' c' d' = m' at *
 have mm := Int.mul_nonneg m1 m2
 rw [show (p != q) = !(p == q) from rfl]
 obtain ⟨Y, hY⟩ : ∃ Y, cl (sv (!(p == q)) (m * m')) = Y := ⟨_, rfl⟩
 obtain ⟨B, hB⟩ : ∃ B, fb (sv (!(p == q)) (m * m')) = B := ⟨_, rfl⟩
 rw [hY, hB]
 refine known_of (enter Tryz.func76 r02_Mul.ok (args := [_, _]) (by simp) ?_)
 repeat' (first | simp (disch := omega) only [sxE, r02_Mul.E, Nat.reduceAdd, Nat.reduceEqDiff, Nat.reduceMul, Nat.reduceSub, Int.reduceAdd, Int.reduceSub, Int.reduceMul, Int.reduceNeg, Int.reduceLT, Int.reduceLE, Int.reduceEq, Int.reduceToNat, ↓reduceIte, Int.reducePow, Nat.reduceLeDiff, Nat.reduceLT, ne_eq, eq_self, List.length_cons, List.length_nil] | (with_reducible refine Sx.call_at (f := 109) (fun W hW => cA W) ?_) | (with_reducible refine Sx.call_at (f := 109) (fun W hW => cB W) ?_) | (with_reducible refine cregF ?_))
 refine asks_r (L := []) (ws := wl m) en_r02_of (kX_nil _) (fun W hW _ => OA W) fun a1 c1 hs1 hn1 => ?_
 simp (disch := omega) only [sxE, r02_Mul.E, Nat.reduceAdd, Nat.reduceEqDiff, Nat.reduceMul, Nat.reduceSub, Int.reduceAdd, Int.reduceSub, Int.reduceMul, Int.reduceNeg, Int.reduceLT, Int.reduceLE, Int.reduceEq, Int.reduceToNat, ↓reduceIte, Int.reducePow, Nat.reduceLeDiff, Nat.reduceLT, ne_eq, eq_self, List.length_cons, List.length_nil]
 refine asks_r (L := [.r (.slice a1 (wl m).length c1) (wl m)]) (ws := wl m') en_r02_of rfl (fun W hW _ => OB W) fun a2 c2 hs2 hn2 => ?_
 clear hs1 hs2 hn1 hn2 cA cB OA OB
 repeat' (first | simp (disch := omega) only [sxE, r02_Mul.E, Nat.reduceAdd, Nat.reduceEqDiff, Nat.reduceMul, Nat.reduceSub, Int.reduceAdd, Int.reduceSub, Int.reduceMul, Int.reduceNeg, Int.reduceLT, Int.reduceLE, Int.reduceEq, Int.reduceToNat, ↓reduceIte, Int.reducePow, Nat.reduceLeDiff, Nat.reduceLT, ne_eq, eq_self, List.length_cons, List.length_nil] | (with_reducible refine cregF ?_))
 refine asks_r (L := [.r (.slice a2 (wl m').length c2) (wl m'), .r (.slice a1 (wl m).length c1) (wl m)]) (ws := wl (m * m')) en_r02_mul rfl (fun W hW hok => rmul_any a1 a2 _ c1 _ c2 _ _ m1 m2 (by omega) (by omega) W (hok (.r (.slice a1 (wl m).length c1) (wl m)) (List.mem_cons_of_mem _ List.mem_cons_self)).1 (hok (.r (.slice a2 (wl m').length c2) (wl m')) List.mem_cons_self).1) fun a3 c3 hs3 hn3 => ?_
 clear hs3 hn3
 repeat' (first | simp (disch := omega) only [sxE, r02_Mul.E, Nat.reduceAdd, Nat.reduceEqDiff, Nat.reduceMul, Nat.reduceSub, Int.reduceAdd, Int.reduceSub, Int.reduceMul, Int.reduceNeg, Int.reduceLT, Int.reduceLE, Int.reduceEq, Int.reduceToNat, ↓reduceIte, Int.reducePow, Nat.reduceLeDiff, Nat.reduceLT, ne_eq, eq_self, List.length_cons, List.length_nil] | (with_reducible refine cregF ?_))
 refine asks_ext (v := .tuple #[WE Y, .bool B]) (fun W hW hok => by
  have := gives_known en_r02_wide (rwide_any (!(p == q)) a3 (wl (m * m')).length c3 (wl (m * m')) W (hok (.r (.slice a3 (wl (m * m')).length c3) (wl (m * m'))) List.mem_cons_self).1)
  rw [VL_wl mm, hY, hB] at this
  exact this) ?_
 repeat' (first | simp (disch := omega) only [sxE, r02_Mul.E, Nat.reduceAdd, Nat.reduceEqDiff, Nat.reduceMul, Nat.reduceSub, Int.reduceAdd, Int.reduceSub, Int.reduceMul, Int.reduceNeg, Int.reduceLT, Int.reduceLE, Int.reduceEq, Int.reduceToNat, ↓reduceIte, Int.reducePow, Nat.reduceLeDiff, Nat.reduceLT, ne_eq, eq_self, List.length_cons, List.length_nil] | (with_reducible refine cregF ?_))
theorem rcompare_b (m n : Int) (hm : 0 ≤ m) (hn : 0 ≤ n) (a a' : Option Addr) (len cap len' cap' : Nat) (w : World) (h : SlU w (.slice a len cap) (wl m)) (h' : SlU w (.slice a' len' cap') (wl n)) :
  Calls Tryz.prog 113 #[.slice a len cap, .slice a' len' cap'] w fun e w' => e = .returned (.int .i64 (cm m n)) ∧ Below w.heap.size w w' :=
 (rcompare_any a a' len cap len' cap' m n hm hn w h h').mono (fun e w' ⟨he, d, hd⟩ => ⟨he, by subst hd; exact below_drewN (Below.refl _ _)⟩)
set_option maxHeartbeats 1000000 in
set_option maxRecDepth 100000 in
theorem radd2_any (n : Bool) (a b c d : Int) (n' : Bool) (a' b' c' d' : Int) (ha : U64 a) (hb : U64 b) (hc : U64 c) (hd : U64 d) (ha' : U64 a') (hb' : U64 b') (hc' : U64 c') (hd' : U64 d') (w : World) :
  Calls Tryz.prog 51 #[WV n a b c d, WV n' a' b' c' d'] w fun e w' => e = .returned (.tuple #[WE (cl (wv n a b c d + wv n' a' b' c' d')), .bool (fb (wv n a b c d + wv n' a' b' c' d'))]) ∧ Below w.heap.size w w' := by
 rw [wv_sv n a b c d, wv_sv n' a' b' c' d']
 have m1 := mv_nonneg ha hb hc hd
 have m2 := mv_nonneg ha' hb' hc' hd'
 have k1 := (wl_fit m1).2 (mv_up4 ha hb hc hd)
 have k2 := (wl_fit m2).2 (mv_up4 ha' hb' hc' hd')
 have cA := fun W => gives_known en_r02_clean (rclean_any n a b c d ha hb hc hd W)
 have cB := fun W => gives_known en_r02_clean (rclean_any n' a' b' c' d' ha' hb' hc' hd' W)
 generalize cn n a b c d = p at *
 generalize cn n' a' b' c' d' = q at *
 have OA := fun W => rof_any p a b c d ha hb hc hd W
 have OB := fun W => rof_any q a' b' c' d' ha' hb' hc' hd' W
 clear ha hb hc hd ha' hb' hc' hd'
 generalize MV a b c d = m at *
 generalize MV a' b' c' d' = m' at *
 by_cases hpq : p = q
 ·subst hpq
  rw [sv_add]
  have mm : 0 ≤ m + m' := by omega
  obtain ⟨Y, hY⟩ : ∃ Y, cl (sv p (m + m')) = Y := ⟨_, rfl⟩
  obtain ⟨B, hB⟩ : ∃ B, fb (sv p (m + m')) = B := ⟨_, rfl⟩
  rw [hY, hB]
  refine known_of (enter Tryz.func51 r02_Add.ok (args := [_, _]) (by simp) ?_)
  repeat' (first | simp (disch := omega) only [sxE, r02_Add.E, Nat.reduceAdd, Nat.reduceEqDiff, Nat.reduceMul, Nat.reduceSub, Int.reduceAdd, Int.reduceSub, Int.reduceMul, Int.reduceNeg, Int.reduceLT, Int.reduceLE, Int.reduceEq, Int.reduceToNat, ↓reduceIte, Int.reducePow, Nat.reduceLeDiff, Nat.reduceLT, ne_eq, eq_self, List.length_cons, List.length_nil] | (with_reducible refine Sx.call_at (f := 109) (fun W hW => cA W) ?_) | (with_reducible refine Sx.call_at (f := 109) (fun W hW => cB W) ?_) | (with_reducible refine cregF ?_))
  refine asks_r (L := []) (ws := wl m) en_r02_of (kX_nil _) (fun W hW _ => OA W) fun a1 c1 hs1 hn1 => ?_
  simp (disch := omega) only [sxE, r02_Add.E, Nat.reduceAdd, Nat.reduceEqDiff, Nat.reduceMul, Nat.reduceSub, Int.reduceAdd, Int.reduceSub, Int.reduceMul, Int.reduceNeg, Int.reduceLT, Int.reduceLE, Int.reduceEq, Int.reduceToNat, ↓reduceIte, Int.reducePow, Nat.reduceLeDiff, Nat.reduceLT, ne_eq, eq_self, List.length_cons, List.length_nil]
  refine asks_r (L := [.r (.slice a1 (wl m).length c1) (wl m)]) (ws := wl m') en_r02_of rfl (fun W hW _ => OB W) fun a2 c2 hs2 hn2 => ?_
  clear hs1 hs2 hn1 hn2 cA cB OA OB
  repeat' (first | simp (disch := omega) only [sxE, r02_Add.E, Nat.reduceAdd, Nat.reduceEqDiff, Nat.reduceMul, Nat.reduceSub, Int.reduceAdd, Int.reduceSub, Int.reduceMul, Int.reduceNeg, Int.reduceLT, Int.reduceLE, Int.reduceEq, Int.reduceToNat, ↓reduceIte, Int.reducePow, Nat.reduceLeDiff, Nat.reduceLT, ne_eq, eq_self, List.length_cons, List.length_nil, beq_self_eq_true] | (with_reducible refine cregF ?_))
  refine asks_r (L := [.r (.slice a2 (wl m').length c2) (wl m'), .r (.slice a1 (wl m).length c1) (wl m)]) (ws := wl (m + m')) en_r02_add rfl (fun W hW hok => radd_any a1 a2 _ c1 _ c2 _ _ m1 m2 (by omega) (by omega) W (hok (.r (.slice a1 (wl m).length c1) (wl m)) (List.mem_cons_of_mem _ List.mem_cons_self)).1 (hok (.r (.slice a2 (wl m').length c2) (wl m')) List.mem_cons_self).1) fun a3 c3 hs3 hn3 => ?_
  clear hs3 hn3
  repeat' (first | simp (disch := omega) only [sxE, r02_Add.E, Nat.reduceAdd, Nat.reduceEqDiff, Nat.reduceMul, Nat.reduceSub, Int.reduceAdd, Int.reduceSub, Int.reduceMul, Int.reduceNeg, Int.reduceLT, Int.reduceLE, Int.reduceEq, Int.reduceToNat, ↓reduceIte, Int.reducePow, Nat.reduceLeDiff, Nat.reduceLT, ne_eq, eq_self, List.length_cons, List.length_nil] | (with_reducible refine cregF ?_))
  refine asks_ext (v := .tuple #[WE Y, .bool B]) (fun W hW hok => by
   have := gives_known en_r02_wide (rwide_any (p) a3 (wl (m + m')).length c3 (wl (m + m')) W (hok (.r (.slice a3 (wl (m + m')).length c3) (wl (m + m'))) List.mem_cons_self).1)
   rw [VL_wl mm, hY, hB] at this
   exact this) ?_
  repeat' (first | simp (disch := omega) only [sxE, r02_Add.E, Nat.reduceAdd, Nat.reduceEqDiff, Nat.reduceMul, Nat.reduceSub, Int.reduceAdd, Int.reduceSub, Int.reduceMul, Int.reduceNeg, Int.reduceLT, Int.reduceLE, Int.reduceEq, Int.reduceToNat, ↓reduceIte, Int.reducePow, Nat.reduceLeDiff, Nat.reduceLT, ne_eq, eq_self, List.length_cons, List.length_nil] | (with_reducible refine cregF ?_))
 ·have T0 : (p == q) = false := beq_eq_false_iff_ne.2 hpq
  obtain ⟨Z, hZ⟩ : ∃ Z, cm m m' = Z := ⟨_, rfl⟩
  by_cases hle : m' ≤ m
  ·have mm : 0 ≤ m - m' := by omega
   have T : 0 ≤ Z := by rw [← hZ]; exact (cm_ge _ _).2 hle
   rw [sv_sub hpq]
   obtain ⟨Y, hY⟩ : ∃ Y, cl (sv p (m - m')) = Y := ⟨_, rfl⟩
   obtain ⟨B, hB⟩ : ∃ B, fb (sv p (m - m')) = B := ⟨_, rfl⟩
   rw [hY, hB]
   refine known_of (enter Tryz.func51 r02_Add.ok (args := [_, _]) (by simp) ?_)
   repeat' (first | simp (disch := omega) only [sxE, r02_Add.E, Nat.reduceAdd, Nat.reduceEqDiff, Nat.reduceMul, Nat.reduceSub, Int.reduceAdd, Int.reduceSub, Int.reduceMul, Int.reduceNeg, Int.reduceLT, Int.reduceLE, Int.reduceEq, Int.reduceToNat, ↓reduceIte, Int.reducePow, Nat.reduceLeDiff, Nat.reduceLT, ne_eq, eq_self, List.length_cons, List.length_nil] | (with_reducible refine Sx.call_at (f := 109) (fun W hW => cA W) ?_) | (with_reducible refine Sx.call_at (f := 109) (fun W hW => cB W) ?_) | (with_reducible refine cregF ?_))
   refine asks_r (L := []) (ws := wl m) en_r02_of (kX_nil _) (fun W hW _ => OA W) fun a1 c1 hs1 hn1 => ?_
   simp (disch := omega) only [sxE, r02_Add.E, Nat.reduceAdd, Nat.reduceEqDiff, Nat.reduceMul, Nat.reduceSub, Int.reduceAdd, Int.reduceSub, Int.reduceMul, Int.reduceNeg, Int.reduceLT, Int.reduceLE, Int.reduceEq, Int.reduceToNat, ↓reduceIte, Int.reducePow, Nat.reduceLeDiff, Nat.reduceLT, ne_eq, eq_self, List.length_cons, List.length_nil]
   refine asks_r (L := [.r (.slice a1 (wl m).length c1) (wl m)]) (ws := wl m') en_r02_of rfl (fun W hW _ => OB W) fun a2 c2 hs2 hn2 => ?_
   clear hs1 hs2 hn1 hn2 cA cB OA OB
   repeat' (first | simp (disch := omega) only [sxE, r02_Add.E, Nat.reduceAdd, Nat.reduceEqDiff, Nat.reduceMul, Nat.reduceSub, Int.reduceAdd, Int.reduceSub, Int.reduceMul, Int.reduceNeg, Int.reduceLT, Int.reduceLE, Int.reduceEq, Int.reduceToNat, ↓reduceIte, Int.reducePow, Nat.reduceLeDiff, Nat.reduceLT, ne_eq, eq_self, List.length_cons, List.length_nil, T0] | (with_reducible refine cregF ?_))
   refine asks_ext (v := .int .i64 Z) (fun W hW hok => by
    have := gives_known en_r02_compare (rcompare_b m m' m1 m2 a1 a2 _ c1 _ c2 W (hok (.r (.slice a1 (wl m).length c1) (wl m)) (List.mem_cons_of_mem _ List.mem_cons_self)).1 (hok (.r (.slice a2 (wl m').length c2) (wl m')) List.mem_cons_self).1)
    rw [hZ] at this
    exact this) ?_
   repeat' (first | simp (disch := omega) only [sxE, r02_Add.E, Nat.reduceAdd, Nat.reduceEqDiff, Nat.reduceMul, Nat.reduceSub, Int.reduceAdd, Int.reduceSub, Int.reduceMul, Int.reduceNeg, Int.reduceLT, Int.reduceLE, Int.reduceEq, Int.reduceToNat, ↓reduceIte, Int.reducePow, Nat.reduceLeDiff, Nat.reduceLT, ne_eq, eq_self, List.length_cons, List.length_nil] | (with_reducible refine cregF ?_))
   refine asks_r (L := [.r (.slice a2 (wl m').length c2) (wl m'), .r (.slice a1 (wl m).length c1) (wl m)]) (ws := wl (m - m')) en_r02_sub rfl (fun W hW hok => rsub_any a1 a2 _ c1 _ c2 _ _ m2 hle (by omega) W (hok (.r (.slice a1 (wl m).length c1) (wl m)) (List.mem_cons_of_mem _ List.mem_cons_self)).1 (hok (.r (.slice a2 (wl m').length c2) (wl m')) List.mem_cons_self).1) fun a3 c3 hs3 hn3 => ?_
   clear hs3 hn3
   repeat' (first | simp (disch := omega) only [sxE, r02_Add.E, Nat.reduceAdd, Nat.reduceEqDiff, Nat.reduceMul, Nat.reduceSub, Int.reduceAdd, Int.reduceSub, Int.reduceMul, Int.reduceNeg, Int.reduceLT, Int.reduceLE, Int.reduceEq, Int.reduceToNat, ↓reduceIte, Int.reducePow, Nat.reduceLeDiff, Nat.reduceLT, ne_eq, eq_self, List.length_cons, List.length_nil] | (with_reducible refine cregF ?_))
   refine asks_ext (v := .tuple #[WE Y, .bool B]) (fun W hW hok => by
    have := gives_known en_r02_wide (rwide_any (p) a3 (wl (m - m')).length c3 (wl (m - m')) W (hok (.r (.slice a3 (wl (m - m')).length c3) (wl (m - m'))) List.mem_cons_self).1)
    rw [VL_wl mm, hY, hB] at this
    exact this) ?_
   repeat' (first | simp (disch := omega) only [sxE, r02_Add.E, Nat.reduceAdd, Nat.reduceEqDiff, Nat.reduceMul, Nat.reduceSub, Int.reduceAdd, Int.reduceSub, Int.reduceMul, Int.reduceNeg, Int.reduceLT, Int.reduceLE, Int.reduceEq, Int.reduceToNat, ↓reduceIte, Int.reducePow, Nat.reduceLeDiff, Nat.reduceLT, ne_eq, eq_self, List.length_cons, List.length_nil] | (with_reducible refine cregF ?_))
  ·have mm : 0 ≤ m' - m := by omega
   have T : ¬ 0 ≤ Z := by rw [← hZ]; exact fun h => hle ((cm_ge _ _).1 h)
   rw [sv_sub' hpq]
   obtain ⟨Y, hY⟩ : ∃ Y, cl (sv q (m' - m)) = Y := ⟨_, rfl⟩
   obtain ⟨B, hB⟩ : ∃ B, fb (sv q (m' - m)) = B := ⟨_, rfl⟩
   rw [hY, hB]
   refine known_of (enter Tryz.func51 r02_Add.ok (args := [_, _]) (by simp) ?_)
   repeat' (first | simp (disch := omega) only [sxE, r02_Add.E, Nat.reduceAdd, Nat.reduceEqDiff, Nat.reduceMul, Nat.reduceSub, Int.reduceAdd, Int.reduceSub, Int.reduceMul, Int.reduceNeg, Int.reduceLT, Int.reduceLE, Int.reduceEq, Int.reduceToNat, ↓reduceIte, Int.reducePow, Nat.reduceLeDiff, Nat.reduceLT, ne_eq, eq_self, List.length_cons, List.length_nil] | (with_reducible refine Sx.call_at (f := 109) (fun W hW => cA W) ?_) | (with_reducible refine Sx.call_at (f := 109) (fun W hW => cB W) ?_) | (with_reducible refine cregF ?_))
   refine asks_r (L := []) (ws := wl m) en_r02_of (kX_nil _) (fun W hW _ => OA W) fun a1 c1 hs1 hn1 => ?_
   simp (disch := omega) only [sxE, r02_Add.E, Nat.reduceAdd, Nat.reduceEqDiff, Nat.reduceMul, Nat.reduceSub, Int.reduceAdd, Int.reduceSub, Int.reduceMul, Int.reduceNeg, Int.reduceLT, Int.reduceLE, Int.reduceEq, Int.reduceToNat, ↓reduceIte, Int.reducePow, Nat.reduceLeDiff, Nat.reduceLT, ne_eq, eq_self, List.length_cons, List.length_nil]
   refine asks_r (L := [.r (.slice a1 (wl m).length c1) (wl m)]) (ws := wl m') en_r02_of rfl (fun W hW _ => OB W) fun a2 c2 hs2 hn2 => ?_
   clear hs1 hs2 hn1 hn2 cA cB OA OB
   repeat' (first | simp (disch := omega) only [sxE, r02_Add.E, Nat.reduceAdd, Nat.reduceEqDiff, Nat.reduceMul, Nat.reduceSub, Int.reduceAdd, Int.reduceSub, Int.reduceMul, Int.reduceNeg, Int.reduceLT, Int.reduceLE, Int.reduceEq, Int.reduceToNat, ↓reduceIte, Int.reducePow, Nat.reduceLeDiff, Nat.reduceLT, ne_eq, eq_self, List.length_cons, List.length_nil, T0] | (with_reducible refine cregF ?_))
   refine asks_ext (v := .int .i64 Z) (fun W hW hok => by
    have := gives_known en_r02_compare (rcompare_b m m' m1 m2 a1 a2 _ c1 _ c2 W (hok (.r (.slice a1 (wl m).length c1) (wl m)) (List.mem_cons_of_mem _ List.mem_cons_self)).1 (hok (.r (.slice a2 (wl m').length c2) (wl m')) List.mem_cons_self).1)
    rw [hZ] at this
    exact this) ?_
   repeat' (first | simp (disch := omega) only [sxE, r02_Add.E, Nat.reduceAdd, Nat.reduceEqDiff, Nat.reduceMul, Nat.reduceSub, Int.reduceAdd, Int.reduceSub, Int.reduceMul, Int.reduceNeg, Int.reduceLT, Int.reduceLE, Int.reduceEq, Int.reduceToNat, ↓reduceIte, Int.reducePow, Nat.reduceLeDiff, Nat.reduceLT, ne_eq, eq_self, List.length_cons, List.length_nil] | (with_reducible refine cregF ?_))
   refine asks_r (L := [.r (.slice a2 (wl m').length c2) (wl m'), .r (.slice a1 (wl m).length c1) (wl m)]) (ws := wl (m' - m)) en_r02_sub rfl (fun W hW hok => rsub_any a2 a1 _ c2 _ c1 _ _ m1 (by omega) (by omega) W (hok (.r (.slice a2 (wl m').length c2) (wl m')) List.mem_cons_self).1 (hok (.r (.slice a1 (wl m).length c1) (wl m)) (List.mem_cons_of_mem _ List.mem_cons_self)).1) fun a3 c3 hs3 hn3 => ?_
   clear hs3 hn3
   repeat' (first | simp (disch := omega) only [sxE, r02_Add.E, Nat.reduceAdd, Nat.reduceEqDiff, Nat.reduceMul, Nat.reduceSub, Int.reduceAdd, Int.reduceSub, Int.reduceMul, Int.reduceNeg, Int.reduceLT, Int.reduceLE, Int.reduceEq, Int.reduceToNat, ↓reduceIte, Int.reducePow, Nat.reduceLeDiff, Nat.reduceLT, ne_eq, eq_self, List.length_cons, List.length_nil] | (with_reducible refine cregF ?_))
   refine asks_ext (v := .tuple #[WE Y, .bool B]) (fun W hW hok => by
    have := gives_known en_r02_wide (rwide_any (q) a3 (wl (m' - m)).length c3 (wl (m' - m)) W (hok (.r (.slice a3 (wl (m' - m)).length c3) (wl (m' - m))) List.mem_cons_self).1)
    rw [VL_wl mm, hY, hB] at this
    exact this) ?_
   repeat' (first | simp (disch := omega) only [sxE, r02_Add.E, Nat.reduceAdd, Nat.reduceEqDiff, Nat.reduceMul, Nat.reduceSub, Int.reduceAdd, Int.reduceSub, Int.reduceMul, Int.reduceNeg, Int.reduceLT, Int.reduceLE, Int.reduceEq, Int.reduceToNat, ↓reduceIte, Int.reducePow, Nat.reduceLeDiff, Nat.reduceLT, ne_eq, eq_self, List.length_cons, List.length_nil] | (with_reducible refine cregF ?_))
end Go.Proofs.YtncmmbacoknefaaGreat

/- WideD: wide and its reference: differences. -/
namespace Go.Proofs.YtncmmbacoknefaaGreat
open Go.ChangeShapes Go.WideShapes Go.ChangeAt Go.RowKit
set_option linter.unusedVariables false
set_option linter.unusedSimpArgs false
def IsW (v : Value) (z : Int) : Prop := ∃ n a b c d, v = WV n a b c d ∧ z = wv n a b c d ∧ U64 a ∧ U64 b ∧ U64 c ∧ U64 d
theorem IsW.raw {n : Bool} {a b c d : Int} (ha : U64 a) (hb : U64 b) (hc : U64 c) (hd : U64 d) : IsW (WV n a b c d) (wv n a b c d) := ⟨n, a, b, c, d, rfl, rfl, ha, hb, hc, hd⟩
theorem IsW.we {z : Int} (h : Fits z) : IsW (WE z) z := ⟨_, _, _, _, _, rfl, (wv_we h).symm, lb0_in _, lb1_in _, lb2_in _, lb3_in _⟩
theorem add_w {v v' : Value} {z z' : Int} (h : IsW v z) (h' : IsW v' z') (w : World) : Calls Tryz.prog 137 #[v, v'] w fun e w' => e = .returned (.tuple #[WE (cl (z + z')), .bool (fb (z + z'))]) ∧ Below w.heap.size w w' := by
 obtain ⟨n, a, b, c, d, rfl, rfl, ha, hb, hc, hd⟩ := h
 obtain ⟨n', a', b', c', d', rfl, rfl, ha', hb', hc', hd'⟩ := h'
 exact add_any n a b c d n' a' b' c' d' ha hb hc hd ha' hb' hc' hd' w
theorem mul_w {v v' : Value} {z z' : Int} (h : IsW v z) (h' : IsW v' z') (w : World) : Calls Tryz.prog 126 #[v, v'] w fun e w' => e = .returned (.tuple #[WE (cl (z * z')), .bool (fb (z * z'))]) ∧ Below w.heap.size w w' := by
 obtain ⟨n, a, b, c, d, rfl, rfl, ha, hb, hc, hd⟩ := h
 obtain ⟨n', a', b', c', d', rfl, rfl, ha', hb', hc', hd'⟩ := h'
 exact mul_any n a b c d n' a' b' c' d' ha hb hc hd ha' hb' hc' hd' w
theorem neg_w {v : Value} {z : Int} (h : IsW v z) (w : World) : Calls Tryz.prog 190 #[v] w fun e w' => e = .returned (WE (-z)) ∧ Below w.heap.size w w' := by
 obtain ⟨n, a, b, c, d, rfl, rfl, ha, hb, hc, hd⟩ := h
 exact neg_any n a b c d ha hb hc hd w
theorem radd_w {v v' : Value} {z z' : Int} (h : IsW v z) (h' : IsW v' z') (w : World) : Calls Tryz.prog 51 #[v, v'] w fun e w' => e = .returned (.tuple #[WE (cl (z + z')), .bool (fb (z + z'))]) ∧ Below w.heap.size w w' := by
 obtain ⟨n, a, b, c, d, rfl, rfl, ha, hb, hc, hd⟩ := h
 obtain ⟨n', a', b', c', d', rfl, rfl, ha', hb', hc', hd'⟩ := h'
 exact radd2_any n a b c d n' a' b' c' d' ha hb hc hd ha' hb' hc' hd' w
theorem rmul_w {v v' : Value} {z z' : Int} (h : IsW v z) (h' : IsW v' z') (w : World) : Calls Tryz.prog 76 #[v, v'] w fun e w' => e = .returned (.tuple #[WE (cl (z * z')), .bool (fb (z * z'))]) ∧ Below w.heap.size w w' := by
 obtain ⟨n, a, b, c, d, rfl, rfl, ha, hb, hc, hd⟩ := h
 obtain ⟨n', a', b', c', d', rfl, rfl, ha', hb', hc', hd'⟩ := h'
 exact rmul2_any n a b c d n' a' b' c' d' ha hb hc hd ha' hb' hc' hd' w
theorem rneg_w {v : Value} {z : Int} (h : IsW v z) (w : World) : Calls Tryz.prog 117 #[v] w fun e w' => e = .returned (WE (-z)) ∧ Below w.heap.size w w' := by
 obtain ⟨n, a, b, c, d, rfl, rfl, ha, hb, hc, hd⟩ := h
 exact rneg_any n a b c d ha hb hc hd w
theorem fits_wv_neg {n : Bool} {a b c d : Int} (ha : U64 a) (hb : U64 b) (hc : U64 c) (hd : U64 d) : Fits (-wv n a b c d) := by
 have m1 := mv_nonneg ha hb hc hd
 have e1 : sv (!n) (MV a b c d) = -wv n a b c d := by unfold sv wv; cases n <;> simp
 rw [← e1]; exact (fits_sv m1).2 (mv_up4 ha hb hc hd)
set_option maxRecDepth 100000 in
theorem sub_w {v v' : Value} {z z' : Int} (h : IsW v z) (h' : IsW v' z') (w : World) : Calls Tryz.prog 177 #[v, v'] w fun e w' => e = .returned (.tuple #[WE (cl (z - z')), .bool (fb (z - z'))]) ∧ Below w.heap.size w w' := by
 obtain ⟨n, a, b, c, d, rfl, hz, ha, hb, hc, hd⟩ := h
 obtain ⟨n', a', b', c', d', rfl, hz', ha', hb', hc', hd'⟩ := h'
 have f1 : Fits (-z') := hz' ▸ fits_wv_neg ha' hb' hc' hd'
 have CN := fun W => neg_w (hz' ▸ IsW.raw (n := n') ha' hb' hc' hd' : IsW (WV n' a' b' c' d') z') W
 have CA := fun W => add_w (hz ▸ IsW.raw (n := n) ha hb hc hd : IsW (WV n a b c d) z) (IsW.we f1) W
 rw [← Int.sub_eq_add_neg] at CA
 clear f1 hz hz' ha hb hc hd ha' hb' hc' hd'
 generalize -z' = zn at *
 generalize z - z' = zd at *
 generalize hR : Value.tuple #[WE (cl zd), .bool (fb zd)] = R
 have HR := hid hR
 clear hR
 go_enter Tryz.func177, Tryz.ntmps177
 go_wp2_with fail
 
 
 (refine wp_region_dq (row := none) (S := (fun Wz => Below w.heap.size w Wz ∧ w.heap.size + 3 ≤ Wz.heap.size ∧ Bx Wz (w.heap.size) (#[.bool n, .int .u64 a, .int .u64 b, .int .u64 c, .int .u64 d]) ∧ Bx Wz (w.heap.size + 1) (#[.bool n', .int .u64 a', .int .u64 b', .int .u64 c', .int .u64 d']) ∧ Bx Wz (w.heap.size + 1 + 1) (#[.bool false, .int .u64 0, .int .u64 0, .int .u64 0, .int .u64 0]))) (n0 := w.heap.size + 3) 6 [] [(0, 0), (1, 0), (2, 0), (3, 0), (4, 0), (5, 0)] [] (by kernel_rfl) (by kernel_rfl) (fun _ _ d _ _ h => by cases d <;> exact h) ⟨by (repeat' (first | (with_reducible assumption) | (with_reducible exact Below.refl _ _) | (with_reducible refine Below.alloc ?_ ?_ _) | (with_reducible refine Below.setCell ?_ ?_ _) | (with_reducible refine Below.drew ?_) | (with_reducible refine below_more ?_ (by with_reducible assumption)) | go_size | omega | (with_reducible refine below_drewN ?_))), (by first | go_size | omega), Bx.of (by (repeat' (first | (with_reducible assumption) | ((with_reducible refine HB.new _ _ _ ?_) <;> (go_size; done)) | (with_reducible refine HB.old (by go_size) ?_) | (with_reducible refine HB.drew ?_) | (with_reducible refine HB.over5 ?_) | (with_reducible refine HB.over4 ?_) | (with_reducible refine HB.setne (by first | go_size | (dsimp only; omega)) ?_) | (with_reducible refine HN.set ?_) | (with_reducible refine HN.setne (by first | go_size | (dsimp only; omega)) ?_) | (with_reducible refine HN.drew ?_) | (with_reducible refine HN.old (by go_size) ?_) | (with_reducible exact HN.of5 (by assumption)) | (with_reducible exact HN.new5 _ _ (by go_size)) | (with_reducible exact HN.of4 (by assumption)) | (with_reducible exact HN.new4 _ _ (by go_size))))), Bx.of (by (repeat' (first | (with_reducible assumption) | ((with_reducible refine HB.new _ _ _ ?_) <;> (go_size; done)) | (with_reducible refine HB.old (by go_size) ?_) | (with_reducible refine HB.drew ?_) | (with_reducible refine HB.over5 ?_) | (with_reducible refine HB.over4 ?_) | (with_reducible refine HB.setne (by first | go_size | (dsimp only; omega)) ?_) | (with_reducible refine HN.set ?_) | (with_reducible refine HN.setne (by first | go_size | (dsimp only; omega)) ?_) | (with_reducible refine HN.drew ?_) | (with_reducible refine HN.old (by go_size) ?_) | (with_reducible exact HN.of5 (by assumption)) | (with_reducible exact HN.new5 _ _ (by go_size)) | (with_reducible exact HN.of4 (by assumption)) | (with_reducible exact HN.new4 _ _ (by go_size))))), Bx.of (by (repeat' (first | (with_reducible assumption) | ((with_reducible refine HB.new _ _ _ ?_) <;> (go_size; done)) | (with_reducible refine HB.old (by go_size) ?_) | (with_reducible refine HB.drew ?_) | (with_reducible refine HB.over5 ?_) | (with_reducible refine HB.over4 ?_) | (with_reducible refine HB.setne (by first | go_size | (dsimp only; omega)) ?_) | (with_reducible refine HN.set ?_) | (with_reducible refine HN.setne (by first | go_size | (dsimp only; omega)) ?_) | (with_reducible refine HN.drew ?_) | (with_reducible refine HN.old (by go_size) ?_) | (with_reducible exact HN.of5 (by assumption)) | (with_reducible exact HN.new5 _ _ (by go_size)) | (with_reducible exact HN.of4 (by assumption)) | (with_reducible exact HN.new4 _ _ (by go_size)))))⟩ (fun _ _ h g => keep3 h (below_gt g) rfl) (fun _ h => h.2.1) (fun _ h => by cases h) (by simp) ?_)
 refine' dq_pure (by rfl) (by rfl) ?hv1 ?rest1
 case hv1 => (intro w hw; (try dsimp only at hw); go_split_ands; go_simp; try with_reducible rfl)
 case' rest1 => try simp only [Act.put, List.setIfInBounds_toArray, List.set_cons_zero, List.set_cons_succ]
 refine' dq_pure (by rfl) (by rfl) ?hv2 ?rest2
 case hv2 => (intro w hw; (try dsimp only at hw); go_split_ands; go_simp; try with_reducible rfl)
 case' rest2 => try simp only [Act.put, List.setIfInBounds_toArray, List.set_cons_zero, List.set_cons_succ]
 refine' dq_call (by rfl) (by rfl) ?hv3 ?hc3 ?rest3
 case hv3 => (intro w; go_simp; exact ⟨rfl, rfl⟩)
 case hc3 => exact (fun w hw => calls_gt (CN _))
 case' rest3 => try simp only [Act.put, List.setIfInBounds_toArray, List.set_cons_zero, List.set_cons_succ]
 refine' dq_call (by rfl) (by rfl) ?hv4 ?hc4 ?rest4
 case hv4 => (intro w; go_simp; exact ⟨rfl, rfl⟩)
 case hc4 => exact (fun w hw => calls_gt (CA _))
 case' rest4 => try simp only [Act.put, List.setIfInBounds_toArray, List.set_cons_zero, List.set_cons_succ]
 refine' dq_pure (by rfl) (by rfl) ?hv5 ?rest5
 case hv5 => (intro w hw; (try dsimp only at hw); go_split_ands; go_simp; try with_reducible rfl)
 case' rest5 => try simp only [Act.put, List.setIfInBounds_toArray, List.set_cons_zero, List.set_cons_succ]
 refine' dq_pure (by rfl) (by rfl) ?hv6 ?rest6
 case hv6 => (intro w hw; (try dsimp only at hw); go_split_ands; go_simp; try with_reducible rfl)
 case' rest6 => try simp only [Act.put, List.setIfInBounds_toArray, List.set_cons_zero, List.set_cons_succ]
 refine dq_nil ?_
 simp only [fa, List.drop_succ_cons, List.drop_zero]
 rintro W ⟨⟨hb0, hn0, ⟨B1, B1c, B1f, B1l⟩, ⟨B2, B2c, B2f, B2l⟩, ⟨B3, B3c, B3f, B3l⟩⟩, hgl⟩ hbs
 clear hbs hgl
 (repeat' (first | go_values | go_skip | go_guarded | go_step | go_upon | (simp only [Int.not_lt, Int.not_le] at *; go_simp) | (go_values <;> (try go_simp)) | (go_ite <;> go_prune <;> (try go_simp)) | (split <;> (first | (rename_i hx; exact (hx _ rfl).elim) | go_prune))))
 refine bodyPost_ret (v := .tuple #[WE (cl zd), .bool (fb zd)]) ?_ rfl ⟨congrArg Ending.returned HR.out, by (repeat' (first | (with_reducible assumption) | (with_reducible exact Below.refl _ _) | (with_reducible refine Below.alloc ?_ ?_ _) | (with_reducible refine Below.setCell ?_ ?_ _) | (with_reducible refine Below.drew ?_) | (with_reducible refine below_more ?_ (by with_reducible assumption)) | go_size | omega | (with_reducible refine below_drewN ?_)))⟩
 simp [results, Tryz.results177, go_sem, B3c, B3f, B3l]
set_option maxRecDepth 100000 in
theorem rsub_w {v v' : Value} {z z' : Int} (h : IsW v z) (h' : IsW v' z') (w : World) : Calls Tryz.prog 53 #[v, v'] w fun e w' => e = .returned (.tuple #[WE (cl (z - z')), .bool (fb (z - z'))]) ∧ Below w.heap.size w w' := by
 obtain ⟨n, a, b, c, d, rfl, hz, ha, hb, hc, hd⟩ := h
 obtain ⟨n', a', b', c', d', rfl, hz', ha', hb', hc', hd'⟩ := h'
 have f1 : Fits (-z') := hz' ▸ fits_wv_neg ha' hb' hc' hd'
 have CN := fun W => rneg_w (hz' ▸ IsW.raw (n := n') ha' hb' hc' hd' : IsW (WV n' a' b' c' d') z') W
 have CA := fun W => radd_w (hz ▸ IsW.raw (n := n) ha hb hc hd : IsW (WV n a b c d) z) (IsW.we f1) W
 rw [← Int.sub_eq_add_neg] at CA
 clear f1 hz hz' ha hb hc hd ha' hb' hc' hd'
 generalize -z' = zn at *
 generalize z - z' = zd at *
 generalize hR : Value.tuple #[WE (cl zd), .bool (fb zd)] = R
 have HR := hid hR
 clear hR
 go_enter Tryz.func53, Tryz.ntmps53
 go_wp2_with fail
 
 
 (refine wp_region_dq (row := none) (S := (fun Wz => Below w.heap.size w Wz ∧ w.heap.size + 3 ≤ Wz.heap.size ∧ Bx Wz (w.heap.size) (#[.bool n, .int .u64 a, .int .u64 b, .int .u64 c, .int .u64 d]) ∧ Bx Wz (w.heap.size + 1) (#[.bool n', .int .u64 a', .int .u64 b', .int .u64 c', .int .u64 d']) ∧ Bx Wz (w.heap.size + 1 + 1) (#[.bool false, .int .u64 0, .int .u64 0, .int .u64 0, .int .u64 0]))) (n0 := w.heap.size + 3) 6 [] [(0, 0), (1, 0), (2, 0), (3, 0), (4, 0), (5, 0)] [] (by kernel_rfl) (by kernel_rfl) (fun _ _ d _ _ h => by cases d <;> exact h) ⟨by (repeat' (first | (with_reducible assumption) | (with_reducible exact Below.refl _ _) | (with_reducible refine Below.alloc ?_ ?_ _) | (with_reducible refine Below.setCell ?_ ?_ _) | (with_reducible refine Below.drew ?_) | (with_reducible refine below_more ?_ (by with_reducible assumption)) | go_size | omega | (with_reducible refine below_drewN ?_))), (by first | go_size | omega), Bx.of (by (repeat' (first | (with_reducible assumption) | ((with_reducible refine HB.new _ _ _ ?_) <;> (go_size; done)) | (with_reducible refine HB.old (by go_size) ?_) | (with_reducible refine HB.drew ?_) | (with_reducible refine HB.over5 ?_) | (with_reducible refine HB.over4 ?_) | (with_reducible refine HB.setne (by first | go_size | (dsimp only; omega)) ?_) | (with_reducible refine HN.set ?_) | (with_reducible refine HN.setne (by first | go_size | (dsimp only; omega)) ?_) | (with_reducible refine HN.drew ?_) | (with_reducible refine HN.old (by go_size) ?_) | (with_reducible exact HN.of5 (by assumption)) | (with_reducible exact HN.new5 _ _ (by go_size)) | (with_reducible exact HN.of4 (by assumption)) | (with_reducible exact HN.new4 _ _ (by go_size))))), Bx.of (by (repeat' (first | (with_reducible assumption) | ((with_reducible refine HB.new _ _ _ ?_) <;> (go_size; done)) | (with_reducible refine HB.old (by go_size) ?_) | (with_reducible refine HB.drew ?_) | (with_reducible refine HB.over5 ?_) | (with_reducible refine HB.over4 ?_) | (with_reducible refine HB.setne (by first | go_size | (dsimp only; omega)) ?_) | (with_reducible refine HN.set ?_) | (with_reducible refine HN.setne (by first | go_size | (dsimp only; omega)) ?_) | (with_reducible refine HN.drew ?_) | (with_reducible refine HN.old (by go_size) ?_) | (with_reducible exact HN.of5 (by assumption)) | (with_reducible exact HN.new5 _ _ (by go_size)) | (with_reducible exact HN.of4 (by assumption)) | (with_reducible exact HN.new4 _ _ (by go_size))))), Bx.of (by (repeat' (first | (with_reducible assumption) | ((with_reducible refine HB.new _ _ _ ?_) <;> (go_size; done)) | (with_reducible refine HB.old (by go_size) ?_) | (with_reducible refine HB.drew ?_) | (with_reducible refine HB.over5 ?_) | (with_reducible refine HB.over4 ?_) | (with_reducible refine HB.setne (by first | go_size | (dsimp only; omega)) ?_) | (with_reducible refine HN.set ?_) | (with_reducible refine HN.setne (by first | go_size | (dsimp only; omega)) ?_) | (with_reducible refine HN.drew ?_) | (with_reducible refine HN.old (by go_size) ?_) | (with_reducible exact HN.of5 (by assumption)) | (with_reducible exact HN.new5 _ _ (by go_size)) | (with_reducible exact HN.of4 (by assumption)) | (with_reducible exact HN.new4 _ _ (by go_size)))))⟩ (fun _ _ h g => keep3 h (below_gt g) rfl) (fun _ h => h.2.1) (fun _ h => by cases h) (by simp) ?_)
 refine' dq_pure (by rfl) (by rfl) ?hv7 ?rest7
 case hv7 => (intro w hw; (try dsimp only at hw); go_split_ands; go_simp; try with_reducible rfl)
 case' rest7 => try simp only [Act.put, List.setIfInBounds_toArray, List.set_cons_zero, List.set_cons_succ]
 refine' dq_pure (by rfl) (by rfl) ?hv8 ?rest8
 case hv8 => (intro w hw; (try dsimp only at hw); go_split_ands; go_simp; try with_reducible rfl)
 case' rest8 => try simp only [Act.put, List.setIfInBounds_toArray, List.set_cons_zero, List.set_cons_succ]
 refine' dq_call (by rfl) (by rfl) ?hv9 ?hc9 ?rest9
 case hv9 => (intro w; go_simp; exact ⟨rfl, rfl⟩)
 case hc9 => exact (fun w hw => calls_gt (CN _))
 case' rest9 => try simp only [Act.put, List.setIfInBounds_toArray, List.set_cons_zero, List.set_cons_succ]
 refine' dq_call (by rfl) (by rfl) ?hv10 ?hc10 ?rest10
 case hv10 => (intro w; go_simp; exact ⟨rfl, rfl⟩)
 case hc10 => exact (fun w hw => calls_gt (CA _))
 case' rest10 => try simp only [Act.put, List.setIfInBounds_toArray, List.set_cons_zero, List.set_cons_succ]
 refine' dq_pure (by rfl) (by rfl) ?hv11 ?rest11
 case hv11 => (intro w hw; (try dsimp only at hw); go_split_ands; go_simp; try with_reducible rfl)
 case' rest11 => try simp only [Act.put, List.setIfInBounds_toArray, List.set_cons_zero, List.set_cons_succ]
 refine' dq_pure (by rfl) (by rfl) ?hv12 ?rest12
 case hv12 => (intro w hw; (try dsimp only at hw); go_split_ands; go_simp; try with_reducible rfl)
 case' rest12 => try simp only [Act.put, List.setIfInBounds_toArray, List.set_cons_zero, List.set_cons_succ]
 refine dq_nil ?_
 simp only [fa, List.drop_succ_cons, List.drop_zero]
 rintro W ⟨⟨hb0, hn0, ⟨B1, B1c, B1f, B1l⟩, ⟨B2, B2c, B2f, B2l⟩, ⟨B3, B3c, B3f, B3l⟩⟩, hgl⟩ hbs
 clear hbs hgl
 (repeat' (first | go_values | go_skip | go_guarded | go_step | go_upon | (simp only [Int.not_lt, Int.not_le] at *; go_simp) | (go_values <;> (try go_simp)) | (go_ite <;> go_prune <;> (try go_simp)) | (split <;> (first | (rename_i hx; exact (hx _ rfl).elim) | go_prune))))
 refine bodyPost_ret (v := .tuple #[WE (cl zd), .bool (fb zd)]) ?_ rfl ⟨congrArg Ending.returned HR.out, by (repeat' (first | (with_reducible assumption) | (with_reducible exact Below.refl _ _) | (with_reducible refine Below.alloc ?_ ?_ _) | (with_reducible refine Below.setCell ?_ ?_ _) | (with_reducible refine Below.drew ?_) | (with_reducible refine below_more ?_ (by with_reducible assumption)) | go_size | omega | (with_reducible refine below_drewN ?_)))⟩
 simp [results, Tryz.results53, go_sem, B3c, B3f, B3l]
end Go.Proofs.YtncmmbacoknefaaGreat

/- MadeW: The tape's Wide, and the walk among calls of a tape's methods. -/
namespace Go.Proofs.YtncmmbacoknefaaGreat
open Go.ChangeShapes Go.WideShapes Go.ChangeAt Go.RowKit
set_option linter.unusedVariables false
set_option linter.unusedSimpArgs false
theorem grown_drew {a w : World} {row : Option Nat} (h : a.grownBy w row) : a.grownBy w.drew row := ⟨h.os, h.tape, h.output, h.size, h.block⟩
theorem TapeOk.setc {B Bm : Nat} {w : World} {b : Nat} {p : Addr} {v : Value} (hp : B ≤ p.block) (h : TapeOk B Bm w b) : TapeOk B Bm (w.setCell p v) b := h.below ((Below.refl B w).setCell hp v)
def AWs (B Bm b q : Nat) (w W : World) : Prop := TapeOk B Bm W b ∧ w.grownBy W (some b) ∧ HB W q #[.bool false, .int .u64 0, .int .u64 0, .int .u64 0, .int .u64 0] ∧ ∃ (n : Bool) (c0 c1 c2 c3 : Int), U64 c0 ∧ U64 c1 ∧ U64 c2 ∧ U64 c3 ∧ HB W (q + 1) #[.bool n, .int .u64 c0, .int .u64 c1, .int .u64 c2, .int .u64 c3]
theorem AWs.tape {B Bm b q : Nat} {w W : World} (h : AWs B Bm b q w W) : TapeOk B Bm W b := h.1
theorem AWs.drew {B Bm b q : Nat} {w W : World} (h : AWs B Bm b q w W) : AWs B Bm b q w W.drew := by
 obtain ⟨ht, hG, B1, n, c0, c1, c2, c3, u0, u1, u2, u3, B2⟩ := h
 exact ⟨ht.drew, grown_drew hG, B1.drew, n, c0, c1, c2, c3, u0, u1, u2, u3, B2.drew⟩
theorem AWs.alloc {B Bm b q : Nat} {w W : World} (h : AWs B Bm b q w W) (o : Obj) : AWs B Bm b q w (W.alloc o) := by
 obtain ⟨ht, hG, B1, n, c0, c1, c2, c3, u0, u1, u2, u3, B2⟩ := h
 exact ⟨ht.alloc _, grown_alloc hG _, B1.old B1.lt, n, c0, c1, c2, c3, u0, u1, u2, u3, B2.old B2.lt⟩
theorem AWs.store {B Bm b q : Nat} {w W : World} {j : Nat} {u : Int} (hu : U64 u) (hj : 1 ≤ j ∧ j ≤ 4) (hq : w.heap.size ≤ q) (hB : B ≤ q) (h : AWs B Bm b q w W) : AWs B Bm b q w (W.setCell ⟨q + 1, j, none⟩ (.int .u64 u)) := by
 obtain ⟨ht, hG, B1, n, c0, c1, c2, c3, u0, u1, u2, u3, B2⟩ := h
 have t := ht.setc (p := ⟨q + 1, j, none⟩) (v := .int .u64 u) (by show B ≤ q + 1; omega)
 have g := grown_setCell hG (p := ⟨q + 1, j, none⟩) (.inr (by show w.heap.size ≤ q + 1; omega)) (.int .u64 u)
 have b1 := B1.setne (a := ⟨q + 1, j, none⟩) (v := .int .u64 u) (by show q ≠ q + 1; omega)
 obtain rfl | rfl | rfl | rfl : j = 1 ∨ j = 2 ∨ j = 3 ∨ j = 4 := by omega
 ·exact ⟨t, g, b1, n, u, c1, c2, c3, hu, u1, u2, u3, B2.set rfl⟩
 ·exact ⟨t, g, b1, n, c0, u, c2, c3, u0, hu, u2, u3, B2.set rfl⟩
 ·exact ⟨t, g, b1, n, c0, c1, u, c3, u0, u1, hu, u3, B2.set rfl⟩
 ·exact ⟨t, g, b1, n, c0, c1, c2, u, u0, u1, u2, hu, B2.set rfl⟩
theorem AWs.at {B Bm b q m : Nat} {w W : World} (h : AWs B Bm b q w W) (hm : m ≤ 3) : ∃ c, W.cell? ⟨q + 1, 1 + m, none⟩ = some (.int .u64 c) ∧ W.frozen? ⟨q + 1, 1 + m, none⟩ = false ∧ q + 1 < W.heap.size ∧ B ≤ W.heap.size := by
 obtain ⟨ht, hG, B1, n, c0, c1, c2, c3, u0, u1, u2, u3, B2⟩ := h
 obtain ⟨B2, B2c, B2f, B2l⟩ := Bx.of B2
 obtain rfl | rfl | rfl | rfl : m = 0 ∨ m = 1 ∨ m = 2 ∨ m = 3 := by omega
 all_goals exact ⟨_, B2c _, B2f _, B2l, ht.leB⟩
end Go.Proofs.YtncmmbacoknefaaGreat

/- LawT: A law's frame where a tape comes behind boxed arguments. -/
namespace Go.Proofs.YtncmmbacoknefaaGreat
open Go.ChangeShapes Go.WideShapes Go.ChangeAt Go.RowKit
set_option linter.unusedVariables false
set_option linter.unusedSimpArgs false
theorem SlZ.below {W W' : World} {k : IntKind} {v : Value} {zs : List Int} (h : SlZ W k v zs) (hb : Below W.heap.size W W') : SlZ W' k v zs := by
 obtain ⟨a, len, cap, rfl, h1, h2, h3, h4, h5⟩ := h
 refine ⟨a, len, cap, rfl, h1, h2, h3, h4, fun hl => ?_⟩
 obtain ⟨b, off, rfl, hlt, hc⟩ := h5 hl
 exact ⟨b, off, rfl, Nat.lt_of_lt_of_le hlt hb.size, fun i hi => (hb.cell hlt).trans (hc i hi)⟩
end Go.Proofs.YtncmmbacoknefaaGreat

/- SxV: A symbolic run: Wides and fractions as atoms; tapes; pairs of slices. -/
namespace Go.Proofs.YtncmmbacoknefaaGreat
open Go Go.RowKit
set_option linter.unusedVariables false
set_option linter.unusedSimpArgs false
def WX (z : Int) : Value := WE z
def RX (p q : Int) : Value := .agg #[.bool (sg p), .int .u64 (lb0 (ab p)), .int .u64 (lb1 (ab p)), .int .u64 (lb2 (ab p)), .int .u64 (lb3 (ab p)), .bool (sg q), .int .u64 (lb0 (ab q)), .int .u64 (lb1 (ab q)), .int .u64 (lb2 (ab q)), .int .u64 (lb3 (ab q))]
def NZ : Value := WV true 0 0 0 0
theorem IsW.x {z : Int} (h : Fits z) : IsW (WX z) z := IsW.we h
theorem sgx_ab (z : Int) : sg (ab z) = false := by unfold sg; exact decide_eq_false (by have := ab_nonneg z; omega)
namespace Sx
variable {C : Cx} {S : St} {K : St → Prop} {d : Option Nat}
abbrev wc (z : Int) : List Value := [.bool (sg z), .int .u64 (lb0 (ab z)), .int .u64 (lb1 (ab z)), .int .u64 (lb2 (ab z)), .int .u64 (lb3 (ab z))]
theorem x_foldR (p q : Int) : Value.agg [.bool (sg p), .int .u64 (lb0 (ab p)), .int .u64 (lb1 (ab p)), .int .u64 (lb2 (ab p)), .int .u64 (lb3 (ab p)), .bool (sg q), .int .u64 (lb0 (ab q)), .int .u64 (lb1 (ab q)), .int .u64 (lb2 (ab q)), .int .u64 (lb3 (ab q))].toArray = RX p q := rfl
theorem x_foldW (z : Int) : Value.agg [.bool (sg z), .int .u64 (lb0 (ab z)), .int .u64 (lb1 (ab z)), .int .u64 (lb2 (ab z)), .int .u64 (lb3 (ab z))].toArray = WX z := rfl
theorem x_foldA (z : Int) : Value.agg [.bool false, .int .u64 (lb0 (ab z)), .int .u64 (lb1 (ab z)), .int .u64 (lb2 (ab z)), .int .u64 (lb3 (ab z))].toArray = WX (ab z) := by
 rw [← x_foldW, ab_ab, sgx_ab]
theorem x_fold0 : Value.agg [.bool false, .int .u64 0, .int .u64 0, .int .u64 0, .int .u64 0].toArray = WX 0 := rfl
theorem x_foldR0 : Value.agg [.bool false, .int .u64 0, .int .u64 0, .int .u64 0, .int .u64 0, .bool false, .int .u64 0, .int .u64 0, .int .u64 0, .int .u64 0].toArray = RX 0 0 := rfl
theorem x_foldN : Value.agg [.bool true, .int .u64 0, .int .u64 0, .int .u64 0, .int .u64 0].toArray = NZ := rfl
theorem x_cN : cellsO true (some (.v NZ)) = some [.bool true, .int .u64 0, .int .u64 0, .int .u64 0, .int .u64 0] := rfl
theorem x_vN : cellsV (some (.v NZ)) = some [.bool true, .int .u64 0, .int .u64 0, .int .u64 0, .int .u64 0] := rfl
theorem x_fN0 : fdS false 1 0 (some (.v NZ)) = some (True, .bool true) := rfl
theorem x_csg1 {z : Int} {p q : St → Prop} (h : z < 0) : condT (sg z) p q S = p S := by unfold sg; rw [decide_eq_true h]; rfl
theorem x_csg0 {z : Int} {p q : St → Prop} (h : ¬ z < 0) : condT (sg z) p q S = q S := by unfold sg; rw [decide_eq_false h]; rfl
theorem x_gsg1 {z : Int} {m : M} {w : Bool} (h : z < 0) : gdT (sg z) w C m d K S = gdT true w C m d K S := by unfold sg; rw [decide_eq_true h]
theorem x_gsg0 {z : Int} {m : M} {w : Bool} (h : ¬ z < 0) : gdT (sg z) w C m d K S = gdT false w C m d K S := by unfold sg; rw [decide_eq_false h]
theorem x_psg1 {z : Int} {f g : Option SV} (h : z < 0) : pickS f g (some (.v (.bool (sg z)))) = sv1 f := by unfold sg; rw [decide_eq_true h]; rfl
theorem x_psg0 {z : Int} {f g : Option SV} (h : ¬ z < 0) : pickS f g (some (.v (.bool (sg z)))) = sv1 g := by unfold sg; rw [decide_eq_false h]; rfl
theorem x_cW (z : Int) : cellsO true (some (.v (WX z))) = some [.bool (sg z), .int .u64 (lb0 (ab z)), .int .u64 (lb1 (ab z)), .int .u64 (lb2 (ab z)), .int .u64 (lb3 (ab z))] := rfl
theorem x_cR (p q : Int) : cellsO true (some (.v (RX p q))) = some [.bool (sg p), .int .u64 (lb0 (ab p)), .int .u64 (lb1 (ab p)), .int .u64 (lb2 (ab p)), .int .u64 (lb3 (ab p)), .bool (sg q), .int .u64 (lb0 (ab q)), .int .u64 (lb1 (ab q)), .int .u64 (lb2 (ab q)), .int .u64 (lb3 (ab q))] := rfl
theorem x_vW (z : Int) : cellsV (some (.v (WX z))) = some [.bool (sg z), .int .u64 (lb0 (ab z)), .int .u64 (lb1 (ab z)), .int .u64 (lb2 (ab z)), .int .u64 (lb3 (ab z))] := rfl
theorem x_vR (p q : Int) : cellsV (some (.v (RX p q))) = some [.bool (sg p), .int .u64 (lb0 (ab p)), .int .u64 (lb1 (ab p)), .int .u64 (lb2 (ab p)), .int .u64 (lb3 (ab p)), .bool (sg q), .int .u64 (lb0 (ab q)), .int .u64 (lb1 (ab q)), .int .u64 (lb2 (ab q)), .int .u64 (lb3 (ab q))] := rfl
theorem x_fW0 (z : Int) : fdS false 1 0 (some (.v (WX z))) = some (True, .bool (sg z)) := rfl
theorem x_fR0 (p q : Int) : fdS true 5 0 (some (.v (RX p q))) = some (True, WX p) := rfl
theorem x_fR5 (p q : Int) : fdS true 5 5 (some (.v (RX p q))) = some (True, WX q) := rfl
theorem qxE : type_of% @x_foldR ∧ type_of% @x_foldW ∧ type_of% @x_foldA ∧ type_of% @x_fold0 ∧ type_of% @x_foldR0 ∧ type_of% @x_foldN ∧ type_of% @x_cN ∧ type_of% @x_vN ∧ type_of% @x_fN0 ∧ type_of% @x_csg1 ∧ type_of% @x_csg0 ∧ type_of% @x_gsg1 ∧ type_of% @x_gsg0 ∧ type_of% @x_psg1 ∧ type_of% @x_psg0 ∧ type_of% @x_cW ∧ type_of% @x_cR ∧ type_of% @x_vW ∧ type_of% @x_vR ∧ type_of% @x_fW0 ∧ type_of% @x_fR0 ∧ type_of% @x_fR5 :=
 ⟨@x_foldR, @x_foldW, @x_foldA, @x_fold0, @x_foldR0, @x_foldN, @x_cN, @x_vN, @x_fN0, @x_csg1, @x_csg0, @x_gsg1, @x_gsg0, @x_psg1, @x_psg0, @x_cW, @x_cR, @x_vW, @x_vR, @x_fW0, @x_fR0, @x_fR5⟩
theorem asks_r2 {f : FuncId} {l : List Value} {L : List Kn} {ws vs : List Int} (he : ∀ (l : Array Value) W, (callFunc f l).run C.P W = .ok (.enter f l) W) (hT : S.T = kX C.w0.heap.size L)
  (h : ∀ W, Below C.w0.heap.size C.w0 W → (∀ k ∈ L, k.ok C.w0.heap.size W) → Calls C.P f l.toArray W fun e w' => ∃ u v, e = .returned (.tuple #[u, v]) ∧ SlF w' W.heap.size u ws ∧ SlF w' W.heap.size v vs ∧ Below W.heap.size W w')
  (hk : ∀ a cap b cbp, Shp a ws.length cap → Shp b vs.length cbp → K (St.put ⟨S.n, S.E, S.H, kX C.w0.heap.size (.r (.slice a ws.length cap) ws :: .r (.slice b vs.length cbp) vs :: L)⟩ d (.v (.tuple #[.slice a ws.length cap, .slice b vs.length cbp])))) : asks C f l d K S := by
 refine asks_T (ι := {x : (Option Addr × Nat) × (Option Addr × Nat) // Shp x.1.1 ws.length x.1.2 ∧ Shp x.2.1 vs.length x.2.2}) (fun x => .tuple #[.slice x.1.1.1 ws.length x.1.1.2, .slice x.1.2.1 vs.length x.1.2.2]) (fun x => kX C.w0.heap.size (.r (.slice x.1.1.1 ws.length x.1.1.2) ws :: .r (.slice x.1.2.1 vs.length x.1.2.2) vs :: L)) (fun W hW hok hbs => givesT_calls he (fun i => kX_stab C _) ?_) (fun x => hk _ _ _ _ x.2.1 x.2.2)
 rw [hT] at hok
 refine (h W hW hok).mono fun e w' ⟨u, v, h1, h2, h3, h4⟩ => ?_
 obtain ⟨a, cap, rfl, hs⟩ := h2.1.shp
 obtain ⟨b, cbp, rfl, hs'⟩ := h3.1.shp
 have hok2 : (Kn.r (.slice a ws.length cap) ws).ok C.w0.heap.size w' := Kn.ok.base (k := .r _ ws) h2 hW.size (fun _ h => by cases h)
 have hok3 : (Kn.r (.slice b vs.length cbp) vs).ok C.w0.heap.size w' := Kn.ok.base (k := .r _ vs) h3 hW.size (fun _ h => by cases h)
 have hge : ∀ c ∈ rbs (.slice a ws.length cap), W.heap.size ≤ c := fun c hc => (Kn.ok.lt (k := .r (.slice a ws.length cap) ws) h2 c hc).1
 have hge' : ∀ c ∈ rbs (.slice b vs.length cbp), W.heap.size ≤ c := fun c hc => (Kn.ok.lt (k := .r (.slice b vs.length cbp) vs) h3 c hc).1
 refine ⟨⟨((a, cap), (b, cbp)), hs, hs'⟩, h1, ⟨h4.os, h4.tape, h4.output, h4.size, fun i hi _ => h4.block i hi⟩, ?_, ?_⟩
 ·intro k hk
  rcases List.mem_cons.1 hk with rfl | hk
  ·exact hok2
  ·rcases List.mem_cons.1 hk with rfl | hk
   ·exact hok3
   ·exact (hok k hk).below h4
 ·intro c hc
  obtain ⟨k, hk, hc⟩ := kX_bs.1 hc
  rcases List.mem_cons.1 hk with rfl | hk
  ·exact ⟨.inr (hge c hc), (hok2.lt c hc).2⟩
  ·rcases List.mem_cons.1 hk with rfl | hk
   ·exact ⟨.inr (hge' c hc), (hok3.lt c hc).2⟩
   ·exact ⟨.inl (by rw [hT]; exact kX_bs.2 ⟨k, hk, hc⟩), Nat.lt_of_lt_of_le ((hok k hk).lt c hc).2 h4.size⟩
def tK (tb : Nat) : KnG where
 bs := [tb]
 ok n W := n ≤ tb ∧ TapeOk (tb + 1) n W tb
 lt := fun {n W} h b hb => by
  rw [List.mem_singleton.1 hb]
  exact ⟨h.1, h.2.lt⟩
 keep := fun {n W W'} h hs hb ho => by
  obtain ⟨h0, a, len, cap, k, h1, h2, h3, h4, h5, h6, h7, h8⟩ := h
  have ht := hb tb (List.mem_singleton.2 rfl)
  refine ⟨h0, a, len, cap, k, h1, Nat.le_trans h2 hs, (World.cell?_of_block (a := ⟨tb, 0, none⟩) ht).trans h3, (World.cell?_of_block (a := ⟨tb, 1, none⟩) ht).trans h4, (World.frozen?_of_block (a := ⟨tb, 1, none⟩) ht).trans h5, h6, h7, fun hl => ?_⟩
  obtain ⟨bb, off, e, hne, hlt, hlm, hc⟩ := h8 hl
  refine ⟨bb, off, e, hne, hlt, hlm, fun i hi => ?_⟩
  obtain ⟨x, hx, hix⟩ := hc i hi
  exact ⟨x, (World.cell?_of_block (a := ⟨bb, off + i, none⟩) (ho bb hlm (by omega))).trans hx, hix⟩
theorem asks_new {L : List Kn} {zs : List Int} {a : Option Addr} {len cap : Nat} (hP : C.P = Tryz.prog) (hT : S.T = kX C.w0.heap.size L) (h0 : SlZ C.w0 .i64 (.slice a len cap) zs) (he : ∀ (l : Array Value) W, (callFunc 15 l).run Tryz.prog W = .ok (.enter 15 l) W)
  (hk : ∀ tb, tb ∉ S.T.bs → K (St.put ⟨S.n, S.E, S.H, kX C.w0.heap.size (.g (tK tb) :: L)⟩ d (.v (.pointer (some ⟨tb, 0, none⟩))))) : asks C 15 [.slice a len cap] d K S := by
 refine asks_T (ι := {x : Nat // x ∉ S.T.bs}) (fun x => .pointer (some ⟨x.1, 0, none⟩)) (fun x => kX C.w0.heap.size (.g (tK x.1) :: L)) (fun W hW hok hbs => givesT_calls (by rw [hP]; exact he) (fun i => kX_stab C _) ?_) (fun x => hk _ x.2)
 rw [hT] at hok
 rw [hP]
 refine (new_any a len cap W).mono fun e w' ⟨he, hw⟩ => ?_
 subst hw
 have hb : Below W.heap.size W (W.alloc (.cells #[.slice a len cap, .int .i64 0] 112)) := (Below.refl _ _).alloc (Nat.le_refl _) _
 have ht : TapeOk (W.heap.size + 1) C.w0.heap.size (W.alloc (.cells #[.slice a len cap, .int .i64 0] 112)) W.heap.size := by
  obtain ⟨a', len', cap', e, hl, hlc, hcm, hwf, hc⟩ := h0
  cases e
  have hm : cap ≤ 9223372036854775807 := by simpa [maxLen] using hcm
  refine ⟨a, len, cap, 0, by omega, by simp, World.cell?_alloc_new _ _ _ _, World.cell?_alloc_new _ _ _ _, by simp [go_sem], by omega, by omega, fun hpos => ?_⟩
  obtain ⟨b, off, rfl, hlt, hcell⟩ := hc hpos
  have hsz := hW.size
  refine ⟨b, off, rfl, by omega, by omega, hlt, fun i hi => ⟨zs.getD i 0, (hb.cell (p := ⟨b, off + i, none⟩) (show b < _ by omega)).trans ((hW.cell (p := ⟨b, off + i, none⟩) hlt).trans (hcell i hi)), ?_⟩⟩
  refine I64.of_wf (hwf _ ?_)
  rw [List.getD_eq_getElem?_getD, List.getElem?_eq_getElem (by omega)]
  exact List.getElem_mem _
 refine ⟨⟨W.heap.size, fun hT2 => by have := (hbs _ hT2).2; omega⟩, he, ⟨hb.os, hb.tape, hb.output, hb.size, fun i hi _ => hb.block i hi⟩, ?_, ?_⟩
 ·intro k hk
  rcases List.mem_cons.1 hk with rfl | hk
  ·exact ⟨hW.size, ht⟩
  ·exact (hok k hk).below hb
 ·intro b hbb
  obtain ⟨k, hk, hbb⟩ := kX_bs.1 hbb
  rcases List.mem_cons.1 hk with rfl | hk
  ·have : b = W.heap.size := List.mem_singleton.1 hbb
   subst this
   exact ⟨.inr (Nat.le_refl _), ht.lt⟩
  ·exact ⟨.inl (by rw [hT]; exact kX_bs.2 ⟨k, hk, hbb⟩), Nat.lt_of_lt_of_le ((hok k hk).lt b hbb).2 hb.size⟩
end Sx
end Go.Proofs.YtncmmbacoknefaaGreat

/- Tp: A symbolic run: calls that move a tape. -/
namespace Go.Proofs.YtncmmbacoknefaaGreat
open Go Go.RowKit Sx
set_option linter.unusedVariables false
set_option linter.unusedSimpArgs false
namespace Sx
variable {C : Cx} {S : St} {K : St → Prop} {d : Option Nat}
def hK (w : World) (tb B Bm : Nat) : KnG where
 bs := List.range' tb (w.heap.size - tb)
 ok n W := n = tb ∧ (tb < w.heap.size ∧ B ≤ w.heap.size) ∧ TapeOk B Bm W tb ∧ w.heap.size ≤ W.heap.size ∧ ∀ i, i < w.heap.size → i ≠ tb → W.heap[i]? = w.heap[i]?
 lt := fun {n W} h b hb => by
  obtain ⟨h0, ⟨h1, h1b⟩, h2, h3, -⟩ := h
  rw [List.mem_range'] at hb
  obtain ⟨i, hi, rfl⟩ := hb
  omega
 keep := fun {n W W'} h hs hb ho => by
  obtain ⟨h0, ⟨hw, hB⟩, ⟨a, len, cap, k, h1, h2, h3, h4, h5, h6, h7, h8⟩, hsz, hg⟩ := h
  have all : ∀ i, i < w.heap.size → W'.heap[i]? = W.heap[i]? := fun i hi => by
   rcases Nat.lt_or_ge i tb with h | h
   ·exact ho i (by omega) (by omega)
   ·exact hb i (List.mem_range'.2 ⟨i - tb, by omega, by omega⟩)
  have ht := all tb hw
  refine ⟨h0, ⟨hw, hB⟩, ⟨a, len, cap, k, h1, Nat.le_trans h2 hs, (World.cell?_of_block (a := ⟨tb, 0, none⟩) ht).trans h3, (World.cell?_of_block (a := ⟨tb, 1, none⟩) ht).trans h4, (World.frozen?_of_block (a := ⟨tb, 1, none⟩) ht).trans h5, h6, h7, fun hl => ?_⟩, Nat.le_trans hsz hs, fun i hi hn => (all i hi).trans (hg i hi hn)⟩
  obtain ⟨bb, off, e, hne, hlt, hlm, hc⟩ := h8 hl
  refine ⟨bb, off, e, hne, hlt, hlm, fun i hi => ?_⟩
  obtain ⟨x, hx, hix⟩ := hc i hi
  exact ⟨x, (World.cell?_of_block (a := ⟨bb, off + i, none⟩) (all bb (by omega))).trans hx, hix⟩
structure TpK (k : KnG) (n tb B Bm : Nat) : Prop where
 tape : ∀ {W}, k.ok n W → TapeOk B Bm W tb
 go : ∀ {W W'}, k.ok n W → TapeOk B Bm W' tb → W.grownBy W' (some tb) → k.ok n W'
 ge : ∀ {W}, k.ok n W → n ≤ tb
 mem : ∀ {W}, k.ok n W → tb ∈ k.bs
theorem tpk_t (n tb : Nat) : TpK (tK tb) n tb (tb + 1) n where
 tape h := h.2
 go h ht hg := ⟨h.1, ht⟩
 ge h := h.1
 mem h := List.mem_singleton.2 rfl
theorem asks_tp {f : FuncId} {l : List Value} {L : List Kn} {ι : Type} {P : ι → Prop} {k : KnG} {tb B Bm : Nat} (v : ι → Value) (hk : TpK k C.w0.heap.size tb B Bm) (he : ∀ (l : Array Value) W, (callFunc f l).run C.P W = .ok (.enter f l) W) (hT : S.T = kX C.w0.heap.size L) (hm : .g k ∈ L) (hmv : C.mv S = S.T.bs)
  (hL : ∀ j ∈ L, j = .g k ∨ tb ∉ j.bs)
  (h : ∀ W, TapeOk B Bm W tb → Calls C.P f l.toArray W fun e w' => ∃ i, P i ∧ e = .returned (v i) ∧ TapeOk B Bm w' tb ∧ W.grownBy w' (some tb))
  (hK : ∀ i, P i → K (St.put S d (.v (v i)))) : asks C f l d K S := by
 refine asks_T (ι := {i // P i}) (fun i => v i.1) (fun _ => S.T) (fun W hW hok hbs => givesT_calls he (fun i => by rw [hT]; exact kX_stab C L) ?_) (fun i => hK i.1 i.2)
 rw [hT] at hok
 have ho : k.ok C.w0.heap.size W := hok _ hm
 refine (h W (hk.tape ho)).mono fun e w' ⟨i, hi, he, h1, h2⟩ => ⟨⟨i, hi⟩, he, ⟨h2.os, h2.tape, h2.output, h2.size, fun j hj hn => h2.block j hj fun e => hn (by cases e; rw [hmv, hT]; exact kX_bs.2 ⟨_, hm, hk.mem ho⟩)⟩, ?_, fun b hb => ⟨.inl hb, ?_⟩⟩
 ·rw [hT]
  intro j hj
  rcases hL j hj with rfl | hb
  ·exact hk.go ho h1 h2
  ·refine (hok j hj).keep h2.size (fun b hbb => h2.block b ((hok j hj).lt b hbb).2 fun e => hb (by cases e; exact hbb)) fun b hbn hbl => h2.block b hbl fun e => ?_
   have := hk.ge ho
   have e2 : b = tb := Option.some.inj e
   omega
 ·rw [hT] at hb
  exact Nat.lt_of_lt_of_le (kX_lt hok b hb).2 h2.size
end Sx
def TpC (f : FuncId) (l : List Value) (tb : Nat) {ι : Type} (P : ι → Prop) (v : ι → Value) : Prop := ∀ {B Bm : Nat} (W : World), TapeOk B Bm W tb → Calls Tryz.prog f l.toArray W fun e w' => ∃ i, P i ∧ e = .returned (v i) ∧ TapeOk B Bm w' tb ∧ W.grownBy w' (some tb)
theorem t_tol (tb : Nat) : TpC 17 [.pointer (some ⟨tb, 0, none⟩)] tb Tol (fun r => .int .i64 r) :=
 fun W h => (tol_any tb W h).mono fun e w' ⟨r, a, b, c, d⟩ => ⟨r, a, b, c, d⟩
theorem asks_tc {C : Cx} {S : St} {K : St → Prop} {d : Option Nat} {f : FuncId} {l : List Value} {L : List Kn} {ι : Type} {P : ι → Prop} {v : ι → Value} {k : KnG} {tb B Bm : Nat} (hP : C.P = Tryz.prog) (hk : TpK k C.w0.heap.size tb B Bm) (h : TpC f l tb P v) (he : ∀ (l : Array Value) W, (callFunc f l).run Tryz.prog W = .ok (.enter f l) W) (hT : S.T = kX C.w0.heap.size L) (hm : .g k ∈ L) (hmv : C.mv S = S.T.bs)
  (hL : ∀ j ∈ L, j = .g k ∨ tb ∉ j.bs) (hK : ∀ i, P i → K (St.put S d (.v (v i)))) : asks C f l d K S :=
 asks_tp v hk (by rw [hP]; exact he) hT hm hmv hL (fun W hW => by rw [hP]; exact h W hW) hK
end Go.Proofs.YtncmmbacoknefaaGreat

/- Ck: A symbolic run: blocks of the call's own that are known cell by cell. -/
namespace Go.Proofs.YtncmmbacoknefaaGreat
open Go Go.RowKit Sx
set_option linter.unusedVariables false
set_option linter.unusedSimpArgs false
namespace Sx
variable {C : Cx} {S : St} {K : St → Prop} {d : Option Nat}
def cK (b : Nat) (cs : List Value) : KnG where
 bs := [b]
 ok n W := n ≤ b ∧ HB W b cs.toArray
 lt := fun {n W} h c hc => by
  rw [List.mem_singleton.1 hc]
  exact ⟨h.1, h.2.lt⟩
 keep := fun {n W W'} h hs hb ho => by
  obtain ⟨T, hT⟩ := h.2
  exact ⟨h.1, T, (hb b (List.mem_singleton.2 rfl)).trans hT⟩
theorem cK_cell {b : Nat} {cs : List Value} {n : Nat} {W : World} (h : (cK b cs).ok n W) {i : Nat} {v : Value} (hv : cs[i]? = some v) : W.cell? ⟨b, i, none⟩ = some v := by
 have hc := (Bx.of h.2).2.1 i
 rw [hc]
 simpa using hv
theorem genA_c {q : GK} {l : List Value} {L : List Kn} {cs : List Value} {T : TypeId} (v : Nat → Value) (hT : S.T = kX C.w0.heap.size L)
  (h : ∀ W, (genRun q l).run C.P W = .ok (.value (v W.heap.size)) (W.alloc (.cells cs.toArray T (0, 0))))
  (hk : ∀ b, b ∉ S.T.bs → K (St.put ⟨S.n, S.E, S.H, kX C.w0.heap.size (.g (cK b cs) :: L)⟩ d (.v (v b)))) : genA C q l d K S := by
 refine genA_T (ι := {x : Nat // x ∉ S.T.bs}) (fun x => v x.1) (fun x => kX C.w0.heap.size (.g (cK x.1 cs) :: L)) (fun W hW hok hbs => ⟨?_⟩) (fun x => hk _ x.2)
 rw [hT] at hok
 rw [h W]
 have hb : Below W.heap.size W (W.alloc (.cells cs.toArray T (0, 0))) := (Below.refl _ _).alloc (Nat.le_refl _) _
 have hc : (cK W.heap.size cs).ok C.w0.heap.size (W.alloc (.cells cs.toArray T (0, 0))) := ⟨hW.size, HB.new W _ T rfl⟩
 refine ⟨⟨W.heap.size, fun hT2 => by have := (hbs _ hT2).2; omega⟩, rfl, ⟨hb.os, hb.tape, hb.output, hb.size, fun i hi _ => hb.block i hi⟩, ?_, kX_stab C _, ?_⟩
 ·intro k hk
  rcases List.mem_cons.1 hk with rfl | hk
  ·exact hc
  ·exact (hok k hk).below hb
 ·intro b hbb
  obtain ⟨k, hk, hbb⟩ := kX_bs.1 hbb
  rcases List.mem_cons.1 hk with rfl | hk
  ·have : b = W.heap.size := List.mem_singleton.1 hbb
   subst this
   exact ⟨.inr (Nat.le_refl _), hc.2.lt⟩
  ·exact ⟨.inl (by rw [hT]; exact kX_bs.2 ⟨k, hk, hbb⟩), Nat.lt_of_lt_of_le ((hok k hk).lt b hbb).2 hb.size⟩
theorem ldP_c {L : List Kn} {b o m : Nat} {g : Bool} {cs l : List Value} (hT : (C.kn S).T = kX C.w0.heap.size L) (hm : .g (cK b cs) ∈ L) (hl : l.length = m) (hs : ∀ j v, l[j]? = some v → cs[o + j]? = some v) (hk : K (S.put d (.v (mk g l)))) : ldP C g m ⟨b, o, none⟩ d K S :=
 ldP_ext l hl (fun W hW hok j v hj => by
  rw [hT] at hok
  have ho : (cK b cs).ok C.w0.heap.size W := hok _ hm
  rw [Addr.add_lit]
  exact cK_cell ho (hs j v hj)) hk
theorem ldP_k {L : List Kn} {b o m : Nat} {g : Bool} {cs l : List Value} (hT : (C.kn S).T = kX C.w0.heap.size L) (hm : .g (cK b cs) ∈ L) (hl : sub cs o m = some l) (hk : K (S.put d (.v (mk g l)))) : ldP C g m ⟨b, o, none⟩ d K S :=
 ldP_c hT hm (sub_get hl).1 (fun j v hj => by
  have hlt : j < m := by
   have := (List.getElem?_eq_some_iff.1 hj).1
   rw [(sub_get hl).1] at this
   exact this
  rw [← (sub_get hl).2 j hlt]
  exact hj) hk
theorem run_storeK {P : Program} {b o0 : Nat} : ∀ {vs cs cs' : List Value} {i : Nat} {W : World}, HB W b cs.toArray → ovrO cs (o0 + i) vs = some cs' → all1 vs = true →
  ∃ W', (storeCells ⟨b, o0, none⟩ vs i).run P W = .ok () W' ∧ Moves [b] W W' ∧ W'.heap.size = W.heap.size ∧ HB W' b cs'.toArray
 | [], cs, cs', i, W, h, ho, h1 => ⟨W, by unfold storeCells; rfl, ⟨rfl, rfl, rfl, Nat.le_refl _, fun _ _ _ => rfl⟩, rfl, by rw [ovrO_nil ho]; exact h⟩
 | v :: vs, cs, cs', i, W, h, ho, h1 => by
  unfold all1 at h1
  rw [Bool.and_eq_true] at h1
  obtain ⟨o1, o2⟩ := ovrO_cons ho
  have hB := Bx.of h
  have hc : W.cell? ⟨b, o0 + i, none⟩ = some cs[o0 + i] := by
   rw [hB.2.1, List.getElem?_toArray, List.getElem?_eq_getElem o1]
  have hs : HB (W.setCell ⟨b, o0 + i, none⟩ v) b (cs.set (o0 + i) v).toArray := h.set (by simp)
  obtain ⟨W', e, ⟨m1, m2, m3, m4, m5⟩, hz, hB'⟩ := run_storeK (P := P) (o0 := o0) (i := i + 1) hs o2 h1.2
  have hsz : (W.setCell ⟨b, o0 + i, none⟩ v).heap.size = W.heap.size := World.size_setCell _ _ _
  refine ⟨W', ?_, ⟨m1, m2, m3, by rw [hz, hsz]; exact Nat.le_refl _, fun j hj hn => ?_⟩, by rw [hz, hsz], hB'⟩
  ·unfold storeCells
   rw [Addr.add_lit]
   exact (run_bind_ok (run_store1 h1.1 hc (hB.2.2.1 _))).trans e
  ·exact (m5 j (by rw [hsz]; exact hj) hn).trans (Below.heap_setCell W _ _ j fun e => hn (by rw [show j = b from e]; exact List.mem_singleton.2 rfl))
theorem genA_al {P : Program} (hP : C.P = P) {t : TypeId} {L : List Kn} {i : TypeInfo} {z : Value} (hi : P.info? t = some i) (hz : i.zero = some z) (hT : S.T = kX C.w0.heap.size L)
  (hk : ∀ b, b ∉ S.T.bs → K (St.put ⟨S.n, S.E, S.H, kX C.w0.heap.size (.g (cK b z.cells.toList) :: L)⟩ d (.v (.pointer (some ⟨b, 0, none⟩))))) : genA C (.al t) [] d K S := by
 refine genA_c (cs := z.cells.toList) (T := t) (fun b => .pointer (some ⟨b, 0, none⟩)) hT (fun W => ?_) hk
 subst hP
 show (do pure (Next.value (← Instr.alloc t true (.tuple #[])))).run C.P W = _
 have e : (Instr.alloc t true (.tuple #[])).run C.P W = .ok (.pointer (some ⟨W.heap.size, 0, none⟩)) (W.alloc (.cells z.cells t (0, 0))) := by
  unfold Instr.alloc
  have h1 : (zeroValue t).run C.P W = .ok z W := by
   unfold zeroValue typeInfo
   simp [go_sem, hi, hz]
  rw [run_bind_ok h1]
  rfl
 rw [run_bind_ok e]
 simp
end Sx
end Go.Proofs.YtncmmbacoknefaaGreat

/- Wk: A symbolic run: rows of the call's own that grow by append. -/
namespace Go.Proofs.YtncmmbacoknefaaGreat
open Go Go.RowKit Sx
set_option linter.unusedVariables false
set_option linter.unusedSimpArgs false
namespace Sx
variable {C : Cx} {S : St} {K : St → Prop} {d : Option Nat}
def wK (e : TypeId) (s : Nat) (v : Value) (n : Nat) (xs : List Value) : KnG where
 bs := v.ownBlock.toList
 ok m W := W.ownsRow m e s v n xs
 lt := fun {m W} h b hb => h.lt b (by simpa using hb)
 keep := fun {m W W'} h hs hb ho => by
  refine ⟨h.1, ?_⟩
  rcases h.2 with hn | ⟨g, cap, cur, rfl, hbg, hg, hnc, hcm, hcs, htake⟩
  ·exact .inl hn
  ·exact .inr ⟨g, cap, cur, rfl, hbg, (hb g (by simp [Value.ownBlock])).trans hg, hnc, hcm, hcs, htake⟩
end Sx
end Go.Proofs.YtncmmbacoknefaaGreat

/- Ro: A symbolic run: calls that leave rows of the call's own. -/
namespace Go.Proofs.YtncmmbacoknefaaGreat
open Go Go.RowKit Sx
set_option linter.unusedVariables false
set_option linter.unusedSimpArgs false
namespace Sx
variable {C : Cx} {S : St} {K : St → Prop} {d : Option Nat}
theorem asks_row {f : FuncId} {l : List Value} {L : List Kn} {e : TypeId} {s : Nat} {ι : Type} (P : ι → Prop) (n : ι → Nat) (xs : ι → List Value) (ret : ι → Value → Value) (gs : List Nat) (L2 : List Kn)
  (he : ∀ (l : Array Value) W, (callFunc f l).run C.P W = .ok (.enter f l) W) (hT : S.T = kX C.w0.heap.size L) (hgs : ∀ g ∈ gs, g ∈ C.mv S) (hgo : ∀ W, (∀ k ∈ L, k.ok C.w0.heap.size W) → ∀ g ∈ gs, C.w0.heap.size ≤ g)
  (h : ∀ W, Below C.w0.heap.size C.w0 W → (∀ k ∈ L, k.ok C.w0.heap.size W) → Calls C.P f l.toArray W fun e' w' => ∃ i v, P i ∧ e' = .returned (ret i v) ∧ w'.ownsRow W.heap.size e s v (n i) (xs i) ∧ Moves gs W w' ∧ ∀ k ∈ L2, (k ∈ L ∧ ∀ b ∈ k.bs, b ∉ gs) ∨ (k.ok C.w0.heap.size w' ∧ ∀ b ∈ k.bs, b ∈ S.T.bs))
  (hk : ∀ i a cap, P i → n i ≤ cap → cap ≤ maxLen → (0 < n i → ∃ g, a = some ⟨g, 0, none⟩) → (∀ b ∈ (Value.slice a (n i) cap).ownBlock.toList, b ∉ S.T.bs) →
   K (St.put ⟨S.n, S.E, S.H, kX C.w0.heap.size (.g (wK e s (.slice a (n i) cap) (n i) (xs i)) :: L2)⟩ d (.v (ret i (.slice a (n i) cap))))) : asks C f l d K S := by
 refine asks_kn (ι := {x : ι × (Option Addr × Nat) // P x.1 ∧ n x.1 ≤ x.2.2 ∧ x.2.2 ≤ maxLen ∧ (0 < n x.1 → ∃ g, x.2.1 = some ⟨g, 0, none⟩) ∧ ∀ b ∈ (Value.slice x.2.1 (n x.1) x.2.2).ownBlock.toList, b ∉ S.T.bs}) (L := L) (gs := gs) (fun x => ret x.1.1 (.slice x.1.2.1 (n x.1.1) x.1.2.2)) (fun x => .g (wK e s (.slice x.1.2.1 (n x.1.1) x.1.2.2) (n x.1.1) (xs x.1.1)) :: L2) he hT hgs hgo (fun W hW hok => ?_) (fun x => hk _ _ _ x.2.1 x.2.2.1 x.2.2.2.1 x.2.2.2.2.1 x.2.2.2.2.2)
 refine (h W hW hok).mono fun e' w' ⟨i, v, hP, he', ho, hm, hL2⟩ => ?_
 obtain ⟨a, cap, rfl, h1, h2, h3, h4⟩ : ∃ a cap, v = .slice a (n i) cap ∧ n i ≤ cap ∧ cap ≤ maxLen ∧ (0 < n i → ∃ g, a = some ⟨g, 0, none⟩) ∧ ∀ b ∈ v.ownBlock.toList, W.heap.size ≤ b := by
  rcases ho.2 with ⟨rfl, h0⟩ | ⟨g, cap, cur, rfl, hbg, hg, hnc, hcm, -⟩
  ·exact ⟨none, 0, by rw [h0], by omega, Nat.zero_le _, fun h => by omega, fun b hb => by simp [Value.ownBlock] at hb⟩
  ·exact ⟨_, cap, rfl, hnc, hcm, fun _ => ⟨g, rfl⟩, fun b hb => by simp [Value.ownBlock] at hb; omega⟩
 refine ⟨⟨(i, a, cap), hP, h1, h2, h3, fun b hb hT2 => ?_⟩, he', hm, fun k hk => ?_⟩
 ·rw [hT] at hT2
  obtain ⟨k, hk, hbk⟩ := kX_bs.1 hT2
  have := ((hok k hk).lt b hbk).2
  have := h4 b hb
  omega
 ·rcases List.mem_cons.1 hk with rfl | hk
  ·exact .inr ⟨ho.mono hW.size, fun b hb => .inr (h4 b hb)⟩
  ·rcases hL2 k hk with h | ⟨h, hb⟩
   ·exact .inl h
   ·exact .inr ⟨h, fun b hbb => .inl (hb b hbb)⟩
theorem asks_rowB {f : FuncId} {l : List Value} {L : List Kn} {e : TypeId} {s : Nat} {ι : Type} (P : ι → Prop) (n : ι → Nat) (xs : ι → List Value) (ret : ι → Value → Value)
  (he : ∀ (l : Array Value) W, (callFunc f l).run C.P W = .ok (.enter f l) W) (hT : S.T = kX C.w0.heap.size L)
  (h : ∀ W, Below C.w0.heap.size C.w0 W → (∀ k ∈ L, k.ok C.w0.heap.size W) → Calls C.P f l.toArray W fun e' w' => ∃ i v, P i ∧ e' = .returned (ret i v) ∧ w'.ownsRow W.heap.size e s v (n i) (xs i) ∧ Below W.heap.size W w')
  (hk : ∀ i a cap, P i → n i ≤ cap → cap ≤ maxLen → (0 < n i → ∃ g, a = some ⟨g, 0, none⟩) → (∀ b ∈ (Value.slice a (n i) cap).ownBlock.toList, b ∉ S.T.bs) →
   K (St.put ⟨S.n, S.E, S.H, kX C.w0.heap.size (.g (wK e s (.slice a (n i) cap) (n i) (xs i)) :: L)⟩ d (.v (ret i (.slice a (n i) cap))))) : asks C f l d K S :=
 asks_row P n xs ret [] L he hT (fun g hg => by cases hg) (fun W hok g hg => by cases hg) (fun W hW hok => (h W hW hok).mono fun e' w' ⟨i, v, h1, h2, h3, h4⟩ => ⟨i, v, h1, h2, h3, ⟨h4.os, h4.tape, h4.output, h4.size, fun j hj _ => h4.block j hj⟩, fun k hk => .inl ⟨hk, fun b hb hg => by cases hg⟩⟩) hk
theorem asks_rowT {f : FuncId} {l : List Value} {L : List Kn} {e : TypeId} {s : Nat} {ι : Type} {k : KnG} {tb B Bm : Nat} (P : ι → Prop) (n : ι → Nat) (xs : ι → List Value) (ret : ι → Value → Value)
  (hkn : TpK k C.w0.heap.size tb B Bm) (he : ∀ (l : Array Value) W, (callFunc f l).run C.P W = .ok (.enter f l) W) (hT : S.T = kX C.w0.heap.size L) (hm : .g k ∈ L) (hin : tb ∈ k.bs) (hmv : C.mv S = S.T.bs) (hL : ∀ j ∈ L, j = .g k ∨ tb ∉ j.bs)
  (h : ∀ W, TapeOk B Bm W tb → Calls C.P f l.toArray W fun e' w' => ∃ i v, P i ∧ e' = .returned (ret i v) ∧ w'.ownsRow W.heap.size e s v (n i) (xs i) ∧ TapeOk B Bm w' tb ∧ W.grownBy w' (some tb))
  (hk : ∀ i a cap, P i → n i ≤ cap → cap ≤ maxLen → (0 < n i → ∃ g, a = some ⟨g, 0, none⟩) → (∀ b ∈ (Value.slice a (n i) cap).ownBlock.toList, b ∉ S.T.bs) →
   K (St.put ⟨S.n, S.E, S.H, kX C.w0.heap.size (.g (wK e s (.slice a (n i) cap) (n i) (xs i)) :: L)⟩ d (.v (ret i (.slice a (n i) cap))))) : asks C f l d K S := by
 refine asks_row P n xs ret [tb] L he hT (fun g hg => ?_) (fun W hok g hg => ?_) (fun W hW hok => (h W (hkn.tape (hok _ hm))).mono fun e' w' ⟨i, v, h1, h2, h3, h4, h5⟩ => ⟨i, v, h1, h2, h3, ⟨h5.os, h5.tape, h5.output, h5.size, fun j hj hn => h5.block j hj fun e => hn (by cases e; exact List.mem_singleton.2 rfl)⟩, fun j hj => ?_⟩) hk
 ·rw [List.mem_singleton.1 hg, hmv, hT]
  exact kX_bs.2 ⟨_, hm, hin⟩
 ·rw [List.mem_singleton.1 hg]
  exact hkn.ge (hok _ hm)
 ·rcases hL j hj with rfl | hne
  ·exact .inr ⟨hkn.go (hok _ hm) h4 h5, fun b hb => by rw [hT]; exact kX_bs.2 ⟨_, hm, hb⟩⟩
  ·exact .inl ⟨hj, fun b hb hg => hne (by rw [← List.mem_singleton.1 hg]; exact hb)⟩
theorem ldP_row {L : List Kn} {e : TypeId} {s g n cap o m : Nat} {b : Bool} {xs l : List Value} (hT : (C.kn S).T = kX C.w0.heap.size L) (hm : .g (wK e s (.slice (some ⟨g, 0, none⟩) n cap) n xs) ∈ L) (hl : l.length = m) (hs : ∀ j v, l[j]? = some v → xs[o + j]? = some v) (hk : K (S.put d (.v (mk b l)))) : ldP C b m ⟨g, o, none⟩ d K S :=
 ldP_ext l hl (fun W hW hok j v hj => by
  rw [hT] at hok
  have ho : W.ownsRow C.w0.heap.size e s (.slice (some ⟨g, 0, none⟩) n cap) n xs := hok _ hm
  have := ho.cells (g := g) rfl (o + j) v (hs j v hj)
  rw [Addr.add_lit, Nat.zero_add] at this
  rw [Addr.add_lit]
  exact this) hk
end Sx
end Go.Proofs.YtncmmbacoknefaaGreat

/- Rg: A symbolic run: rows of the call's own that grow, of whatever source; what is left of what is known. -/
namespace Go.Proofs.YtncmmbacoknefaaGreat
open Go Go.RowKit Sx
set_option linter.unusedVariables false
set_option linter.unusedSimpArgs false
structure ElT (P : Program) (t e : TypeId) (size bytes : Nat) : Prop where
 sl : P.underlying t = some (.slice e)
 el : ∃ i z, P.info? e = some i ∧ i.zero = some z ∧ i.size = size ∧ i.bytes = bytes ∧ z.cells.size = size
 pos : 0 < size
theorem elT {P : Program} {t e : TypeId} {z : Value} {size bytes : Nat} (h : P.underlying t = some (.slice e)) (h2 : (P.info? e).map (fun i => (i.zero, i.size, i.bytes)) = some (some z, size, bytes)) (h3 : z.cells.size = size) (h4 : 0 < size) : ElT P t e size bytes := by
 refine ⟨h, ?_, h4⟩
 cases hi : P.info? e with
 | none => rw [hi] at h2; cases h2
 | some i =>
  rw [hi] at h2
  have h2 := Option.some.inj h2
  exact ⟨i, z, rfl, congrArg (fun x => x.1) h2, congrArg (fun x => x.2.1) h2, congrArg (fun x => x.2.2) h2, h3⟩
theorem cell1_of_one {v : Value} (h : one v = true) : v.oneCell' = true := by
 cases v <;> first | rfl | cases h
theorem cells1_of_all {l : List Value} (h : all1 l = true) : ∀ u ∈ l, u.oneCell' = true := by
 induction l with
 | nil => intro u hu; cases hu
 | cons v l ih =>
  unfold all1 at h
  rw [Bool.and_eq_true] at h
  intro u hu
  rcases List.mem_cons.1 hu with rfl | hu
  ·exact cell1_of_one h.1
  ·exact ih h.2 u hu
theorem append_any {P : Program} {W : World} (base : Nat) {t ty e : TypeId} {size bytes : Nat} (hE : ElT P t e size bytes) (v : Value) (n : Nat) (xs : List Value) (hown : W.ownsRow base e size v n xs)
  (b so m c : Nat) (news : List Value) (hl : news.length = m * size) (hm : 0 < m) (hnews : ∀ (j : Nat) u, news[j]? = some u → W.cell? ⟨b, so + j, none⟩ = some u) (h1 : ∀ u ∈ news, u.oneCell' = true)
  (h63 : n + m ≤ maxLen) (hbytes : (n + m) * bytes ≤ 140737488355328) (hbase : base ≤ W.heap.size) :
  ∃ g cap w', (Builtin.append_ #[t, t] ty #[v, .slice (some ⟨b, so, none⟩) m c]).run P W = .ok (.slice (some ⟨g, 0, none⟩) (n + m) cap) w' ∧ w'.ownsRow base e size (.slice (some ⟨g, 0, none⟩) (n + m) cap) (n + m) (xs ++ news) ∧ W.grownBy w' v.ownBlock ∧ (v.ownBlock = some g ∨ W.heap.size ≤ g) := by
 obtain ⟨ht, ⟨i, z, hi, hz, hsize, hby, hzs⟩, hsz⟩ := hE
 have hadd : ∀ (j : Nat) u, news[j]? = some u → W.cell? ((⟨b, so, none⟩ : Addr).add j) = some u := fun j u hj => by
  rw [Addr.add_lit]
  exact hnews j u hj
 obtain ⟨v', w', hr, ho, hg, -⟩ := run_append_own (P := P) (w := W) base t ty e i z size bytes ht hi hz hsize hby hzs hsz v n xs hown ⟨b, so, none⟩ m c news hl hadd h1 h63 hbytes hbase
 have key : ∃ g cap, v' = .slice (some ⟨g, 0, none⟩) (n + m) cap ∧ (v.ownBlock = some g ∨ W.heap.size ≤ g) := by
  subst hsize; subst hby
  rcases hown.2 with ⟨rfl, rfl⟩ | ⟨g, cap, cur, rfl, hbg, hg2, hnc, hcm, hcs, htake⟩
  ·have := run_append_nil (P := P) W t ty e i z ht hi hz ⟨b, so, none⟩ m c news hl hadd hm (by simp only [maxLen] at h63; omega) (by rw [Nat.zero_add] at hbytes; omega)
   rw [hr] at this
   cases this
   exact ⟨_, _, by rw [Nat.zero_add], .inr (Nat.le_refl _)⟩
  ·by_cases hroom : n + m ≤ cap
   ·have hfit : n * i.size + news.length ≤ cur.size := by rw [hl, hcs, ← Nat.add_mul]; exact Nat.mul_le_mul_right _ hroom
    have := run_append_room (P := P) W t ty e i ht hi g n cap cur hg2 ⟨b, so, none⟩ m c news hl hadd h1 hroom hfit
    rw [hr] at this
    cases this
    exact ⟨_, _, rfl, .inl rfl⟩
   ·have holds : ∀ j u, xs[j]? = some u → W.cell? ((⟨g, 0, none⟩ : Addr).add j) = some u := hown.cells (g := g) rfl
    have := run_append_grow (P := P) W t ty e i z ht hi hz ⟨g, 0, none⟩ n cap xs hown.1 holds ⟨b, so, none⟩ m c news hl hadd (by omega) (by simp only [maxLen] at h63; omega) (growslice_fits (by omega) hbytes)
    rw [hr] at this
    cases this
    exact ⟨_, _, rfl, .inr (Nat.le_refl _)⟩
 obtain ⟨g, cap, rfl, hgg⟩ := key
 exact ⟨g, cap, w', hr, ho, hg, hgg⟩
theorem row_caps {W : World} {base n g cap size : Nat} {e : TypeId} {xs : List Value} (h : W.ownsRow base e size (.slice (some ⟨g, 0, none⟩) n cap) n xs) : n ≤ cap ∧ cap ≤ maxLen := by
 rcases h.2 with ⟨h, _⟩ | ⟨g', cap', cur, h, _, _, hnc, hcm, _⟩
 ·cases h
 ·cases h
  exact ⟨hnc, hcm⟩
namespace Sx
variable {C : Cx} {S : St} {K : St → Prop} {d : Option Nat}
def rowOf (L : List Kn) (e : TypeId) (size : Nat) (v : Value) (n : Nat) (xs : List Value) : Prop := (v = .slice none 0 0 ∧ n = 0 ∧ xs = []) ∨ .g (wK e size v n xs) ∈ L
theorem rowOf.own {L : List Kn} {e : TypeId} {size n base : Nat} {v : Value} {xs : List Value} {W : World} (h : rowOf L e size v n xs) (hok : ∀ k ∈ L, k.ok base W) : W.ownsRow base e size v n xs := by
 rcases h with ⟨rfl, rfl, rfl⟩ | h
 ·exact World.ownsRow_nil _ _ _ _
 ·exact hok _ h
theorem rowOf.blk {L : List Kn} {e : TypeId} {size n g : Nat} {v : Value} {xs : List Value} (h : rowOf L e size v n xs) (hg : v.ownBlock = some g) : ∃ k ∈ L, g ∈ k.bs := by
 rcases h with ⟨rfl, rfl, rfl⟩ | h
 ·cases hg
 ·exact ⟨_, h, by show g ∈ v.ownBlock.toList; rw [hg]; exact List.mem_singleton.2 rfl⟩
theorem genA_app {P : Program} (hP : C.P = P) {L : List Kn} (R : List Kn) {t e : TypeId} {size bytes : Nat} (hE : ElT P t e size bytes) {v : Value} {n : Nat} {xs : List Value} {sb so m c : Nat} {news : List Value} {cs : List Bool}
  (hT : S.T = kX C.w0.heap.size L) (hv : rowOf L e size v n xs) (hmv : (∀ x ∈ S.T.bs, x ∈ C.mv S) ∨ ∀ g, v.ownBlock = some g → g ∈ C.mv S)
  (hsrc : ∀ W, Below C.w0.heap.size C.w0 W → (∀ k ∈ L, k.ok C.w0.heap.size W) → ∀ (j : Nat) u, news[j]? = some u → W.cell? ⟨sb, so + j, none⟩ = some u) (hl : news.length = m * size) (hm0 : 0 < m) (h1 : all1 news = true) (h63 : n + m ≤ maxLen) (hbytes : (n + m) * bytes ≤ 140737488355328)
  (hR : ∀ k ∈ R, k ∈ L ∧ ∀ x ∈ k.bs, v.ownBlock ≠ some x)
  (hk : ∀ g cap, n + m ≤ cap → cap ≤ maxLen → C.w0.heap.size ≤ g → (∀ k ∈ R, g ∉ k.bs) → K (St.put ⟨S.n, S.E, S.H, kX C.w0.heap.size (.g (wK e size (.slice (some ⟨g, 0, none⟩) (n + m) cap) (n + m) (xs ++ news)) :: R)⟩ d (.v (.slice (some ⟨g, 0, none⟩) (n + m) cap)))) : genA C (.bi .append [t, t] t cs) [v, .slice (some ⟨sb, so, none⟩) m c] d K S := by
 subst hP
 refine genA_T (ι := {x : Nat × Nat // n + m ≤ x.2 ∧ x.2 ≤ maxLen ∧ C.w0.heap.size ≤ x.1 ∧ ∀ k ∈ R, x.1 ∉ k.bs}) (fun x => .slice (some ⟨x.1.1, 0, none⟩) (n + m) x.1.2) (fun x => kX C.w0.heap.size (.g (wK e size (.slice (some ⟨x.1.1, 0, none⟩) (n + m) x.1.2) (n + m) (xs ++ news)) :: R)) (fun W hW hok hbs => ⟨?_⟩) (fun x => hk _ _ x.2.1 x.2.2.1 x.2.2.2.1 x.2.2.2.2)
 rw [hT] at hok
 obtain ⟨g, cap, w', hr, ho, hg, hgg⟩ := append_any (P := C.P) (ty := t) C.w0.heap.size hE v n xs (hv.own hok) sb so m c news hl hm0 (hsrc W hW hok) (cells1_of_all h1) h63 hbytes hW.size
 have hr' : (genRun (.bi .append [t, t] t cs) [v, .slice (some ⟨sb, so, none⟩) m c]).run C.P W = .ok (.value (.slice (some ⟨g, 0, none⟩) (n + m) cap)) w' := by
  show (do let x ← Builtin.append_ #[t, t] t #[v, .slice (some ⟨sb, so, none⟩) m c]; pure (Next.value x)).run C.P W = _
  rw [run_bind_ok hr]; rfl
 rw [hr']
 have hmem : ∀ g, v.ownBlock = some g → g ∈ S.T.bs := fun g hg => by
  obtain ⟨k, hk, hx⟩ := hv.blk hg
  rw [hT]
  exact kX_bs.2 ⟨k, hk, hx⟩
 refine ⟨⟨(g, cap), (row_caps ho).1, (row_caps ho).2, (ho.lt g rfl).1, fun k hk hgk => ?_⟩, rfl, ⟨hg.os, hg.tape, hg.output, hg.size, fun j hj hn => hg.block j hj fun e => hn (hmv.elim (fun h => h _ (hmem j e.symm)) fun h => h _ e.symm)⟩, ?_, kX_stab C _, ?_⟩
 ·obtain ⟨hkL, hkb⟩ := hR k hk
  rcases hgg with h | h
  ·exact hkb g hgk h
  ·have := ((hok k hkL).lt g hgk).2
   omega
 ·intro k hk
  rcases List.mem_cons.1 hk with rfl | hk
  ·exact ho
  ·obtain ⟨hkL, hb⟩ := hR k hk
   exact (hok k hkL).keep hg.size (fun b hbb => hg.block b ((hok k hkL).lt b hbb).2 fun e => hb b hbb e.symm) fun b hbn hbl => hg.block b hbl fun e => by have := (hbs b (hmem b e.symm)).1; omega
 ·intro x hx
  obtain ⟨k, hk, hx⟩ := kX_bs.1 hx
  rcases List.mem_cons.1 hk with rfl | hk
  ·have hxg : x = g := by
    have : x ∈ [g] := hx
    simpa using this
   subst hxg
   refine ⟨hgg.elim (fun e => .inl (hmem x e)) .inr, ?_⟩
   exact (ho.lt x rfl).2
  ·obtain ⟨hkL, hb⟩ := hR k hk
   exact ⟨.inl (by rw [hT]; exact kX_bs.2 ⟨k, hkL, hx⟩), Nat.lt_of_lt_of_le ((hok k hkL).lt x hx).2 hg.size⟩
theorem genA_lit {P : Program} (hP : C.P = P) {L : List Kn} (R : List Kn) {t e : TypeId} {size bytes : Nat} (hE : ElT P t e size bytes) {v : Value} {n : Nat} {xs : List Value} {b m c : Nat} {news : List Value} {cs : List Bool}
  (hT : S.T = kX C.w0.heap.size L) (hv : rowOf L e size v n xs) (hmv : (∀ x ∈ S.T.bs, x ∈ C.mv S) ∨ ∀ g, v.ownBlock = some g → g ∈ C.mv S)
  (hm : .g (cK b news) ∈ L) (hl : news.length = m * size) (hm0 : 0 < m) (h1 : all1 news = true) (h63 : n + m ≤ maxLen) (hbytes : (n + m) * bytes ≤ 140737488355328)
  (hR : ∀ k ∈ R, k ∈ L ∧ ∀ x ∈ k.bs, v.ownBlock ≠ some x)
  (hk : ∀ g cap, n + m ≤ cap → cap ≤ maxLen → C.w0.heap.size ≤ g → (∀ k ∈ R, g ∉ k.bs) → K (St.put ⟨S.n, S.E, S.H, kX C.w0.heap.size (.g (wK e size (.slice (some ⟨g, 0, none⟩) (n + m) cap) (n + m) (xs ++ news)) :: R)⟩ d (.v (.slice (some ⟨g, 0, none⟩) (n + m) cap)))) : genA C (.bi .append [t, t] t cs) [v, .slice (some ⟨b, 0, none⟩) m c] d K S :=
 genA_app hP R hE hT hv hmv (fun W hW hok j u hj => by
  have hc : (cK b news).ok C.w0.heap.size W := hok _ hm
  have := cK_cell hc hj
  rwa [Nat.zero_add]) hl hm0 h1 h63 hbytes hR hk
theorem extS_of {C : Cx} {L L' : List Kn} (h : ∀ k ∈ L', k ∈ L ∨ (k.bs = [] ∧ ∀ W, k.ok C.w0.heap.size W)) : extS C (kX C.w0.heap.size L) (kX C.w0.heap.size L') := by
 refine .inr ⟨kX_stab C L', fun W hW k hk => ?_, fun b hb => ?_⟩
 ·rcases h k hk with h | ⟨-, h⟩
  ·exact hW k h
  ·exact h W
 ·obtain ⟨k, hk, hb⟩ := kX_bs.1 hb
  rcases h k hk with h | ⟨h, -⟩
  ·exact kX_bs.2 ⟨k, h, hb⟩
  ·rw [h] at hb; cases hb
theorem wK_nil (e : TypeId) (s n : Nat) (W : World) : (Kn.g (wK e s (.slice none 0 0) 0 [])).ok n W := World.ownsRow_nil _ _ _ _
end Sx
end Go.Proofs.YtncmmbacoknefaaGreat

/- Eb: A symbolic run: functions that are given blocks of the caller's and change them. -/
namespace Go.Proofs.YtncmmbacoknefaaGreat
open Go Go.RowKit Sx
set_option linter.unusedVariables false
set_option linter.unusedSimpArgs false
namespace Sx
def xW (w : World) (n : Nat) (ex : List Nat) : KnG where
 bs := (List.range' n (w.heap.size - n)).filter fun i => !ex.contains i
 ok m W := m = n ∧ n ≤ w.heap.size ∧ w.heap.size ≤ W.heap.size ∧ ∀ i, i < w.heap.size → i ∉ ex → W.heap[i]? = w.heap[i]?
 lt := fun {m W} h b hb => by
  obtain ⟨h0, h1, h2, -⟩ := h
  rw [List.mem_filter, List.mem_range'] at hb
  obtain ⟨⟨i, hi, rfl⟩, -⟩ := hb
  omega
 keep := fun {m W W'} h hs hb ho => by
  obtain ⟨h0, hn, hsz, hg⟩ := h
  refine ⟨h0, hn, Nat.le_trans hsz hs, fun i hi hx => ?_⟩
  rcases Nat.lt_or_ge i n with h | h
  ·exact (ho i (by omega) (by omega)).trans (hg i hi hx)
  ·refine (hb i ?_).trans (hg i hi hx)
   rw [List.mem_filter, List.mem_range']
   exact ⟨⟨i - n, by omega, by omega⟩, by simpa using hx⟩
theorem xW_bs {w : World} {n g : Nat} {ex : List Nat} : g ∈ (Kn.g (xW w n ex)).bs ↔ (n ≤ g ∧ g < w.heap.size) ∧ g ∉ ex := by
 show g ∈ (List.range' n (w.heap.size - n)).filter _ ↔ _
 rw [List.mem_filter, List.mem_range']
 constructor
 ·rintro ⟨⟨i, hi, rfl⟩, h⟩
  exact ⟨by omega, by simpa using h⟩
 ·rintro ⟨h, h2⟩
  exact ⟨⟨g - n, by omega, by omega⟩, by simpa using h2⟩
theorem wK_bs {e : TypeId} {s n g : Nat} {v : Value} {xs : List Value} : g ∈ (Kn.g (wK e s v n xs)).bs ↔ v.ownBlock = some g := by
 show g ∈ v.ownBlock.toList ↔ _
 simp
theorem cK_bs {b g : Nat} {cs : List Value} : g ∈ (Kn.g (cK b cs)).bs ↔ g = b := by
 show g ∈ [b] ↔ _
 simp
theorem enterB {P : Program} {f : FuncId} {fn : Func} {ann : Ann} {N : Nat} {mc : MC} {rs : Res} {args : List Value} {w : World} {n0 : Nat} {L : List Kn} {ex : List Nat} {ι : Type} (Pi : ι → Prop) (v : ι → Value) (L' : ι → List Kn)
  (hf : P.funcs[f]? = some fn) (hc : compF P fn ann = some (N, mc, rs)) (hn : args.length ≤ N) (hle : n0 ≤ w.heap.size) (hok : ∀ k ∈ L, k.ok n0 w) (hm' : ∀ i, .g (xW w n0 ex) ∈ L' i)
  (h : X (cx P (cut w n0) N) mc (retK (finT rs (fun u Y => ∃ i, Pi i ∧ u = v i ∧ Y = kX (cut w n0).heap.size (L' i)))) ⟨0, initE args 0, [], kX (cut w n0).heap.size L⟩) :
  Calls P f args.toArray w fun e w' => ∃ i, Pi i ∧ e = .returned (v i) ∧ (∀ k ∈ L' i, k.ok n0 w') ∧ Moves ex w w' := by
 have hcs := cut_size hle
 have h0 : (kX (cut w n0).heap.size L).ok w := fun k hk => by rw [hcs]; exact hok k hk
 refine (enterG hf hc hn (below_cut hle) h0 (kX_stab (Sx.cx _ (cut w n0) _) _) (fun b hb => kX_lt h0 b hb) h).mono ?_
 rintro e w' ⟨u, Y, rfl, ⟨i, hPi, rfl, rfl⟩, hY, hbl, -⟩
 have hk : (xW w n0 ex).ok (cut w n0).heap.size w' := hY _ (hm' i)
 refine ⟨i, hPi, rfl, fun k hk => by rw [← hcs]; exact hY k hk, ⟨hbl.os, hbl.tape, hbl.output, hk.2.2.1, fun j hj hx => hk.2.2.2 j hj hx⟩⟩
theorem xW_start {w : World} {n0 : Nat} {ex : List Nat} (hle : n0 ≤ w.heap.size) : (Kn.g (xW w n0 ex)).ok n0 w := ⟨rfl, hle, Nat.le_refl _, fun _ _ _ => rfl⟩
variable {C : Cx} {S : St} {K : St → Prop} {d : Option Nat}
theorem asks_ob {f : FuncId} {l : List Value} {L : List Kn} (R : List Kn) {ι : Type} (Pi : ι → Prop) (u : ι → Value) (b : Nat) (cs : List Value) (cs' : ι → Value → List Value) {e : TypeId} {s : Nat} (v : Value) (n : Nat) (xs : List Value) (n' : ι → Nat) (xs' : ι → List Value)
  (he : ∀ (l : Array Value) W, (callFunc f l).run C.P W = .ok (.enter f l) W) (hT : S.T = kX C.w0.heap.size L) (hm : .g (cK b cs) ∈ L) (hv : rowOf L e s v n xs) (hmv : ∀ x ∈ S.T.bs, x ∈ C.mv S)
  (hR : ∀ k ∈ R, k ∈ L ∧ b ∉ k.bs ∧ ∀ x ∈ k.bs, v.ownBlock ≠ some x)
  (h : ∀ W, Below C.w0.heap.size C.w0 W → C.w0.heap.size ≤ b → HB W b cs.toArray → W.ownsRow C.w0.heap.size e s v n xs → Calls C.P f l.toArray W fun e' w' => ∃ i v', Pi i ∧ e' = .returned (u i) ∧ HB w' b (cs' i v').toArray ∧ w'.ownsRow C.w0.heap.size e s v' (n' i) (xs' i) ∧ Moves (b :: v.ownBlock.toList) W w' ∧ v'.ownBlock ≠ some b ∧ ∀ g, v'.ownBlock = some g → v.ownBlock = some g ∨ W.heap.size ≤ g)
  (hk : ∀ i v', Pi i → v'.ownBlock ≠ some b → (∃ a cap, v' = .slice a (n' i) cap ∧ n' i ≤ cap ∧ cap ≤ maxLen ∧ (0 < n' i → ∃ g, a = some ⟨g, 0, none⟩)) → (∀ k ∈ R, ∀ x ∈ k.bs, v'.ownBlock ≠ some x) → (∀ g, v'.ownBlock = some g → C.w0.heap.size ≤ g) →
   K (St.put ⟨S.n, S.E, S.H, kX C.w0.heap.size (.g (cK b (cs' i v')) :: .g (wK e s v' (n' i) (xs' i)) :: R)⟩ d (.v (u i)))) : asks C f l d K S := by
 refine asks_kn (ι := {x : ι × Value // Pi x.1 ∧ x.2.ownBlock ≠ some b ∧ (∃ a cap, x.2 = .slice a (n' x.1) cap ∧ n' x.1 ≤ cap ∧ cap ≤ maxLen ∧ (0 < n' x.1 → ∃ g, a = some ⟨g, 0, none⟩)) ∧ (∀ k ∈ R, ∀ y ∈ k.bs, x.2.ownBlock ≠ some y) ∧ ∀ g, x.2.ownBlock = some g → C.w0.heap.size ≤ g}) (L := L) (gs := b :: v.ownBlock.toList) (fun x => u x.1.1) (fun x => .g (cK b (cs' x.1.1 x.1.2)) :: .g (wK e s x.1.2 (n' x.1.1) (xs' x.1.1)) :: R) he hT (fun g hg => ?_) (fun W hok g hg => ?_) (fun W hW hok => ?_) (fun x => hk _ _ x.2.1 x.2.2.1 x.2.2.2.1 x.2.2.2.2.1 x.2.2.2.2.2)
 ·refine hmv g ?_
  rw [hT]
  rcases List.mem_cons.1 hg with rfl | hg
  ·exact kX_bs.2 ⟨_, hm, cK_bs.2 rfl⟩
  ·obtain ⟨k, hk, hx⟩ := hv.blk (g := g) (by simpa using hg)
   exact kX_bs.2 ⟨k, hk, hx⟩
 ·rcases List.mem_cons.1 hg with rfl | hg
  ·exact (hok _ hm).1
  ·obtain ⟨k, hk, hx⟩ := hv.blk (g := g) (by simpa using hg)
   exact ((hok k hk).lt g hx).1
 ·have hcb : (cK b cs).ok C.w0.heap.size W := hok _ hm
  refine (h W hW hcb.1 hcb.2 (hv.own hok)).mono fun e' w' ⟨i, v', hP, he', hb', ho, hmvs, hnb, hgg⟩ => ?_
  have hsh : ∃ a cap, v' = .slice a (n' i) cap ∧ n' i ≤ cap ∧ cap ≤ maxLen ∧ (0 < n' i → ∃ g, a = some ⟨g, 0, none⟩) := by
   rcases ho.2 with ⟨rfl, h0⟩ | ⟨g, cap, cur, rfl, hbg, hg, hnc, hcm, -⟩
   ·exact ⟨none, 0, by rw [h0], by omega, Nat.zero_le _, fun h => by omega⟩
   ·exact ⟨_, cap, rfl, hnc, hcm, fun _ => ⟨g, rfl⟩⟩
  have hRb : ∀ k ∈ R, ∀ x ∈ k.bs, v'.ownBlock ≠ some x := fun k hk x hx hvx => by
   obtain ⟨hkL, -, hkv⟩ := hR k hk
   rcases hgg x hvx with h | h
   ·exact hkv x hx h
   ·have := ((hok k hkL).lt x hx).2
    omega
  refine ⟨⟨(i, v'), hP, hnb, hsh, hRb, fun g hg => (ho.lt g hg).1⟩, he', hmvs, fun k hk => ?_⟩
  rcases List.mem_cons.1 hk with rfl | hk
  ·refine .inr ⟨⟨hcb.1, hb'⟩, fun x hx => .inl ?_⟩
   rw [cK_bs.1 hx, hT]
   exact kX_bs.2 ⟨_, hm, cK_bs.2 rfl⟩
  rcases List.mem_cons.1 hk with rfl | hk
  ·refine .inr ⟨ho, fun x hx => ?_⟩
   rcases hgg x (wK_bs.1 hx) with h | h
   ·obtain ⟨k, hk, hx⟩ := hv.blk h
    rw [hT]
    exact .inl (kX_bs.2 ⟨k, hk, hx⟩)
   ·exact .inr h
  ·obtain ⟨hkL, hkb, hkv⟩ := hR k hk
   refine .inl ⟨hkL, fun x hx hg => ?_⟩
   rcases List.mem_cons.1 hg with rfl | hg
   ·exact hkb hx
   ·exact hkv x hx (by simpa using hg)
theorem x_cSl (a : Option Addr) (l c : Nat) : cellsO false (some (.v (.slice a l c))) = some [.slice a l c] := rfl
theorem x_stq (a : Addr) (m : Nat) (vs : List Value) : stX C (m + 2) (some (.v (.pointer (some a)))) (some vs) K S = (lenB vs (m + 2) = true ∧ stL C a vs K S) := rfl
theorem ldP_blk (b : Nat) {t : Bool} {m o : Nat} (h : ldP C t m ⟨b, o, none⟩ d K S) : ldP C t m ⟨b, o, none⟩ d K S := h
theorem stP_blk (b : Nat) {o : Nat} {v : Value} (h : stP C ⟨b, o, none⟩ v K S) : stP C ⟨b, o, none⟩ v K S := h
theorem stL_blk (b : Nat) {o : Nat} {vs : List Value} (h : stL C ⟨b, o, none⟩ vs K S) : stL C ⟨b, o, none⟩ vs K S := h
theorem stL_c {L R : List Kn} {b o : Nat} {cs cs' vs : List Value} (hT : S.T = kX C.w0.heap.size L) (hm : .g (cK b cs) ∈ L) (hR : ∀ k ∈ R, k ∈ L ∧ b ∉ k.bs) (ho : ovrO cs o vs = some cs') (h1 : all1 vs = true)
  (hk : K ⟨S.n, S.E, S.H, kX C.w0.heap.size (.g (cK b cs') :: R)⟩) : stL C ⟨b, o, none⟩ vs K S := by
 refine ⟨kX C.w0.heap.size (.g (cK b cs') :: R), fun A W hW => ?_, kX_stab C _, fun c hc => ?_, hk⟩
 ·have hok := hW.tk
  rw [hT] at hok
  have hc : (cK b cs).ok C.w0.heap.size W := hok _ hm
  obtain ⟨W', e, hmv, hz, hB⟩ := run_storeK (P := C.P) (i := 0) hc.2 ho h1
  refine ⟨by rw [hT]; exact kX_bs.2 ⟨_, hm, List.mem_singleton.2 rfl⟩, W', e, hmv, fun k hk => ?_⟩
  rcases List.mem_cons.1 hk with rfl | hk
  ·exact ⟨hc.1, hB⟩
  ·obtain ⟨hkL, hkb⟩ := hR k hk
   exact (hok k hkL).keep hmv.2.2.2.1 (fun c hcc => hmv.2.2.2.2 c ((hok k hkL).lt c hcc).2 fun e => hkb (by rw [← List.mem_singleton.1 e]; exact hcc)) fun c hcn hcl => hmv.2.2.2.2 c hcl fun e => by
    have h0 := hc.1
    rw [List.mem_singleton.1 e] at hcn
    omega
 ·rw [hT]
  obtain ⟨k, hk, hc⟩ := kX_bs.1 hc
  rcases List.mem_cons.1 hk with rfl | hk
  ·exact kX_bs.2 ⟨_, hm, hc⟩
  ·exact kX_bs.2 ⟨k, (hR k hk).1, hc⟩
theorem stP_c {L R : List Kn} {b o : Nat} {cs cs' : List Value} {v : Value} (hT : S.T = kX C.w0.heap.size L) (hm : .g (cK b cs) ∈ L) (hR : ∀ k ∈ R, k ∈ L ∧ b ∉ k.bs) (ho : ovrO cs o [v] = some cs') (h1 : one v = true)
  (hk : K ⟨S.n, S.E, S.H, kX C.w0.heap.size (.g (cK b cs') :: R)⟩) : stP C ⟨b, o, none⟩ v K S := by
 refine stP_is (kX C.w0.heap.size (.g (cK b cs') :: R)) (fun W hW hok => ?_) (kX_stab C _) (fun c hc => ?_) h1 hk
 ·rw [hT] at hok
  have hc : (cK b cs).ok C.w0.heap.size W := hok _ hm
  obtain ⟨o1, o2⟩ := ovrO_cons ho
  have e := ovrO_nil o2
  have hB := Bx.of hc.2
  refine ⟨by rw [hT]; exact kX_bs.2 ⟨_, hm, List.mem_singleton.2 rfl⟩, ⟨cs[o], by rw [hB.2.1, List.getElem?_toArray, List.getElem?_eq_getElem o1]⟩, hB.2.2.1 _, fun k hk => ?_⟩
  rcases List.mem_cons.1 hk with rfl | hk
  ·refine ⟨hc.1, ?_⟩
   rw [e]
   exact hc.2.set (by simp)
  ·obtain ⟨hkL, hkb⟩ := hR k hk
   exact (hok k hkL).keep (by rw [World.size_setCell]; exact Nat.le_refl _) (fun c hcc => Below.heap_setCell W _ _ c fun e => hkb (by rw [← show c = b from e]; exact hcc)) fun c hcn hcl => Below.heap_setCell W _ _ c fun e => by
    have h0 := hc.1
    rw [show c = b from e] at hcn
    omega
 ·rw [hT]
  obtain ⟨k, hk, hc⟩ := kX_bs.1 hc
  rcases List.mem_cons.1 hk with rfl | hk
  ·exact kX_bs.2 ⟨_, hm, hc⟩
  ·exact kX_bs.2 ⟨k, (hR k hk).1, hc⟩
theorem asks_bl {f : FuncId} {l : List Value} {L : List Kn} (R : List Kn) {ι : Type} (Pi : ι → Prop) (u : ι → Value) (b : Nat) (cs : List Value) (cs' : ι → List Value)
  (he : ∀ (l : Array Value) W, (callFunc f l).run C.P W = .ok (.enter f l) W) (hT : S.T = kX C.w0.heap.size L) (hm : .g (cK b cs) ∈ L) (hmv : ∀ x ∈ S.T.bs, x ∈ C.mv S)
  (hR : ∀ k ∈ R, k ∈ L ∧ b ∉ k.bs)
  (h : ∀ W, Below C.w0.heap.size C.w0 W → C.w0.heap.size ≤ b → HB W b cs.toArray → Calls C.P f l.toArray W fun e' w' => ∃ i, Pi i ∧ e' = .returned (u i) ∧ HB w' b (cs' i).toArray ∧ Moves [b] W w')
  (hk : ∀ i, Pi i → K (St.put ⟨S.n, S.E, S.H, kX C.w0.heap.size (.g (cK b (cs' i)) :: R)⟩ d (.v (u i)))) : asks C f l d K S := by
 refine asks_kn (ι := {i // Pi i}) (L := L) (gs := [b]) (fun x => u x.1) (fun x => .g (cK b (cs' x.1)) :: R) he hT (fun g hg => ?_) (fun W hok g hg => ?_) (fun W hW hok => ?_) (fun x => hk _ x.2)
 ·refine hmv g ?_
  rw [hT, List.mem_singleton.1 hg]
  exact kX_bs.2 ⟨_, hm, cK_bs.2 rfl⟩
 ·rw [List.mem_singleton.1 hg]
  exact (hok _ hm).1
 ·have hcb : (cK b cs).ok C.w0.heap.size W := hok _ hm
  refine (h W hW hcb.1 hcb.2).mono fun e' w' ⟨i, hP, he', hb', hmvs⟩ => ⟨⟨i, hP⟩, he', hmvs, fun k hk => ?_⟩
  rcases List.mem_cons.1 hk with rfl | hk
  ·refine .inr ⟨⟨hcb.1, hb'⟩, fun x hx => .inl ?_⟩
   rw [cK_bs.1 hx, hT]
   exact kX_bs.2 ⟨_, hm, cK_bs.2 rfl⟩
  ·obtain ⟨hkL, hkb⟩ := hR k hk
   refine .inl ⟨hkL, fun x hx hg => hkb ?_⟩
   rw [← List.mem_singleton.1 hg]
   exact hx
theorem cregI {nb : Bool} {hs tl : List G} {p : St → Prop} {L : List Kn} (F : List Kn) (rows : List Nat) (hT : S.T = kX C.w0.heap.size L) (hF : ∀ k ∈ F, k ∈ L ∧ ∀ b ∈ k.bs, b ∉ rows) (hr : ∀ b ∈ rows, ∃ k ∈ L, b ∈ k.bs)
  (h : Sx.ops (C.fo (kX C.w0.heap.size F) rows) hs (chk nb S.T.bs (Sx.ops C tl p)) S) : cregX C false nb hs tl p S := by
 refine ⟨kX C.w0.heap.size F, rows, ⟨fun b hb => ?_, fun W hW k hk => ?_, kX_stab C F, fun b hb => ?_⟩, h⟩
 ·rw [hT]
  exact kX_bs.2 (hr b hb)
 ·rw [hT] at hW
  exact hW k (hF k hk).1
 ·obtain ⟨k, hk, hb⟩ := kX_bs.1 hb
  exact ⟨by rw [hT]; exact kX_bs.2 ⟨k, (hF k hk).1, hb⟩, (hF k hk).2 b hb⟩
end Sx
end Go.Proofs.YtncmmbacoknefaaGreat

/- CdY: MADE BY PROGRAM (sxgen.py): the small code of some functions, points of it and their equations. -/
namespace Go.Proofs.YtncmmbacoknefaaGreat
open Go Go.RowKit Sx
set_option linter.unusedVariables false
variable (C : Cx) (R L1 L2 L3 L4 : St → Prop)
namespace r02_DivMod
def r0 : List G := [(some 2, none, .box true 5 (.tmp 0)), (some 3, none, .box true 5 (.tmp 1)), (some 4, none, .new zW), (some 5, none, .new zW), (some 6, none, .mv (.const (.bool false)))]
def r1 : List G := [(some 9, none, .ld true 5 (.tmp 2)), (some 10, none, .call true 109 [.tmp 9]), (some 11, none, .ld true 5 (.tmp 3)), (some 12, none, .call true 109 [.tmp 11])]
def t1 : List G := [(none, none, .st true 5 (.tmp 2) (.tmp 10)), (none, none, .st true 5 (.tmp 3) (.tmp 12))]
def r2 : List G := [(some 13, none, .ld true 5 (.tmp 3)), (some 14, none, .call false 104 [.tmp 13]), (some 15, none, .bin .eql (.tmp 14) (.const (.int .i64 0)))]
def r3 : List G := [(some 16, none, .bd zW []), (some 17, none, .bd zW []), (none, none, .st true 5 (.tmp 4) (.tmp 16)), (none, none, .st true 5 (.tmp 5) (.tmp 17)), (some 6, none, .mv (.const (.bool false)))]
def r4 : List G := [(some 19, none, .ld true 5 (.tmp 2)), (some 21, none, .ld true 5 (.tmp 3)), (some 20, none, .call false 110 [.tmp 19]), (some 22, none, .call false 110 [.tmp 21]), (some 23, none, .call false 157 [.tmp 20, .tmp 22]), (some 18, none, .mv (.tmp 23)), (some 24, none, .ex (.tmp 18) 0), (some 25, none, .ex (.tmp 18) 1)]
def t4 : List G := [(some 7, none, .mv (.tmp 24)), (some 8, none, .mv (.tmp 25))]
def r5 : List G := [(some 26, none, .fa 0 (.tmp 2)), (some 27, none, .ld false 1 (.tmp 26)), (some 28, none, .mv (.tmp 27)), (some 29, some (28, true), .mv (.tmp 8)), (some 30, some (28, true), .len false (.tmp 29)), (some 31, some (28, true), .bin .gtr (.tmp 30) (.const (.int .i64 0))), (some 32, none, .pick (.tmp 28) (.tmp 31) (.const (.bool false)))]
def r6 : List G := [(some 33, none, .mv (.tmp 7)), (some 36, none, .ld true 5 (.tmp 3)), (some 38, none, .mv (.tmp 8)), (some 34, none, .gen false (.bsl 162 1 [0]) [.const (.int .u64 1)]), (some 35, none, .call false 112 [.tmp 33, .tmp 34]), (some 37, none, .call false 110 [.tmp 36]), (some 39, none, .call false 114 [.tmp 37, .tmp 38])]
def t6 : List G := [(some 7, none, .mv (.tmp 35)), (some 8, none, .mv (.tmp 39))]
def r7 : List G := [(some 41, none, .fa 0 (.tmp 2)), (some 42, none, .ld false 1 (.tmp 41)), (some 43, none, .fa 0 (.tmp 3)), (some 44, none, .ld false 1 (.tmp 43)), (some 45, none, .bq true (.tmp 42) (.tmp 44)), (some 46, none, .mv (.tmp 7)), (some 47, none, .call false 111 [.tmp 45, .tmp 46]), (some 40, none, .mv (.tmp 47)), (some 48, none, .ex (.tmp 40) 0), (some 49, none, .ex (.tmp 40) 1), (none, none, .st true 5 (.tmp 4) (.tmp 48)), (some 6, none, .mv (.tmp 49))]
def r8 : List G := [(some 50, none, .mv (.tmp 6)), (some 51, none, .un .not (.tmp 50))]
def r9 : List G := [(some 52, none, .bd zW []), (some 53, none, .bd zW []), (none, none, .st true 5 (.tmp 4) (.tmp 52)), (none, none, .st true 5 (.tmp 5) (.tmp 53)), (some 6, none, .mv (.const (.bool false)))]
def r10 : List G := [(some 55, none, .mv (.tmp 8)), (some 56, none, .call false 111 [.const (.bool false), .tmp 55]), (some 54, none, .mv (.tmp 56)), (some 57, none, .ex (.tmp 54) 0), (some 58, none, .ex (.tmp 54) 1), (none, none, .st true 5 (.tmp 5) (.tmp 57))]
def r11 : List G := [(some 59, none, .ld true 5 (.tmp 4)), (some 60, none, .ld true 5 (.tmp 5))]
def t11 : GT := .br none none (.st true 5 (.tmp 4) (.tmp 59)) (.br none none (.st true 5 (.tmp 5) (.tmp 60)) (.br (some 6) none (.mv (.const (.bool true))) .fin .no) .no) .no
def c : MC := (.seq (.reg r0 (some [2, 3, 4, 5])) (.seq (.dreg r1 t1 (some [2, 3, 4, 5])) (.seq (.seq (.reg r2 (some [2, 3, 4, 5, 15])) (.cond (.tmp 15) (.seq (.reg r3 (some [4, 5, 6])) .ret) .skip)) (.seq (.creg true false r4 t4 (some [2, 3, 4, 5, 7, 8])) (.seq (.seq (.reg r5 (some [2, 3, 4, 5, 7, 8, 32])) (.cond (.tmp 32) (.creg true false r6 t6 (some [2, 3, 4, 5, 7, 8])) .skip)) (.seq (.reg r7 (some [4, 5, 6, 8])) (.seq (.seq (.reg r8 (some [4, 5, 8, 51])) (.cond (.tmp 51) (.seq (.reg r9 (some [4, 5, 6])) .ret) .skip)) (.seq (.reg r10 (some [4, 5])) (.seq (.hreg r11 t11 (some [4, 5, 6])) .ret)))))))))
def ann : Ann := [(0, (some [2, 3, 4, 5], 0, [], [], [])), (1, (some [2, 3, 4, 5], 4, [], [(0, 0), (1, 0), (2, 0), (3, 0)], [])), (2, (some [2, 3, 4, 5, 15], 0, [], [], [])), (3, (some [4, 5, 6], 0, [], [], [])), (4, (some [2, 3, 4, 5, 7, 8], 200008, [7], [(0, 0), (2, 0), (1, 1), (3, 1), (4, 1), (5, 0), (6, 0), (7, 2)], [])), (5, (some [2, 3, 4, 5, 7, 8, 32], 0, [], [], [])), (6, (some [2, 3, 4, 5, 7, 8], 200007, [], [(0, 0), (3, 0), (5, 0), (1, 1), (2, 1), (4, 1), (6, 1)], [])), (7, (some [4, 5, 6, 8], 0, [], [], [])), (8, (some [4, 5, 8, 51], 0, [], [], [])), (9, (some [4, 5, 6], 0, [], [], [])), (10, (some [4, 5], 0, [], [], [])), (11, (some [4, 5, 6], 99998, [0, 1], [], []))]
theorem ok : compF Tryz.prog Tryz.f116 ann = some (61, c, [(4, some (true, 5)), (5, some (true, 5)), (6, none)]) := by kernel_rfl
def p1 (S : St) : Prop := hregX C r11 t11 (kq [4, 5, 6] R) S
def p2 (S : St) : Prop := ops C r10 (kq [4, 5] (p1 C R)) S
def p4 (S : St) : Prop := ops C r9 (kq [4, 5, 6] R) S
def p3 (S : St) : Prop := condX (S.ev (.tmp 51)) (p4 C R) (p2 C R) S
def p5 (S : St) : Prop := ops C r8 (kq [4, 5, 8, 51] (p3 C R)) S
def p6 (S : St) : Prop := ops C r7 (kq [4, 5, 6, 8] (p5 C R)) S
def p8 (S : St) : Prop := cregX C true false r6 t6 (kq [2, 3, 4, 5, 7, 8] (p6 C R)) S
def p7 (S : St) : Prop := condX (S.ev (.tmp 32)) (p8 C R) (p6 C R) S
def p9 (S : St) : Prop := ops C r5 (kq [2, 3, 4, 5, 7, 8, 32] (p7 C R)) S
def p10 (S : St) : Prop := cregX C true false r4 t4 (kq [2, 3, 4, 5, 7, 8] (p9 C R)) S
def p12 (S : St) : Prop := ops C r3 (kq [4, 5, 6] R) S
def p11 (S : St) : Prop := condX (S.ev (.tmp 15)) (p12 C R) (p10 C R) S
def p13 (S : St) : Prop := ops C r2 (kq [2, 3, 4, 5, 15] (p11 C R)) S
def p14 (S : St) : Prop := ops C r1 (ops C t1 (kq [2, 3, 4, 5] (p13 C R))) S
def p15 (S : St) : Prop := ops C r0 (kq [2, 3, 4, 5] (p14 C R)) S
theorem s (S : St) : X C c (retK R) S = p15 C R S := by kernel_rfl
def E := ai @r11.eq_1 <| ai @t11.eq_1 <| ai @p1.eq_1 <| ai @r10.eq_1 <| ai @p2.eq_1 <| ai @r9.eq_1 <| ai @p4.eq_1 <| ai @p3.eq_1 <| ai @r8.eq_1 <| ai @p5.eq_1 <| ai @r7.eq_1 <| ai @p6.eq_1 <| ai @r6.eq_1 <| ai @t6.eq_1 <| ai @p8.eq_1 <| ai @p7.eq_1 <| ai @r5.eq_1 <| ai @p9.eq_1 <| ai @r4.eq_1 <| ai @t4.eq_1 <| ai @p10.eq_1 <| ai @r3.eq_1 <| ai @p12.eq_1 <| ai @p11.eq_1 <| ai @r2.eq_1 <| ai @p13.eq_1 <| ai @r1.eq_1 <| ai @t1.eq_1 <| ai @p14.eq_1 <| ai @r0.eq_1 <| ai @p15.eq_1 <| @s
end r02_DivMod
namespace r02_divmod
def r0 : List G := [(some 4, none, .mv (.const (.slice none 0 0))), (some 5, none, .mv (.const (.slice none 0 0)))]
def r1 : List G := [(some 13, none, .mv (.tmp 0)), (some 14, none, .len false (.tmp 13)), (some 15, none, .gen false (.mks 162) [.tmp 14, .tmp 14]), (some 6, none, .mv (.tmp 15))]
def r2 : List G := [(some 16, none, .mv (.tmp 1)), (some 17, none, .len false (.tmp 16)), (some 18, none, .bin .eql (.tmp 17) (.const (.int .i64 1)))]
def r3 : List G := [(some 7, none, .mv (.const (.int .u64 0)))]
def r4 : List G := [(some 19, none, .mv (.tmp 0)), (some 20, none, .len false (.tmp 19)), (some 21, none, .bin .sub (.tmp 20) (.const (.int .i64 1))), (some 8, none, .mv (.tmp 21))]
def r5 : List G := [(some 22, none, .mv (.tmp 8)), (some 23, none, .bin .geq (.tmp 22) (.const (.int .i64 0)))]
def r7 : List G := [(some 27, none, .mv (.tmp 6)), (some 28, none, .mv (.tmp 8)), (some 29, none, .mv (.tmp 7)), (some 30, none, .mv (.tmp 0)), (some 31, none, .mv (.tmp 8)), (some 32, none, .is 1 (.tmp 30) (.tmp 31)), (some 33, none, .ld false 1 (.tmp 32)), (some 34, none, .mv (.tmp 1)), (some 35, none, .is 1 (.tmp 34) (.const (.int .i64 0))), (some 36, none, .ld false 1 (.tmp 35)), (some 37, none, .call true 182 [.tmp 29, .tmp 33, .tmp 36]), (some 26, none, .mv (.tmp 37)), (some 38, none, .ex (.tmp 26) 0), (some 39, none, .ex (.tmp 26) 1), (some 40, none, .is 1 (.tmp 27) (.tmp 28))]
def t7 : List G := [(none, none, .st false 1 (.tmp 40) (.tmp 38)), (some 7, none, .mv (.tmp 39))]
def r6 : List G := [(some 24, none, .mv (.tmp 8)), (some 25, none, .bin .sub (.tmp 24) (.const (.int .i64 1))), (some 8, none, .mv (.tmp 25))]
def r8 : List G := [(some 41, none, .mv (.tmp 6)), (some 42, none, .call false 154 [.tmp 41]), (some 43, none, .mv (.tmp 7)), (some 44, none, .gen false (.bsl 162 1 [0]) [.tmp 43]), (some 45, none, .call false 154 [.tmp 44]), (some 4, none, .mv (.tmp 42)), (some 5, none, .mv (.tmp 45))]
def r9 : List G := [(some 46, none, .gen false (.bsl 162 0 []) []), (some 47, none, .mv (.tmp 0)), (some 48, none, .gen false (.bi .append [162, 162] 162 [false, false]) [.tmp 46, .tmp 47]), (some 49, none, .call false 154 [.tmp 48]), (some 9, none, .mv (.tmp 49))]
def r10 : List G := [(some 50, none, .mv (.tmp 9)), (some 51, none, .call false 183 [.tmp 50]), (some 52, none, .mv (.tmp 1)), (some 53, none, .call false 183 [.tmp 52]), (some 54, none, .bin .sub (.tmp 51) (.tmp 53)), (some 10, none, .mv (.tmp 54))]
def r11 : List G := [(some 55, none, .mv (.tmp 10)), (some 56, none, .bin .lss (.tmp 55) (.const (.int .i64 0)))]
def r12 : List G := [(some 57, none, .mv (.tmp 9)), (some 4, none, .mv (.const (.slice none 0 0))), (some 5, none, .mv (.tmp 57))]
def r13 : List G := [(some 58, none, .mv (.tmp 1)), (some 59, none, .mv (.tmp 10)), (some 60, none, .call false 184 [.tmp 58, .tmp 59]), (some 11, none, .mv (.tmp 60))]
def r14 : List G := [(some 61, none, .mv (.tmp 10)), (some 12, none, .mv (.tmp 61))]
def r15 : List G := [(some 62, none, .mv (.tmp 12)), (some 63, none, .bin .geq (.tmp 62) (.const (.int .i64 0)))]
def r17 : List G := [(some 66, none, .mv (.tmp 9)), (some 67, none, .mv (.tmp 11)), (some 68, none, .call false 113 [.tmp 66, .tmp 67]), (some 69, none, .bin .geq (.tmp 68) (.const (.int .i64 0)))]
def r18 : List G := [(some 70, none, .mv (.tmp 9)), (some 71, none, .mv (.tmp 11)), (some 72, none, .call false 114 [.tmp 70, .tmp 71]), (some 9, none, .mv (.tmp 72))]
def r19 : List G := [(some 73, none, .mv (.tmp 6)), (some 74, none, .mv (.tmp 12)), (some 75, none, .bin .quo (.tmp 74) (.const (.int .i64 64))), (some 76, none, .is 1 (.tmp 73) (.tmp 75)), (some 77, none, .ld false 1 (.tmp 76)), (some 78, none, .mv (.tmp 12)), (some 79, none, .bin .rem (.tmp 78) (.const (.int .i64 64))), (some 80, none, .cv .u64 (.tmp 79)), (some 81, none, .bin .shl (.const (.int .u64 1)) (.tmp 80)), (some 82, none, .bin .or (.tmp 77) (.tmp 81)), (some 83, none, .is 1 (.tmp 73) (.tmp 75)), (none, none, .st false 1 (.tmp 83) (.tmp 82))]
def r20 : List G := [(some 84, none, .mv (.tmp 11)), (some 85, none, .call false 185 [.tmp 84]), (some 11, none, .mv (.tmp 85))]
def r16 : List G := [(some 64, none, .mv (.tmp 12)), (some 65, none, .bin .sub (.tmp 64) (.const (.int .i64 1))), (some 12, none, .mv (.tmp 65))]
def r21 : List G := [(some 86, none, .mv (.tmp 6)), (some 87, none, .call false 154 [.tmp 86]), (some 88, none, .mv (.tmp 9)), (some 4, none, .mv (.tmp 87)), (some 5, none, .mv (.tmp 88))]
def c : MC := (.seq (.reg r0 (some [0, 1])) (.seq (.reg r1 (some [0, 1, 6])) (.seq (.seq (.reg r2 (some [0, 1, 6, 18])) (.cond (.tmp 18) (.seq (.reg r3 (some [0, 1, 6, 7])) (.seq (.seq (.reg r4 (some [0, 1, 6, 7, 8])) (.block 0 (.loop (.seq (.seq (.reg r5 (some [0, 1, 6, 7, 8, 23])) (.cond (.tmp 23) .skip (.exit 0))) (.seq (.block 1 (.dreg r7 t7 (some [0, 1, 6, 7, 8]))) (.reg r6 (some [0, 1, 6, 7, 8]))))))) (.seq (.reg r8 (some [4, 5])) .ret))) .skip)) (.seq (.reg r9 (some [1, 6, 9])) (.seq (.reg r10 (some [1, 6, 9, 10])) (.seq (.seq (.reg r11 (some [1, 6, 9, 10, 56])) (.cond (.tmp 56) (.seq (.reg r12 (some [4, 5])) .ret) .skip)) (.seq (.reg r13 (some [6, 9, 10, 11])) (.seq (.seq (.reg r14 (some [6, 9, 11, 12])) (.block 2 (.loop (.seq (.seq (.reg r15 (some [6, 9, 11, 12, 63])) (.cond (.tmp 63) .skip (.exit 2))) (.seq (.block 3 (.seq (.seq (.reg r17 (some [6, 9, 11, 12, 69])) (.cond (.tmp 69) (.seq (.reg r18 (some [6, 9, 11, 12])) (.reg r19 (some [6, 9, 11, 12]))) .skip)) (.reg r20 (some [6, 9, 11, 12])))) (.reg r16 (some [6, 9, 11, 12]))))))) (.seq (.reg r21 (some [4, 5])) .ret)))))))))
def ann : Ann := [(0, (some [0, 1], 0, [], [], [])), (1, (some [0, 1, 6], 0, [], [], [])), (2, (some [0, 1, 6, 18], 0, [], [], [])), (3, (some [0, 1, 6, 7], 0, [], [], [])), (4, (some [0, 1, 6, 7, 8], 0, [], [], [])), (5, (some [0, 1, 6, 7, 8, 23], 0, [], [], [])), (6, (some [0, 1, 6, 7, 8], 0, [], [], [])), (7, (some [0, 1, 6, 7, 8], 15, [13], [(0, 0), (1, 0), (2, 0), (3, 0), (4, 0), (5, 0), (6, 0), (7, 0), (8, 0), (9, 0), (10, 0), (11, 0), (12, 0), (13, 2), (14, 0)], [])), (8, (some [4, 5], 0, [], [], [])), (9, (some [1, 6, 9], 0, [], [], [])), (10, (some [1, 6, 9, 10], 0, [], [], [])), (11, (some [1, 6, 9, 10, 56], 0, [], [], [])), (12, (some [4, 5], 0, [], [], [])), (13, (some [6, 9, 10, 11], 0, [], [], [])), (14, (some [6, 9, 11, 12], 0, [], [], [])), (15, (some [6, 9, 11, 12, 63], 0, [], [], [])), (16, (some [6, 9, 11, 12], 0, [], [], [])), (17, (some [6, 9, 11, 12, 69], 0, [], [], [])), (18, (some [6, 9, 11, 12], 0, [], [], [])), (19, (some [6, 9, 11, 12], 0, [], [], [])), (20, (some [6, 9, 11, 12], 0, [], [], [])), (21, (some [4, 5], 0, [], [], []))]
theorem ok : compF Tryz.prog Tryz.f157 ann = some (89, c, [(4, none), (5, none)]) := by kernel_rfl
def p1 (S : St) : Prop := ops C r21 (kq [4, 5] R) S
def p3 (S : St) : Prop := ops C r16 (kq [6, 9, 11, 12] L1) S
def p4 (S : St) : Prop := ops C r20 (kq [6, 9, 11, 12] (p3 C L1)) S
def p6 (S : St) : Prop := ops C r19 (kq [6, 9, 11, 12] (p4 C L1)) S
def p7 (S : St) : Prop := ops C r18 (kq [6, 9, 11, 12] (p6 C L1)) S
def p5 (S : St) : Prop := condX (S.ev (.tmp 69)) (p7 C L1) (p4 C L1) S
def p8 (S : St) : Prop := ops C r17 (kq [6, 9, 11, 12, 69] (p5 C L1)) S
def p9 (S : St) : Prop := condX (S.ev (.tmp 63)) (p8 C L1) (p1 C R) S
def p10 (S : St) : Prop := ops C r15 (kq [6, 9, 11, 12, 63] (p9 C R L1)) S
def p2 (S : St) : Prop := LX C (fun L1 => (p10 C R L1)) S
theorem p2_l (S : St) : p2 C R S = LX C (fun L1 => (p10 C R L1)) S := rfl
def p11 (S : St) : Prop := ops C r14 (kq [6, 9, 11, 12] (p2 C R)) S
def p12 (S : St) : Prop := ops C r13 (kq [6, 9, 10, 11] (p11 C R)) S
def p14 (S : St) : Prop := ops C r12 (kq [4, 5] R) S
def p13 (S : St) : Prop := condX (S.ev (.tmp 56)) (p14 C R) (p12 C R) S
def p15 (S : St) : Prop := ops C r11 (kq [1, 6, 9, 10, 56] (p13 C R)) S
def p16 (S : St) : Prop := ops C r10 (kq [1, 6, 9, 10] (p15 C R)) S
def p17 (S : St) : Prop := ops C r9 (kq [1, 6, 9] (p16 C R)) S
def p19 (S : St) : Prop := ops C r8 (kq [4, 5] R) S
def p21 (S : St) : Prop := ops C r6 (kq [0, 1, 6, 7, 8] L1) S
def p22 (S : St) : Prop := ops C r7 (ops C t7 (kq [0, 1, 6, 7, 8] (p21 C L1))) S
def p23 (S : St) : Prop := condX (S.ev (.tmp 23)) (p22 C L1) (p19 C R) S
def p24 (S : St) : Prop := ops C r5 (kq [0, 1, 6, 7, 8, 23] (p23 C R L1)) S
def p20 (S : St) : Prop := LX C (fun L1 => (p24 C R L1)) S
theorem p20_l (S : St) : p20 C R S = LX C (fun L1 => (p24 C R L1)) S := rfl
def p25 (S : St) : Prop := ops C r4 (kq [0, 1, 6, 7, 8] (p20 C R)) S
def p26 (S : St) : Prop := ops C r3 (kq [0, 1, 6, 7] (p25 C R)) S
def p18 (S : St) : Prop := condX (S.ev (.tmp 18)) (p26 C R) (p17 C R) S
def p27 (S : St) : Prop := ops C r2 (kq [0, 1, 6, 18] (p18 C R)) S
def p28 (S : St) : Prop := ops C r1 (kq [0, 1, 6] (p27 C R)) S
def p29 (S : St) : Prop := ops C r0 (kq [0, 1] (p28 C R)) S
theorem s (S : St) : X C c (retK R) S = p29 C R S := by kernel_rfl
theorem E1 : type_of% @r21.eq_1 ∧ type_of% @p1.eq_1 ∧ type_of% @r16.eq_1 ∧ type_of% @p3.eq_1 ∧ type_of% @r20.eq_1 ∧ type_of% @p4.eq_1 ∧ type_of% @r19.eq_1 ∧ type_of% @p6.eq_1 ∧ type_of% @r18.eq_1 ∧ type_of% @p7.eq_1 ∧ type_of% @p5.eq_1 ∧ type_of% @r17.eq_1 ∧ type_of% @p8.eq_1 ∧ type_of% @p9.eq_1 ∧ type_of% @r15.eq_1 ∧ type_of% @p10.eq_1 ∧ type_of% @r14.eq_1 ∧ type_of% @p11.eq_1 ∧ type_of% @r13.eq_1 ∧ type_of% @p12.eq_1 ∧ type_of% @r12.eq_1 ∧ type_of% @p14.eq_1 ∧ type_of% @p13.eq_1 ∧ type_of% @r11.eq_1 ∧ type_of% @p15.eq_1 ∧ type_of% @r10.eq_1 ∧ type_of% @p16.eq_1 ∧ type_of% @r9.eq_1 ∧ type_of% @p17.eq_1 ∧ type_of% @r8.eq_1 ∧ type_of% @p19.eq_1 ∧ type_of% @r6.eq_1 ∧ type_of% @p21.eq_1 ∧ type_of% @r7.eq_1 ∧ type_of% @t7.eq_1 ∧ type_of% @p22.eq_1 ∧ type_of% @p23.eq_1 ∧ type_of% @r5.eq_1 ∧ type_of% @p24.eq_1 ∧ type_of% @r4.eq_1 := ⟨@r21.eq_1, @p1.eq_1, @r16.eq_1, @p3.eq_1, @r20.eq_1, @p4.eq_1, @r19.eq_1, @p6.eq_1, @r18.eq_1, @p7.eq_1, @p5.eq_1, @r17.eq_1, @p8.eq_1, @p9.eq_1, @r15.eq_1, @p10.eq_1, @r14.eq_1, @p11.eq_1, @r13.eq_1, @p12.eq_1, @r12.eq_1, @p14.eq_1, @p13.eq_1, @r11.eq_1, @p15.eq_1, @r10.eq_1, @p16.eq_1, @r9.eq_1, @p17.eq_1, @r8.eq_1, @p19.eq_1, @r6.eq_1, @p21.eq_1, @r7.eq_1, @t7.eq_1, @p22.eq_1, @p23.eq_1, @r5.eq_1, @p24.eq_1, @r4.eq_1⟩
theorem E2 : type_of% @p25.eq_1 ∧ type_of% @r3.eq_1 ∧ type_of% @p26.eq_1 ∧ type_of% @p18.eq_1 ∧ type_of% @r2.eq_1 ∧ type_of% @p27.eq_1 ∧ type_of% @r1.eq_1 ∧ type_of% @p28.eq_1 ∧ type_of% @r0.eq_1 ∧ type_of% @p29.eq_1 ∧ type_of% @s := ⟨@p25.eq_1, @r3.eq_1, @p26.eq_1, @p18.eq_1, @r2.eq_1, @p27.eq_1, @r1.eq_1, @p28.eq_1, @r0.eq_1, @p29.eq_1, @s⟩
def E := ai @E1 <| @E2
end r02_divmod
namespace r02_half
def r0 : List G := [(some 2, none, .mv (.const (.slice none 0 0)))]
def r1 : List G := [(some 3, none, .mv (.const (.int .i64 0)))]
def r2 : List G := [(some 4, none, .mv (.tmp 3)), (some 5, none, .mv (.tmp 0)), (some 6, none, .len false (.tmp 5)), (some 7, none, .bin .lss (.tmp 4) (.tmp 6))]
def r4 : List G := [(some 10, none, .mv (.tmp 0)), (some 11, none, .mv (.tmp 3)), (some 12, none, .is 1 (.tmp 10) (.tmp 11)), (some 13, none, .ld false 1 (.tmp 12)), (some 14, none, .bin .shr (.tmp 13) (.const (.int .u64 1))), (some 15, none, .is 1 (.tmp 10) (.tmp 11)), (none, none, .st false 1 (.tmp 15) (.tmp 14))]
def r5 : List G := [(some 16, none, .mv (.tmp 3)), (some 17, none, .bin .add (.tmp 16) (.const (.int .i64 1))), (some 18, none, .mv (.tmp 0)), (some 19, none, .len false (.tmp 18)), (some 20, none, .bin .lss (.tmp 17) (.tmp 19))]
def r6 : List G := [(some 21, none, .mv (.tmp 0)), (some 22, none, .mv (.tmp 3)), (some 23, none, .is 1 (.tmp 21) (.tmp 22)), (some 24, none, .ld false 1 (.tmp 23)), (some 25, none, .mv (.tmp 0)), (some 26, none, .mv (.tmp 3)), (some 27, none, .bin .add (.tmp 26) (.const (.int .i64 1))), (some 28, none, .is 1 (.tmp 25) (.tmp 27)), (some 29, none, .ld false 1 (.tmp 28)), (some 30, none, .bin .shl (.tmp 29) (.const (.int .u64 63))), (some 31, none, .bin .or (.tmp 24) (.tmp 30)), (some 32, none, .is 1 (.tmp 21) (.tmp 22))]
def t6 : List G := [(none, none, .st false 1 (.tmp 32) (.tmp 31))]
def r3 : List G := [(some 8, none, .mv (.tmp 3)), (some 9, none, .bin .add (.tmp 8) (.const (.int .i64 1))), (some 3, none, .mv (.tmp 9))]
def r7 : List G := [(some 33, none, .mv (.tmp 0)), (some 34, none, .call false 154 [.tmp 33]), (some 2, none, .mv (.tmp 34))]
def c : MC := (.seq (.reg r0 (some [0])) (.seq (.seq (.reg r1 (some [0, 3])) (.block 0 (.loop (.seq (.seq (.reg r2 (some [0, 3, 7])) (.cond (.tmp 7) .skip (.exit 0))) (.seq (.block 1 (.seq (.reg r4 (some [0, 3])) (.seq (.reg r5 (some [0, 3, 20])) (.cond (.tmp 20) (.dreg r6 t6 (some [0, 3])) .skip)))) (.reg r3 (some [0, 3]))))))) (.seq (.reg r7 (some [2])) .ret)))
def ann : Ann := [(0, (some [0], 0, [], [], [])), (1, (some [0, 3], 0, [], [], [])), (2, (some [0, 3, 7], 0, [], [], [])), (3, (some [0, 3], 0, [], [], [])), (4, (some [0, 3], 0, [], [], [])), (5, (some [0, 3, 20], 0, [], [], [])), (6, (some [0, 3], 12, [], [(0, 0), (1, 0), (2, 0), (3, 0), (4, 0), (5, 0), (6, 0), (7, 0), (8, 0), (9, 0), (10, 0), (11, 0)], [])), (7, (some [2], 0, [], [], []))]
theorem ok : compF Tryz.prog Tryz.f185 ann = some (35, c, [(2, none)]) := by kernel_rfl
def p1 (S : St) : Prop := ops C r7 (kq [2] R) S
def p3 (S : St) : Prop := ops C r3 (kq [0, 3] L1) S
def p5 (S : St) : Prop := ops C r6 (ops C t6 (kq [0, 3] (p3 C L1))) S
def p4 (S : St) : Prop := condX (S.ev (.tmp 20)) (p5 C L1) (p3 C L1) S
def p6 (S : St) : Prop := ops C r5 (kq [0, 3, 20] (p4 C L1)) S
def p7 (S : St) : Prop := ops C r4 (kq [0, 3] (p6 C L1)) S
def p8 (S : St) : Prop := condX (S.ev (.tmp 7)) (p7 C L1) (p1 C R) S
def p9 (S : St) : Prop := ops C r2 (kq [0, 3, 7] (p8 C R L1)) S
def p2 (S : St) : Prop := LX C (fun L1 => (p9 C R L1)) S
theorem p2_l (S : St) : p2 C R S = LX C (fun L1 => (p9 C R L1)) S := rfl
def p10 (S : St) : Prop := ops C r1 (kq [0, 3] (p2 C R)) S
def p11 (S : St) : Prop := ops C r0 (kq [0] (p10 C R)) S
theorem s (S : St) : X C c (retK R) S = p11 C R S := by kernel_rfl
def E := ai @r7.eq_1 <| ai @p1.eq_1 <| ai @r3.eq_1 <| ai @p3.eq_1 <| ai @r6.eq_1 <| ai @t6.eq_1 <| ai @p5.eq_1 <| ai @p4.eq_1 <| ai @r5.eq_1 <| ai @p6.eq_1 <| ai @r4.eq_1 <| ai @p7.eq_1 <| ai @p8.eq_1 <| ai @r2.eq_1 <| ai @p9.eq_1 <| ai @r1.eq_1 <| ai @p10.eq_1 <| ai @r0.eq_1 <| ai @p11.eq_1 <| @s
end r02_half
namespace r02_size
def r0 : List G := [(some 2, none, .mv (.const (.int .i64 0)))]
def r1 : List G := [(some 3, none, .mv (.tmp 0)), (some 4, none, .len false (.tmp 3)), (some 5, none, .bin .eql (.tmp 4) (.const (.int .i64 0)))]
def r2 : List G := [(some 2, none, .mv (.const (.int .i64 0)))]
def r3 : List G := [(some 6, none, .mv (.tmp 0)), (some 7, none, .len false (.tmp 6)), (some 8, none, .bin .sub (.tmp 7) (.const (.int .i64 1))), (some 9, none, .bin .mul (.const (.int .i64 64)) (.tmp 8)), (some 10, none, .mv (.tmp 0)), (some 11, none, .mv (.tmp 0)), (some 12, none, .len false (.tmp 11)), (some 13, none, .bin .sub (.tmp 12) (.const (.int .i64 1))), (some 14, none, .is 1 (.tmp 10) (.tmp 13)), (some 15, none, .ld false 1 (.tmp 14)), (some 16, none, .call false 197 [.tmp 15]), (some 17, none, .bin .add (.tmp 9) (.tmp 16)), (some 2, none, .mv (.tmp 17))]
def c : MC := (.seq (.reg r0 (some [0])) (.seq (.seq (.reg r1 (some [0, 5])) (.cond (.tmp 5) (.seq (.reg r2 (some [2])) .ret) .skip)) (.seq (.reg r3 (some [2])) .ret)))
def ann : Ann := [(0, (some [0], 0, [], [], [])), (1, (some [0, 5], 0, [], [], [])), (2, (some [2], 0, [], [], [])), (3, (some [2], 0, [], [], []))]
theorem ok : compF Tryz.prog Tryz.f183 ann = some (18, c, [(2, none)]) := by kernel_rfl
def p1 (S : St) : Prop := ops C r3 (kq [2] R) S
def p3 (S : St) : Prop := ops C r2 (kq [2] R) S
def p2 (S : St) : Prop := condX (S.ev (.tmp 5)) (p3 C R) (p1 C R) S
def p4 (S : St) : Prop := ops C r1 (kq [0, 5] (p2 C R)) S
def p5 (S : St) : Prop := ops C r0 (kq [0] (p4 C R)) S
theorem s (S : St) : X C c (retK R) S = p5 C R S := by kernel_rfl
def E := ai @r3.eq_1 <| ai @p1.eq_1 <| ai @r2.eq_1 <| ai @p3.eq_1 <| ai @p2.eq_1 <| ai @r1.eq_1 <| ai @p4.eq_1 <| ai @r0.eq_1 <| ai @p5.eq_1 <| @s
end r02_size
namespace r02_up
def r0 : List G := [(some 4, none, .mv (.const (.slice none 0 0)))]
def r1 : List G := [(some 7, none, .mv (.tmp 0)), (some 8, none, .len false (.tmp 7)), (some 9, none, .mv (.tmp 1)), (some 10, none, .bin .quo (.tmp 9) (.const (.int .i64 64))), (some 11, none, .bin .add (.tmp 8) (.tmp 10)), (some 12, none, .bin .add (.tmp 11) (.const (.int .i64 1))), (some 13, none, .gen false (.mks 162) [.tmp 12, .tmp 12]), (some 5, none, .mv (.tmp 13))]
def r2 : List G := [(some 6, none, .mv (.const (.int .i64 0)))]
def r3 : List G := [(some 14, none, .mv (.tmp 6)), (some 15, none, .mv (.tmp 0)), (some 16, none, .len false (.tmp 15)), (some 17, none, .bin .lss (.tmp 14) (.tmp 16))]
def r5 : List G := [(some 20, none, .mv (.tmp 5)), (some 21, none, .mv (.tmp 6)), (some 22, none, .mv (.tmp 1)), (some 23, none, .bin .quo (.tmp 22) (.const (.int .i64 64))), (some 24, none, .bin .add (.tmp 21) (.tmp 23)), (some 25, none, .is 1 (.tmp 20) (.tmp 24)), (some 26, none, .ld false 1 (.tmp 25)), (some 27, none, .mv (.tmp 0)), (some 28, none, .mv (.tmp 6)), (some 29, none, .is 1 (.tmp 27) (.tmp 28)), (some 30, none, .ld false 1 (.tmp 29)), (some 31, none, .mv (.tmp 1)), (some 32, none, .bin .rem (.tmp 31) (.const (.int .i64 64))), (some 33, none, .cv .u64 (.tmp 32)), (some 34, none, .bin .shl (.tmp 30) (.tmp 33)), (some 35, none, .bin .or (.tmp 26) (.tmp 34)), (some 36, none, .is 1 (.tmp 20) (.tmp 24))]
def t5 : List G := [(none, none, .st false 1 (.tmp 36) (.tmp 35))]
def r6 : List G := [(some 37, none, .mv (.tmp 1)), (some 38, none, .bin .rem (.tmp 37) (.const (.int .i64 64))), (some 39, none, .bin .gtr (.tmp 38) (.const (.int .i64 0)))]
def r7 : List G := [(some 40, none, .mv (.tmp 5)), (some 41, none, .mv (.tmp 6)), (some 42, none, .mv (.tmp 1)), (some 43, none, .bin .quo (.tmp 42) (.const (.int .i64 64))), (some 44, none, .bin .add (.tmp 41) (.tmp 43)), (some 45, none, .bin .add (.tmp 44) (.const (.int .i64 1))), (some 46, none, .is 1 (.tmp 40) (.tmp 45)), (some 47, none, .ld false 1 (.tmp 46)), (some 48, none, .mv (.tmp 0)), (some 49, none, .mv (.tmp 6)), (some 50, none, .is 1 (.tmp 48) (.tmp 49)), (some 51, none, .ld false 1 (.tmp 50)), (some 52, none, .mv (.tmp 1)), (some 53, none, .bin .rem (.tmp 52) (.const (.int .i64 64))), (some 54, none, .bin .sub (.const (.int .i64 64)) (.tmp 53)), (some 55, none, .cv .u64 (.tmp 54)), (some 56, none, .bin .shr (.tmp 51) (.tmp 55)), (some 57, none, .bin .or (.tmp 47) (.tmp 56)), (some 58, none, .is 1 (.tmp 40) (.tmp 45))]
def t7 : List G := [(none, none, .st false 1 (.tmp 58) (.tmp 57))]
def r4 : List G := [(some 18, none, .mv (.tmp 6)), (some 19, none, .bin .add (.tmp 18) (.const (.int .i64 1))), (some 6, none, .mv (.tmp 19))]
def r8 : List G := [(some 59, none, .mv (.tmp 5)), (some 60, none, .call false 154 [.tmp 59]), (some 4, none, .mv (.tmp 60))]
def c : MC := (.seq (.reg r0 (some [0, 1])) (.seq (.reg r1 (some [0, 1, 5])) (.seq (.seq (.reg r2 (some [0, 1, 5, 6])) (.block 0 (.loop (.seq (.seq (.reg r3 (some [0, 1, 5, 6, 17])) (.cond (.tmp 17) .skip (.exit 0))) (.seq (.block 1 (.seq (.dreg r5 t5 (some [0, 1, 5, 6])) (.seq (.reg r6 (some [0, 1, 5, 6, 39])) (.cond (.tmp 39) (.dreg r7 t7 (some [0, 1, 5, 6])) .skip)))) (.reg r4 (some [0, 1, 5, 6]))))))) (.seq (.reg r8 (some [4])) .ret))))
def ann : Ann := [(0, (some [0, 1], 0, [], [], [])), (1, (some [0, 1, 5], 0, [], [], [])), (2, (some [0, 1, 5, 6], 0, [], [], [])), (3, (some [0, 1, 5, 6, 17], 0, [], [], [])), (4, (some [0, 1, 5, 6], 0, [], [], [])), (5, (some [0, 1, 5, 6], 17, [], [(0, 0), (1, 0), (2, 0), (3, 0), (4, 0), (5, 0), (6, 0), (7, 0), (8, 0), (9, 0), (10, 0), (11, 0), (12, 0), (13, 0), (14, 0), (15, 0), (16, 0)], [])), (6, (some [0, 1, 5, 6, 39], 0, [], [], [])), (7, (some [0, 1, 5, 6], 19, [], [(0, 0), (1, 0), (2, 0), (3, 0), (4, 0), (5, 0), (6, 0), (7, 0), (8, 0), (9, 0), (10, 0), (11, 0), (12, 0), (13, 0), (14, 0), (15, 0), (16, 0), (17, 0), (18, 0)], [])), (8, (some [4], 0, [], [], []))]
theorem ok : compF Tryz.prog Tryz.f184 ann = some (61, c, [(4, none)]) := by kernel_rfl
def p1 (S : St) : Prop := ops C r8 (kq [4] R) S
def p3 (S : St) : Prop := ops C r4 (kq [0, 1, 5, 6] L1) S
def p5 (S : St) : Prop := ops C r7 (ops C t7 (kq [0, 1, 5, 6] (p3 C L1))) S
def p4 (S : St) : Prop := condX (S.ev (.tmp 39)) (p5 C L1) (p3 C L1) S
def p6 (S : St) : Prop := ops C r6 (kq [0, 1, 5, 6, 39] (p4 C L1)) S
def p7 (S : St) : Prop := ops C r5 (ops C t5 (kq [0, 1, 5, 6] (p6 C L1))) S
def p8 (S : St) : Prop := condX (S.ev (.tmp 17)) (p7 C L1) (p1 C R) S
def p9 (S : St) : Prop := ops C r3 (kq [0, 1, 5, 6, 17] (p8 C R L1)) S
def p2 (S : St) : Prop := LX C (fun L1 => (p9 C R L1)) S
theorem p2_l (S : St) : p2 C R S = LX C (fun L1 => (p9 C R L1)) S := rfl
def p10 (S : St) : Prop := ops C r2 (kq [0, 1, 5, 6] (p2 C R)) S
def p11 (S : St) : Prop := ops C r1 (kq [0, 1, 5] (p10 C R)) S
def p12 (S : St) : Prop := ops C r0 (kq [0, 1] (p11 C R)) S
theorem s (S : St) : X C c (retK R) S = p12 C R S := by kernel_rfl
def E := ai @r8.eq_1 <| ai @p1.eq_1 <| ai @r4.eq_1 <| ai @p3.eq_1 <| ai @r7.eq_1 <| ai @t7.eq_1 <| ai @p5.eq_1 <| ai @p4.eq_1 <| ai @r6.eq_1 <| ai @p6.eq_1 <| ai @r5.eq_1 <| ai @t5.eq_1 <| ai @p7.eq_1 <| ai @p8.eq_1 <| ai @r3.eq_1 <| ai @p9.eq_1 <| ai @r2.eq_1 <| ai @p10.eq_1 <| ai @r1.eq_1 <| ai @p11.eq_1 <| ai @r0.eq_1 <| ai @p12.eq_1 <| @s
end r02_up
namespace r02_OfUnsigned
def r0 : List G := [(some 2, none, .new zW)]
def r1 : List G := [(some 3, none, .mv (.tmp 0)), (some 4, none, .bd [.int .u64 0, .int .u64 0, .int .u64 0, .int .u64 0] [(0, 1, .tmp 3)]), (some 5, none, .bd zW [(1, 4, .tmp 4)]), (none, none, .st true 5 (.tmp 2) (.tmp 5))]
def c : MC := (.seq (.reg r0 (some [0, 2])) (.seq (.reg r1 (some [2])) .ret))
def ann : Ann := [(0, (some [0, 2], 0, [], [], [])), (1, (some [2], 0, [], [], []))]
theorem ok : compF Tryz.prog Tryz.f75 ann = some (6, c, [(2, some (true, 5))]) := by kernel_rfl
def p1 (S : St) : Prop := ops C r1 (kq [2] R) S
def p2 (S : St) : Prop := ops C r0 (kq [0, 2] (p1 C R)) S
theorem s (S : St) : X C c (retK R) S = p2 C R S := by kernel_rfl
def E := ai @r1.eq_1 <| ai @p1.eq_1 <| ai @r0.eq_1 <| ai @p2.eq_1 <| @s
end r02_OfUnsigned
namespace r02_Unsigned
def r0 : List G := [(some 1, none, .box true 5 (.tmp 0)), (some 2, none, .mv (.const (.int .u64 0))), (some 3, none, .mv (.const (.bool false)))]
def r1 : List G := [(some 5, none, .ld true 5 (.tmp 1)), (some 6, none, .call false 109 [.tmp 5]), (none, none, .st true 5 (.tmp 1) (.tmp 6))]
def r2 : List G := [(some 7, none, .ld true 5 (.tmp 1)), (some 8, none, .call false 110 [.tmp 7]), (some 4, none, .mv (.tmp 8))]
def r3 : List G := [(some 9, none, .fa 0 (.tmp 1)), (some 10, none, .ld false 1 (.tmp 9)), (some 11, none, .mv (.tmp 10)), (some 12, some (11, false), .mv (.tmp 4)), (some 13, some (11, false), .len false (.tmp 12)), (some 14, some (11, false), .bin .gtr (.tmp 13) (.const (.int .i64 1))), (some 15, none, .pick (.tmp 11) (.const (.bool true)) (.tmp 14))]
def r4 : List G := [(some 2, none, .mv (.const (.int .u64 0))), (some 3, none, .mv (.const (.bool false)))]
def r5 : List G := [(some 16, none, .fa 1 (.tmp 1)), (some 17, none, .ia 4 1 (.tmp 16) (.const (.int .i64 0))), (some 18, none, .ld false 1 (.tmp 17)), (some 2, none, .mv (.tmp 18)), (some 3, none, .mv (.const (.bool true)))]
def c : MC := (.seq (.reg r0 (some [1])) (.seq (.reg r1 (some [1])) (.seq (.reg r2 (some [1, 4])) (.seq (.seq (.reg r3 (some [1, 15])) (.cond (.tmp 15) (.seq (.reg r4 (some [2, 3])) .ret) .skip)) (.seq (.reg r5 (some [2, 3])) .ret)))))
def ann : Ann := [(0, (some [1], 0, [], [], [])), (1, (some [1], 0, [], [], [])), (2, (some [1, 4], 0, [], [], [])), (3, (some [1, 15], 0, [], [], [])), (4, (some [2, 3], 0, [], [], [])), (5, (some [2, 3], 0, [], [], []))]
theorem ok : compF Tryz.prog Tryz.f153 ann = some (19, c, [(2, none), (3, none)]) := by kernel_rfl
def p1 (S : St) : Prop := ops C r5 (kq [2, 3] R) S
def p3 (S : St) : Prop := ops C r4 (kq [2, 3] R) S
def p2 (S : St) : Prop := condX (S.ev (.tmp 15)) (p3 C R) (p1 C R) S
def p4 (S : St) : Prop := ops C r3 (kq [1, 15] (p2 C R)) S
def p5 (S : St) : Prop := ops C r2 (kq [1, 4] (p4 C R)) S
def p6 (S : St) : Prop := ops C r1 (kq [1] (p5 C R)) S
def p7 (S : St) : Prop := ops C r0 (kq [1] (p6 C R)) S
theorem s (S : St) : X C c (retK R) S = p7 C R S := by kernel_rfl
def E := ai @r5.eq_1 <| ai @p1.eq_1 <| ai @r4.eq_1 <| ai @p3.eq_1 <| ai @p2.eq_1 <| ai @r3.eq_1 <| ai @p4.eq_1 <| ai @r2.eq_1 <| ai @p5.eq_1 <| ai @r1.eq_1 <| ai @p6.eq_1 <| ai @r0.eq_1 <| ai @p7.eq_1 <| @s
end r02_Unsigned
namespace r02_Compare
def r0 : List G := [(some 2, none, .box true 5 (.tmp 0)), (some 3, none, .box true 5 (.tmp 1)), (some 4, none, .mv (.const (.int .i64 0)))]
def r1 : List G := [(some 7, none, .ld true 5 (.tmp 2)), (some 8, none, .call true 104 [.tmp 7]), (some 9, none, .ld true 5 (.tmp 3)), (some 10, none, .call true 104 [.tmp 9])]
def t1 : List G := [(some 5, none, .mv (.tmp 8)), (some 6, none, .mv (.tmp 10))]
def r2 : List G := [(some 11, none, .mv (.tmp 5)), (some 12, none, .mv (.tmp 6)), (some 13, none, .bin .neq (.tmp 11) (.tmp 12))]
def r3 : List G := [(some 14, none, .mv (.tmp 5)), (some 15, none, .mv (.tmp 6)), (some 16, none, .bin .lss (.tmp 14) (.tmp 15))]
def r4 : List G := [(some 4, none, .mv (.const (.int .i64 (-1))))]
def r5 : List G := [(some 4, none, .mv (.const (.int .i64 1)))]
def r6 : List G := [(some 17, none, .mv (.tmp 5)), (some 18, none, .ld true 5 (.tmp 2)), (some 20, none, .ld true 5 (.tmp 3)), (some 19, none, .call false 110 [.tmp 18]), (some 21, none, .call false 110 [.tmp 20]), (some 22, none, .call false 113 [.tmp 19, .tmp 21]), (some 23, none, .bin .mul (.tmp 17) (.tmp 22))]
def t6 : List G := [(some 4, none, .mv (.tmp 23))]
def c : MC := (.seq (.reg r0 (some [2, 3])) (.seq (.dreg r1 t1 (some [2, 3, 5, 6])) (.seq (.seq (.reg r2 (some [2, 3, 5, 6, 13])) (.cond (.tmp 13) (.seq (.seq (.reg r3 (some [16])) (.cond (.tmp 16) (.seq (.reg r4 (some [4])) .ret) .skip)) (.seq (.reg r5 (some [4])) .ret)) .skip)) (.seq (.creg true false r6 t6 (some [4])) .ret))))
def ann : Ann := [(0, (some [2, 3], 0, [], [], [])), (1, (some [2, 3, 5, 6], 4, [], [(0, 0), (1, 0), (2, 0), (3, 0)], [])), (2, (some [2, 3, 5, 6, 13], 0, [], [], [])), (3, (some [16], 0, [], [], [])), (4, (some [4], 0, [], [], [])), (5, (some [4], 0, [], [], [])), (6, (some [4], 200007, [], [(0, 0), (1, 0), (3, 0), (2, 1), (4, 1), (5, 1), (6, 0)], []))]
theorem ok : compF Tryz.prog Tryz.f54 ann = some (24, c, [(4, none)]) := by kernel_rfl
def p1 (S : St) : Prop := cregX C true false r6 t6 (kq [4] R) S
def p3 (S : St) : Prop := ops C r5 (kq [4] R) S
def p5 (S : St) : Prop := ops C r4 (kq [4] R) S
def p4 (S : St) : Prop := condX (S.ev (.tmp 16)) (p5 C R) (p3 C R) S
def p6 (S : St) : Prop := ops C r3 (kq [16] (p4 C R)) S
def p2 (S : St) : Prop := condX (S.ev (.tmp 13)) (p6 C R) (p1 C R) S
def p7 (S : St) : Prop := ops C r2 (kq [2, 3, 5, 6, 13] (p2 C R)) S
def p8 (S : St) : Prop := ops C r1 (ops C t1 (kq [2, 3, 5, 6] (p7 C R))) S
def p9 (S : St) : Prop := ops C r0 (kq [2, 3] (p8 C R)) S
theorem s (S : St) : X C c (retK R) S = p9 C R S := by kernel_rfl
def E := ai @r6.eq_1 <| ai @t6.eq_1 <| ai @p1.eq_1 <| ai @r5.eq_1 <| ai @p3.eq_1 <| ai @r4.eq_1 <| ai @p5.eq_1 <| ai @p4.eq_1 <| ai @r3.eq_1 <| ai @p6.eq_1 <| ai @p2.eq_1 <| ai @r2.eq_1 <| ai @p7.eq_1 <| ai @r1.eq_1 <| ai @t1.eq_1 <| ai @p8.eq_1 <| ai @r0.eq_1 <| ai @p9.eq_1 <| @s
end r02_Compare
end Go.Proofs.YtncmmbacoknefaaGreat

/- DvP: Plain facts for the division of absolute values: shifts of words, lengths, the loop's step. -/
namespace Go.Proofs.YtncmmbacoknefaaGreat
open Go
set_option linter.unusedVariables false
set_option linter.unusedSimpArgs false
abbrev ME (z : Int) : Value := MG (lb0 z) (lb1 z) (lb2 z) (lb3 z)
def A4 (z : Int) : Prop := 0 ≤ z ∧ z < 115792089237316195423570985008687907853269984665640564039457584007913129639936
theorem mg_me {a b c d : Int} (h : U64 a) (h1 : U64 b) (h2 : U64 c) (h3 : U64 d) : MG a b c d = ME (MV a b c d) := by
 rw [ME, lb0_mv _ _ _ h, lb1_mv _ _ h h1, lb2_mv _ h h1 h2, lb3_mv h h1 h2 h3]
theorem mv_me {z : Int} (h : A4 z) : MV (lb0 z) (lb1 z) (lb2 z) (lb3 z) = z := mv_lb4 ((up4_lt h.1).2 h.2)
theorem a4_mv {a b c d : Int} (h : U64 a) (h1 : U64 b) (h2 : U64 c) (h3 : U64 d) : A4 (MV a b c d) := ⟨mv_nonneg h h1 h2 h3, (up4_lt (mv_nonneg h h1 h2 h3)).1 (up4_mv h h1 h2 h3)⟩
theorem up4_a4 {z : Int} (h : A4 z) : up4 z = 0 := (up4_lt h.1).2 h.2
theorem toNat_ofInt {x : Int} (h : U64 x) : (BitVec.ofInt IntKind.u64.bits x).toNat = x.toNat := by
 obtain ⟨h0, h1⟩ := h
 have e : (BitVec.ofInt 64 x).toNat = x.toNat := by
  rw [BitVec.toNat_ofInt]
  have : (x % ((2 ^ 64 : Nat) : Int)) = x := Int.emod_eq_of_lt h0 (by show x < 18446744073709551616; omega)
  rw [this]
 exact e
theorem or_add {x y : Int} (k : Nat) (hx : U64 x) (hy : U64 y) (hxk : x < 2 ^ k) (hd : (2 ^ k : Int) ∣ y) :
  IntKind.u64.wrap ((BitVec.ofInt IntKind.u64.bits x ||| BitVec.ofInt IntKind.u64.bits y).toNat : Int) = x + y ∧ IntKind.u64.wrap ((BitVec.ofInt IntKind.u64.bits y ||| BitVec.ofInt IntKind.u64.bits x).toNat : Int) = x + y ∧ U64 (x + y) := by
 obtain ⟨q, hq⟩ := hd
 obtain ⟨a, rfl⟩ := Int.eq_ofNat_of_zero_le hx.1
 obtain ⟨b, rfl⟩ := Int.eq_ofNat_of_zero_le hy.1
 have hpos : (0 : Int) < 2 ^ k := Int.pow_pos (by decide)
 have hq0 : 0 ≤ q := by
  by_cases h : 0 ≤ q
  ·exact h
  ·have h2 : (2 ^ k : Int) * q < 0 := Int.mul_neg_of_pos_of_neg hpos (by omega)
   have := hy.1
   omega
 obtain ⟨c, rfl⟩ := Int.eq_ofNat_of_zero_le hq0
 have hb : b = 2 ^ k * c := by
  have : ((b : Int)) = ((2 ^ k * c : Nat) : Int) := by rw [hq]; push_cast; rfl
  exact_mod_cast this
 have ha : a < 2 ^ k := by
  have : ((a : Int)) < ((2 ^ k : Nat) : Int) := by push_cast; exact hxk
  exact_mod_cast this
 have hor : b ||| a = b + a := by rw [hb]; exact (Nat.two_pow_add_eq_or_of_lt ha c).symm
 have e1 := toNat_ofInt hx
 have e2 := toNat_ofInt hy
 rw [Int.toNat_natCast] at e1 e2
 have hlt : b + a < 18446744073709551616 := by
  rw [← hor]
  exact Nat.or_lt_two_pow (n := 64) (by have := hy.2; omega) (by have := hx.2; omega)
 have hw : IntKind.u64.wrap ((b + a : Nat) : Int) = (a : Int) + b := by
  rw [IntWalk.u64_in _ ⟨by omega, by omega⟩]; omega
 refine ⟨?_, ?_, ⟨by omega, by omega⟩⟩
 ·rw [BitVec.toNat_or, e1, e2, Nat.or_comm, hor]; exact hw
 ·rw [BitVec.toNat_or, e1, e2, hor]; exact hw
theorem half_words {a b c d : Int} (ha : U64 a) (hb : U64 b) (hc : U64 c) (hd : U64 d) :
  U64 (a / 2 + 9223372036854775808 * (b % 2)) ∧ U64 (b / 2 + 9223372036854775808 * (c % 2)) ∧ U64 (c / 2 + 9223372036854775808 * (d % 2)) ∧ U64 (d / 2) ∧
  MV (a / 2 + 9223372036854775808 * (b % 2)) (b / 2 + 9223372036854775808 * (c % 2)) (c / 2 + 9223372036854775808 * (d % 2)) (d / 2) = MV a b c d / 2 := by
 obtain ⟨a0, a1⟩ := ha
 obtain ⟨b0, b1⟩ := hb
 obtain ⟨c0, c1⟩ := hc
 obtain ⟨d0, d1⟩ := hd
 refine ⟨⟨by omega, by omega⟩, ⟨by omega, by omega⟩, ⟨by omega, by omega⟩, ⟨by omega, by omega⟩, ?_⟩
 have ea : a = 2 * (a / 2) + a % 2 := by omega
 have eb : b = 2 * (b / 2) + b % 2 := by omega
 have ec : c = 2 * (c / 2) + c % 2 := by omega
 have ed : d = 2 * (d / 2) + d % 2 := by omega
 have p : 0 ≤ a % 2 ∧ a % 2 < 2 := by omega
 have q : 0 ≤ d % 2 := by omega
 generalize a / 2 = ua at *
 generalize b / 2 = ub at *
 generalize c / 2 = uc at *
 generalize d / 2 = ud at *
 generalize a % 2 = pa at *
 generalize b % 2 = pb at *
 generalize c % 2 = pc at *
 generalize d % 2 = pd at *
 subst ea eb ec ed
 unfold MV
 omega
theorem half_word {x y : Int} (hx : U64 x) (hy : U64 y) :
  IntKind.u64.wrap ((BitVec.ofInt IntKind.u64.bits (x.fdiv 2) ||| BitVec.ofInt IntKind.u64.bits (IntKind.u64.wrap (y * 9223372036854775808))).toNat : Int) = x / 2 + 9223372036854775808 * (y % 2) := by
 obtain ⟨x0, x1⟩ := hx
 obtain ⟨y0, y1⟩ := hy
 have e1 : x.fdiv 2 = x / 2 := Int.fdiv_eq_ediv_of_nonneg _ (by decide)
 have e2 : IntKind.u64.wrap (y * 9223372036854775808) = 9223372036854775808 * (y % 2) := by
  show (y * 9223372036854775808) % 18446744073709551616 = _
  omega
 rw [e1, e2]
 exact (or_add 63 ⟨by omega, by omega⟩ ⟨by omega, by omega⟩ (by show x / 2 < 9223372036854775808; omega) ⟨y % 2, rfl⟩).1
end Go.Proofs.YtncmmbacoknefaaGreat

/- DvQ: Plain facts for the division of absolute values: the shift to the left, lengths. -/
namespace Go.Proofs.YtncmmbacoknefaaGreat
open Go
set_option linter.unusedVariables false
set_option linter.unusedSimpArgs false
theorem pow63 {r : Nat} (h : r < 64) : (2 : Int) ^ r ≤ 9223372036854775808 := by
 obtain ⟨d, hd⟩ : ∃ d, r + d = 63 := ⟨63 - r, by omega⟩
 have e : (9223372036854775808 : Int) = 2 ^ r * 2 ^ d := by rw [← Int.pow_add, hd]; rfl
 have p1 : (0 : Int) < 2 ^ r := Int.pow_pos (by decide)
 have p2 : (0 : Int) < 2 ^ d := Int.pow_pos (by decide)
 have p3 := Int.mul_le_mul_of_nonneg_left (show (1 : Int) ≤ 2 ^ d by omega) (Int.le_of_lt p1)
 rw [e]
 omega
theorem shl_word {x : Int} {r : Nat} (hx : U64 x) (hr : r < 64) : ∃ t u : Int, IntKind.u64.wrap (x * 2 ^ r) = t ∧ x.fdiv (2 ^ (64 - r)) = u ∧ U64 t ∧ 0 ≤ u ∧ u < 2 ^ r ∧ (2 ^ r : Int) ∣ t ∧ x * 2 ^ r = 18446744073709551616 * u + t := by
 obtain ⟨x0, x1⟩ := hx
 have hB : (2 ^ r : Int) * 2 ^ (64 - r) = 18446744073709551616 := by rw [← Int.pow_add, show r + (64 - r) = 64 by omega]; rfl
 have p0 : (0 : Int) < 2 ^ r := Int.pow_pos (by decide)
 have q0 : (0 : Int) < 2 ^ (64 - r) := Int.pow_pos (by decide)
 generalize (2 ^ r : Int) = p at *
 generalize (2 ^ (64 - r) : Int) = q at *
 have ed := Int.mul_ediv_add_emod x q
 have m0 := Int.emod_nonneg x (Int.ne_of_gt q0)
 have m1 := Int.emod_lt_of_pos x q0
 have hu : 0 ≤ x / q := Int.ediv_nonneg x0 (Int.le_of_lt q0)
 have hv : x % q * p < 18446744073709551616 := by
  rw [← hB, Int.mul_comm p q]
  exact Int.mul_lt_mul_of_pos_right m1 p0
 have hv0 : 0 ≤ x % q * p := Int.mul_nonneg m0 (Int.le_of_lt p0)
 have hx2 : x * p = 18446744073709551616 * (x / q) + x % q * p := by
  have e1 : x * p = (q * (x / q) + x % q) * p := by rw [ed]
  rw [e1, ← hB, Int.add_mul]
  congr 1
  rw [Int.mul_comm q, Int.mul_assoc, Int.mul_comm q p, Int.mul_comm (x / q)]
 have hup : x / q < p := by
  have : x < q * p := by rw [Int.mul_comm, hB]; omega
  exact Int.ediv_lt_of_lt_mul q0 (by rw [Int.mul_comm]; exact this)
 refine ⟨x % q * p, x / q, ?_, Int.fdiv_eq_ediv_of_nonneg _ (Int.le_of_lt q0), ⟨hv0, by omega⟩, hu, hup, ⟨x % q, by rw [Int.mul_comm]⟩, hx2⟩
 show x * p % 18446744073709551616 = _
 rw [hx2]
 generalize x % q * p = v at *
 generalize x / q = u at *
 omega
theorem shl_words {x0 x1 x2 x3 t0 t1 t2 t3 u0 u1 u2 u3 p : Int} (e0 : x0 * p = 18446744073709551616 * u0 + t0) (e1 : x1 * p = 18446744073709551616 * u1 + t1) (e2 : x2 * p = 18446744073709551616 * u2 + t2) (e3 : x3 * p = 18446744073709551616 * u3 + t3) :
  MV x0 x1 x2 x3 * p = MV t0 (t1 + u0) (t2 + u1) (t3 + u2) + 115792089237316195423570985008687907853269984665640564039457584007913129639936 * u3 := by
 unfold MV
 simp only [Int.add_mul, Int.mul_assoc]
 rw [e0, e1, e2, e3]
 omega
theorem shl0 {Z a b c d e : Int} (h : Z = MV a b c d + 115792089237316195423570985008687907853269984665640564039457584007913129639936 * e) (he : 0 ≤ e) (h0 : U64 a ∧ U64 b ∧ U64 c ∧ U64 d) (hf : Z < 115792089237316195423570985008687907853269984665640564039457584007913129639936) : MV a b c d = Z := by
 have := mv_nonneg h0.1 h0.2.1 h0.2.2.1 h0.2.2.2
 omega
theorem shl1 {Z a b c d e : Int} (h : Z = MV a b c d + 115792089237316195423570985008687907853269984665640564039457584007913129639936 * e) (he : 0 ≤ e) (h0 : U64 a ∧ U64 b ∧ U64 c ∧ U64 d) (hf : Z * 18446744073709551616 < 115792089237316195423570985008687907853269984665640564039457584007913129639936) : MV 0 a b c = Z * 18446744073709551616 := by
 obtain ⟨⟨a0, a1⟩, ⟨b0, b1⟩, ⟨c0, c1⟩, ⟨d0, d1⟩⟩ := h0
 unfold MV at *
 omega
theorem shl2 {Z a b c d e : Int} (h : Z = MV a b c d + 115792089237316195423570985008687907853269984665640564039457584007913129639936 * e) (he : 0 ≤ e) (h0 : U64 a ∧ U64 b ∧ U64 c ∧ U64 d) (hf : Z * 340282366920938463463374607431768211456 < 115792089237316195423570985008687907853269984665640564039457584007913129639936) : MV 0 0 a b = Z * 340282366920938463463374607431768211456 := by
 obtain ⟨⟨a0, a1⟩, ⟨b0, b1⟩, ⟨c0, c1⟩, ⟨d0, d1⟩⟩ := h0
 unfold MV at *
 omega
theorem shl3 {Z a b c d e : Int} (h : Z = MV a b c d + 115792089237316195423570985008687907853269984665640564039457584007913129639936 * e) (he : 0 ≤ e) (h0 : U64 a ∧ U64 b ∧ U64 c ∧ U64 d) (hf : Z * 6277101735386680763835789423207666416102355444464034512896 < 115792089237316195423570985008687907853269984665640564039457584007913129639936) : MV 0 0 0 a = Z * 6277101735386680763835789423207666416102355444464034512896 := by
 obtain ⟨⟨a0, a1⟩, ⟨b0, b1⟩, ⟨c0, c1⟩, ⟨d0, d1⟩⟩ := h0
 unfold MV at *
 omega
theorem pow_split (q r : Nat) : (2 ^ (64 * q + r) : Int) = 2 ^ r * 18446744073709551616 ^ q := by
 rw [Int.pow_add, Int.pow_mul, Int.mul_comm]
 rfl
def bl (z : Int) : Nat := if z ≤ 0 then 0 else z.toNat.log2 + 1
theorem bl_zero : bl 0 = 0 := rfl
theorem bl_pos {z : Int} (h : 0 < z) : 0 < bl z := by unfold bl; rw [if_neg (by omega)]; omega
theorem bl_lt {z : Int} (h : 0 ≤ z) : z < 2 ^ bl z := by
 unfold bl
 split
 ·have : z = 0 := by omega
  subst this; decide
 ·obtain ⟨n, rfl⟩ := Int.eq_ofNat_of_zero_le h
  rw [Int.toNat_natCast]
  have := Nat.lt_log2_self (n := n)
  exact_mod_cast this
theorem bl_le {z : Int} (h : 0 < z) : 2 ^ (bl z - 1) ≤ z := by
 unfold bl
 rw [if_neg (by omega)]
 obtain ⟨n, rfl⟩ := Int.eq_ofNat_of_zero_le (Int.le_of_lt h)
 rw [Int.toNat_natCast, Nat.add_sub_cancel]
 have := Nat.log2_self_le (n := n) (by omega)
 exact_mod_cast this
theorem bl_unique {z : Int} {k : Nat} (h1 : 2 ^ k ≤ z) (h2 : z < 2 ^ (k + 1)) : bl z = k + 1 := by
 have hp : (0 : Int) < 2 ^ k := Int.pow_pos (by decide)
 unfold bl
 rw [if_neg (by omega)]
 obtain ⟨n, rfl⟩ := Int.eq_ofNat_of_zero_le (a := z) (by omega)
 rw [Int.toNat_natCast]
 congr 1
 have a1 : 2 ^ k ≤ n := by exact_mod_cast h1
 have a2 : n < 2 ^ (k + 1) := by exact_mod_cast h2
 exact (Nat.log2_eq_iff (by have := Nat.pos_of_ne_zero (n := 2 ^ k) (by simp); omega)).2 ⟨a1, a2⟩
theorem bl_word {z x lo : Int} {i : Nat} (hx : U64 x) (hx0 : x ≠ 0) (hl : 0 ≤ lo) (hlo : lo < 2 ^ (64 * i)) (hz : z = lo + 2 ^ (64 * i) * x) : bl z = 64 * i + Go.Lib.bitLen x.toNat := by
 obtain ⟨n, rfl⟩ := Int.eq_ofNat_of_zero_le hx.1
 rw [Int.toNat_natCast]
 obtain ⟨b1, b2, b3⟩ := Go.Lib.bitLenAux_bounds 64 n (by have := hx.2; omega) (by omega)
 have e : Go.Lib.bitLen n = Go.Lib.bitLenAux 64 n := rfl
 rw [← e] at b1 b2 b3
 generalize Go.Lib.bitLen n = L at *
 obtain ⟨K, rfl⟩ : ∃ K, L = K + 1 := ⟨L - 1, by omega⟩
 rw [Nat.add_sub_cancel] at b2
 have c2 : (2 ^ K : Int) ≤ (n : Int) := by exact_mod_cast b2
 have c3 : (n : Int) + 1 ≤ 2 ^ (K + 1) := by exact_mod_cast b3
 have hp : (0 : Int) < 2 ^ (64 * i) := Int.pow_pos (by decide)
 have d2 : (2 ^ (64 * i) : Int) * 2 ^ K ≤ 2 ^ (64 * i) * (n : Int) := Int.mul_le_mul_of_nonneg_left c2 (Int.le_of_lt hp)
 have d3 : (2 ^ (64 * i) : Int) * ((n : Int) + 1) ≤ 2 ^ (64 * i) * 2 ^ (K + 1) := Int.mul_le_mul_of_nonneg_left c3 (Int.le_of_lt hp)
 rw [← Int.pow_add] at d2 d3
 rw [Int.mul_add, Int.mul_one] at d3
 rw [show 64 * i + (K + 1) = (64 * i + K) + 1 by omega]
 refine bl_unique (by omega) ?_
 rw [show (64 * i + K) + 1 = 64 * i + (K + 1) by omega]
 omega
theorem pow256 {k : Nat} {b : Int} (hb : 0 < b) (h : A4 (b * 2 ^ k)) : k < 256 := by
 by_cases hk : k < 256
 ·exact hk
 ·exfalso
  obtain ⟨d, hd⟩ : ∃ d, k = 256 + d := ⟨k - 256, by omega⟩
  have h1 := h.2
  have p2 : (0 : Int) < 2 ^ d := Int.pow_pos (by decide)
  have p3 := Int.mul_le_mul_of_nonneg_left (show (1 : Int) ≤ 2 ^ d by omega) (show (0 : Int) ≤ 2 ^ 256 by decide)
  have p4 := Int.mul_le_mul_of_nonneg_right (show (1 : Int) ≤ b by omega) (show (0 : Int) ≤ 2 ^ k from Int.le_of_lt (Int.pow_pos (by decide)))
  have e : (2 : Int) ^ k = 2 ^ 256 * 2 ^ d := by rw [hd, Int.pow_add]
  have e2 : (2 : Int) ^ 256 = 115792089237316195423570985008687907853269984665640564039457584007913129639936 := rfl
  rw [e2] at e p3
  omega
theorem bl_256 {z : Int} (h : A4 z) : bl z ≤ 256 := by
 by_cases h0 : 0 < z
 ·have h1 := bl_le h0
  have h2 := bl_pos h0
  have := pow256 (b := 1) (k := bl z - 1) (by decide) ⟨by rw [Int.one_mul]; exact Int.le_of_lt (Int.pow_pos (by decide)), by have := h.2; rw [Int.one_mul]; omega⟩
  omega
 ·have e : z = 0 := by have := h.1; omega
  subst e; decide
structure DvI (a b : Int) (r q : Int) (k : Nat) : Prop where
 r0 : 0 ≤ r
 rl : r < b * 2 ^ k
 eq : q * b + r = a
 q0 : 0 ≤ q
 dv : (2 ^ k : Int) ∣ q
theorem dv_start {a b : Int} (ha : 0 ≤ a) (hb : 0 < b) (h : bl b ≤ bl a) : DvI a b a 0 (bl a - bl b + 1) := by
 refine ⟨ha, ?_, by omega, Int.le_refl _, ⟨0, by simp⟩⟩
 have h1 := bl_lt ha
 have h2 := bl_le hb
 have h3 := bl_pos hb
 have h4 : (2 : Int) ^ bl a = 2 ^ (bl b - 1) * 2 ^ (bl a - bl b + 1) := by rw [← Int.pow_add]; congr 1; omega
 have hp : (0 : Int) ≤ 2 ^ (bl a - bl b + 1) := Int.le_of_lt (Int.pow_pos (by decide))
 have := Int.mul_le_mul_of_nonneg_right h2 hp
 omega
theorem dv_fit {a b : Int} {m : Nat} (ha : A4 a) (hb : A4 b) (hb0 : 0 < b) (h : bl b ≤ bl a) : A4 (b * 2 ^ (bl a - bl b)) := by
 refine ⟨Int.mul_nonneg hb.1 (Int.le_of_lt (Int.pow_pos (by decide))), ?_⟩
 have h1 := bl_lt hb.1
 have h2 : bl a ≤ 256 := by
  by_cases h0 : 0 < a
  ·have := bl_le h0
   have h3 := ha.2
   by_cases hc : bl a ≤ 256
   ·exact hc
   ·exfalso
    have h4 : (2 : Int) ^ 256 ≤ 2 ^ (bl a - 1) := by
     have : (2 : Nat) ^ 256 ≤ 2 ^ (bl a - 1) := Nat.pow_le_pow_right (by decide) (by omega)
     exact_mod_cast this
    have h5 : (2 : Int) ^ 256 = 115792089237316195423570985008687907853269984665640564039457584007913129639936 := by decide
    omega
  ·have := ha.1
   have e : a = 0 := by omega
   subst e; decide
 have h5 : (2 : Int) ^ bl a ≤ 115792089237316195423570985008687907853269984665640564039457584007913129639936 := by
  obtain ⟨d, hd⟩ : ∃ d, bl a + d = 256 := ⟨256 - bl a, by omega⟩
  have e : (115792089237316195423570985008687907853269984665640564039457584007913129639936 : Int) = 2 ^ bl a * 2 ^ d := by rw [← Int.pow_add, hd]; rfl
  have p1 : (0 : Int) < 2 ^ bl a := Int.pow_pos (by decide)
  have p2 : (0 : Int) < 2 ^ d := Int.pow_pos (by decide)
  have p3 := Int.mul_le_mul_of_nonneg_left (show (1 : Int) ≤ 2 ^ d by omega) (Int.le_of_lt p1)
  rw [e]
  omega
 have hp : (0 : Int) < 2 ^ (bl a - bl b) := Int.pow_pos (by decide)
 have h6 : b * 2 ^ (bl a - bl b) < 2 ^ bl b * 2 ^ (bl a - bl b) := Int.mul_lt_mul_of_pos_right h1 hp
 rw [← Int.pow_add, show bl b + (bl a - bl b) = bl a by omega] at h6
 omega
theorem dv_step {a b r q : Int} {k : Nat} (h : DvI a b r q (k + 1)) (hb : 0 < b) : (b * 2 ^ k ≤ r → DvI a b (r - b * 2 ^ k) (q + 2 ^ k) k) ∧ (¬ b * 2 ^ k ≤ r → DvI a b r q k) := by
 obtain ⟨r0, rl, eq, q0, ⟨c, hc⟩⟩ := h
 have hp : (0 : Int) < 2 ^ k := Int.pow_pos (by decide)
 have e2 : b * 2 ^ (k + 1) = b * 2 ^ k + b * 2 ^ k := by rw [Int.pow_succ, ← Int.mul_assoc]; omega
 have e3 : (2 : Int) ^ (k + 1) * c = 2 ^ k * (2 * c) := by rw [Int.pow_succ, Int.mul_assoc]
 rw [e2] at rl
 refine ⟨fun hle => ⟨by omega, by omega, ?_, by omega, ⟨2 * c + 1, ?_⟩⟩, fun hle => ⟨r0, by omega, eq, q0, ⟨2 * c, by rw [hc, e3]⟩⟩⟩
 ·rw [Int.add_mul, Int.mul_comm (2 ^ k) b]; omega
 ·rw [hc, e3, Int.mul_add, Int.mul_one]
theorem dv_end {a b r q : Int} (h : DvI a b r q 0) (hb : 0 < b) : q = a / b ∧ r = a % b := by
 obtain ⟨r0, rl, eq, q0, -⟩ := h
 rw [Int.pow_zero, Int.mul_one] at rl
 have e1 : a / b = q := by
  rw [← eq, Int.mul_comm, Int.add_comm, Int.add_mul_ediv_left _ _ (Int.ne_of_gt hb), Int.ediv_eq_zero_of_lt r0 rl]; omega
 have e2 : a % b = r := by
  rw [← eq, Int.mul_comm, Int.add_comm, Int.add_mul_emod_self_left, Int.emod_eq_of_lt r0 rl]
 exact ⟨e1.symm, e2.symm⟩
theorem dv_small {a b : Int} (ha : 0 ≤ a) (hb : 0 < b) (h : bl a < bl b) : a / b = 0 ∧ a % b = a := by
 have h1 := bl_lt ha
 have h2 := bl_le hb
 have h3 : (2 : Int) ^ bl a ≤ 2 ^ (bl b - 1) := by
  have : (2 : Nat) ^ bl a ≤ 2 ^ (bl b - 1) := Nat.pow_le_pow_right (by decide) (by omega)
  exact_mod_cast this
 have hlt : a < b := by omega
 exact ⟨Int.ediv_eq_zero_of_lt ha hlt, Int.emod_eq_of_lt ha hlt⟩
theorem word_dvd {q x lo hi : Int} {w k : Nat} (hk : k < 64) (hq : q = lo + 2 ^ (64 * w) * (x + 18446744073709551616 * hi)) (hl : 0 ≤ lo) (hlo : lo < 2 ^ (64 * w)) (h : (2 ^ (64 * w + k + 1) : Int) ∣ q) : (2 ^ (k + 1) : Int) ∣ x := by
 obtain ⟨c, hc⟩ := h
 have hp : (0 : Int) < 2 ^ (64 * w) := Int.pow_pos (by decide)
 have e1 : (2 ^ (64 * w + k + 1) : Int) = 2 ^ (64 * w) * 2 ^ (k + 1) := by rw [← Int.pow_add]; congr 1
 have e2 : (18446744073709551616 : Int) = 2 ^ (k + 1) * 2 ^ (63 - k) := by rw [← Int.pow_add, show k + 1 + (63 - k) = 64 by omega]; rfl
 rw [e1, Int.mul_assoc] at hc
 have e3 : lo = 2 ^ (64 * w) * (2 ^ (k + 1) * c - (x + 18446744073709551616 * hi)) := by rw [Int.mul_sub, ← hc, hq]; omega
 have e4 : 2 ^ (k + 1) * c - (x + 18446744073709551616 * hi) = 0 := by
  generalize 2 ^ (k + 1) * c - (x + 18446744073709551616 * hi) = d at *
  rcases Int.lt_trichotomy d 0 with h | h | h
  ·have := Int.mul_neg_of_pos_of_neg hp h; omega
  ·exact h
  ·have : 2 ^ (64 * w) * 1 ≤ 2 ^ (64 * w) * d := Int.mul_le_mul_of_nonneg_left (by omega) (Int.le_of_lt hp)
   omega
 rw [e2] at e4
 refine ⟨c - 2 ^ (63 - k) * hi, ?_⟩
 rw [Int.mul_sub, ← Int.mul_assoc]
 omega
end Go.Proofs.YtncmmbacoknefaaGreat

/- DvR: Plain facts for the division of lists of words. -/
namespace Go.Proofs.YtncmmbacoknefaaGreat
open Go
set_option linter.unusedVariables false
set_option linter.unusedSimpArgs false
theorem pw_two (k : Nat) : pw k = 2 ^ (64 * k) := by
 induction k with
 | zero => rfl
 | succ k ih => rw [pw_succ, ih, Nat.mul_succ, Int.pow_add, Int.mul_comm]; rfl
theorem getD_set_eq (l : List Int) (k : Nat) (x : Int) (h : k < l.length) : (l.set k x).getD k 0 = x := by
 rw [List.getD_eq_getElem?_getD, List.getElem?_set_self (by simpa using h)]; rfl
theorem getD_set_ne' (l : List Int) (k j : Nat) (x : Int) (h : k ≠ j) : (l.set k x).getD j 0 = l.getD j 0 := by
 rw [List.getD_eq_getElem?_getD, List.getD_eq_getElem?_getD, List.getElem?_set_ne h]
theorem set_self_D (l : List Int) (k : Nat) (h : k < l.length) : l.set k (l.getD k 0) = l := by
 refine VL_same (by rw [List.length_set]) fun j => ?_
 by_cases e : k = j
 ·subst e; rw [getD_set_eq _ _ _ h]
 ·rw [getD_set_ne' _ _ _ _ e]
theorem drop_D (l : List Int) (k : Nat) (h : k < l.length) : l.drop k = l.getD k 0 :: l.drop (k + 1) := by
 rw [List.drop_eq_getElem_cons h, List.getD_eq_getElem?_getD, List.getElem?_eq_getElem h]; rfl
theorem VL_at (l : List Int) (k : Nat) (h : k < l.length) : VL l = TV l k + pw k * (l.getD k 0 + 18446744073709551616 * VL (l.drop (k + 1))) := by
 have e := VL_split l k
 rw [Nat.min_eq_left (Nat.le_of_lt h), drop_D l k h] at e
 exact e
theorem TV_bound {l : List Int} (h : Ws l) (k : Nat) (hk : k ≤ l.length) : 0 ≤ TV l k ∧ TV l k < pw k := by
 have h1 := VL_nonneg (h.take k)
 have h2 := VL_lt (h.take k)
 rw [List.length_take, Nat.min_eq_left hk] at h2
 exact ⟨h1, h2⟩
theorem size_wl {m : Int} (h : 0 < m) : 64 * ((wl m).length - 1) + Go.Lib.bitLen ((wl m).getD ((wl m).length - 1) 0).toNat = bl m := by
 obtain ⟨k, hk, e, hz, hl⟩ := wl_VL (wl_words m)
 rw [VL_wl (Int.le_of_lt h)] at e
 have hne := wl_ne h
 have hpos : 0 < (wl m).length := List.length_pos_iff.2 hne
 have hlen : (wl m).length = k := by
  have := congrArg List.length e
  rw [List.length_take] at this
  omega
 have hx := hl (by omega)
 rw [← hlen] at hx
 have hw : U64 ((wl m).getD ((wl m).length - 1) 0) := (wl_words m).getD _
 have ha := VL_at (wl m) ((wl m).length - 1) (by omega)
 have hb := TV_bound (wl_words m) ((wl m).length - 1) (by omega)
 rw [Nat.sub_add_cancel hpos, List.drop_length, VL_wl (Int.le_of_lt h)] at ha
 have hv : VL ([] : List Int) = 0 := rfl
 rw [hv, pw_two, Int.mul_zero, Int.add_zero] at ha
 rw [pw_two] at hb
 exact (bl_word hw hx hb.1 hb.2 (by omega)).symm
def hl : List Int → List Int
 | [] => []
 | x :: xs => (x / 2 + 9223372036854775808 * (xs.headD 0 % 2)) :: hl xs
theorem hl_len : ∀ l : List Int, (hl l).length = l.length
 | [] => rfl
 | x :: xs => by unfold hl; rw [List.length_cons, List.length_cons, hl_len xs]
theorem hl_ws : ∀ {l : List Int}, Ws l → Ws (hl l)
 | [], _ => Ws.nil
 | x :: xs, h => by
  obtain ⟨h1, h2⟩ := h.cons
  intro y hy
  unfold hl at hy
  rcases List.mem_cons.1 hy with rfl | hy
  ·obtain ⟨a, b⟩ := h1
   exact ⟨by omega, by omega⟩
  ·exact hl_ws h2 y hy
theorem VL_odd (l : List Int) : VL l % 2 = l.headD 0 % 2 := by
 cases l with
 | nil => rfl
 | cons x xs =>
  show (x + 18446744073709551616 * VL xs) % 2 = x % 2
  omega
theorem VL_hl : ∀ l : List Int, VL (hl l) = VL l / 2
 | [] => rfl
 | x :: xs => by
  have h1 := VL_hl xs
  have h2 := VL_odd xs
  show x / 2 + 9223372036854775808 * (xs.headD 0 % 2) + 18446744073709551616 * VL (hl xs) = (x + 18446744073709551616 * VL xs) / 2
  rw [h1]
  omega
theorem hl_get : ∀ (l : List Int) (i : Nat), (hl l).getD i 0 = l.getD i 0 / 2 + 9223372036854775808 * (l.getD (i + 1) 0 % 2)
 | [], i => by simp [hl]
 | x :: xs, 0 => by
  unfold hl
  cases xs <;> simp
 | x :: xs, i + 1 => by
  unfold hl
  simpa using hl_get xs i
def hc (l : List Int) (i : Nat) : List Int := (hl l).take i ++ l.drop i
theorem hc_zero (l : List Int) : hc l 0 = l := by simp [hc]
theorem hc_all (l : List Int) : hc l l.length = hl l := by
 unfold hc
 rw [List.drop_length, List.append_nil, List.take_of_length_le (by rw [hl_len]; exact Nat.le_refl _)]
theorem hc_len (l : List Int) (i : Nat) (h : i ≤ l.length) : (hc l i).length = l.length := by
 unfold hc
 rw [List.length_append, List.length_take, List.length_drop, hl_len]; omega
theorem hc_get (l : List Int) (i j : Nat) (hi : i ≤ l.length) (h : i ≤ j) : (hc l i).getD j 0 = l.getD j 0 := by
 unfold hc
 have hlen : ((hl l).take i).length = i := by rw [List.length_take, hl_len]; omega
 rw [List.getD_eq_getElem?_getD, List.getD_eq_getElem?_getD, List.getElem?_append_right (by omega), hlen, List.getElem?_drop]
 congr 2
 omega
theorem hc_low (l : List Int) (i j : Nat) (hi : i ≤ l.length) (h : j < i) : (hc l i).getD j 0 = (hl l).getD j 0 := by
 unfold hc
 have hlen : ((hl l).take i).length = i := by rw [List.length_take, hl_len]; omega
 rw [List.getD_eq_getElem?_getD, List.getD_eq_getElem?_getD, List.getElem?_append_left (by omega), List.getElem?_take, if_pos h]
theorem hc_set (l : List Int) (i : Nat) (hi : i < l.length) : (hc l i).set i ((hl l).getD i 0) = hc l (i + 1) := by
 have h1 := hc_len l i (Nat.le_of_lt hi)
 have h2 := hc_len l (i + 1) hi
 refine VL_same (by rw [List.length_set, h1, h2]) fun j => ?_
 by_cases e : i = j
 ·subst e
  rw [getD_set_eq _ _ _ (by omega), hc_low l (i + 1) i hi (Nat.lt_succ_self _)]
 ·rw [getD_set_ne' _ _ _ _ e]
  rcases Nat.lt_or_gt_of_ne e with h | h
  ·rw [hc_get l i j (Nat.le_of_lt hi) (Nat.le_of_lt h), hc_get l (i + 1) j hi h]
  ·rw [hc_low l i j (Nat.le_of_lt hi) h, hc_low l (i + 1) j hi (by omega)]
structure UpI (ws out : List Int) (k s i : Nat) : Prop where
 len : out.length = ws.length + k + 1
 wd : Ws out
 vl : VL out = TV ws i * (pw k * 2 ^ s)
 hi : ∀ j, i + k < j → out.getD j 0 = 0
 at_ : out.getD (i + k) 0 < 2 ^ s
theorem up_start (ws : List Int) (k s : Nat) : UpI ws (List.replicate (ws.length + k + 1) 0) k s 0 := by
 have hz : ∀ j, (List.replicate (ws.length + k + 1) (0 : Int)).getD j 0 = 0 := fun j => by
  rw [List.getD_eq_getElem?_getD, List.getElem?_replicate]
  split <;> rfl
 refine ⟨by simp, Ws.zeros _, by rw [VL_zeros, TV_zero, Int.zero_mul], fun j _ => hz j, ?_⟩
 rw [hz]; exact Int.pow_pos (by decide)
theorem up_step {ws out : List Int} {k s i : Nat} {t u : Int} (h : UpI ws out k s i) (hi : i < ws.length) (hs : s < 64) (ht : U64 t) (hd : (2 ^ s : Int) ∣ t) (u0 : 0 ≤ u) (us : u < 2 ^ s) (hx : ws.getD i 0 * 2 ^ s = 18446744073709551616 * u + t) :
  IntKind.u64.wrap ((BitVec.ofInt IntKind.u64.bits (out.getD (i + k) 0) ||| BitVec.ofInt IntKind.u64.bits t).toNat : Int) = out.getD (i + k) 0 + t ∧ U64 (out.getD (i + k) 0 + t) ∧ U64 u ∧
  (out.set (i + k) (out.getD (i + k) 0 + t)).getD (i + k + 1) 0 = 0 ∧ UpI ws ((out.set (i + k) (out.getD (i + k) 0 + t)).set (i + k + 1) u) k s (i + 1) := by
 obtain ⟨len, wd, vl, hz, ha⟩ := h
 have hw := wd.getD (i + k)
 obtain ⟨e1, -, e2⟩ := or_add s hw ht ha hd
 have hp := pow63 hs
 have hu : U64 u := ⟨u0, by omega⟩
 have hlt : i + k < out.length := by omega
 have hn : (out.set (i + k) (out.getD (i + k) 0 + t)).getD (i + k + 1) 0 = 0 := by rw [getD_set_ne' _ _ _ _ (by omega)]; exact hz _ (by omega)
 refine ⟨e1, e2, hu, hn, ⟨by simp [len], (wd.set e2 _).set hu _, ?_, fun j hj => ?_, ?_⟩⟩
 ·rw [VL_set _ _ (by rw [List.length_set]; omega), VL_set _ _ hlt, hn, vl, TV_succ, Int.add_mul, pw_succ, pw_add]
  have e3 : pw i * ws.getD i 0 * (pw k * 2 ^ s) = (pw i * pw k) * (ws.getD i 0 * 2 ^ s) := by
   rw [Int.mul_assoc, Int.mul_assoc, Int.mul_left_comm (ws.getD i 0)]
  rw [e3, hx, Int.mul_add]
  have e4 : pw i * pw k * (18446744073709551616 * u) = 18446744073709551616 * (pw i * pw k) * (u - 0) := by rw [Int.sub_zero, Int.mul_left_comm, Int.mul_assoc, Int.mul_assoc, Int.mul_assoc]
  have e5 : pw i * pw k * (out.getD (i + k) 0 + t - out.getD (i + k) 0) = pw i * pw k * t := by congr 1; omega
  rw [e4, e5]
  omega
 ·rw [getD_set_ne' _ _ _ _ (by omega), getD_set_ne' _ _ _ _ (by omega)]
  exact hz j (by omega)
 ·rw [show i + 1 + k = i + k + 1 by omega, getD_set_eq _ _ _ (by rw [List.length_set]; omega)]
  exact us
theorem up_end {ws out : List Int} {k s : Nat} (h : UpI ws out k s ws.length) : VL out = VL ws * 2 ^ (64 * k + s) := by
 rw [h.vl, TV_all _ _ (Nat.le_refl _), pw_two, ← Int.pow_add]
theorem q_bit {q : List Int} {m w j : Nat} (hw : Ws q) (hm : m = 64 * w + j) (hj : j < 64) (hl : w < q.length) (hd : (2 ^ (m + 1) : Int) ∣ VL q) :
  IntKind.u64.wrap ((BitVec.ofInt IntKind.u64.bits (q.getD w 0) ||| BitVec.ofInt IntKind.u64.bits (2 ^ j)).toNat : Int) = q.getD w 0 + 2 ^ j ∧ U64 (q.getD w 0 + 2 ^ j) ∧ VL (q.set w (q.getD w 0 + 2 ^ j)) = VL q + 2 ^ m := by
 have hp := pow63 hj
 have h0 : (0 : Int) < 2 ^ j := Int.pow_pos (by decide)
 have hb := TV_bound hw w (Nat.le_of_lt hl)
 have ha := VL_at q w hl
 rw [pw_two] at ha hb
 have hx := word_dvd hj ha hb.1 hb.2 (by rw [← hm]; exact hd)
 obtain ⟨a, b, c⟩ := or_add (j + 1) (⟨by omega, by omega⟩ : U64 ((2 : Int) ^ j)) (hw.getD w) (by rw [Int.pow_succ]; omega) hx
 refine ⟨by rw [b]; omega, by rw [Int.add_comm]; exact c, ?_⟩
 rw [VL_set _ _ hl, pw_two, hm, Int.pow_add]
 congr 1
 congr 1
 omega
structure D1I (ws qs : List Int) (y : Int) (r : Int) (i : Nat) : Prop where
 len : qs.length = ws.length
 wd : Ws qs
 eq : VL (ws.drop i) = VL (qs.drop i) * y + r
 r0 : 0 ≤ r
 rl : r < y
theorem d1_start (ws : List Int) {y : Int} (hy : 0 < y) : D1I ws (List.replicate ws.length 0) y 0 ws.length := by
 refine ⟨by simp, Ws.zeros _, ?_, Int.le_refl _, hy⟩
 rw [List.drop_length, List.drop_of_length_le (by simp)]
 show (0 : Int) = 0 * y + 0
 omega
theorem d1_step {ws qs : List Int} {y r : Int} {m : Nat} (h : D1I ws qs y r (m + 1)) (hw : Ws ws) (hy : U64 y) (hm : m < ws.length) :
  U64 ((r * 18446744073709551616 + ws.getD m 0) / y) ∧ D1I ws (qs.set m ((r * 18446744073709551616 + ws.getD m 0) / y)) y ((r * 18446744073709551616 + ws.getD m 0) % y) m := by
 obtain ⟨len, wd, eq, r0, rl⟩ := h
 obtain ⟨x0, x1⟩ := hw.getD m
 have hy0 : 0 < y := by omega
 have e1 := Int.mul_ediv_add_emod (r * 18446744073709551616 + ws.getD m 0) y
 have e2 := Int.emod_nonneg (r * 18446744073709551616 + ws.getD m 0) (Int.ne_of_gt hy0)
 have e3 := Int.emod_lt_of_pos (r * 18446744073709551616 + ws.getD m 0) hy0
 have q0 : 0 ≤ (r * 18446744073709551616 + ws.getD m 0) / y := Int.ediv_nonneg (by omega) (by omega)
 have q1 : (r * 18446744073709551616 + ws.getD m 0) / y < 18446744073709551616 := by
  refine Int.ediv_lt_of_lt_mul hy0 ?_
  have : r * 18446744073709551616 ≤ (y - 1) * 18446744073709551616 := Int.mul_le_mul_of_nonneg_right (by omega) (by decide)
  omega
 generalize (r * 18446744073709551616 + ws.getD m 0) / y = q at *
 generalize (r * 18446744073709551616 + ws.getD m 0) % y = r' at *
 have hu : U64 q := ⟨q0, by omega⟩
 refine ⟨hu, ⟨by rw [List.length_set]; exact len, wd.set hu m, ?_, e2, e3⟩⟩
 rw [drop_D ws m hm, drop_D (qs.set m q) m (by rw [List.length_set]; omega), getD_set_eq _ _ _ (by omega), List.drop_set_of_lt (by omega)]
 show ws.getD m 0 + 18446744073709551616 * VL (ws.drop (m + 1)) = (q + 18446744073709551616 * VL (qs.drop (m + 1))) * y + r'
 rw [eq, Int.add_mul, Int.mul_add, Int.mul_assoc]
 have : q * y = y * q := Int.mul_comm _ _
 omega
theorem d1_end {ws qs : List Int} {y r : Int} (h : D1I ws qs y r 0) (hy : 0 < y) : VL qs = VL ws / y ∧ r = VL ws % y := by
 obtain ⟨len, wd, eq, r0, rl⟩ := h
 rw [List.drop_zero, List.drop_zero] at eq
 have := (Int.ediv_emod_unique hy (a := VL ws) (q := VL qs) (r := r)).2 ⟨by rw [eq, Int.mul_comm]; omega, r0, rl⟩
 exact ⟨this.1.symm, this.2.symm⟩
end Go.Proofs.YtncmmbacoknefaaGreat

/- CdW: MADE BY PROGRAM (sxgen.py): the small code of some functions, points of it and their equations. -/
namespace Go.Proofs.YtncmmbacoknefaaGreat
open Go Go.RowKit Sx
set_option linter.unusedVariables false
variable (C : Cx) (R L1 L2 L3 L4 : St → Prop)
namespace wide_length
def r0 : List G := [(some 1, none, .box true 4 (.tmp 0)), (some 2, none, .mv (.const (.int .i64 0)))]
def r1 : List G := [(some 3, none, .mv (.const (.int .i64 3)))]
def r2 : List G := [(some 4, none, .mv (.tmp 3)), (some 5, none, .bin .geq (.tmp 4) (.const (.int .i64 0)))]
def r4 : List G := [(some 8, none, .mv (.tmp 3)), (some 9, none, .ia 4 1 (.tmp 1) (.tmp 8)), (some 10, none, .ld false 1 (.tmp 9)), (some 11, none, .bin .neq (.tmp 10) (.const (.int .u64 0)))]
def r5 : List G := [(some 12, none, .mv (.tmp 3)), (some 13, none, .bin .mul (.const (.int .i64 64)) (.tmp 12)), (some 14, none, .mv (.tmp 3)), (some 15, none, .ia 4 1 (.tmp 1) (.tmp 14)), (some 16, none, .ld false 1 (.tmp 15)), (some 17, none, .call false 197 [.tmp 16]), (some 18, none, .bin .add (.tmp 13) (.tmp 17)), (some 2, none, .mv (.tmp 18))]
def r3 : List G := [(some 6, none, .mv (.tmp 3)), (some 7, none, .bin .sub (.tmp 6) (.const (.int .i64 1))), (some 3, none, .mv (.tmp 7))]
def r6 : List G := [(some 2, none, .mv (.const (.int .i64 0)))]
def c : MC := (.seq (.reg r0 (some [1])) (.seq (.seq (.reg r1 (some [1, 3])) (.block 0 (.loop (.seq (.seq (.reg r2 (some [1, 3, 5])) (.cond (.tmp 5) .skip (.exit 0))) (.seq (.block 1 (.seq (.reg r4 (some [1, 3, 11])) (.cond (.tmp 11) (.seq (.reg r5 (some [2])) .ret) .skip))) (.reg r3 (some [1, 3]))))))) (.seq (.reg r6 (some [2])) .ret)))
def ann : Ann := [(0, (some [1], 0, [], [], [])), (1, (some [1, 3], 0, [], [], [])), (2, (some [1, 3, 5], 0, [], [], [])), (3, (some [1, 3], 0, [], [], [])), (4, (some [1, 3, 11], 0, [], [], [])), (5, (some [2], 0, [], [], [])), (6, (some [2], 0, [], [], []))]
theorem ok : compF Tryz.prog Tryz.f199 ann = some (19, c, [(2, none)]) := by kernel_rfl
def p1 (S : St) : Prop := ops C r6 (kq [2] R) S
def p3 (S : St) : Prop := ops C r3 (kq [1, 3] L1) S
def p5 (S : St) : Prop := ops C r5 (kq [2] R) S
def p4 (S : St) : Prop := condX (S.ev (.tmp 11)) (p5 C R) (p3 C L1) S
def p6 (S : St) : Prop := ops C r4 (kq [1, 3, 11] (p4 C R L1)) S
def p7 (S : St) : Prop := condX (S.ev (.tmp 5)) (p6 C R L1) (p1 C R) S
def p8 (S : St) : Prop := ops C r2 (kq [1, 3, 5] (p7 C R L1)) S
def p2 (S : St) : Prop := LX C (fun L1 => (p8 C R L1)) S
theorem p2_l (S : St) : p2 C R S = LX C (fun L1 => (p8 C R L1)) S := rfl
def p9 (S : St) : Prop := ops C r1 (kq [1, 3] (p2 C R)) S
def p10 (S : St) : Prop := ops C r0 (kq [1] (p9 C R)) S
theorem s (S : St) : X C c (retK R) S = p10 C R S := by kernel_rfl
def E := ai @r6.eq_1 <| ai @p1.eq_1 <| ai @r3.eq_1 <| ai @p3.eq_1 <| ai @r5.eq_1 <| ai @p5.eq_1 <| ai @p4.eq_1 <| ai @r4.eq_1 <| ai @p6.eq_1 <| ai @p7.eq_1 <| ai @r2.eq_1 <| ai @p8.eq_1 <| ai @r1.eq_1 <| ai @p9.eq_1 <| ai @r0.eq_1 <| ai @p10.eq_1 <| @s
end wide_length
namespace wide_left
def r0 : List G := [(some 2, none, .box true 4 (.tmp 0)), (some 4, none, .new [.int .u64 0, .int .u64 0, .int .u64 0, .int .u64 0])]
def r1 : List G := [(some 8, none, .mv (.tmp 1)), (some 9, none, .bin .quo (.tmp 8) (.const (.int .i64 64))), (some 10, none, .mv (.tmp 1)), (some 11, none, .bin .rem (.tmp 10) (.const (.int .i64 64))), (some 5, none, .mv (.tmp 9)), (some 6, none, .mv (.tmp 11))]
def r2 : List G := [(some 12, none, .mv (.tmp 5)), (some 7, none, .mv (.tmp 12))]
def r3 : List G := [(some 13, none, .mv (.tmp 7)), (some 14, none, .bin .lss (.tmp 13) (.const (.int .i64 4)))]
def r5 : List G := [(some 17, none, .mv (.tmp 7)), (some 18, none, .mv (.tmp 7)), (some 19, none, .mv (.tmp 5)), (some 20, none, .bin .sub (.tmp 18) (.tmp 19)), (some 21, none, .ia 4 1 (.tmp 2) (.tmp 20)), (some 22, none, .ld false 1 (.tmp 21)), (some 23, none, .mv (.tmp 6)), (some 24, none, .bin .shl (.tmp 22) (.tmp 23)), (some 25, none, .ia 4 1 (.tmp 4) (.tmp 17)), (none, none, .st false 1 (.tmp 25) (.tmp 24))]
def r6 : List G := [(some 26, none, .mv (.tmp 6)), (some 27, none, .bin .gtr (.tmp 26) (.const (.int .i64 0))), (some 28, none, .mv (.tmp 27)), (some 29, some (28, true), .mv (.tmp 7)), (some 30, some (28, true), .mv (.tmp 5)), (some 31, some (28, true), .bin .gtr (.tmp 29) (.tmp 30)), (some 32, none, .pick (.tmp 28) (.tmp 31) (.const (.bool false)))]
def r7 : List G := [(some 33, none, .mv (.tmp 7)), (some 34, none, .ia 4 1 (.tmp 4) (.tmp 33)), (some 35, none, .ld false 1 (.tmp 34)), (some 36, none, .mv (.tmp 7)), (some 37, none, .mv (.tmp 5)), (some 38, none, .bin .sub (.tmp 36) (.tmp 37)), (some 39, none, .bin .sub (.tmp 38) (.const (.int .i64 1))), (some 40, none, .ia 4 1 (.tmp 2) (.tmp 39)), (some 41, none, .ld false 1 (.tmp 40)), (some 42, none, .mv (.tmp 6)), (some 43, none, .bin .sub (.const (.int .i64 64)) (.tmp 42)), (some 44, none, .bin .shr (.tmp 41) (.tmp 43)), (some 45, none, .bin .or (.tmp 35) (.tmp 44)), (some 46, none, .ia 4 1 (.tmp 4) (.tmp 33))]
def t7 : List G := [(none, none, .st false 1 (.tmp 46) (.tmp 45))]
def r4 : List G := [(some 15, none, .mv (.tmp 7)), (some 16, none, .bin .add (.tmp 15) (.const (.int .i64 1))), (some 7, none, .mv (.tmp 16))]
def r8 : List G := [(some 47, none, .ld true 4 (.tmp 4)), (none, none, .st true 4 (.tmp 4) (.tmp 47))]
def c : MC := (.seq (.reg r0 (some [1, 2, 4])) (.seq (.reg r1 (some [2, 4, 5, 6])) (.seq (.seq (.reg r2 (some [2, 4, 5, 6, 7])) (.block 0 (.loop (.seq (.seq (.reg r3 (some [2, 4, 5, 6, 7, 14])) (.cond (.tmp 14) .skip (.exit 0))) (.seq (.block 1 (.seq (.reg r5 (some [2, 4, 5, 6, 7])) (.seq (.reg r6 (some [2, 4, 5, 6, 7, 32])) (.cond (.tmp 32) (.dreg r7 t7 (some [2, 4, 5, 6, 7])) .skip)))) (.reg r4 (some [2, 4, 5, 6, 7]))))))) (.seq (.reg r8 (some [4])) .ret))))
def ann : Ann := [(0, (some [1, 2, 4], 0, [], [], [])), (1, (some [2, 4, 5, 6], 0, [], [], [])), (2, (some [2, 4, 5, 6, 7], 0, [], [], [])), (3, (some [2, 4, 5, 6, 7, 14], 0, [], [], [])), (4, (some [2, 4, 5, 6, 7], 0, [], [], [])), (5, (some [2, 4, 5, 6, 7], 0, [], [], [])), (6, (some [2, 4, 5, 6, 7, 32], 0, [], [], [])), (7, (some [2, 4, 5, 6, 7], 14, [], [(0, 0), (1, 0), (2, 0), (3, 0), (4, 0), (5, 0), (6, 0), (7, 0), (8, 0), (9, 0), (10, 0), (11, 0), (12, 0), (13, 0)], [])), (8, (some [4], 0, [], [], []))]
theorem ok : compF Tryz.prog Tryz.f200 ann = some (48, c, [(4, some (true, 4))]) := by kernel_rfl
def p1 (S : St) : Prop := ops C r8 (kq [4] R) S
def p3 (S : St) : Prop := ops C r4 (kq [2, 4, 5, 6, 7] L1) S
def p5 (S : St) : Prop := ops C r7 (ops C t7 (kq [2, 4, 5, 6, 7] (p3 C L1))) S
def p4 (S : St) : Prop := condX (S.ev (.tmp 32)) (p5 C L1) (p3 C L1) S
def p6 (S : St) : Prop := ops C r6 (kq [2, 4, 5, 6, 7, 32] (p4 C L1)) S
def p7 (S : St) : Prop := ops C r5 (kq [2, 4, 5, 6, 7] (p6 C L1)) S
def p8 (S : St) : Prop := condX (S.ev (.tmp 14)) (p7 C L1) (p1 C R) S
def p9 (S : St) : Prop := ops C r3 (kq [2, 4, 5, 6, 7, 14] (p8 C R L1)) S
def p2 (S : St) : Prop := LX C (fun L1 => (p9 C R L1)) S
theorem p2_l (S : St) : p2 C R S = LX C (fun L1 => (p9 C R L1)) S := rfl
def p10 (S : St) : Prop := ops C r2 (kq [2, 4, 5, 6, 7] (p2 C R)) S
def p11 (S : St) : Prop := ops C r1 (kq [2, 4, 5, 6] (p10 C R)) S
def p12 (S : St) : Prop := ops C r0 (kq [1, 2, 4] (p11 C R)) S
theorem s (S : St) : X C c (retK R) S = p12 C R S := by kernel_rfl
def E := ai @r8.eq_1 <| ai @p1.eq_1 <| ai @r4.eq_1 <| ai @p3.eq_1 <| ai @r7.eq_1 <| ai @t7.eq_1 <| ai @p5.eq_1 <| ai @p4.eq_1 <| ai @r6.eq_1 <| ai @p6.eq_1 <| ai @r5.eq_1 <| ai @p7.eq_1 <| ai @p8.eq_1 <| ai @r3.eq_1 <| ai @p9.eq_1 <| ai @r2.eq_1 <| ai @p10.eq_1 <| ai @r1.eq_1 <| ai @p11.eq_1 <| ai @r0.eq_1 <| ai @p12.eq_1 <| @s
end wide_left
namespace wide_halved
def r0 : List G := [(some 1, none, .box true 4 (.tmp 0)), (some 2, none, .new [.int .u64 0, .int .u64 0, .int .u64 0, .int .u64 0])]
def r1 : List G := [(some 4, none, .mv (.const (.int .i64 0)))]
def r2 : List G := [(some 5, none, .bin .lss (.tmp 4) (.const (.int .i64 4)))]
def r3 : List G := [(some 6, none, .mv (.tmp 4)), (some 3, none, .mv (.tmp 6))]
def r4 : List G := [(some 7, none, .mv (.tmp 3)), (some 8, none, .mv (.tmp 3)), (some 9, none, .ia 4 1 (.tmp 1) (.tmp 8)), (some 10, none, .ld false 1 (.tmp 9)), (some 11, none, .bin .shr (.tmp 10) (.const (.int .u64 1))), (some 12, none, .ia 4 1 (.tmp 2) (.tmp 7)), (none, none, .st false 1 (.tmp 12) (.tmp 11))]
def r5 : List G := [(some 13, none, .mv (.tmp 3)), (some 14, none, .bin .lss (.tmp 13) (.const (.int .i64 3)))]
def r6 : List G := [(some 15, none, .mv (.tmp 3)), (some 16, none, .ia 4 1 (.tmp 2) (.tmp 15)), (some 17, none, .ld false 1 (.tmp 16)), (some 18, none, .mv (.tmp 3)), (some 19, none, .bin .add (.tmp 18) (.const (.int .i64 1))), (some 20, none, .ia 4 1 (.tmp 1) (.tmp 19)), (some 21, none, .ld false 1 (.tmp 20)), (some 22, none, .bin .shl (.tmp 21) (.const (.int .u64 63))), (some 23, none, .bin .or (.tmp 17) (.tmp 22)), (some 24, none, .ia 4 1 (.tmp 2) (.tmp 15))]
def t6 : List G := [(none, none, .st false 1 (.tmp 24) (.tmp 23))]
def r7 : List G := [(some 25, none, .bin .add (.tmp 4) (.const (.int .i64 1))), (some 4, none, .mv (.tmp 25))]
def r8 : List G := [(some 26, none, .ld true 4 (.tmp 2)), (none, none, .st true 4 (.tmp 2) (.tmp 26))]
def c : MC := (.seq (.reg r0 (some [1, 2])) (.seq (.seq (.reg r1 (some [1, 2, 4])) (.block 0 (.loop (.seq (.reg r2 (some [1, 2, 4, 5])) (.seq (.cond (.tmp 5) .skip (.exit 0)) (.seq (.block 1 (.seq (.reg r3 (some [1, 2, 3, 4])) (.seq (.reg r4 (some [1, 2, 3, 4])) (.seq (.reg r5 (some [1, 2, 3, 4, 14])) (.cond (.tmp 14) (.dreg r6 t6 (some [1, 2, 4])) .skip))))) (.reg r7 (some [1, 2, 4])))))))) (.seq (.reg r8 (some [2])) .ret)))
def ann : Ann := [(0, (some [1, 2], 0, [], [], [])), (1, (some [1, 2, 4], 0, [], [], [])), (2, (some [1, 2, 4, 5], 0, [], [], [])), (3, (some [1, 2, 3, 4], 0, [], [], [])), (4, (some [1, 2, 3, 4], 0, [], [], [])), (5, (some [1, 2, 3, 4, 14], 0, [], [], [])), (6, (some [1, 2, 4], 10, [], [(0, 0), (1, 0), (2, 0), (3, 0), (4, 0), (5, 0), (6, 0), (7, 0), (8, 0), (9, 0)], [])), (7, (some [1, 2, 4], 0, [], [], [])), (8, (some [2], 0, [], [], []))]
theorem ok : compF Tryz.prog Tryz.f201 ann = some (27, c, [(2, some (true, 4))]) := by kernel_rfl
def p1 (S : St) : Prop := ops C r8 (kq [2] R) S
def p3 (S : St) : Prop := ops C r7 (kq [1, 2, 4] L1) S
def p5 (S : St) : Prop := ops C r6 (ops C t6 (kq [1, 2, 4] (p3 C L1))) S
def p4 (S : St) : Prop := condX (S.ev (.tmp 14)) (p5 C L1) (p3 C L1) S
def p6 (S : St) : Prop := ops C r5 (kq [1, 2, 3, 4, 14] (p4 C L1)) S
def p7 (S : St) : Prop := ops C r4 (kq [1, 2, 3, 4] (p6 C L1)) S
def p8 (S : St) : Prop := ops C r3 (kq [1, 2, 3, 4] (p7 C L1)) S
def p9 (S : St) : Prop := condX (S.ev (.tmp 5)) (p8 C L1) (p1 C R) S
def p10 (S : St) : Prop := ops C r2 (kq [1, 2, 4, 5] (p9 C R L1)) S
def p2 (S : St) : Prop := LX C (fun L1 => (p10 C R L1)) S
theorem p2_l (S : St) : p2 C R S = LX C (fun L1 => (p10 C R L1)) S := rfl
def p11 (S : St) : Prop := ops C r1 (kq [1, 2, 4] (p2 C R)) S
def p12 (S : St) : Prop := ops C r0 (kq [1, 2] (p11 C R)) S
theorem s (S : St) : X C c (retK R) S = p12 C R S := by kernel_rfl
def E := ai @r8.eq_1 <| ai @p1.eq_1 <| ai @r7.eq_1 <| ai @p3.eq_1 <| ai @r6.eq_1 <| ai @t6.eq_1 <| ai @p5.eq_1 <| ai @p4.eq_1 <| ai @r5.eq_1 <| ai @p6.eq_1 <| ai @r4.eq_1 <| ai @p7.eq_1 <| ai @r3.eq_1 <| ai @p8.eq_1 <| ai @p9.eq_1 <| ai @r2.eq_1 <| ai @p10.eq_1 <| ai @r1.eq_1 <| ai @p11.eq_1 <| ai @r0.eq_1 <| ai @p12.eq_1 <| @s
end wide_halved
namespace wide_div
def r0 : List G := [(some 2, none, .box true 4 (.tmp 0)), (some 3, none, .box true 4 (.tmp 1)), (some 4, none, .new [.int .u64 0, .int .u64 0, .int .u64 0, .int .u64 0]), (some 5, none, .new [.int .u64 0, .int .u64 0, .int .u64 0, .int .u64 0])]
def r1 : List G := [(some 8, none, .ld true 4 (.tmp 2)), (some 9, none, .call true 199 [.tmp 8]), (some 10, none, .ld true 4 (.tmp 3)), (some 11, none, .call true 199 [.tmp 10]), (some 12, none, .bin .sub (.tmp 9) (.tmp 11))]
def t1 : List G := [(some 6, none, .mv (.tmp 12))]
def r2 : List G := [(some 13, none, .mv (.tmp 6)), (some 14, none, .bin .lss (.tmp 13) (.const (.int .i64 0)))]
def o3 : List (List G) := [[(some 15, none, (.ld true 4 (.tmp 4))), (some 16, none, (.ld true 4 (.tmp 2))), (none, none, (.st true 4 (.tmp 4) (.tmp 15))), (none, none, (.st true 4 (.tmp 5) (.tmp 16)))],
 [(some 15, none, (.ld true 4 (.tmp 4))), (none, none, (.st true 4 (.tmp 4) (.tmp 15))), (some 16, none, (.ld true 4 (.tmp 2))), (none, none, (.st true 4 (.tmp 5) (.tmp 16)))],
 [(some 16, none, (.ld true 4 (.tmp 2))), (some 15, none, (.ld true 4 (.tmp 4))), (none, none, (.st true 4 (.tmp 4) (.tmp 15))), (none, none, (.st true 4 (.tmp 5) (.tmp 16)))]]
def r4 : List G := [(some 17, none, .ld true 4 (.tmp 3)), (some 18, none, .mv (.tmp 6)), (some 19, none, .call false 200 [.tmp 17, .tmp 18]), (some 7, none, .new [.int .u64 0, .int .u64 0, .int .u64 0, .int .u64 0]), (none, none, .st true 4 (.tmp 7) (.tmp 19))]
def r5 : List G := [(some 20, none, .mv (.tmp 6)), (some 21, none, .bin .geq (.tmp 20) (.const (.int .i64 0)))]
def r7 : List G := [(some 24, none, .ld true 4 (.tmp 2)), (some 25, none, .ld true 4 (.tmp 7)), (some 26, none, .call false 166 [.tmp 24, .tmp 25]), (some 27, none, .bin .geq (.tmp 26) (.const (.int .i64 0)))]
def r8 : List G := [(some 28, none, .ld true 4 (.tmp 2)), (some 29, none, .ld true 4 (.tmp 7)), (some 30, none, .call false 167 [.tmp 28, .tmp 29]), (none, none, .st true 4 (.tmp 2) (.tmp 30))]
def r9 : List G := [(some 31, none, .mv (.tmp 6)), (some 32, none, .bin .quo (.tmp 31) (.const (.int .i64 64))), (some 33, none, .ia 4 1 (.tmp 4) (.tmp 32)), (some 34, none, .ld false 1 (.tmp 33)), (some 35, none, .mv (.tmp 6)), (some 36, none, .bin .rem (.tmp 35) (.const (.int .i64 64))), (some 37, none, .bin .shl (.const (.int .u64 1)) (.tmp 36)), (some 38, none, .bin .or (.tmp 34) (.tmp 37)), (some 39, none, .ia 4 1 (.tmp 4) (.tmp 32))]
def t9 : List G := [(none, none, .st false 1 (.tmp 39) (.tmp 38))]
def r10 : List G := [(some 40, none, .ld true 4 (.tmp 7)), (some 41, none, .call false 201 [.tmp 40]), (none, none, .st true 4 (.tmp 7) (.tmp 41))]
def r6 : List G := [(some 22, none, .mv (.tmp 6)), (some 23, none, .bin .sub (.tmp 22) (.const (.int .i64 1))), (some 6, none, .mv (.tmp 23))]
def o11 : List (List G) := [[(some 42, none, (.ld true 4 (.tmp 4))), (some 43, none, (.ld true 4 (.tmp 2))), (none, none, (.st true 4 (.tmp 4) (.tmp 42))), (none, none, (.st true 4 (.tmp 5) (.tmp 43)))],
 [(some 42, none, (.ld true 4 (.tmp 4))), (none, none, (.st true 4 (.tmp 4) (.tmp 42))), (some 43, none, (.ld true 4 (.tmp 2))), (none, none, (.st true 4 (.tmp 5) (.tmp 43)))],
 [(some 43, none, (.ld true 4 (.tmp 2))), (some 42, none, (.ld true 4 (.tmp 4))), (none, none, (.st true 4 (.tmp 4) (.tmp 42))), (none, none, (.st true 4 (.tmp 5) (.tmp 43)))]]
def c : MC := (.seq (.reg r0 (some [2, 3, 4, 5])) (.seq (.dreg r1 t1 (some [2, 3, 4, 5, 6])) (.seq (.seq (.reg r2 (some [2, 3, 4, 5, 6, 14])) (.cond (.tmp 14) (.seq (.areg [] o3 (some [4, 5])) .ret) .skip)) (.seq (.reg r4 (some [2, 4, 5, 6, 7])) (.seq (.block 0 (.loop (.seq (.seq (.reg r5 (some [2, 4, 5, 6, 7, 21])) (.cond (.tmp 21) .skip (.exit 0))) (.seq (.block 1 (.seq (.seq (.reg r7 (some [2, 4, 5, 6, 7, 27])) (.cond (.tmp 27) (.seq (.reg r8 (some [2, 4, 5, 6, 7])) (.dreg r9 t9 (some [2, 4, 5, 6, 7]))) .skip)) (.reg r10 (some [2, 4, 5, 6, 7])))) (.reg r6 (some [2, 4, 5, 6, 7])))))) (.seq (.areg [] o11 (some [4, 5])) .ret))))))
def ann : Ann := [(0, (some [2, 3, 4, 5], 0, [], [], [])), (1, (some [2, 3, 4, 5, 6], 5, [], [(0, 0), (1, 0), (2, 0), (3, 0), (4, 0)], [])), (2, (some [2, 3, 4, 5, 6, 14], 0, [], [], [])), (3, (some [4, 5], 99999, [], [], [])), (4, (some [2, 4, 5, 6, 7], 0, [], [], [])), (5, (some [2, 4, 5, 6, 7, 21], 0, [], [], [])), (6, (some [2, 4, 5, 6, 7], 0, [], [], [])), (7, (some [2, 4, 5, 6, 7, 27], 0, [], [], [])), (8, (some [2, 4, 5, 6, 7], 0, [], [], [])), (9, (some [2, 4, 5, 6, 7], 9, [], [(0, 0), (1, 0), (2, 0), (3, 0), (4, 0), (5, 0), (6, 0), (7, 0), (8, 0)], [])), (10, (some [2, 4, 5, 6, 7], 0, [], [], [])), (11, (some [4, 5], 99999, [], [], []))]
theorem ok : compF Tryz.prog Tryz.f189 ann = some (44, c, [(4, some (true, 4)), (5, some (true, 4))]) := by kernel_rfl
def p1 (S : St) : Prop := areX C [] o11 (kq [4, 5] R) S
def p3 (S : St) : Prop := ops C r6 (kq [2, 4, 5, 6, 7] L1) S
def p4 (S : St) : Prop := ops C r10 (kq [2, 4, 5, 6, 7] (p3 C L1)) S
def p6 (S : St) : Prop := ops C r9 (ops C t9 (kq [2, 4, 5, 6, 7] (p4 C L1))) S
def p7 (S : St) : Prop := ops C r8 (kq [2, 4, 5, 6, 7] (p6 C L1)) S
def p5 (S : St) : Prop := condX (S.ev (.tmp 27)) (p7 C L1) (p4 C L1) S
def p8 (S : St) : Prop := ops C r7 (kq [2, 4, 5, 6, 7, 27] (p5 C L1)) S
def p9 (S : St) : Prop := condX (S.ev (.tmp 21)) (p8 C L1) (p1 C R) S
def p10 (S : St) : Prop := ops C r5 (kq [2, 4, 5, 6, 7, 21] (p9 C R L1)) S
def p2 (S : St) : Prop := LX C (fun L1 => (p10 C R L1)) S
theorem p2_l (S : St) : p2 C R S = LX C (fun L1 => (p10 C R L1)) S := rfl
def p11 (S : St) : Prop := ops C r4 (kq [2, 4, 5, 6, 7] (p2 C R)) S
def p13 (S : St) : Prop := areX C [] o3 (kq [4, 5] R) S
def p12 (S : St) : Prop := condX (S.ev (.tmp 14)) (p13 C R) (p11 C R) S
def p14 (S : St) : Prop := ops C r2 (kq [2, 3, 4, 5, 6, 14] (p12 C R)) S
def p15 (S : St) : Prop := ops C r1 (ops C t1 (kq [2, 3, 4, 5, 6] (p14 C R))) S
def p16 (S : St) : Prop := ops C r0 (kq [2, 3, 4, 5] (p15 C R)) S
theorem s (S : St) : X C c (retK R) S = p16 C R S := by kernel_rfl
def E := ai @o11.eq_1 <| ai @p1.eq_1 <| ai @r6.eq_1 <| ai @p3.eq_1 <| ai @r10.eq_1 <| ai @p4.eq_1 <| ai @r9.eq_1 <| ai @t9.eq_1 <| ai @p6.eq_1 <| ai @r8.eq_1 <| ai @p7.eq_1 <| ai @p5.eq_1 <| ai @r7.eq_1 <| ai @p8.eq_1 <| ai @p9.eq_1 <| ai @r5.eq_1 <| ai @p10.eq_1 <| ai @r4.eq_1 <| ai @p11.eq_1 <| ai @o3.eq_1 <| ai @p13.eq_1 <| ai @p12.eq_1 <| ai @r2.eq_1 <| ai @p14.eq_1 <| ai @r1.eq_1 <| ai @t1.eq_1 <| ai @p15.eq_1 <| ai @r0.eq_1 <| ai @p16.eq_1 <| @s
end wide_div
namespace wide_DivMod
def r0 : List G := [(some 2, none, .box true 5 (.tmp 0)), (some 3, none, .box true 5 (.tmp 1)), (some 4, none, .new zW), (some 5, none, .new zW), (some 6, none, .mv (.const (.bool false)))]
def r1 : List G := [(some 9, none, .ld true 5 (.tmp 2)), (some 10, none, .call true 161 [.tmp 9]), (some 11, none, .ld true 5 (.tmp 3)), (some 12, none, .call true 161 [.tmp 11])]
def t1 : List G := [(none, none, .st true 5 (.tmp 2) (.tmp 10)), (none, none, .st true 5 (.tmp 3) (.tmp 12))]
def r2 : List G := [(some 13, none, .ld true 5 (.tmp 3)), (some 14, none, .call false 140 [.tmp 13]), (some 15, none, .bin .eql (.tmp 14) (.const (.int .i64 0)))]
def r3 : List G := [(some 16, none, .ld true 5 (.tmp 4)), (some 17, none, .ld true 5 (.tmp 5))]
def t3 : GT := .br none none (.st true 5 (.tmp 4) (.tmp 16)) (.br none none (.st true 5 (.tmp 5) (.tmp 17)) (.br (some 6) none (.mv (.const (.bool false))) .fin .no) .no) .no
def r4 : List G := [(some 19, none, .fa 1 (.tmp 2)), (some 20, none, .ld true 4 (.tmp 19)), (some 21, none, .fa 1 (.tmp 3)), (some 22, none, .ld true 4 (.tmp 21)), (some 23, none, .call false 189 [.tmp 20, .tmp 22]), (some 18, none, .mv (.tmp 23)), (some 24, none, .ex (.tmp 18) 0), (some 25, none, .ex (.tmp 18) 1), (some 7, none, .new [.int .u64 0, .int .u64 0, .int .u64 0, .int .u64 0]), (some 8, none, .new [.int .u64 0, .int .u64 0, .int .u64 0, .int .u64 0]), (none, none, .st true 4 (.tmp 7) (.tmp 24)), (none, none, .st true 4 (.tmp 8) (.tmp 25))]
def r5 : List G := [(some 26, none, .fa 0 (.tmp 2)), (some 27, none, .ld false 1 (.tmp 26)), (some 28, none, .mv (.tmp 27)), (some 29, some (28, true), .ld true 4 (.tmp 8)), (some 30, some (28, true), .bd [.int .u64 0, .int .u64 0, .int .u64 0, .int .u64 0] []), (some 31, some (28, true), .eqg true 35 (.tmp 29) (.tmp 30)), (some 32, none, .pick (.tmp 28) (.tmp 31) (.const (.bool false)))]
def r6 : List G := [(some 34, none, .ld true 4 (.tmp 7)), (some 35, none, .bd [.int .u64 0, .int .u64 0, .int .u64 0, .int .u64 0] [(0, 1, .const (.int .u64 1))]), (some 36, none, .call false 165 [.tmp 34, .tmp 35]), (some 33, none, .mv (.tmp 36)), (some 37, none, .ex (.tmp 33) 0), (some 38, none, .ex (.tmp 33) 1), (none, none, .st true 4 (.tmp 7) (.tmp 37))]
def r7 : List G := [(some 39, none, .fa 1 (.tmp 3)), (some 40, none, .ld true 4 (.tmp 39)), (some 41, none, .ld true 4 (.tmp 8)), (some 42, none, .call false 167 [.tmp 40, .tmp 41]), (none, none, .st true 4 (.tmp 8) (.tmp 42))]
def r8 : List G := [(some 43, none, .fa 0 (.tmp 2)), (some 44, none, .ld false 1 (.tmp 43)), (some 45, none, .fa 0 (.tmp 3)), (some 46, none, .ld false 1 (.tmp 45)), (some 47, none, .bq true (.tmp 44) (.tmp 46)), (some 48, none, .ld true 4 (.tmp 7)), (some 49, none, .call true 163 [.tmp 47, .tmp 48]), (some 50, none, .ld true 4 (.tmp 8)), (some 51, none, .call true 163 [.const (.bool false), .tmp 50])]
def t8 : List G := [(none, none, .st true 5 (.tmp 4) (.tmp 49)), (none, none, .st true 5 (.tmp 5) (.tmp 51)), (some 6, none, .mv (.const (.bool true)))]
def c : MC := (.seq (.reg r0 (some [2, 3, 4, 5])) (.seq (.dreg r1 t1 (some [2, 3, 4, 5])) (.seq (.seq (.reg r2 (some [2, 3, 4, 5, 15])) (.cond (.tmp 15) (.seq (.hreg r3 t3 (some [4, 5, 6])) .ret) .skip)) (.seq (.reg r4 (some [2, 3, 4, 5, 7, 8])) (.seq (.seq (.reg r5 (some [2, 3, 4, 5, 7, 8, 32])) (.cond (.tmp 32) (.seq (.reg r6 (some [2, 3, 4, 5, 7, 8])) (.reg r7 (some [2, 3, 4, 5, 7, 8]))) .skip)) (.seq (.dreg r8 t8 (some [4, 5, 6])) .ret))))))
def ann : Ann := [(0, (some [2, 3, 4, 5], 0, [], [], [])), (1, (some [2, 3, 4, 5], 4, [], [(0, 0), (1, 0), (2, 0), (3, 0)], [])), (2, (some [2, 3, 4, 5, 15], 0, [], [], [])), (3, (some [4, 5, 6], 99998, [0, 1], [], [])), (4, (some [2, 3, 4, 5, 7, 8], 0, [], [], [])), (5, (some [2, 3, 4, 5, 7, 8, 32], 0, [], [], [])), (6, (some [2, 3, 4, 5, 7, 8], 0, [], [], [])), (7, (some [2, 3, 4, 5, 7, 8], 0, [], [], [])), (8, (some [4, 5, 6], 9, [], [(0, 0), (1, 0), (2, 0), (3, 0), (4, 0), (5, 0), (6, 0), (7, 0), (8, 0)], []))]
theorem ok : compF Tryz.prog Tryz.f171 ann = some (52, c, [(4, some (true, 5)), (5, some (true, 5)), (6, none)]) := by kernel_rfl
def p1 (S : St) : Prop := ops C r8 (ops C t8 (kq [4, 5, 6] R)) S
def p3 (S : St) : Prop := ops C r7 (kq [2, 3, 4, 5, 7, 8] (p1 C R)) S
def p4 (S : St) : Prop := ops C r6 (kq [2, 3, 4, 5, 7, 8] (p3 C R)) S
def p2 (S : St) : Prop := condX (S.ev (.tmp 32)) (p4 C R) (p1 C R) S
def p5 (S : St) : Prop := ops C r5 (kq [2, 3, 4, 5, 7, 8, 32] (p2 C R)) S
def p6 (S : St) : Prop := ops C r4 (kq [2, 3, 4, 5, 7, 8] (p5 C R)) S
def p8 (S : St) : Prop := hregX C r3 t3 (kq [4, 5, 6] R) S
def p7 (S : St) : Prop := condX (S.ev (.tmp 15)) (p8 C R) (p6 C R) S
def p9 (S : St) : Prop := ops C r2 (kq [2, 3, 4, 5, 15] (p7 C R)) S
def p10 (S : St) : Prop := ops C r1 (ops C t1 (kq [2, 3, 4, 5] (p9 C R))) S
def p11 (S : St) : Prop := ops C r0 (kq [2, 3, 4, 5] (p10 C R)) S
theorem s (S : St) : X C c (retK R) S = p11 C R S := by kernel_rfl
def E := ai @r8.eq_1 <| ai @t8.eq_1 <| ai @p1.eq_1 <| ai @r7.eq_1 <| ai @p3.eq_1 <| ai @r6.eq_1 <| ai @p4.eq_1 <| ai @p2.eq_1 <| ai @r5.eq_1 <| ai @p5.eq_1 <| ai @r4.eq_1 <| ai @p6.eq_1 <| ai @r3.eq_1 <| ai @t3.eq_1 <| ai @p8.eq_1 <| ai @p7.eq_1 <| ai @r2.eq_1 <| ai @p9.eq_1 <| ai @r1.eq_1 <| ai @t1.eq_1 <| ai @p10.eq_1 <| ai @r0.eq_1 <| ai @p11.eq_1 <| @s
end wide_DivMod
namespace wide_Sign
def r0 : List G := [(some 1, none, .box true 5 (.tmp 0)), (some 2, none, .mv (.const (.int .i64 0)))]
def r1 : List G := [(some 3, none, .ld true 5 (.tmp 1)), (some 4, none, .call false 161 [.tmp 3]), (none, none, .st true 5 (.tmp 1) (.tmp 4))]
def r2 : List G := [(some 6, none, .fa 0 (.tmp 1)), (some 7, none, .ld false 1 (.tmp 6)), (some 5, none, .mv (.tmp 7))]
def r3 : List G := [(some 2, none, .mv (.const (.int .i64 (-1))))]
def r4 : List G := [(some 9, none, .fa 1 (.tmp 1)), (some 10, none, .ld true 4 (.tmp 9)), (some 11, none, .bd [.int .u64 0, .int .u64 0, .int .u64 0, .int .u64 0] []), (some 12, none, .eqg false 35 (.tmp 10) (.tmp 11)), (some 8, none, .mv (.tmp 12))]
def r5 : List G := [(some 2, none, .mv (.const (.int .i64 0)))]
def r6 : List G := [(some 2, none, .mv (.const (.int .i64 1)))]
def c : MC := (.seq (.reg r0 (some [1])) (.seq (.reg r1 (some [1])) (.seq (.block 0 (.seq (.reg r2 (some [1, 5])) (.cond (.tmp 5) (.seq (.reg r3 (some [2])) .ret) (.seq (.reg r4 (some [8])) (.cond (.tmp 8) (.seq (.reg r5 (some [2])) .ret) .skip))))) (.seq (.reg r6 (some [2])) .ret))))
def ann : Ann := [(0, (some [1], 0, [], [], [])), (1, (some [1], 0, [], [], [])), (2, (some [1, 5], 0, [], [], [])), (3, (some [2], 0, [], [], [])), (4, (some [8], 0, [], [], [])), (5, (some [2], 0, [], [], [])), (6, (some [2], 0, [], [], []))]
theorem ok : compF Tryz.prog Tryz.f140 ann = some (13, c, [(2, none)]) := by kernel_rfl
def p1 (S : St) : Prop := ops C r6 (kq [2] R) S
def p3 (S : St) : Prop := ops C r3 (kq [2] R) S
def p5 (S : St) : Prop := ops C r5 (kq [2] R) S
def p4 (S : St) : Prop := condX (S.ev (.tmp 8)) (p5 C R) (p1 C R) S
def p6 (S : St) : Prop := ops C r4 (kq [8] (p4 C R)) S
def p2 (S : St) : Prop := condX (S.ev (.tmp 5)) (p3 C R) (p6 C R) S
def p7 (S : St) : Prop := ops C r2 (kq [1, 5] (p2 C R)) S
def p8 (S : St) : Prop := ops C r1 (kq [1] (p7 C R)) S
def p9 (S : St) : Prop := ops C r0 (kq [1] (p8 C R)) S
theorem s (S : St) : X C c (retK R) S = p9 C R S := by kernel_rfl
def E := ai @r6.eq_1 <| ai @p1.eq_1 <| ai @r3.eq_1 <| ai @p3.eq_1 <| ai @r5.eq_1 <| ai @p5.eq_1 <| ai @p4.eq_1 <| ai @r4.eq_1 <| ai @p6.eq_1 <| ai @p2.eq_1 <| ai @r2.eq_1 <| ai @p7.eq_1 <| ai @r1.eq_1 <| ai @p8.eq_1 <| ai @r0.eq_1 <| ai @p9.eq_1 <| @s
end wide_Sign
namespace wide_OfUnsigned
def r0 : List G := [(some 2, none, .new zW)]
def r1 : List G := [(some 3, none, .mv (.tmp 0)), (some 4, none, .bd [.int .u64 0, .int .u64 0, .int .u64 0, .int .u64 0] [(0, 1, .tmp 3)]), (some 5, none, .bd zW [(1, 4, .tmp 4)]), (none, none, .st true 5 (.tmp 2) (.tmp 5))]
def c : MC := (.seq (.reg r0 (some [0, 2])) (.seq (.reg r1 (some [2])) .ret))
def ann : Ann := [(0, (some [0, 2], 0, [], [], [])), (1, (some [2], 0, [], [], []))]
theorem ok : compF Tryz.prog Tryz.f170 ann = some (6, c, [(2, some (true, 5))]) := by kernel_rfl
def p1 (S : St) : Prop := ops C r1 (kq [2] R) S
def p2 (S : St) : Prop := ops C r0 (kq [0, 2] (p1 C R)) S
theorem s (S : St) : X C c (retK R) S = p2 C R S := by kernel_rfl
def E := ai @r1.eq_1 <| ai @p1.eq_1 <| ai @r0.eq_1 <| ai @p2.eq_1 <| @s
end wide_OfUnsigned
namespace math_bits_Div64
def r0 : List G := [(some 6, none, .mv (.const (.int .u64 0))), (some 7, none, .mv (.const (.int .u64 0)))]
def r1 : List G := [(some 19, none, .mv (.tmp 2)), (some 20, none, .bin .eql (.tmp 19) (.const (.int .u64 0)))]
def r2 : List G := [(some 21, none, .ld false 1 (.global 0)), (none, none, .trap)]
def r3 : List G := [(some 22, none, .mv (.tmp 2)), (some 23, none, .mv (.tmp 0)), (some 24, none, .bin .leq (.tmp 22) (.tmp 23))]
def r4 : List G := [(some 25, none, .ld false 1 (.global 1)), (none, none, .trap)]
def r5 : List G := [(some 26, none, .mv (.tmp 0)), (some 27, none, .bin .eql (.tmp 26) (.const (.int .u64 0)))]
def r6 : List G := [(some 28, none, .mv (.tmp 1)), (some 29, none, .mv (.tmp 2)), (some 30, none, .bin .quo (.tmp 28) (.tmp 29)), (some 31, none, .mv (.tmp 1)), (some 32, none, .mv (.tmp 2)), (some 33, none, .bin .rem (.tmp 31) (.tmp 32))]
def t6 : List G := [(some 6, none, .mv (.tmp 30)), (some 7, none, .mv (.tmp 33))]
def r7 : List G := [(some 34, none, .mv (.tmp 2)), (some 35, none, .call false 196 [.tmp 34]), (some 36, none, .cv .u64 (.tmp 35)), (some 8, none, .mv (.tmp 36))]
def r8 : List G := [(some 37, none, .mv (.tmp 2)), (some 38, none, .mv (.tmp 8)), (some 39, none, .bin .shl (.tmp 37) (.tmp 38)), (some 2, none, .mv (.tmp 39))]
def r9 : List G := [(some 40, none, .mv (.tmp 2)), (some 41, none, .bin .shr (.tmp 40) (.const (.int .u64 32))), (some 9, none, .mv (.tmp 41))]
def r10 : List G := [(some 42, none, .mv (.tmp 2)), (some 43, none, .bin .and (.tmp 42) (.const (.int .u64 4294967295))), (some 10, none, .mv (.tmp 43))]
def r11 : List G := [(some 44, none, .mv (.tmp 0)), (some 45, none, .mv (.tmp 8)), (some 46, none, .bin .shl (.tmp 44) (.tmp 45)), (some 47, none, .mv (.tmp 1)), (some 48, none, .mv (.tmp 8)), (some 49, none, .bin .sub (.const (.int .u64 64)) (.tmp 48)), (some 50, none, .bin .shr (.tmp 47) (.tmp 49)), (some 51, none, .bin .or (.tmp 46) (.tmp 50)), (some 11, none, .mv (.tmp 51))]
def r12 : List G := [(some 52, none, .mv (.tmp 1)), (some 53, none, .mv (.tmp 8)), (some 54, none, .bin .shl (.tmp 52) (.tmp 53)), (some 12, none, .mv (.tmp 54))]
def r13 : List G := [(some 55, none, .mv (.tmp 12)), (some 56, none, .bin .shr (.tmp 55) (.const (.int .u64 32))), (some 13, none, .mv (.tmp 56))]
def r14 : List G := [(some 57, none, .mv (.tmp 12)), (some 58, none, .bin .and (.tmp 57) (.const (.int .u64 4294967295))), (some 14, none, .mv (.tmp 58))]
def r15 : List G := [(some 59, none, .mv (.tmp 11)), (some 60, none, .mv (.tmp 9)), (some 61, none, .bin .quo (.tmp 59) (.tmp 60)), (some 15, none, .mv (.tmp 61))]
def r16 : List G := [(some 62, none, .mv (.tmp 11)), (some 63, none, .mv (.tmp 15)), (some 64, none, .mv (.tmp 9)), (some 65, none, .bin .mul (.tmp 63) (.tmp 64)), (some 66, none, .bin .sub (.tmp 62) (.tmp 65)), (some 16, none, .mv (.tmp 66))]
def r17 : List G := [(some 67, none, .mv (.tmp 15)), (some 68, none, .bin .geq (.tmp 67) (.const (.int .u64 4294967296))), (some 69, none, .mv (.tmp 68)), (some 70, some (69, false), .mv (.tmp 15)), (some 71, some (69, false), .mv (.tmp 10)), (some 72, some (69, false), .bin .mul (.tmp 70) (.tmp 71)), (some 73, some (69, false), .mv (.tmp 16)), (some 74, some (69, false), .bin .mul (.const (.int .u64 4294967296)) (.tmp 73)), (some 75, some (69, false), .mv (.tmp 13)), (some 76, some (69, false), .bin .add (.tmp 74) (.tmp 75)), (some 77, some (69, false), .bin .gtr (.tmp 72) (.tmp 76)), (some 78, none, .pick (.tmp 69) (.const (.bool true)) (.tmp 77))]
def r18 : List G := [(some 79, none, .mv (.tmp 15)), (some 80, none, .bin .sub (.tmp 79) (.const (.int .u64 1))), (some 15, none, .mv (.tmp 80))]
def r19 : List G := [(some 81, none, .mv (.tmp 16)), (some 82, none, .mv (.tmp 9)), (some 83, none, .bin .add (.tmp 81) (.tmp 82)), (some 16, none, .mv (.tmp 83))]
def r20 : List G := [(some 84, none, .mv (.tmp 16)), (some 85, none, .bin .geq (.tmp 84) (.const (.int .u64 4294967296)))]
def r21 : List G := [(some 86, none, .mv (.tmp 11)), (some 87, none, .bin .mul (.tmp 86) (.const (.int .u64 4294967296))), (some 88, none, .mv (.tmp 13)), (some 89, none, .bin .add (.tmp 87) (.tmp 88)), (some 90, none, .mv (.tmp 15)), (some 91, none, .mv (.tmp 2)), (some 92, none, .bin .mul (.tmp 90) (.tmp 91)), (some 93, none, .bin .sub (.tmp 89) (.tmp 92)), (some 17, none, .mv (.tmp 93))]
def r22 : List G := [(some 94, none, .mv (.tmp 17)), (some 95, none, .mv (.tmp 9)), (some 96, none, .bin .quo (.tmp 94) (.tmp 95)), (some 18, none, .mv (.tmp 96))]
def r23 : List G := [(some 97, none, .mv (.tmp 17)), (some 98, none, .mv (.tmp 18)), (some 99, none, .mv (.tmp 9)), (some 100, none, .bin .mul (.tmp 98) (.tmp 99)), (some 101, none, .bin .sub (.tmp 97) (.tmp 100)), (some 16, none, .mv (.tmp 101))]
def r24 : List G := [(some 102, none, .mv (.tmp 18)), (some 103, none, .bin .geq (.tmp 102) (.const (.int .u64 4294967296))), (some 104, none, .mv (.tmp 103)), (some 105, some (104, false), .mv (.tmp 18)), (some 106, some (104, false), .mv (.tmp 10)), (some 107, some (104, false), .bin .mul (.tmp 105) (.tmp 106)), (some 108, some (104, false), .mv (.tmp 16)), (some 109, some (104, false), .bin .mul (.const (.int .u64 4294967296)) (.tmp 108)), (some 110, some (104, false), .mv (.tmp 14)), (some 111, some (104, false), .bin .add (.tmp 109) (.tmp 110)), (some 112, some (104, false), .bin .gtr (.tmp 107) (.tmp 111)), (some 113, none, .pick (.tmp 104) (.const (.bool true)) (.tmp 112))]
def r25 : List G := [(some 114, none, .mv (.tmp 18)), (some 115, none, .bin .sub (.tmp 114) (.const (.int .u64 1))), (some 18, none, .mv (.tmp 115))]
def r26 : List G := [(some 116, none, .mv (.tmp 16)), (some 117, none, .mv (.tmp 9)), (some 118, none, .bin .add (.tmp 116) (.tmp 117)), (some 16, none, .mv (.tmp 118))]
def r27 : List G := [(some 119, none, .mv (.tmp 16)), (some 120, none, .bin .geq (.tmp 119) (.const (.int .u64 4294967296)))]
def r28 : List G := [(some 121, none, .mv (.tmp 15)), (some 122, none, .bin .mul (.tmp 121) (.const (.int .u64 4294967296))), (some 123, none, .mv (.tmp 18)), (some 124, none, .bin .add (.tmp 122) (.tmp 123)), (some 125, none, .mv (.tmp 17)), (some 126, none, .bin .mul (.tmp 125) (.const (.int .u64 4294967296))), (some 127, none, .mv (.tmp 14)), (some 128, none, .bin .add (.tmp 126) (.tmp 127)), (some 129, none, .mv (.tmp 18)), (some 130, none, .mv (.tmp 2)), (some 131, none, .bin .mul (.tmp 129) (.tmp 130)), (some 132, none, .bin .sub (.tmp 128) (.tmp 131)), (some 133, none, .mv (.tmp 8)), (some 134, none, .bin .shr (.tmp 132) (.tmp 133)), (some 6, none, .mv (.tmp 124)), (some 7, none, .mv (.tmp 134))]
def c : MC := (.seq (.reg r0 (some [0, 1, 2])) (.seq (.seq (.reg r1 (some [0, 1, 2, 20])) (.cond (.tmp 20) (.reg r2 (some [0, 1, 2])) .skip)) (.seq (.seq (.reg r3 (some [0, 1, 2, 24])) (.cond (.tmp 24) (.reg r4 (some [0, 1, 2])) .skip)) (.seq (.seq (.reg r5 (some [0, 1, 2, 27])) (.cond (.tmp 27) (.seq (.dreg r6 t6 (some [6, 7])) .ret) .skip)) (.seq (.reg r7 (some [0, 1, 2, 8])) (.seq (.reg r8 (some [0, 1, 2, 8])) (.seq (.reg r9 (some [0, 1, 2, 8, 9])) (.seq (.reg r10 (some [0, 1, 2, 8, 9, 10])) (.seq (.reg r11 (some [1, 2, 8, 9, 10, 11])) (.seq (.reg r12 (some [2, 8, 9, 10, 11, 12])) (.seq (.reg r13 (some [2, 8, 9, 10, 11, 12, 13])) (.seq (.reg r14 (some [2, 8, 9, 10, 11, 13, 14])) (.seq (.reg r15 (some [2, 8, 9, 10, 11, 13, 14, 15])) (.seq (.reg r16 (some [2, 8, 9, 10, 11, 13, 14, 15, 16])) (.seq (.block 0 (.loop (.seq (.seq (.reg r17 (some [2, 8, 9, 10, 11, 13, 14, 15, 16, 78])) (.cond (.tmp 78) .skip (.exit 0))) (.block 1 (.seq (.reg r18 (some [2, 8, 9, 10, 11, 13, 14, 15, 16])) (.seq (.reg r19 (some [2, 8, 9, 10, 11, 13, 14, 15, 16])) (.seq (.reg r20 (some [2, 8, 9, 10, 11, 13, 14, 15, 16, 85])) (.cond (.tmp 85) (.exit 0) .skip)))))))) (.seq (.reg r21 (some [2, 8, 9, 10, 14, 15, 17])) (.seq (.reg r22 (some [2, 8, 9, 10, 14, 15, 17, 18])) (.seq (.reg r23 (some [2, 8, 9, 10, 14, 15, 16, 17, 18])) (.seq (.block 2 (.loop (.seq (.seq (.reg r24 (some [2, 8, 9, 10, 14, 15, 16, 17, 18, 113])) (.cond (.tmp 113) .skip (.exit 2))) (.block 3 (.seq (.reg r25 (some [2, 8, 9, 10, 14, 15, 16, 17, 18])) (.seq (.reg r26 (some [2, 8, 9, 10, 14, 15, 16, 17, 18])) (.seq (.reg r27 (some [2, 8, 9, 10, 14, 15, 16, 17, 18, 120])) (.cond (.tmp 120) (.exit 2) .skip)))))))) (.seq (.reg r28 (some [6, 7])) .ret))))))))))))))))))))
def ann : Ann := [(0, (some [0, 1, 2], 0, [], [], [])), (1, (some [0, 1, 2, 20], 0, [], [], [])), (2, (some [0, 1, 2], 0, [], [], [])), (3, (some [0, 1, 2, 24], 0, [], [], [])), (4, (some [0, 1, 2], 0, [], [], [])), (5, (some [0, 1, 2, 27], 0, [], [], [])), (6, (some [6, 7], 6, [3, 4, 5], [(0, 0), (1, 0), (2, 0), (3, 2), (4, 2), (5, 2)], [])), (7, (some [0, 1, 2, 8], 0, [], [], [])), (8, (some [0, 1, 2, 8], 0, [], [], [])), (9, (some [0, 1, 2, 8, 9], 0, [], [], [])), (10, (some [0, 1, 2, 8, 9, 10], 0, [], [], [])), (11, (some [1, 2, 8, 9, 10, 11], 0, [], [], [])), (12, (some [2, 8, 9, 10, 11, 12], 0, [], [], [])), (13, (some [2, 8, 9, 10, 11, 12, 13], 0, [], [], [])), (14, (some [2, 8, 9, 10, 11, 13, 14], 0, [], [], [])), (15, (some [2, 8, 9, 10, 11, 13, 14, 15], 0, [], [], [])), (16, (some [2, 8, 9, 10, 11, 13, 14, 15, 16], 0, [], [], [])), (17, (some [2, 8, 9, 10, 11, 13, 14, 15, 16, 78], 0, [], [], [])), (18, (some [2, 8, 9, 10, 11, 13, 14, 15, 16], 0, [], [], [])), (19, (some [2, 8, 9, 10, 11, 13, 14, 15, 16], 0, [], [], [])), (20, (some [2, 8, 9, 10, 11, 13, 14, 15, 16, 85], 0, [], [], [])), (21, (some [2, 8, 9, 10, 14, 15, 17], 0, [], [], [])), (22, (some [2, 8, 9, 10, 14, 15, 17, 18], 0, [], [], [])), (23, (some [2, 8, 9, 10, 14, 15, 16, 17, 18], 0, [], [], [])), (24, (some [2, 8, 9, 10, 14, 15, 16, 17, 18, 113], 0, [], [], [])), (25, (some [2, 8, 9, 10, 14, 15, 16, 17, 18], 0, [], [], [])), (26, (some [2, 8, 9, 10, 14, 15, 16, 17, 18], 0, [], [], [])), (27, (some [2, 8, 9, 10, 14, 15, 16, 17, 18, 120], 0, [], [], [])), (28, (some [6, 7], 0, [], [], []))]
theorem ok : compF Tryz.prog Tryz.f182 ann = some (135, c, [(6, none), (7, none)]) := by kernel_rfl
def p1 (S : St) : Prop := ops C r28 (kq [6, 7] R) S
def p3 (S : St) : Prop := condX (S.ev (.tmp 120)) (p1 C R) L1 S
def p4 (S : St) : Prop := ops C r27 (kq [2, 8, 9, 10, 14, 15, 16, 17, 18, 120] (p3 C R L1)) S
def p5 (S : St) : Prop := ops C r26 (kq [2, 8, 9, 10, 14, 15, 16, 17, 18] (p4 C R L1)) S
def p6 (S : St) : Prop := ops C r25 (kq [2, 8, 9, 10, 14, 15, 16, 17, 18] (p5 C R L1)) S
def p7 (S : St) : Prop := condX (S.ev (.tmp 113)) (p6 C R L1) (p1 C R) S
def p8 (S : St) : Prop := ops C r24 (kq [2, 8, 9, 10, 14, 15, 16, 17, 18, 113] (p7 C R L1)) S
def p2 (S : St) : Prop := LX C (fun L1 => (p8 C R L1)) S
theorem p2_l (S : St) : p2 C R S = LX C (fun L1 => (p8 C R L1)) S := rfl
def p9 (S : St) : Prop := ops C r23 (kq [2, 8, 9, 10, 14, 15, 16, 17, 18] (p2 C R)) S
def p10 (S : St) : Prop := ops C r22 (kq [2, 8, 9, 10, 14, 15, 17, 18] (p9 C R)) S
def p11 (S : St) : Prop := ops C r21 (kq [2, 8, 9, 10, 14, 15, 17] (p10 C R)) S
def p13 (S : St) : Prop := condX (S.ev (.tmp 85)) (p11 C R) L1 S
def p14 (S : St) : Prop := ops C r20 (kq [2, 8, 9, 10, 11, 13, 14, 15, 16, 85] (p13 C R L1)) S
def p15 (S : St) : Prop := ops C r19 (kq [2, 8, 9, 10, 11, 13, 14, 15, 16] (p14 C R L1)) S
def p16 (S : St) : Prop := ops C r18 (kq [2, 8, 9, 10, 11, 13, 14, 15, 16] (p15 C R L1)) S
def p17 (S : St) : Prop := condX (S.ev (.tmp 78)) (p16 C R L1) (p11 C R) S
def p18 (S : St) : Prop := ops C r17 (kq [2, 8, 9, 10, 11, 13, 14, 15, 16, 78] (p17 C R L1)) S
def p12 (S : St) : Prop := LX C (fun L1 => (p18 C R L1)) S
theorem p12_l (S : St) : p12 C R S = LX C (fun L1 => (p18 C R L1)) S := rfl
def p19 (S : St) : Prop := ops C r16 (kq [2, 8, 9, 10, 11, 13, 14, 15, 16] (p12 C R)) S
def p20 (S : St) : Prop := ops C r15 (kq [2, 8, 9, 10, 11, 13, 14, 15] (p19 C R)) S
def p21 (S : St) : Prop := ops C r14 (kq [2, 8, 9, 10, 11, 13, 14] (p20 C R)) S
def p22 (S : St) : Prop := ops C r13 (kq [2, 8, 9, 10, 11, 12, 13] (p21 C R)) S
def p23 (S : St) : Prop := ops C r12 (kq [2, 8, 9, 10, 11, 12] (p22 C R)) S
def p24 (S : St) : Prop := ops C r11 (kq [1, 2, 8, 9, 10, 11] (p23 C R)) S
def p25 (S : St) : Prop := ops C r10 (kq [0, 1, 2, 8, 9, 10] (p24 C R)) S
def p26 (S : St) : Prop := ops C r9 (kq [0, 1, 2, 8, 9] (p25 C R)) S
def p27 (S : St) : Prop := ops C r8 (kq [0, 1, 2, 8] (p26 C R)) S
def p28 (S : St) : Prop := ops C r7 (kq [0, 1, 2, 8] (p27 C R)) S
def p30 (S : St) : Prop := ops C r6 (ops C t6 (kq [6, 7] R)) S
def p29 (S : St) : Prop := condX (S.ev (.tmp 27)) (p30 C R) (p28 C R) S
def p31 (S : St) : Prop := ops C r5 (kq [0, 1, 2, 27] (p29 C R)) S
def p33 (S : St) : Prop := ops C r4 (kq [0, 1, 2] (p31 C R)) S
def p32 (S : St) : Prop := condX (S.ev (.tmp 24)) (p33 C R) (p31 C R) S
def p34 (S : St) : Prop := ops C r3 (kq [0, 1, 2, 24] (p32 C R)) S
def p36 (S : St) : Prop := ops C r2 (kq [0, 1, 2] (p34 C R)) S
def p35 (S : St) : Prop := condX (S.ev (.tmp 20)) (p36 C R) (p34 C R) S
def p37 (S : St) : Prop := ops C r1 (kq [0, 1, 2, 20] (p35 C R)) S
def p38 (S : St) : Prop := ops C r0 (kq [0, 1, 2] (p37 C R)) S
theorem s (S : St) : X C c (retK R) S = p38 C R S := by kernel_rfl
theorem E1 : type_of% @r28.eq_1 ∧ type_of% @p1.eq_1 ∧ type_of% @p3.eq_1 ∧ type_of% @r27.eq_1 ∧ type_of% @p4.eq_1 ∧ type_of% @r26.eq_1 ∧ type_of% @p5.eq_1 ∧ type_of% @r25.eq_1 ∧ type_of% @p6.eq_1 ∧ type_of% @p7.eq_1 ∧ type_of% @r24.eq_1 ∧ type_of% @p8.eq_1 ∧ type_of% @r23.eq_1 ∧ type_of% @p9.eq_1 ∧ type_of% @r22.eq_1 ∧ type_of% @p10.eq_1 ∧ type_of% @r21.eq_1 ∧ type_of% @p11.eq_1 ∧ type_of% @p13.eq_1 ∧ type_of% @r20.eq_1 ∧ type_of% @p14.eq_1 ∧ type_of% @r19.eq_1 ∧ type_of% @p15.eq_1 ∧ type_of% @r18.eq_1 ∧ type_of% @p16.eq_1 ∧ type_of% @p17.eq_1 ∧ type_of% @r17.eq_1 ∧ type_of% @p18.eq_1 ∧ type_of% @r16.eq_1 ∧ type_of% @p19.eq_1 ∧ type_of% @r15.eq_1 ∧ type_of% @p20.eq_1 ∧ type_of% @r14.eq_1 ∧ type_of% @p21.eq_1 ∧ type_of% @r13.eq_1 ∧ type_of% @p22.eq_1 ∧ type_of% @r12.eq_1 ∧ type_of% @p23.eq_1 ∧ type_of% @r11.eq_1 ∧ type_of% @p24.eq_1 := ⟨@r28.eq_1, @p1.eq_1, @p3.eq_1, @r27.eq_1, @p4.eq_1, @r26.eq_1, @p5.eq_1, @r25.eq_1, @p6.eq_1, @p7.eq_1, @r24.eq_1, @p8.eq_1, @r23.eq_1, @p9.eq_1, @r22.eq_1, @p10.eq_1, @r21.eq_1, @p11.eq_1, @p13.eq_1, @r20.eq_1, @p14.eq_1, @r19.eq_1, @p15.eq_1, @r18.eq_1, @p16.eq_1, @p17.eq_1, @r17.eq_1, @p18.eq_1, @r16.eq_1, @p19.eq_1, @r15.eq_1, @p20.eq_1, @r14.eq_1, @p21.eq_1, @r13.eq_1, @p22.eq_1, @r12.eq_1, @p23.eq_1, @r11.eq_1, @p24.eq_1⟩
theorem E2 : type_of% @r10.eq_1 ∧ type_of% @p25.eq_1 ∧ type_of% @r9.eq_1 ∧ type_of% @p26.eq_1 ∧ type_of% @r8.eq_1 ∧ type_of% @p27.eq_1 ∧ type_of% @r7.eq_1 ∧ type_of% @p28.eq_1 ∧ type_of% @r6.eq_1 ∧ type_of% @t6.eq_1 ∧ type_of% @p30.eq_1 ∧ type_of% @p29.eq_1 ∧ type_of% @r5.eq_1 ∧ type_of% @p31.eq_1 ∧ type_of% @r4.eq_1 ∧ type_of% @p33.eq_1 ∧ type_of% @p32.eq_1 ∧ type_of% @r3.eq_1 ∧ type_of% @p34.eq_1 ∧ type_of% @r2.eq_1 ∧ type_of% @p36.eq_1 ∧ type_of% @p35.eq_1 ∧ type_of% @r1.eq_1 ∧ type_of% @p37.eq_1 ∧ type_of% @r0.eq_1 ∧ type_of% @p38.eq_1 ∧ type_of% @s := ⟨@r10.eq_1, @p25.eq_1, @r9.eq_1, @p26.eq_1, @r8.eq_1, @p27.eq_1, @r7.eq_1, @p28.eq_1, @r6.eq_1, @t6.eq_1, @p30.eq_1, @p29.eq_1, @r5.eq_1, @p31.eq_1, @r4.eq_1, @p33.eq_1, @p32.eq_1, @r3.eq_1, @p34.eq_1, @r2.eq_1, @p36.eq_1, @p35.eq_1, @r1.eq_1, @p37.eq_1, @r0.eq_1, @p38.eq_1, @s⟩
def E := ai @E1 <| @E2
end math_bits_Div64
end Go.Proofs.YtncmmbacoknefaaGreat

/- LtC: wide.Compare and its reference: the order of the integers. -/
namespace Go.Proofs.YtncmmbacoknefaaGreat
open Go.ChangeShapes Go.WideShapes Go.ChangeAt Go.RowKit
set_option linter.unusedVariables false
set_option linter.unusedSimpArgs false
theorem cmp_sv {p q : Bool} {m k : Int} (hm : 0 ≤ m) (hk : 0 ≤ k) (hp : p = true → 0 < m) (hq : q = true → 0 < k) : cm (sv p m) (sv q k) = if p then (if q then cm k m else -1) else if q then 1 else cm m k := by
 cases p <;> cases q <;> simp [sv, cm] at * <;> (repeat' split) <;> omega
theorem cn_gt {n : Bool} {a b c d : Int} (ha : U64 a) (hb : U64 b) (hc : U64 c) (hd : U64 d) : cn n a b c d = true → 0 < MV a b c d := by
 intro h
 have h1 := mv_nonneg ha hb hc hd
 have h2 : ¬ MV a b c d = 0 := fun h0 => by
  have := (mz_iff ha hb hc hd).2 h0
  unfold cn at h
  rw [this] at h
  simp at h
 omega
theorem cmp_wv {n n' : Bool} {a b c d a' b' c' d' : Int} (ha : U64 a) (hb : U64 b) (hc : U64 c) (hd : U64 d) (ha' : U64 a') (hb' : U64 b') (hc' : U64 c') (hd' : U64 d') :
  cm (wv n a b c d) (wv n' a' b' c' d') = if cn n a b c d then (if cn n' a' b' c' d' then cm4 a' b' c' d' a b c d else -1) else if cn n' a' b' c' d' then 1 else cm4 a b c d a' b' c' d' := by
 rw [wv_sv n a b c d, wv_sv n' a' b' c' d', cmp_sv (mv_nonneg ha hb hc hd) (mv_nonneg ha' hb' hc' hd') (cn_gt ha hb hc hd) (cn_gt ha' hb' hc' hd'), cm4_mv ha hb hc ha' hb' hc', cm4_mv ha' hb' hc' ha hb hc]
set_option maxHeartbeats 3000000 in
theorem compare_any (n : Bool) (a b c d : Int) (n' : Bool) (a' b' c' d' : Int) (ha : U64 a) (hb : U64 b) (hc : U64 c) (hd : U64 d) (ha' : U64 a') (hb' : U64 b') (hc' : U64 c') (hd' : U64 d') (w : World) :
  Calls Tryz.prog 193 #[WV n a b c d, WV n' a' b' c' d'] w fun e w' => e = .returned (.int .i64 (cm (wv n a b c d) (wv n' a' b' c' d'))) ∧ Below w.heap.size w w' := by
 have E := cmp_wv (n := n) (n' := n') ha hb hc hd ha' hb' hc' hd'
 generalize hR : cm (wv n a b c d) (wv n' a' b' c' d') = R at E
 clear hR
 go_enter Tryz.func193, Tryz.ntmps193
 go_wp2_with fail
 (refine wp_region_dq (row := none) (S := (fun Wz => Below w.heap.size w Wz ∧ w.heap.size + 2 ≤ Wz.heap.size ∧ Bx Wz (w.heap.size) (#[.bool n, .int .u64 a, .int .u64 b, .int .u64 c, .int .u64 d]) ∧ Bx Wz (w.heap.size + 1) (#[.bool n', .int .u64 a', .int .u64 b', .int .u64 c', .int .u64 d']))) (n0 := w.heap.size + 2) 4 [] [(0, 0), (1, 0), (2, 0), (3, 0)] [] (by kernel_rfl) (by kernel_rfl) (fun _ _ d _ _ h => by cases d <;> exact h) ⟨by (repeat' (first | (with_reducible assumption) | (with_reducible exact Below.refl _ _) | (with_reducible refine Below.alloc ?_ ?_ _) | (with_reducible refine Below.setCell ?_ ?_ _) | (with_reducible refine Below.drew ?_) | (with_reducible refine below_more ?_ (by with_reducible assumption)) | go_size | omega | (with_reducible refine below_drewN ?_))), (by first | go_size | omega), Bx.of (by (repeat' (first | (with_reducible assumption) | ((with_reducible refine HB.new _ _ _ ?_) <;> (go_size; done)) | (with_reducible refine HB.old (by go_size) ?_) | (with_reducible refine HB.drew ?_) | (with_reducible refine HB.over5 ?_) | (with_reducible refine HB.over4 ?_) | (with_reducible refine HB.setne (by first | go_size | (dsimp only; omega)) ?_) | (with_reducible refine HN.set ?_) | (with_reducible refine HN.setne (by first | go_size | (dsimp only; omega)) ?_) | (with_reducible refine HN.drew ?_) | (with_reducible refine HN.old (by go_size) ?_) | (with_reducible exact HN.of5 (by assumption)) | (with_reducible exact HN.new5 _ _ (by go_size)) | (with_reducible exact HN.of4 (by assumption)) | (with_reducible exact HN.new4 _ _ (by go_size))))), Bx.of (by (repeat' (first | (with_reducible assumption) | ((with_reducible refine HB.new _ _ _ ?_) <;> (go_size; done)) | (with_reducible refine HB.old (by go_size) ?_) | (with_reducible refine HB.drew ?_) | (with_reducible refine HB.over5 ?_) | (with_reducible refine HB.over4 ?_) | (with_reducible refine HB.setne (by first | go_size | (dsimp only; omega)) ?_) | (with_reducible refine HN.set ?_) | (with_reducible refine HN.setne (by first | go_size | (dsimp only; omega)) ?_) | (with_reducible refine HN.drew ?_) | (with_reducible refine HN.old (by go_size) ?_) | (with_reducible exact HN.of5 (by assumption)) | (with_reducible exact HN.new5 _ _ (by go_size)) | (with_reducible exact HN.of4 (by assumption)) | (with_reducible exact HN.new4 _ _ (by go_size)))))⟩ (fun _ _ h g => keep2 h (below_gt g) rfl) (fun _ h => h.2.1) (fun _ h => by cases h) (by simp) ?_)
 refine' dq_pure (by rfl) (by rfl) ?hv1 ?rest1
 case hv1 => (intro w hw; (try dsimp only at hw); go_split_ands; go_simp; try with_reducible rfl)
 case' rest1 => try simp only [Act.put, List.setIfInBounds_toArray, List.set_cons_zero, List.set_cons_succ]
 refine' dq_call (by rfl) (by rfl) ?hv2 ?hc2 ?rest2
 case hv2 => (intro w; go_simp; exact ⟨rfl, rfl⟩)
 case hc2 => exact (fun w hw => calls_gt (clean_any _ _ _ _ _ _))
 case' rest2 => try simp only [Act.put, List.setIfInBounds_toArray, List.set_cons_zero, List.set_cons_succ]
 refine' dq_pure (by rfl) (by rfl) ?hv3 ?rest3
 case hv3 => (intro w hw; (try dsimp only at hw); go_split_ands; go_simp; try with_reducible rfl)
 case' rest3 => try simp only [Act.put, List.setIfInBounds_toArray, List.set_cons_zero, List.set_cons_succ]
 refine' dq_call (by rfl) (by rfl) ?hv4 ?hc4 ?rest4
 case hv4 => (intro w; go_simp; exact ⟨rfl, rfl⟩)
 case hc4 => exact (fun w hw => calls_gt (clean_any _ _ _ _ _ _))
 case' rest4 => try simp only [Act.put, List.setIfInBounds_toArray, List.set_cons_zero, List.set_cons_succ]
 refine dq_nil ?_
 simp only [fa, List.drop_succ_cons, List.drop_zero]
 rintro W ⟨⟨hb0, hn0, ⟨B1, B1c, B1f, B1l⟩, ⟨B2, B2c, B2f, B2l⟩⟩, hgl⟩ hbs
 clear hbs hgl
 generalize cn n a b c d = p at *
 generalize cn n' a' b' c' d' = q at *
 cases p <;> cases q <;> (first | simp only [Bool.false_eq_true, if_false, if_true] at E) <;> subst E
 ·(repeat' (first | (go_big_may; (first | (go_at_call 166; refine (wcompare_any a b c d a' b' c' d' _).mono ?_; rintro e w' ⟨rfl, hbw⟩; have N1 := Bx.of (HB.below (b := w.heap.size) (cs := #[.bool false, .int .u64 a, .int .u64 b, .int .u64 c, .int .u64 d]) (by (repeat' (first | (with_reducible assumption) | ((with_reducible refine HB.new _ _ _ ?_) <;> (go_size; done)) | (with_reducible refine HB.old (by go_size) ?_) | (with_reducible refine HB.drew ?_) | (with_reducible refine HB.over5 ?_) | (with_reducible refine HB.over4 ?_) | (with_reducible refine HB.setne (by first | go_size | (dsimp only; omega)) ?_) | (with_reducible refine HN.set ?_) | (with_reducible refine HN.setne (by first | go_size | (dsimp only; omega)) ?_) | (with_reducible refine HN.drew ?_) | (with_reducible refine HN.old (by go_size) ?_) | (with_reducible exact HN.of5 (by assumption)) | (with_reducible exact HN.new5 _ _ (by go_size)) | (with_reducible exact HN.of4 (by assumption)) | (with_reducible exact HN.new4 _ _ (by go_size))))) hbw); have N2 := Bx.of (HB.below (b := w.heap.size + 1) (cs := #[.bool false, .int .u64 a', .int .u64 b', .int .u64 c', .int .u64 d']) (by (repeat' (first | (with_reducible assumption) | ((with_reducible refine HB.new _ _ _ ?_) <;> (go_size; done)) | (with_reducible refine HB.old (by go_size) ?_) | (with_reducible refine HB.drew ?_) | (with_reducible refine HB.over5 ?_) | (with_reducible refine HB.over4 ?_) | (with_reducible refine HB.setne (by first | go_size | (dsimp only; omega)) ?_) | (with_reducible refine HN.set ?_) | (with_reducible refine HN.setne (by first | go_size | (dsimp only; omega)) ?_) | (with_reducible refine HN.drew ?_) | (with_reducible refine HN.old (by go_size) ?_) | (with_reducible exact HN.of5 (by assumption)) | (with_reducible exact HN.new5 _ _ (by go_size)) | (with_reducible exact HN.of4 (by assumption)) | (with_reducible exact HN.new4 _ _ (by go_size))))) hbw); (try clear B1 B1c B1f B1l); (try clear B2 B2c B2f B2l); obtain ⟨B1, B1c, B1f, B1l⟩ := N1; obtain ⟨B2, B2c, B2f, B2l⟩ := N2; have hsz := hbw.size; (try simp only [World.size_alloc, World.size_setCell, World.size_drew] at hsz)))) | go_values | go_skip | go_guarded | go_step | go_upon | (simp only [Int.not_lt, Int.not_le] at *; go_simp) | (go_values <;> (try go_simp)) | (go_ite <;> go_prune <;> (try go_simp)) | (split <;> (first | (rename_i hx; exact (hx _ rfl).elim) | go_prune))))
  go_ret
  exact ⟨rfl, by (repeat' (first | (with_reducible assumption) | (with_reducible exact Below.refl _ _) | (with_reducible refine Below.alloc ?_ ?_ _) | (with_reducible refine Below.setCell ?_ ?_ _) | (with_reducible refine Below.drew ?_) | (with_reducible refine below_more ?_ (by with_reducible assumption)) | go_size | omega | (with_reducible refine below_drewN ?_)))⟩
 ·(repeat' (first | go_values | go_skip | go_guarded | go_step | go_upon | (simp only [Int.not_lt, Int.not_le] at *; go_simp) | (go_values <;> (try go_simp)) | (go_ite <;> go_prune <;> (try go_simp)) | (split <;> (first | (rename_i hx; exact (hx _ rfl).elim) | go_prune))))
  go_ret
  exact ⟨rfl, by (repeat' (first | (with_reducible assumption) | (with_reducible exact Below.refl _ _) | (with_reducible refine Below.alloc ?_ ?_ _) | (with_reducible refine Below.setCell ?_ ?_ _) | (with_reducible refine Below.drew ?_) | (with_reducible refine below_more ?_ (by with_reducible assumption)) | go_size | omega | (with_reducible refine below_drewN ?_)))⟩
 ·(repeat' (first | go_values | go_skip | go_guarded | go_step | go_upon | (simp only [Int.not_lt, Int.not_le] at *; go_simp) | (go_values <;> (try go_simp)) | (go_ite <;> go_prune <;> (try go_simp)) | (split <;> (first | (rename_i hx; exact (hx _ rfl).elim) | go_prune))))
  go_ret
  exact ⟨rfl, by (repeat' (first | (with_reducible assumption) | (with_reducible exact Below.refl _ _) | (with_reducible refine Below.alloc ?_ ?_ _) | (with_reducible refine Below.setCell ?_ ?_ _) | (with_reducible refine Below.drew ?_) | (with_reducible refine below_more ?_ (by with_reducible assumption)) | go_size | omega | (with_reducible refine below_drewN ?_)))⟩
 ·(repeat' (first | (go_big_may; (first | (go_at_call 166; refine (wcompare_any a' b' c' d' a b c d _).mono ?_; rintro e w' ⟨rfl, hbw⟩; have N1 := Bx.of (HB.below (b := w.heap.size) (cs := #[.bool true, .int .u64 a, .int .u64 b, .int .u64 c, .int .u64 d]) (by (repeat' (first | (with_reducible assumption) | ((with_reducible refine HB.new _ _ _ ?_) <;> (go_size; done)) | (with_reducible refine HB.old (by go_size) ?_) | (with_reducible refine HB.drew ?_) | (with_reducible refine HB.over5 ?_) | (with_reducible refine HB.over4 ?_) | (with_reducible refine HB.setne (by first | go_size | (dsimp only; omega)) ?_) | (with_reducible refine HN.set ?_) | (with_reducible refine HN.setne (by first | go_size | (dsimp only; omega)) ?_) | (with_reducible refine HN.drew ?_) | (with_reducible refine HN.old (by go_size) ?_) | (with_reducible exact HN.of5 (by assumption)) | (with_reducible exact HN.new5 _ _ (by go_size)) | (with_reducible exact HN.of4 (by assumption)) | (with_reducible exact HN.new4 _ _ (by go_size))))) hbw); have N2 := Bx.of (HB.below (b := w.heap.size + 1) (cs := #[.bool true, .int .u64 a', .int .u64 b', .int .u64 c', .int .u64 d']) (by (repeat' (first | (with_reducible assumption) | ((with_reducible refine HB.new _ _ _ ?_) <;> (go_size; done)) | (with_reducible refine HB.old (by go_size) ?_) | (with_reducible refine HB.drew ?_) | (with_reducible refine HB.over5 ?_) | (with_reducible refine HB.over4 ?_) | (with_reducible refine HB.setne (by first | go_size | (dsimp only; omega)) ?_) | (with_reducible refine HN.set ?_) | (with_reducible refine HN.setne (by first | go_size | (dsimp only; omega)) ?_) | (with_reducible refine HN.drew ?_) | (with_reducible refine HN.old (by go_size) ?_) | (with_reducible exact HN.of5 (by assumption)) | (with_reducible exact HN.new5 _ _ (by go_size)) | (with_reducible exact HN.of4 (by assumption)) | (with_reducible exact HN.new4 _ _ (by go_size))))) hbw); (try clear B1 B1c B1f B1l); (try clear B2 B2c B2f B2l); obtain ⟨B1, B1c, B1f, B1l⟩ := N1; obtain ⟨B2, B2c, B2f, B2l⟩ := N2; have hsz := hbw.size; (try simp only [World.size_alloc, World.size_setCell, World.size_drew] at hsz)))) | go_values | go_skip | go_guarded | go_step | go_upon | (simp only [Int.not_lt, Int.not_le] at *; go_simp) | (go_values <;> (try go_simp)) | (go_ite <;> go_prune <;> (try go_simp)) | (split <;> (first | (rename_i hx; exact (hx _ rfl).elim) | go_prune))))
  go_ret
  exact ⟨rfl, by (repeat' (first | (with_reducible assumption) | (with_reducible exact Below.refl _ _) | (with_reducible refine Below.alloc ?_ ?_ _) | (with_reducible refine Below.setCell ?_ ?_ _) | (with_reducible refine Below.drew ?_) | (with_reducible refine below_more ?_ (by with_reducible assumption)) | go_size | omega | (with_reducible refine below_drewN ?_)))⟩
theorem wl_zero {m : Int} (h : 0 ≤ m) : (wl m).length = 0 ↔ m = 0 := by
 constructor
 ·intro e
  have := VL_wl h
  rw [List.length_eq_zero_iff.1 e] at this
  simpa [VL] using this.symm
 ·rintro rfl
  rw [wl_nil (Int.le_refl 0)]; rfl
set_option maxHeartbeats 3000000 in
theorem rsign_any (n : Bool) (a b c d : Int) (ha : U64 a) (hb : U64 b) (hc : U64 c) (hd : U64 d) (w : World) :
  Calls Tryz.prog 104 #[WV n a b c d] w fun e w' => e = .returned (.int .i64 (cm (wv n a b c d) 0)) ∧ Below w.heap.size w w' := by
 have O := fun W => rof_any n a b c d ha hb hc hd W
 have m1 := mv_nonneg ha hb hc hd
 have HZ := wl_zero m1
 unfold wv
 generalize MV a b c d = m at *
 by_cases hz : m = 0
 ·have hR : cm (if n = true then -m else m) 0 = 0 := by subst hz; cases n <;> rfl
  rw [hR]
  have hlen := HZ.2 hz
  clear hR HZ hz m1
  go_enter Tryz.func104, Tryz.ntmps104
  go_wp2_with fail
  refine (O _).mono ?_
  intro e w' h
  obtain ⟨a0, len, cap, rfl, hl, hs, hb⟩ := h.open
  obtain rfl : len = 0 := by omega
  go_wp2
  go_ret
  exact ⟨rfl, by (repeat' (first | (with_reducible assumption) | (with_reducible exact Below.refl _ _) | (with_reducible refine Below.alloc ?_ ?_ _) | (with_reducible refine Below.setCell ?_ ?_ _) | (with_reducible refine Below.drew ?_) | (with_reducible refine below_more ?_ (by with_reducible assumption)) | go_size | omega | (with_reducible refine below_drewN ?_)))⟩
 ·have hlen : ¬ (wl m).length = 0 := fun h => hz (HZ.1 h)
  have hR : cm (if n = true then -m else m) 0 = if n then -1 else 1 := by
   unfold cm; cases n <;> simp <;> (repeat' split) <;> omega
  rw [hR]
  clear hR HZ
  cases n
  all_goals
   go_enter Tryz.func104, Tryz.ntmps104
   go_wp2_with fail
   refine (O _).mono ?_
   intro e w' h
   obtain ⟨a0, len, cap, rfl, hl, hs, hb⟩ := h.open
   have hl0 : ¬ (len : Int) = 0 := by omega
   have hcl := HB.below (b := w.heap.size) (HB.new w _ _ rfl) hb
   obtain ⟨B1, B1c, B1f, B1l⟩ := Bx.of hcl
   go_wp2
   go_ret
   exact ⟨rfl, by (repeat' (first | (with_reducible assumption) | (with_reducible exact Below.refl _ _) | (with_reducible refine Below.alloc ?_ ?_ _) | (with_reducible refine Below.setCell ?_ ?_ _) | (with_reducible refine Below.drew ?_) | (with_reducible refine below_more ?_ (by with_reducible assumption)) | go_size | omega | (with_reducible refine below_drewN ?_)))⟩
end Go.Proofs.YtncmmbacoknefaaGreat

/- Gw: What calls of the program's wide give, for the symbolic run. -/
namespace Go.Proofs.YtncmmbacoknefaaGreat
open Go Go.RowKit Sx
set_option linter.unusedVariables false
set_option linter.unusedSimpArgs false
theorem guardT_mag : Tryz.prog.eqGuardType Tryz.prog.depth 35 = false := by kernel_rfl
theorem guardT_wide : Tryz.prog.eqGuardType Tryz.prog.depth 37 = false := by kernel_rfl
theorem guard_agg {op : BinOp} {t : TypeId} {xo yo : Operand} {x y : Array Value} {P : Program} (h : P.eqGuardType P.depth t = false) (W : World) : (eqGuard op t xo yo (.agg x) (.agg y)).run P W = .ok () W := by
 unfold eqGuard
 cases op <;> first | rfl | (simp [go_sem, h])
theorem eqb_run {ng : Bool} {t : TypeId} {xo yo : Operand} {x y : Array Value} {P : Program} {b : Bool} {W : World} (h : P.eqGuardType P.depth t = false) (he : (Op.equalIn 10000 t (.agg x) (.agg y)).run P W = .ok b W) :
  ((do eqGuard (if ng then .neq else .eql) t xo yo (.agg x) (.agg y); binOp (if ng then .neq else .eql) t (.agg x) (.agg y)) : Sem Value).run P W = .ok (.bool (if ng then !b else b)) W := by
 rw [run_bind_ok (guard_agg h W)]
 cases ng
 ·exact run_bind_ok he
 ·exact run_bind_ok he
theorem eqm_run {ng : Bool} {xo yo : Operand} (a b c d a' b' c' d' : Int) (W : World) :
  ((do eqGuard (if ng then .neq else .eql) 35 xo yo (MG a b c d) (MG a' b' c' d'); binOp (if ng then .neq else .eql) 35 (MG a b c d) (MG a' b' c' d')) : Sem Value).run Tryz.prog W = .ok (.bool (if ng then !meq a b c d a' b' c' d' else meq a b c d a' b' c' d')) W :=
 eqb_run guardT_mag (eq_mag a b c d a' b' c' d' 9998 W)
theorem eqw_run {ng : Bool} {xo yo : Operand} (n : Bool) (a b c d : Int) (n' : Bool) (a' b' c' d' : Int) (W : World) :
  ((do eqGuard (if ng then .neq else .eql) 37 xo yo (WV n a b c d) (WV n' a' b' c' d'); binOp (if ng then .neq else .eql) 37 (WV n a b c d) (WV n' a' b' c' d')) : Sem Value).run Tryz.prog W = .ok (.bool (if ng then !weq n a b c d n' a' b' c' d' else weq n a b c d n' a' b' c' d')) W :=
 eqb_run guardT_wide (eq_wide n a b c d n' a' b' c' d' 9997 W)
theorem g_valid (n : Bool) (a b c d : Int) (W : World) : Gives Tryz.prog 176 [WV n a b c d] W (· = (.bool (!n || !mz a b c d))) := gives_known en_wide_Valid (valid_any n a b c d W)
theorem g_clean (n : Bool) (a b c d : Int) (W : World) : Gives Tryz.prog 161 [WV n a b c d] W (· = (WV (cn n a b c d) a b c d)) := gives_known en_wide_clean (clean_any n a b c d W)
theorem g_signed (n : Bool) (a b c d : Int) (W : World) : Gives Tryz.prog 163 [.bool n, MG a b c d] W (· = (WV (cn n a b c d) a b c d)) := gives_known en_wide_signed (signed_any n a b c d W)
theorem g_wcompare (a0 a1 a2 a3 b0 b1 b2 b3 : Int) (W : World) : Gives Tryz.prog 166 [MG a0 a1 a2 a3, MG b0 b1 b2 b3] W (· = (.int .i64 (cm4 a0 a1 a2 a3 b0 b1 b2 b3))) := gives_known en_wide_compare (wcompare_any _ _ _ _ _ _ _ _ W)
theorem g_add {v v' : Value} {z z' : Int} (h : IsW v z) (h' : IsW v' z') (W : World) : Gives Tryz.prog 137 [v, v'] W (· = .tuple #[WE (cl (z + z')), .bool (fb (z + z'))]) := gives_known en_wide_Add (add_w h h' W)
theorem g_mul {v v' : Value} {z z' : Int} (h : IsW v z) (h' : IsW v' z') (W : World) : Gives Tryz.prog 126 [v, v'] W (· = .tuple #[WE (cl (z * z')), .bool (fb (z * z'))]) := gives_known en_wide_Mul (mul_w h h' W)
theorem g_neg {v : Value} {z : Int} (h : IsW v z) (W : World) : Gives Tryz.prog 190 [v] W (· = WE (-z)) := gives_known en_wide_Neg (neg_w h W)
theorem g_of {v : Int} (h : I64 v) (W : World) : Gives Tryz.prog 81 [.int .i64 v] W (· = WE v) := gives_known en_wide_Of (of_any v h W)
theorem cm_zero (z : Int) : cm z 0 = if z < 0 then -1 else if z = 0 then 0 else 1 := by
 unfold cm
 split
 ·rfl
 ·split <;> split <;> first | rfl | omega
theorem g_ofU {v : Int} (h : U64 v) (W : World) : Gives Tryz.prog 170 [.int .u64 v] W (· = WE v) := by
 refine gives_known en_wide_OfUnsigned ?_
 rw [we_uns v h]
 refine known_of (enter Tryz.func170 wide_OfUnsigned.ok (args := [.int .u64 v]) (by simp) ?_)
 repeat' (first | simp (disch := omega) only [sxE, wide_OfUnsigned.E, Nat.reduceAdd, Nat.reduceEqDiff, Nat.reduceMul, Nat.reduceSub, Int.reduceAdd, Int.reduceSub, Int.reduceMul, Int.reduceNeg, Int.reduceLT, Int.reduceLE, Int.reduceEq, Int.reduceToNat, ↓reduceIte, Int.reducePow, Nat.reduceLeDiff, Nat.reduceLT, ne_eq, eq_self, List.length_cons, List.length_nil] | (with_reducible refine cregF ?_))
theorem vi {k : IntKind} {a b : Int} (h : a = b) : Value.int k a = Value.int k b := by rw [h]
theorem vb {a b : Bool} (h : a = b) : Value.bool a = Value.bool b := by rw [h]
theorem sign_any (n : Bool) (a b c d : Int) (ha : U64 a) (hb : U64 b) (hc : U64 c) (hd : U64 d) (w : World) :
  Calls Tryz.prog 140 #[WV n a b c d] w fun e w' => e = .returned (.int .i64 (cm (wv n a b c d) 0)) ∧ Below w.heap.size w w' := by
 have h0 := mz_iff ha hb hc hd
 have h1 := sg_wv (n := n) ha hb hc hd
 have h2 := ab_wv (n := n) ha hb hc hd
 rw [cm_zero]
 generalize wv n a b c d = z at *
 have k1 : cn n a b c d = decide (z < 0) := by rw [← h1]; rfl
 have k2 : meq a b c d 0 0 0 0 = decide (z = 0) := by
  have : meq a b c d 0 0 0 0 = mz a b c d := rfl
  rw [this, Bool.eq_iff_iff, h0, ← h2, decide_eq_true_iff]
  unfold ab; split <;> omega
 clear h0 h1 h2 ha hb hc hd
 refine known_of (enter Tryz.func140 wide_Sign.ok (args := [WV n a b c d]) (by simp) ?_)
 repeat' (first | simp (disch := omega) only [sxE, wide_Sign.E, Nat.reduceAdd, Nat.reduceEqDiff, Nat.reduceMul, Nat.reduceSub, Int.reduceAdd, Int.reduceSub, Int.reduceMul, Int.reduceNeg, Int.reduceLT, Int.reduceLE, Int.reduceEq, Int.reduceToNat, ↓reduceIte, Int.reducePow, Nat.reduceLeDiff, Nat.reduceLT, ne_eq, eq_self, List.length_cons, List.length_nil] | (with_reducible refine Sx.call_at (f := 161) (fun W hW => g_clean _ _ _ _ _ W) ?_) | (with_reducible refine eq_is (fun W => by exact eqm_run _ _ _ _ _ _ _ _ W) ?_) | ((with_reducible first | apply cond_beq | apply gd_beq) <;> (intro hc; first | simp only [beq_iff_eq.2 hc] | simp only [beq_eq_false_iff_ne.2 hc] | skip)) | ((with_reducible first | apply cond_dec | apply gd_dec) <;> (intro hc; first | simp only [decide_eq_true hc] | simp only [decide_eq_false hc] | skip)) | ((with_reducible first | apply cond_of | apply gd_of) <;> (intro hc; try simp only [hc])) | (with_reducible refine cregF ?_))
 all_goals
  simp only [k1, k2, decide_eq_true_eq, decide_eq_false_iff_not] at *
  refine vi ?_
  simp_all
theorem g_sign {v : Value} {z : Int} (h : IsW v z) (W : World) : Gives Tryz.prog 140 [v] W (· = .int .i64 (cm z 0)) := by
 obtain ⟨n, a, b, c, d, rfl, rfl, ha, hb, hc, hd⟩ := h
 exact gives_known en_wide_Sign (sign_any n a b c d ha hb hc hd W)
theorem g_compare {v v' : Value} {z z' : Int} (h : IsW v z) (h' : IsW v' z') (W : World) : Gives Tryz.prog 193 [v, v'] W (· = .int .i64 (cm z z')) := by
 obtain ⟨n, a, b, c, d, rfl, rfl, ha, hb, hc, hd⟩ := h
 obtain ⟨n', a', b', c', d', rfl, rfl, ha', hb', hc', hd'⟩ := h'
 exact gives_known en_wide_Compare (compare_any n a b c d n' a' b' c' d' ha hb hc hd ha' hb' hc' hd' W)
end Go.Proofs.YtncmmbacoknefaaGreat
