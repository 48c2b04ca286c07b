/- Several texts in one: Gd, Ha, Hb, DvK, Hc, Hd, Ge, Gf, Gg, He, Hf, Hg, CdR, Qa, Ql, Qb, CdX. -/
import Derived.Test.YtncmmbacoknefaaGreatProg
import Derived.Test.YtncmmbacoknefaaGreatSm2
import Derived.Test.YtncmmbacoknefaaGreatSm3
set_option linter.defProp false

/- Gd: What calls of the program's division of absolute values give. -/
namespace Go.Proofs.YtncmmbacoknefaaGreat
open Go Go.RowKit Sx
set_option linter.unusedVariables false
set_option linter.unusedSimpArgs false
set_option maxRecDepth 100000 in
theorem g_halved {z : Int} (h : A4 z) (W : World) : Gives Tryz.prog 201 [ME z] W (· = ME (z / 2)) := by
 refine gives_known en_wide_halved ?_
 show Calls _ _ #[MG (lb0 z) (lb1 z) (lb2 z) (lb3 z)] _ _
 have ha := lb0_in z
 have hb := lb1_in z
 have hc := lb2_in z
 have hd := lb3_in z
 have e := mv_me h
 obtain ⟨w0, w1, w2, w3, hv⟩ := half_words ha hb hc hd
 have hR : MG _ _ _ _ = ME (z / 2) := (mg_me w0 w1 w2 w3).trans (by rw [hv, e])
 have o1 := half_word ha hb
 have o2 := half_word hb hc
 have o3 := half_word hc hd
 have o4 : (lb3 z).fdiv 2 = lb3 z / 2 := Int.fdiv_eq_ediv_of_nonneg _ (by decide)
 rw [← hR]
 generalize lb0 z = a at *
 generalize lb1 z = b at *
 generalize lb2 z = c at *
 generalize lb3 z = d at *
 clear hR hv w0 w1 w2 w3 e ha hb hc hd
 refine known_of (enter Tryz.func201 wide_halved.ok (args := [MG a b c d]) (by simp) ?_)
 repeat' (first | simp (disch := omega) only [sxE, wide_halved.E, Nat.reduceAdd, Nat.reduceEqDiff, Nat.reduceMul, Nat.reduceSub, Int.reduceAdd, Int.reduceSub, Int.reduceMul, Int.reduceNeg, Int.reduceLT, Int.reduceLE, Int.reduceEq, Int.reduceToNat, ↓reduceIte, Int.reducePow, Nat.reduceLeDiff, Nat.reduceLT, ne_eq, eq_self, List.length_cons, List.length_nil, o1, o2, o3, o4] | (rw [wide_halved.p2_l]) | (with_reducible apply LX_round) | (with_reducible refine cregF ?_))
theorem g_len64 {x : Int} (h : U64 x) (W : World) : Gives Tryz.prog 197 [.int .u64 x] W (· = .int .i64 (Go.Lib.bitLen x.toNat)) :=
 gives_known (Sx.en_of Tryz.func197 (by kernel_rfl) (by kernel_rfl)) ((Tryz.bits_Len64 x W h.1 h.2).mono fun _ _ ⟨h1, h2⟩ => ⟨h1, by subst h2; exact Below.refl _ _⟩)
theorem bitLen64 {x : Int} (h : U64 x) : Go.Lib.bitLen x.toNat ≤ 64 := by
 by_cases h0 : x.toNat = 0
 ·rw [h0]; decide
 ·obtain ⟨b1, b2, b3⟩ := Go.Lib.bitLenAux_bounds 64 x.toNat (by have := h.2; omega) h0
  have e : Go.Lib.bitLen x.toNat = Go.Lib.bitLenAux 64 x.toNat := rfl
  rw [e]
  generalize Go.Lib.bitLenAux 64 x.toNat = L at *
  by_cases hL : L ≤ 64
  ·exact hL
  ·have : 2 ^ 64 ≤ 2 ^ (L - 1) := Nat.pow_le_pow_right (by decide) (by omega)
   have := h.2
   omega
theorem len_words {a b c d : Int} (ha : U64 a) (hb : U64 b) (hc : U64 c) (hd : U64 d) :
  (d ≠ 0 → 192 + (Go.Lib.bitLen d.toNat : Int) = bl (MV a b c d)) ∧ (d = 0 → c ≠ 0 → 128 + (Go.Lib.bitLen c.toNat : Int) = bl (MV a b c d)) ∧ (d = 0 → c = 0 → b ≠ 0 → 64 + (Go.Lib.bitLen b.toNat : Int) = bl (MV a b c d)) ∧
  (d = 0 → c = 0 → b = 0 → a ≠ 0 → 0 + (Go.Lib.bitLen a.toNat : Int) = bl (MV a b c d)) ∧ (d = 0 → c = 0 → b = 0 → a = 0 → 0 = (bl (MV a b c d) : Int)) := by
 have hm : MV a b c d = a + 18446744073709551616 * (b + 18446744073709551616 * (c + 18446744073709551616 * d)) := rfl
 have p3 : (2 ^ (64 * 3) : Int) = 6277101735386680763835789423207666416102355444464034512896 := rfl
 have p2 : (2 ^ (64 * 2) : Int) = 340282366920938463463374607431768211456 := rfl
 have p1 : (2 ^ (64 * 1) : Int) = 18446744073709551616 := rfl
 have p0 : (2 ^ (64 * 0) : Int) = 1 := rfl
 obtain ⟨a0, a1⟩ := id ha
 obtain ⟨b0, b1⟩ := id hb
 obtain ⟨c0, c1⟩ := id hc
 refine ⟨fun h => ?_, fun h h2 => ?_, fun h h2 h3 => ?_, fun h h2 h3 h4 => ?_, fun h h2 h3 h4 => ?_⟩
 ·have := bl_word (z := MV a b c d) (lo := a + 18446744073709551616 * (b + 18446744073709551616 * c)) (i := 3) hd h (by omega) (by rw [p3]; omega) (by rw [p3, hm]; omega)
  omega
 ·subst h
  have := bl_word (z := MV a b c 0) (lo := a + 18446744073709551616 * b) (i := 2) hc h2 (by omega) (by rw [p2]; omega) (by rw [p2]; unfold MV; omega)
  omega
 ·subst h h2
  have := bl_word (z := MV a b 0 0) (lo := a) (i := 1) hb h3 (by omega) (by rw [p1]; omega) (by rw [p1]; unfold MV; omega)
  omega
 ·subst h h2 h3
  have := bl_word (z := MV a 0 0 0) (lo := 0) (i := 0) ha h4 (by omega) (by rw [p0]; omega) (by rw [p0]; unfold MV; omega)
  omega
 ·subst h h2 h3 h4
  rfl
set_option maxRecDepth 100000 in
theorem g_length {z : Int} (h : A4 z) (W : World) : Gives Tryz.prog 199 [ME z] W (· = .int .i64 (bl z)) := by
 refine gives_known en_wide_length ?_
 show Calls _ _ #[MG (lb0 z) (lb1 z) (lb2 z) (lb3 z)] _ _
 have ha := lb0_in z
 have hb := lb1_in z
 have hc := lb2_in z
 have hd := lb3_in z
 have e := mv_me h
 have k := len_words ha hb hc hd
 have l0 := bitLen64 ha
 have l1 := bitLen64 hb
 have l2 := bitLen64 hc
 have l3 := bitLen64 hd
 rw [e] at k
 obtain ⟨k0, k1, k2, k3, k4⟩ := k
 generalize lb0 z = a at *
 generalize lb1 z = b at *
 generalize lb2 z = c at *
 generalize lb3 z = d at *
 clear e
 refine known_of (enter Tryz.func199 wide_length.ok (args := [MG a b c d]) (by simp) ?_)
 repeat' (first | simp (disch := omega) only [sxE, wide_length.E, Nat.reduceAdd, Nat.reduceEqDiff, Nat.reduceMul, Nat.reduceSub, Int.reduceAdd, Int.reduceSub, Int.reduceMul, Int.reduceNeg, Int.reduceLT, Int.reduceLE, Int.reduceEq, Int.reduceToNat, ↓reduceIte, Int.reducePow, Nat.reduceLeDiff, Nat.reduceLT, ne_eq, eq_self, List.length_cons, List.length_nil] | (with_reducible refine Sx.call_at (f := 197) (fun W hW => g_len64 (by assumption) W) ?_) | (rw [wide_length.p2_l]) | (with_reducible apply LX_round) | ((with_reducible first | apply cond_beq | apply gd_beq) <;> (intro hc; first | simp only [beq_iff_eq.2 hc] | simp only [beq_eq_false_iff_ne.2 hc] | skip)) | ((with_reducible first | apply cond_dec | apply gd_dec) <;> (intro hc; first | simp only [decide_eq_true hc] | simp only [decide_eq_false hc] | skip)) | ((with_reducible first | apply cond_of | apply gd_of) <;> (intro hc; try simp only [hc])) | (with_reducible refine cregF ?_))
 all_goals (refine vi ?_; first | exact k0 (by assumption) | exact k1 (by assumption) (by assumption) | exact k2 (by assumption) (by assumption) (by assumption) | exact k4 (by assumption) (by assumption) (by assumption) (by assumption) | (have := k3 (by assumption) (by assumption) (by assumption) (by assumption); omega))
end Go.Proofs.YtncmmbacoknefaaGreat

/- Ha: What calls of the reference's size and half give. -/
namespace Go.Proofs.YtncmmbacoknefaaGreat
open Go Go.RowKit Sx
set_option linter.unusedVariables false
set_option linter.unusedSimpArgs false
theorem bl_pos_wl {m : Int} (h : 0 < m) : 0 < (wl m).length := List.length_pos_iff.2 (wl_ne h)
set_option maxRecDepth 100000 in
theorem rsize_any {a : Option Addr} {cap : Nat} {m : Int} {w : World} (h0 : 0 ≤ m) (hl : (wl m).length ≤ 64) (h : SlU w (.slice a (wl m).length cap) (wl m)) :
  Calls Tryz.prog 183 #[.slice a (wl m).length cap] w fun e w' => e = .returned (.int .i64 (bl m)) ∧ Below w.heap.size w w' := by
 by_cases hm : m = 0
 ·subst hm
  rw [wl_nil (Int.le_refl _)]
  refine known_of (enter Tryz.func183 r02_size.ok (args := [.slice a ([] : List Int).length cap]) (by simp) ?_)
  repeat' (first | simp (disch := omega) only [sxE, r02_size.E, Nat.reduceAdd, Nat.reduceEqDiff, Nat.reduceMul, Nat.reduceSub, Int.reduceAdd, Int.reduceSub, Int.reduceMul, Int.reduceNeg, Int.reduceLT, Int.reduceLE, Int.reduceEq, Int.reduceToNat, ↓reduceIte, Int.reducePow, Nat.reduceLeDiff, Nat.reduceLT, ne_eq, eq_self, List.length_cons, List.length_nil, beq_self_eq_true, Int.ofNat_zero] | (with_reducible refine cregF ?_))
  rfl
 ·have hpos : 0 < m := by omega
  have hp := bl_pos_wl hpos
  have hs := size_wl hpos
  obtain ⟨k, hk⟩ : ∃ k, (wl m).length = k + 1 := ⟨(wl m).length - 1, by omega⟩
  obtain ⟨a', cap', e, hsh⟩ := h.shp
  cases e
  obtain ⟨b, off, rfl⟩ := hsh.some hp
  have hw : U64 ((wl m).getD k 0) := (wl_words m).getD k
  have hbl := bitLen64 hw
  have hkl : k < (wl m).length := by omega
  rw [hk] at hs h ⊢
  rw [Nat.add_sub_cancel] at hs
  have hk1 : ((k + 1 : Nat) : Int) - 1 = (k : Int) := by omega
  have hk2 : (((k + 1 : Nat) : Int) == 0) = false := beq_eq_false_iff_ne.2 (by omega)
  have hk3 : IntKind.i64.wrap (((k + 1 : Nat) : Int) - 1) = (k : Int) := by rw [hk1]; exact s_wi _ (by omega) (by omega)
  have hk4 : IntKind.i64.wrap (64 * (k : Int)) = 64 * (k : Int) := s_wi _ (by omega) (by omega)
  have hk5 : IntKind.i64.wrap (64 * (k : Int) + (Go.Lib.bitLen ((wl m).getD k 0).toNat : Int)) = (bl m : Int) := by rw [s_wi _ (by omega) (by omega)]; omega
  have hkp : (0 : Int) ≤ (k : Int) ∧ (k : Int) < ((k + 1 : Nat) : Int) := by omega
  refine known_of (enter Tryz.func183 r02_size.ok (args := [.slice (some ⟨b, off, none⟩) (k + 1) cap]) (by simp) ?_)
  repeat' (first | simp (disch := omega) only [sxE, r02_size.E, Nat.reduceAdd, Nat.reduceEqDiff, Nat.reduceMul, Nat.reduceSub, Int.reduceAdd, Int.reduceSub, Int.reduceMul, Int.reduceNeg, Int.reduceLT, Int.reduceLE, Int.reduceEq, Int.reduceToNat, ↓reduceIte, Int.reducePow, Nat.reduceLeDiff, Nat.reduceLT, ne_eq, eq_self, List.length_cons, List.length_nil, hk2, hk3, hk4, hk5, Nat.mul_one, hkp] | (with_reducible refine Sx.call_at (f := 197) (fun W hW => g_len64 hw W) ?_) | (refine ldP_w k rfl h hkl ?_) | (with_reducible refine cregF ?_))
namespace Sx
def hX (w : World) (g len cap : Nat) (ws : List Int) : Ext := ⟨List.range' g (w.heap.size - g), fun W => OwnU W g (.slice (some ⟨g, 0, none⟩) len cap) ws ∧ w.heap.size ≤ W.heap.size ∧ ∀ i, i < w.heap.size → i ≠ g → W.heap[i]? = w.heap[i]?⟩
theorem hX_bs {w : World} {g len cap b : Nat} {ws : List Int} : b ∈ (hX w g len cap ws).bs ↔ g ≤ b ∧ b < w.heap.size := by
 show b ∈ List.range' g (w.heap.size - g) ↔ _
 rw [List.mem_range']
 constructor
 ·rintro ⟨i, hi, rfl⟩; omega
 ·intro h; exact ⟨b - g, by omega, by omega⟩
theorem hX_stab {C : Cx} {w : World} {g len cap : Nat} {ws : List Int} (hg : g < w.heap.size) (hC : C.w0.heap.size = g) : Stab C (hX w g len cap ws) := fun W W' h1 h2 h3 h4 h5 ⟨a, b, c⟩ => by
 have key : ∀ i, i < w.heap.size → W'.heap[i]? = W.heap[i]? := fun i hi => h5 i (Nat.lt_of_lt_of_le hi b) (by
  rcases Nat.lt_or_ge i g with h | h
  ·right; omega
  ·left; exact hX_bs.2 ⟨h, hi⟩)
 refine ⟨?_, Nat.le_trans b h4, fun i hi hne => (key i hi).trans (c i hi hne)⟩
 exact Kn.ok.keep (k := .o (.slice (some ⟨g, 0, none⟩) len cap) ws) a h4 (fun b hb => by rw [List.mem_singleton.1 hb]; exact key g hg) fun b hb _ => key b (by omega)
variable {C : Cx} {S : St} {K : St → Prop} {d : Option Nat}
theorem ldP_h {w : World} {g len cap : Nat} {ws : List Int} (i : Nat) (hT : (C.kn S).T = hX w g len cap ws) (hi : i < ws.length) (hk : K (S.put d (.v (.int .u64 (ws.getD i 0))))) : ldP C false 1 ⟨g, i, none⟩ d K S :=
 ldP_ext [.int .u64 (ws.getD i 0)] rfl (fun W hW hok j v hj => by
  rw [hT] at hok
  rcases j with _ | j
  ·cases hj
   rw [Addr.add_zero']
   exact OwnU.cell hok.1 hi
  ·cases hj) hk
theorem stP_h {w : World} {g len cap : Nat} {ws : List Int} {x : Int} (i : Nat) (hT : S.T = hX w g len cap ws) (hC : C.w0.heap.size = g) (hg : g < w.heap.size) (hi : i < ws.length) (hx : U64 x) (hk : K ⟨S.n, S.E, S.H, hX w g len cap (ws.set i x)⟩) : stP C ⟨g, i, none⟩ (.int .u64 x) K S := by
 refine stP_is (hX w g len cap (ws.set i x)) (fun W hW hok => ?_) (hX_stab hg hC) (fun b hb => by rw [hT]; exact hb) rfl hk
 rw [hT] at hok
 obtain ⟨ho, h2, h3⟩ := hok
 refine ⟨by rw [hT]; exact hX_bs.2 ⟨Nat.le_refl _, hg⟩, ⟨_, ho.cell hi⟩, ?_, ho.stored ho.len i hi hx, by rw [World.size_setCell]; exact h2, fun j hj hne => ?_⟩
 ·rcases ho.form with ⟨e, -⟩ | ⟨g', cap', e, -, -, -, -, -, hf⟩
  ·cases e
  ·cases e; exact hf i
 ·exact (Below.heap_setCell W _ _ j fun e => hne e).trans (h3 j hj hne)
end Sx
theorem OwnU.atg {w : World} {n g len cap : Nat} {ws : List Int} (h : OwnU w n (.slice (some ⟨g, 0, none⟩) len cap) ws) : OwnU w g (.slice (some ⟨g, 0, none⟩) len cap) ws := by
 obtain ⟨⟨h1, h2⟩, h3⟩ := h
 refine ⟨⟨h1, ?_⟩, h3⟩
 rcases h2 with h | ⟨g', cap', cur, e, hb, rest⟩
 ·exact .inl h
 ·cases e; exact .inr ⟨g, cap, cur, rfl, Nat.le_refl _, rest⟩
def hlF (w : World) (g len cap : Nat) (ws : List Int) (i : Nat) : St := ⟨0, [(0, .v (.slice (some ⟨g, 0, none⟩) len cap)), (3, .v (.int .i64 (i : Int)))], [], hX w g len cap (hc ws i)⟩
set_option maxRecDepth 100000 in
theorem rhalf_any {n g len cap : Nat} {ws : List Int} {w : World} (hlen : len ≤ 1000000) (h : OwnU w n (.slice (some ⟨g, 0, none⟩) len cap) ws) :
  Calls Tryz.prog 185 #[.slice (some ⟨g, 0, none⟩) len cap] w fun e w' => e = .returned (.slice (some ⟨g, 0, none⟩) (wl (VL ws / 2)).length cap) ∧ OwnU w' n (.slice (some ⟨g, 0, none⟩) (wl (VL ws / 2)).length cap) (wl (VL ws / 2)) ∧ Moves [g] w w' := by
 have hln := h.len
 have hwd : Ws ws := h.2
 have hg : n ≤ g ∧ g < w.heap.size := Kn.ok.lt (k := .o (.slice (some ⟨g, 0, none⟩) len cap) ws) h g (List.mem_singleton.2 rfl)
 have hcs := cut_size (Nat.le_of_lt hg.2)
 refine Calls.mono (enterG Tryz.func185 r02_half.ok (args := [.slice (some ⟨g, 0, none⟩) len cap]) (w0 := cut w g) (T := hX w g len cap ws) (R := fun v X => v = .slice (some ⟨g, 0, none⟩) (wl (VL ws / 2)).length cap ∧ X = hX w g (wl (VL ws / 2)).length cap (wl (VL ws / 2))) (by simp) (below_cut (Nat.le_of_lt hg.2)) ⟨h.atg, Nat.le_refl _, fun i _ _ => rfl⟩ (hX_stab hg.2 hcs) (fun b hb => by rw [hcs]; exact hX_bs.1 hb) ?run) ?fin
 case fin =>
  rintro e w' ⟨v, Y, rfl, ⟨rfl, rfl⟩, ⟨o1, o2, o3⟩, hb, -⟩
  refine ⟨rfl, o1.base hg.1, hb.os, hb.tape, hb.output, o2, fun i hi hne => o3 i hi fun e => hne (by rw [e]; exact List.mem_singleton.2 rfl)⟩
 case run =>
  have hcs' : (cx Tryz.prog (cut w g) 35).w0.heap.size = g := hcs
  clear h
  simp (disch := omega) only [sxE, r02_half.E, Nat.reduceAdd, Nat.reduceEqDiff, Nat.reduceMul, Nat.reduceSub, Int.reduceAdd, Int.reduceSub, Int.reduceMul, Int.reduceNeg, Int.reduceLT, Int.reduceLE, Int.reduceEq, Int.reduceToNat, ↓reduceIte, Int.reducePow, Nat.reduceLeDiff, Nat.reduceLT, ne_eq, eq_self, List.length_cons, List.length_nil, Int.ofNat_zero]
  rw [r02_half.p2_l]
  refine LX_inv (hlF w g len cap ws) (fun i => i ≤ len) (fun i => len - i) ?round 0 (Nat.zero_le _) ?start
  case start =>
   simp (disch := omega) only [sxE, r02_half.E, Nat.reduceAdd, Nat.reduceEqDiff, Nat.reduceMul, Nat.reduceSub, Int.reduceAdd, Int.reduceSub, Int.reduceMul, Int.reduceNeg, Int.reduceLT, Int.reduceLE, Int.reduceEq, Int.reduceToNat, ↓reduceIte, Int.reducePow, Nat.reduceLeDiff, Nat.reduceLT, ne_eq, eq_self, List.length_cons, List.length_nil, hlF, hc_zero, Int.ofNat_zero]
  case round =>
   intro i hi
   have hcl := hc_len ws i (by omega)
   rcases Nat.lt_or_ge i len with hil | hil
   ·have c1 : (i : Int) < (len : Int) := by omega
    have c2 : (0 : Int) ≤ (i : Int) ∧ (i : Int) < (len : Int) := by omega
    have k1 : IntKind.i64.wrap ((i : Int) + 1) = ((i + 1 : Nat) : Int) := by rw [s_wi _ (by omega) (by omega)]; omega
    have v1 := hc_get ws i i (by omega) (Nat.le_refl _)
    have v2 : (ws.getD i 0).fdiv 2 = ws.getD i 0 / 2 := Int.fdiv_eq_ediv_of_nonneg _ (by decide)
    have hx := hwd.getD i
    have hy := hwd.getD (i + 1)
    have hh := half_word hx hy
    rw [← hl_get ws i] at hh
    have hu : U64 ((hl ws).getD i 0) := (hl_ws hwd).getD i
    have hu2 : U64 (ws.getD i 0 / 2) := ⟨by have := hx.1; omega, by have := hx.1; have := hx.2; omega⟩
    have hst := hc_set ws i (by omega)
    unfold hlF
    rcases Nat.lt_or_ge (i + 1) len with hj | hj
    ·have c3 : ((i + 1 : Nat) : Int) < (len : Int) := by omega
     have c4 : (0 : Int) ≤ ((i + 1 : Nat) : Int) ∧ ((i + 1 : Nat) : Int) < (len : Int) := by omega
     have v3 : ((hc ws i).set i (ws.getD i 0 / 2)).getD i 0 = ws.getD i 0 / 2 := getD_set_eq _ _ _ (by omega)
     have v4 : ((hc ws i).set i (ws.getD i 0 / 2)).getD (i + 1) 0 = ws.getD (i + 1) 0 := by rw [getD_set_ne' _ _ _ _ (by omega)]; exact hc_get ws i (i + 1) (by omega) (by omega)
     rw [v2] at hh
     repeat' (first | simp (disch := omega) only [sxE, r02_half.E, Nat.reduceAdd, Nat.reduceEqDiff, Nat.reduceMul, Nat.reduceSub, Int.reduceAdd, Int.reduceSub, Int.reduceMul, Int.reduceNeg, Int.reduceLT, Int.reduceLE, Int.reduceEq, Int.reduceToNat, ↓reduceIte, Int.reducePow, Nat.reduceLeDiff, Nat.reduceLT, ne_eq, eq_self, List.length_cons, List.length_nil, Nat.mul_one, Nat.zero_add, c1, c2, c3, c4, k1, v1, v2, v3, v4, hh] | (refine ldP_h i rfl (by first | omega | (rw [List.length_set]; omega)) ?_) | (refine ldP_h (i + 1) rfl (by rw [List.length_set]; omega) ?_) | (refine stP_h i rfl hcs' hg.2 (by first | omega | (rw [List.length_set]; omega)) (by assumption) ?_) | (with_reducible refine cregF ?_))
     refine ⟨i + 1, Nat.le_of_lt hj, by omega, ?_⟩
     rw [List.set_set, hst]
     exact ⟨rfl, .inl rfl⟩
    ·have c3 : ¬ ((i + 1 : Nat) : Int) < (len : Int) := by omega
     have hz : ws.getD (i + 1) 0 = 0 := by rw [List.getD_eq_getElem?_getD, List.getElem?_eq_none (by omega)]; rfl
     have he : (hl ws).getD i 0 = ws.getD i 0 / 2 := by rw [hl_get, hz]; omega
     repeat' (first | simp (disch := omega) only [sxE, r02_half.E, Nat.reduceAdd, Nat.reduceEqDiff, Nat.reduceMul, Nat.reduceSub, Int.reduceAdd, Int.reduceSub, Int.reduceMul, Int.reduceNeg, Int.reduceLT, Int.reduceLE, Int.reduceEq, Int.reduceToNat, ↓reduceIte, Int.reducePow, Nat.reduceLeDiff, Nat.reduceLT, ne_eq, eq_self, List.length_cons, List.length_nil, Nat.mul_one, Nat.zero_add, c1, c2, c3, k1, v1, v2] | (refine ldP_h i rfl (by omega) ?_) | (refine stP_h i rfl hcs' hg.2 (by omega) (by assumption) ?_) | (with_reducible refine cregF ?_))
     refine ⟨i + 1, by omega, by omega, ?_⟩
     rw [← he, hst]
     exact ⟨rfl, .inl rfl⟩
   ·have he : i = ws.length := by omega
    have c1 : ¬ (i : Int) < (len : Int) := by omega
    have hv : VL (hc ws i) = VL ws / 2 := by rw [he, hc_all, VL_hl]
    unfold hlF
    simp (disch := omega) only [sxE, r02_half.E, Nat.reduceAdd, Nat.reduceEqDiff, Nat.reduceMul, Nat.reduceSub, Int.reduceAdd, Int.reduceSub, Int.reduceMul, Int.reduceNeg, Int.reduceLT, Int.reduceLE, Int.reduceEq, Int.reduceToNat, ↓reduceIte, Int.reducePow, Nat.reduceLeDiff, Nat.reduceLT, ne_eq, eq_self, List.length_cons, List.length_nil, c1]
    refine asks_T (ι := Unit) (fun _ => .slice (some ⟨g, 0, none⟩) (wl (VL ws / 2)).length cap) (fun _ => hX w g (wl (VL ws / 2)).length cap (wl (VL ws / 2))) (fun W hW hok hbs => givesT_calls en_r02_trim (fun _ => hX_stab hg.2 hcs') ?_) fun _ => ?_
    ·obtain ⟨o1, o2, o3⟩ := hok
     have o4 := o1.canon
     have o5 := rtrim_any _ _ _ _ W o1.sl
     rw [hv] at o4 o5
     exact o5.mono fun e w' ⟨h1, h2⟩ => ⟨(), h1, by subst h2; exact ⟨rfl, rfl, rfl, Nat.le_refl _, fun _ _ _ => rfl⟩, by subst h2; exact ⟨o4, o2, o3⟩, fun b hb => ⟨.inl hb, by subst h2; have := (hX_bs.1 hb).2; omega⟩⟩
    simp (disch := omega) only [sxE, r02_half.E, Nat.reduceAdd, Nat.reduceEqDiff, Nat.reduceMul, Nat.reduceSub, Int.reduceAdd, Int.reduceSub, Int.reduceMul, Int.reduceNeg, Int.reduceLT, Int.reduceLE, Int.reduceEq, Int.reduceToNat, ↓reduceIte, Int.reducePow, Nat.reduceLeDiff, Nat.reduceLT, ne_eq, eq_self, List.length_cons, List.length_nil]
end Go.Proofs.YtncmmbacoknefaaGreat

/- Hb: What a call of the reference's up gives; slices that are made. -/
namespace Go.Proofs.YtncmmbacoknefaaGreat
open Go Go.RowKit Sx
set_option linter.unusedVariables false
set_option linter.unusedSimpArgs false
theorem gen_mk {n : Nat} (hn : n ≤ 4294967296) (W : World) : ∃ g cap W', (genRun (.mks 162) [.int .i64 (n : Int), .int .i64 (n : Int)]).run Tryz.prog W = .ok (.value (.slice (some ⟨g, 0, none⟩) (List.replicate n (0 : Int)).length cap)) W' ∧ OwnU W' W.heap.size (.slice (some ⟨g, 0, none⟩) (List.replicate n (0 : Int)).length cap) (List.replicate n 0) ∧ Below W.heap.size W W' := by
 obtain ⟨i0, hi, hz0, hz1, hz2⟩ := info_u
 obtain ⟨w1, hmk, hown, hg1⟩ := run_make_full (P := Tryz.prog) W W.heap.size 162 34 i0 (.int .u64 0) 1 Tryz.underlying162 hi hz0 hz1 .i64 .i64 n (by rw [hz2]; omega) (by simp only [maxLen]; omega) (Nat.le_refl _)
 refine ⟨W.heap.size, n, w1, ?_, ?_, below_gt hg1⟩
 ·rw [List.length_replicate]
  show Sem.run _ (do pure (Next.value (← Instr.makeSlice _ _ _))) W = _
  rw [run_bind_ok hmk]
  rfl
 ·rw [List.length_replicate]
  exact OwnU.zeros hown
theorem asks_trim {C : Cx} {S : St} {K : St → Prop} {d : Option Nat} {L : List Kn} (L' : List Kn) {g len cap : Nat} {ws : List Int} (hP : C.P = Tryz.prog) (hT : S.T = kX C.w0.heap.size L) (hm : .o (.slice (some ⟨g, 0, none⟩) len cap) ws ∈ L)
  (hL : ∀ k ∈ L', k = .o (.slice (some ⟨g, 0, none⟩) (wl (VL ws)).length cap) (wl (VL ws)) ∨ k ∈ L)
  (hk : K (St.put ⟨S.n, S.E, S.H, kX C.w0.heap.size L'⟩ d (.v (.slice (some ⟨g, 0, none⟩) (wl (VL ws)).length cap)))) : asks C 154 [.slice (some ⟨g, 0, none⟩) len cap] d K S := by
 refine asks_kn (ι := Unit) (L := L) (gs := []) (fun _ => .slice (some ⟨g, 0, none⟩) (wl (VL ws)).length cap) (fun _ => L') (by rw [hP]; exact en_r02_trim) hT (fun g hg => by cases hg) (fun _ _ g hg => by cases hg) (fun W hW hok => ?_) fun _ => hk
 rw [hP]
 have ho : OwnU W C.w0.heap.size (.slice (some ⟨g, 0, none⟩) len cap) ws := hok _ hm
 refine (rtrim_any _ _ _ _ W ho.sl).mono fun e w' ⟨h1, h2⟩ => ⟨(), h1, by subst h2; exact moves_below (Below.refl _ _), fun k hk => ?_⟩
 subst h2
 rcases hL k hk with rfl | hk
 ·exact .inr ⟨ho.canon, fun b hb => .inl (by rw [hT]; exact kX_bs.2 ⟨_, hm, hb⟩)⟩
 ·exact .inl ⟨hk, fun b hb h => by cases h⟩
theorem asks_trim_r {C : Cx} {S : St} {K : St → Prop} {d : Option Nat} {L : List Kn} (L' : List Kn) {a : Option Addr} {len cap : Nat} {ws : List Int} (hP : C.P = Tryz.prog) (hT : S.T = kX C.w0.heap.size L) (hm : .r (.slice a len cap) ws ∈ L)
  (hL : ∀ k ∈ L', k = .r (.slice a (wl (VL ws)).length cap) (wl (VL ws)) ∨ k ∈ L)
  (hk : K (St.put ⟨S.n, S.E, S.H, kX C.w0.heap.size L'⟩ d (.v (.slice a (wl (VL ws)).length cap)))) : asks C 154 [.slice a len cap] d K S := by
 refine asks_kn (ι := Unit) (L := L) (gs := []) (fun _ => .slice a (wl (VL ws)).length cap) (fun _ => L') (by rw [hP]; exact en_r02_trim) hT (fun g hg => by cases hg) (fun _ _ g hg => by cases hg) (fun W hW hok => ?_) fun _ => hk
 rw [hP]
 have ho : SlF W C.w0.heap.size (.slice a len cap) ws := hok _ hm
 refine (rtrim_any _ _ _ _ W ho.1).mono fun e w' ⟨h1, h2⟩ => ⟨(), h1, by subst h2; exact moves_below (Below.refl _ _), fun k hk => ?_⟩
 subst h2
 rcases hL k hk with rfl | hk
 ·exact .inr ⟨ho.canon, fun b hb => .inl (by
   rw [hT]
   refine kX_bs.2 ⟨_, hm, ?_⟩
   cases a with
   | none => cases hb
   | some a => exact hb)⟩
 ·exact .inl ⟨hk, fun b hb h => by cases h⟩
def upF (w : World) (a : Option Addr) (n len lo cap g cap' : Nat) (x : Nat × List Int) : St := ⟨0, [(0, .v (.slice a len cap)), (1, .v (.int .i64 (n : Int))), (5, .v (.slice (some ⟨g, 0, none⟩) lo cap')), (6, .v (.int .i64 (x.1 : Int)))], [], kX w.heap.size [.o (.slice (some ⟨g, 0, none⟩) lo cap') x.2]⟩
set_option maxRecDepth 100000 in
theorem rup_any {a : Option Addr} {cap : Nat} {ws : List Int} {w : World} {n k s : Nat} (hn : n = 64 * k + s) (hs : s < 64) (hk : k ≤ 1000) (hlen : ws.length ≤ 1000) (h : SlU w (.slice a ws.length cap) ws) :
  Calls Tryz.prog 184 #[.slice a ws.length cap, .int .i64 (n : Int)] w fun e w' => ∃ g cap', e = .returned (.slice (some ⟨g, 0, none⟩) (wl (VL ws * 2 ^ n)).length cap') ∧ OwnU w' w.heap.size (.slice (some ⟨g, 0, none⟩) (wl (VL ws * 2 ^ n)).length cap') (wl (VL ws * 2 ^ n)) ∧ Below w.heap.size w w' := by
 refine Calls.mono (enterX Tryz.func184 r02_up.ok (args := [.slice a ws.length cap, .int .i64 (n : Int)]) (R := fun v X => ∃ g cap', v = .slice (some ⟨g, 0, none⟩) (wl (VL ws * 2 ^ n)).length cap' ∧ X = kX w.heap.size [.o (.slice (some ⟨g, 0, none⟩) (wl (VL ws * 2 ^ n)).length cap') (wl (VL ws * 2 ^ n))]) (by simp) ?run) ?fin
 case fin =>
  rintro e w' ⟨v, Y, rfl, ⟨g, cap', rfl, rfl⟩, hok, hb, -⟩
  exact ⟨g, cap', rfl, hok _ (List.mem_singleton.2 rfl), hb⟩
 case run =>
  have q1 : (n : Int) / 64 = (k : Int) := by omega
  have q2 : (n : Int) % 64 = (s : Int) := by omega
  obtain ⟨lo, hlo⟩ : ∃ lo, lo = ws.length + k + 1 := ⟨_, rfl⟩
  have L1 : (ws.length : Int) + (k : Int) + 1 = (lo : Int) := by omega
  have hst := up_start ws k s
  rw [← hlo] at hst
  simp (disch := omega) only [sxE, r02_up.E, Nat.reduceAdd, Nat.reduceEqDiff, Nat.reduceMul, Nat.reduceSub, Int.reduceAdd, Int.reduceSub, Int.reduceMul, Int.reduceNeg, Int.reduceLT, Int.reduceLE, Int.reduceEq, Int.reduceToNat, ↓reduceIte, Int.reducePow, Nat.reduceLeDiff, Nat.reduceLT, ne_eq, eq_self, List.length_cons, List.length_nil, q1, q2, L1]
  refine genA_o (L := []) (ws := List.replicate lo 0) (kX_nil _) (fun W hW _ => gen_mk (by omega) W) fun g cap' _ => ?_
  rw [List.length_replicate]
  simp (disch := omega) only [sxE, r02_up.E, Nat.reduceAdd, Nat.reduceEqDiff, Nat.reduceMul, Nat.reduceSub, Int.reduceAdd, Int.reduceSub, Int.reduceMul, Int.reduceNeg, Int.reduceLT, Int.reduceLE, Int.reduceEq, Int.reduceToNat, ↓reduceIte, Int.reducePow, Nat.reduceLeDiff, Nat.reduceLT, ne_eq, eq_self, List.length_cons, List.length_nil, Int.ofNat_zero]
  rw [r02_up.p2_l]
  refine LX_inv (upF w a n ws.length lo cap g cap') (fun x => x.1 ≤ ws.length ∧ UpI ws x.2 k s x.1) (fun x => ws.length - x.1) ?round (0, List.replicate lo 0) ⟨Nat.zero_le _, hst⟩ ?start
  case start =>
   simp (disch := omega) only [sxE, r02_up.E, Nat.reduceAdd, Nat.reduceEqDiff, Nat.reduceMul, Nat.reduceSub, Int.reduceAdd, Int.reduceSub, Int.reduceMul, Int.reduceNeg, Int.reduceLT, Int.reduceLE, Int.reduceEq, Int.reduceToNat, ↓reduceIte, Int.reducePow, Nat.reduceLeDiff, Nat.reduceLT, ne_eq, eq_self, List.length_cons, List.length_nil, upF, Int.ofNat_zero]
  case round =>
   rintro ⟨i, out⟩ ⟨hi, hI⟩
   dsimp only at hi hI ⊢
   have hol := hI.len
   rcases Nat.lt_or_ge i ws.length with hil | hil
   ·have c1 : (i : Int) < (ws.length : Int) := by omega
    have c2 : (0 : Int) ≤ (i : Int) ∧ (i : Int) < (ws.length : Int) := by omega
    have c3 : (0 : Int) ≤ ((i + k : Nat) : Int) ∧ ((i + k : Nat) : Int) < (lo : Int) := by omega
    have c4 : (0 : Int) ≤ ((i + k + 1 : Nat) : Int) ∧ ((i + k + 1 : Nat) : Int) < (lo : Int) := by omega
    have k1 : (i : Int) + 1 = ((i + 1 : Nat) : Int) := by omega
    have k2 : (i : Int) + (k : Int) = ((i + k : Nat) : Int) := by omega
    have k3 : ((i + k : Nat) : Int) + 1 = ((i + k + 1 : Nat) : Int) := by omega
    have hx := h.ws.getD i
    obtain ⟨t, u, t1, t2, t3, u0, us, td, e⟩ := shl_word hx hs
    obtain ⟨e1, e2, e3, e4, e5⟩ := up_step hI hil hs t3 td u0 us e
    obtain ⟨b, off, rfl⟩ : ∃ b off, a = some ⟨b, off, none⟩ := by
     obtain ⟨a', cap2, e', hsh⟩ := h.shp
     cases e'
     exact hsh.some (by omega)
    unfold upF
    by_cases hs0 : s = 0
    ·have hu : u = 0 := by rw [hs0, Int.pow_zero] at us; omega
     have hnn : ¬ (0 : Int) < (s : Int) := by omega
     have hl1 : (out.set (i + k) (out.getD (i + k) 0 + t)).length = lo := by rw [List.length_set]; omega
     have hset := set_self_D (out.set (i + k) (out.getD (i + k) 0 + t)) (i + k + 1) (by omega)
     rw [e4] at hset
     rw [hu, hset] at e5
     repeat' (first | simp (disch := omega) only [sxE, r02_up.E, Nat.reduceAdd, Nat.reduceEqDiff, Nat.reduceMul, Nat.reduceSub, Int.reduceAdd, Int.reduceSub, Int.reduceMul, Int.reduceNeg, Int.reduceLT, Int.reduceLE, Int.reduceEq, Int.reduceToNat, ↓reduceIte, Int.reducePow, Nat.reduceLeDiff, Nat.reduceLT, ne_eq, eq_self, List.length_cons, List.length_nil, Nat.mul_one, Nat.zero_add, c1, c2, c3, k1, k2, q1, q2, t1, e1, hnn] | (refine ldP_w i rfl h hil ?_) | (refine ldP_o (i + k) rfl (List.mem_singleton.2 rfl) (by omega) ?_) | (refine stP_o [.o (.slice (some ⟨g, 0, none⟩) lo cap') (out.set (i + k) (out.getD (i + k) 0 + t))] (i + k) rfl (List.mem_singleton.2 rfl) (by omega) e2 (fun k1 hk1 => .inl (List.mem_singleton.1 hk1)) ?_) | (with_reducible refine cregF ?_))
     exact ⟨(i + 1, _), ⟨hil, e5⟩, by dsimp only; omega, rfl, .inl rfl⟩
    ·have hnn : (0 : Int) < (s : Int) := by omega
     have k5 : 64 - (s : Int) = ((64 - s : Nat) : Int) := by omega
     have hz := (or_add 0 U64.zero e3 (by decide) ⟨u, by omega⟩).1
     rw [Int.zero_add] at hz
     have hl1 : (out.set (i + k) (out.getD (i + k) 0 + t)).length = lo := by rw [List.length_set]; omega
     repeat' (first | simp (disch := omega) only [sxE, r02_up.E, Nat.reduceAdd, Nat.reduceEqDiff, Nat.reduceMul, Nat.reduceSub, Int.reduceAdd, Int.reduceSub, Int.reduceMul, Int.reduceNeg, Int.reduceLT, Int.reduceLE, Int.reduceEq, Int.reduceToNat, ↓reduceIte, Int.reducePow, Nat.reduceLeDiff, Nat.reduceLT, ne_eq, eq_self, List.length_cons, List.length_nil, Nat.mul_one, Nat.zero_add, c1, c2, c3, c4, k1, k2, k3, k5, q1, q2, t1, t2, e1, e4, hz, hnn] | (refine ldP_w i rfl h hil ?_) | (refine ldP_o (i + k) rfl (List.mem_singleton.2 rfl) (by omega) ?_) | (refine ldP_o (i + k + 1) rfl (List.mem_singleton.2 rfl) (by omega) ?_) | (refine stP_o [.o (.slice (some ⟨g, 0, none⟩) lo cap') (out.set (i + k) (out.getD (i + k) 0 + t))] (i + k) rfl (List.mem_singleton.2 rfl) (by omega) e2 (fun k1 hk1 => .inl (List.mem_singleton.1 hk1)) ?_) | (refine stP_o [.o (.slice (some ⟨g, 0, none⟩) lo cap') ((out.set (i + k) (out.getD (i + k) 0 + t)).set (i + k + 1) u)] (i + k + 1) rfl (List.mem_singleton.2 rfl) (by omega) e3 (fun k1 hk1 => .inl (List.mem_singleton.1 hk1)) ?_) | (with_reducible refine cregF ?_))
     exact ⟨(i + 1, _), ⟨hil, e5⟩, by dsimp only; omega, rfl, .inl rfl⟩
   ·have hie : i = ws.length := by omega
    have c1 : ¬ (i : Int) < (ws.length : Int) := by omega
    have hv : VL out = VL ws * 2 ^ n := by rw [hie] at hI; rw [up_end hI, hn]
    unfold upF
    simp (disch := omega) only [sxE, r02_up.E, Nat.reduceAdd, Nat.reduceEqDiff, Nat.reduceMul, Nat.reduceSub, Int.reduceAdd, Int.reduceSub, Int.reduceMul, Int.reduceNeg, Int.reduceLT, Int.reduceLE, Int.reduceEq, Int.reduceToNat, ↓reduceIte, Int.reducePow, Nat.reduceLeDiff, Nat.reduceLT, ne_eq, eq_self, List.length_cons, List.length_nil, c1]
    refine asks_trim (L := [.o (.slice (some ⟨g, 0, none⟩) lo cap') out]) [.o (.slice (some ⟨g, 0, none⟩) (wl (VL out)).length cap') (wl (VL out))] rfl rfl (List.mem_singleton.2 rfl) (fun k hk => .inl (List.mem_singleton.1 hk)) ?_
    rw [hv]
    simp (disch := omega) only [sxE, r02_up.E, Nat.reduceAdd, Nat.reduceEqDiff, Nat.reduceMul, Nat.reduceSub, Int.reduceAdd, Int.reduceSub, Int.reduceMul, Int.reduceNeg, Int.reduceLT, Int.reduceLE, Int.reduceEq, Int.reduceToNat, ↓reduceIte, Int.reducePow, Nat.reduceLeDiff, Nat.reduceLT, ne_eq, eq_self, List.length_cons, List.length_nil]
    exact ⟨g, cap', rfl, rfl⟩
end Go.Proofs.YtncmmbacoknefaaGreat

/- DvK: Plain facts for bits.Div64: two words by one. -/
namespace Go.Proofs.YtncmmbacoknefaaGreat
open Go
set_option linter.unusedVariables false
set_option linter.unusedSimpArgs false
structure KI (v1 v0 u1 u32 q r : Int) : Prop where
 eq : q * v1 + r = u32
 ge : (u32 * 4294967296 + u1) / (v1 * 4294967296 + v0) ≤ q
 r0 : 0 ≤ r
 rb : r < 4294967296
 q0 : 0 ≤ q
 qb : q ≤ 4294967297
structure KC (v1 v0 u1 u32 : Int) : Prop where
 a1 : 2147483648 ≤ v1
 a2 : v1 < 4294967296
 b1 : 0 ≤ v0
 b2 : v0 < 4294967296
 c1 : 0 ≤ u1
 c2 : u1 < 4294967296
 d1 : 0 ≤ u32
 d2 : u32 < v1 * 4294967296 + v0
section
variable {v1 v0 u1 u32 q r : Int}
theorem KC.vpos (h : KC v1 v0 u1 u32) : 0 < v1 * 4294967296 + v0 := by have := h.a1; have := h.b1; omega
theorem KC.qlt (h : KC v1 v0 u1 u32) : (u32 * 4294967296 + u1) / (v1 * 4294967296 + v0) < 4294967296 := by
 refine Int.ediv_lt_of_lt_mul h.vpos ?_
 have := h.d2; have := h.c2
 omega
theorem KC.q0 (h : KC v1 v0 u1 u32) : 0 ≤ (u32 * 4294967296 + u1) / (v1 * 4294967296 + v0) := Int.ediv_nonneg (by have := h.d1; have := h.c1; omega) (Int.le_of_lt h.vpos)
theorem KC.start (h : KC v1 v0 u1 u32) : KI v1 v0 u1 u32 (u32 / v1) (u32 - u32 / v1 * v1) := by
 have hv : 0 < v1 := by have := h.a1; omega
 have e1 := Int.mul_ediv_add_emod u32 v1
 have e2 := Int.emod_nonneg u32 (Int.ne_of_gt hv)
 have e3 := Int.emod_lt_of_pos u32 hv
 have e4 : u32 / v1 * v1 = v1 * (u32 / v1) := Int.mul_comm _ _
 have hQ := Int.ediv_mul_le (u32 * 4294967296 + u1) (Int.ne_of_gt h.vpos)
 have hQ0 := h.q0
 have hQ1 := h.qlt
 generalize hQe : (u32 * 4294967296 + u1) / (v1 * 4294967296 + v0) = Q at *
 have d1 := h.d1
 refine ⟨by omega, ?_, by omega, by have := h.a2; omega, Int.ediv_nonneg d1 (Int.le_of_lt hv), ?_⟩
 ·have m1 : Q * (v1 * 4294967296 + v0) = (Q * v1) * 4294967296 + Q * v0 := by rw [Int.mul_add, Int.mul_assoc]
  have m2 : 0 ≤ Q * v0 := Int.mul_nonneg hQ0 h.b1
  have m3 : Q * v1 ≤ u32 := by have := h.c2; omega
  rw [hQe]
  exact (Int.le_ediv_iff_mul_le hv).2 m3
 ·have : u32 / v1 < 4294967298 := by
   refine Int.ediv_lt_of_lt_mul hv ?_
   have := h.d2; have := h.b2; have := h.a1
   omega
  omega
theorem KI.more (h : KC v1 v0 u1 u32) (k : KI v1 v0 u1 u32 q r) (ht : 4294967296 ≤ q ∨ 4294967296 * r + u1 < q * v0) : (u32 * 4294967296 + u1) / (v1 * 4294967296 + v0) ≤ q - 1 := by
 have hQ1 := h.qlt
 rcases ht with ht | ht
 ·omega
 ·have : (u32 * 4294967296 + u1) / (v1 * 4294967296 + v0) < q := by
   refine Int.ediv_lt_of_lt_mul h.vpos ?_
   have m1 : q * (v1 * 4294967296 + v0) = (q * v1) * 4294967296 + q * v0 := by rw [Int.mul_add, Int.mul_assoc]
   have := k.eq
   omega
  omega
theorem KC.is (h : KC v1 v0 u1 u32) (he : q * v1 + r = u32) (hge : (u32 * 4294967296 + u1) / (v1 * 4294967296 + v0) ≤ q) (ht : q * v0 ≤ 4294967296 * r + u1) : q = (u32 * 4294967296 + u1) / (v1 * 4294967296 + v0) := by
 refine Int.le_antisymm ((Int.le_ediv_iff_mul_le h.vpos).2 ?_) hge
 have m1 : q * (v1 * 4294967296 + v0) = (q * v1) * 4294967296 + q * v0 := by rw [Int.mul_add, Int.mul_assoc]
 omega
theorem KI.step (h : KC v1 v0 u1 u32) (k : KI v1 v0 u1 u32 q r) (ht : (u32 * 4294967296 + u1) / (v1 * 4294967296 + v0) ≤ q - 1) : (r + v1 < 4294967296 → KI v1 v0 u1 u32 (q - 1) (r + v1)) ∧ (4294967296 ≤ r + v1 → q - 1 = (u32 * 4294967296 + u1) / (v1 * 4294967296 + v0)) := by
 have hQ0 := h.q0
 have e : (q - 1) * v1 + (r + v1) = u32 := by
  have := k.eq
  rw [Int.sub_mul, Int.one_mul]
  omega
 refine ⟨fun hr => ⟨e, ht, by have := k.r0; have := h.a1; omega, hr, by omega, by have := k.qb; omega⟩, fun hr => ?_⟩
 refine h.is e ht ?_
 have q0 : 0 ≤ q - 1 := by omega
 have hlt : (q - 1) * v1 < 4294967296 * v1 := by have := h.d2; have := h.b2; omega
 have hq : q - 1 < 4294967296 := by
  by_cases hc : q - 1 < 4294967296
  ·exact hc
  ·have : 4294967296 * v1 ≤ (q - 1) * v1 := Int.mul_le_mul_of_nonneg_right (by omega) (by have := h.a1; omega)
   omega
 have m2 : (q - 1) * v0 ≤ 4294967296 * v0 := Int.mul_le_mul_of_nonneg_right (by omega) h.b1
 have := h.b2
 have := h.c1
 omega
theorem KC.rest (h : KC v1 v0 u1 u32) : ∃ R, (u32 * 4294967296 + u1) - (u32 * 4294967296 + u1) / (v1 * 4294967296 + v0) * (v1 * 4294967296 + v0) = R ∧ 0 ≤ R ∧ R < v1 * 4294967296 + v0 ∧ R = (u32 * 4294967296 + u1) % (v1 * 4294967296 + v0) := by
 have e1 := Int.mul_ediv_add_emod (u32 * 4294967296 + u1) (v1 * 4294967296 + v0)
 have e2 := Int.emod_nonneg (u32 * 4294967296 + u1) (Int.ne_of_gt h.vpos)
 have e3 := Int.emod_lt_of_pos (u32 * 4294967296 + u1) h.vpos
 refine ⟨(u32 * 4294967296 + u1) % (v1 * 4294967296 + v0), ?_, e2, e3, rfl⟩
 rw [Int.mul_comm ((u32 * 4294967296 + u1) / (v1 * 4294967296 + v0))]
 omega
end
theorem two_digits {V U u32 u1 u0 : Int} (hV : 0 < V) (hU : U = (u32 * 4294967296 + u1) * 4294967296 + u0) :
  U / V = (u32 * 4294967296 + u1) / V * 4294967296 + ((u32 * 4294967296 + u1) % V * 4294967296 + u0) / V ∧ U % V = ((u32 * 4294967296 + u1) % V * 4294967296 + u0) % V := by
 have e1 := Int.mul_ediv_add_emod (u32 * 4294967296 + u1) V
 generalize (u32 * 4294967296 + u1) / V = Q at *
 generalize (u32 * 4294967296 + u1) % V = R at *
 have e2 : U = (R * 4294967296 + u0) + V * (Q * 4294967296) := by
  rw [hU, ← e1, Int.add_mul, Int.mul_assoc]; omega
 rw [e2]
 refine ⟨?_, ?_⟩
 ·rw [Int.add_mul_ediv_left _ _ (Int.ne_of_gt hV)]; omega
 ·rw [Int.add_mul_emod_self_left]
theorem and_mask {x : Int} (h : U64 x) : IntKind.u64.wrap ((BitVec.ofInt IntKind.u64.bits x &&& BitVec.ofInt IntKind.u64.bits 4294967295).toNat : Int) = x % 4294967296 := by
 have e1 := toNat_ofInt h
 have e2 : (BitVec.ofInt IntKind.u64.bits 4294967295).toNat = 2 ^ 32 - 1 := by decide
 rw [BitVec.toNat_and, e1, e2, Nat.and_two_pow_sub_one_eq_mod]
 obtain ⟨n, rfl⟩ := Int.eq_ofNat_of_zero_le h.1
 rw [Int.toNat_natCast]
 have : (n % 2 ^ 32 : Nat) < 4294967296 := Nat.mod_lt _ (by decide)
 rw [IntWalk.u64_in _ ⟨by omega, by omega⟩]
 omega
theorem norm_y {y : Int} (h : U64 y) (h0 : y ≠ 0) : ∃ s : Nat, s = 64 - Go.Lib.bitLen y.toNat ∧ s < 64 ∧ Go.Lib.bitLen y.toNat ≤ 64 ∧ 9223372036854775808 ≤ y * 2 ^ s ∧ y * 2 ^ s < 18446744073709551616 := by
 obtain ⟨n, rfl⟩ := Int.eq_ofNat_of_zero_le h.1
 rw [Int.toNat_natCast]
 obtain ⟨b1, b2, b3⟩ := Go.Lib.bitLenAux_bounds 64 n (by have := h.2; omega) (by omega)
 have e : Go.Lib.bitLen n = Go.Lib.bitLenAux 64 n := rfl
 rw [e]
 generalize Go.Lib.bitLenAux 64 n = L at *
 have hL : L ≤ 64 := by
  by_cases hL : L ≤ 64
  ·exact hL
  ·have : 2 ^ 64 ≤ 2 ^ (L - 1) := Nat.pow_le_pow_right (by decide) (by omega)
   have := h.2
   omega
 have p1 : (2 : Nat) ^ (L - 1) * 2 ^ (64 - L) = 9223372036854775808 := by rw [← Nat.pow_add, show L - 1 + (64 - L) = 63 by omega]
 have p2 : (2 : Nat) ^ L * 2 ^ (64 - L) = 18446744073709551616 := by rw [← Nat.pow_add, show L + (64 - L) = 64 by omega]
 refine ⟨64 - L, rfl, by omega, hL, ?_, ?_⟩
 ·have := Nat.mul_le_mul_right (2 ^ (64 - L)) b2
  rw [p1] at this
  have h := Int.ofNat_le.2 this
  rw [Int.natCast_mul, Int.natCast_pow] at h
  exact h
 ·have := Nat.mul_lt_mul_of_pos_right b3 (Nat.two_pow_pos (64 - L))
  rw [p2] at this
  have h := Int.ofNat_lt.2 this
  rw [Int.natCast_mul, Int.natCast_pow] at h
  exact h
end Go.Proofs.YtncmmbacoknefaaGreat

/- Hc: What a call of bits.Div64 gives. -/
namespace Go.Proofs.YtncmmbacoknefaaGreat
open Go Go.RowKit Sx
set_option linter.unusedVariables false
set_option linter.unusedSimpArgs false
def d2F (V v1 v0 u0 Q1 u21 : Int) (s : Nat) (x : Int × Int) : St := ⟨0, [(2, .v (.int .u64 V)), (8, .v (.int .u64 (s : Int))), (9, .v (.int .u64 v1)), (10, .v (.int .u64 v0)), (14, .v (.int .u64 u0)), (15, .v (.int .u64 Q1)), (16, .v (.int .u64 x.2)), (17, .v (.int .u64 u21)), (18, .v (.int .u64 x.1))], [], ext0⟩
def d1F (V v1 v0 u32 u1 u0 : Int) (s : Nat) (x : Int × Int) : St := ⟨0, [(2, .v (.int .u64 V)), (8, .v (.int .u64 (s : Int))), (9, .v (.int .u64 v1)), (10, .v (.int .u64 v0)), (11, .v (.int .u64 u32)), (13, .v (.int .u64 u1)), (14, .v (.int .u64 u0)), (15, .v (.int .u64 x.1)), (16, .v (.int .u64 x.2))], [], ext0⟩
theorem mul_bnd {q v : Int} (h0 : 0 ≤ q) (h1 : q < 4294967296) (h2 : 0 ≤ v) (h3 : v < 4294967296) : 0 ≤ q * v ∧ q * v ≤ 18446744069414584320 := by
 refine ⟨Int.mul_nonneg h0 h2, ?_⟩
 have := Int.mul_le_mul_of_nonneg_right (show q ≤ 4294967295 by omega) h2
 omega
theorem div64_two {V v1 v0 u0 Q1 u21 : Int} {s : Nat} {w : World} {R : Value → Prop} (hV : V = v1 * 4294967296 + v0) (kc : KC v1 v0 u0 u21) (hQ : 0 ≤ Q1 ∧ Q1 < 4294967296) (hs : s < 64)
  (hR : R (.tuple #[.int .u64 (Q1 * 4294967296 + (u21 * 4294967296 + u0) / V), .int .u64 (((u21 * 4294967296 + u0) % V).fdiv (2 ^ s))])) {q r : Int} (hI : KI v1 v0 u0 u21 q r) :
  math_bits_Div64.p2 (cx Tryz.prog w 135) (fin [(6, none), (7, none)] R) (d2F V v1 v0 u0 Q1 u21 s (q, r)) := by
 have hA1 := kc.a1
 have hA2 := kc.a2
 have hB1 := kc.b1
 have hB2 := kc.b2
 have hC1 := kc.c1
 have hC2 := kc.c2
 obtain ⟨rr, r1, r2, r3, r4⟩ := kc.rest
 rw [← hV] at r1 r3 r4
 have hq0 := kc.q0
 have hq1 := kc.qlt
 rw [← hV] at hq0 hq1
 have last : IntKind.u64.wrap (IntKind.u64.wrap (IntKind.u64.wrap (u21 * 4294967296) + u0) - IntKind.u64.wrap ((u21 * 4294967296 + u0) / V * V)) = rr := by
  show (((u21 * 4294967296) % 18446744073709551616 + u0) % 18446744073709551616 - ((u21 * 4294967296 + u0) / V * V) % 18446744073709551616) % 18446744073709551616 = rr
  generalize (u21 * 4294967296 + u0) / V * V = z at *
  omega
 have last1 : IntKind.u64.wrap (IntKind.u64.wrap (Q1 * 4294967296) + (u21 * 4294967296 + u0) / V) = Q1 * 4294967296 + (u21 * 4294967296 + u0) / V := by
  show ((Q1 * 4294967296) % 18446744073709551616 + (u21 * 4294967296 + u0) / V) % 18446744073709551616 = _
  omega
 rw [← r4] at hR
 rw [math_bits_Div64.p2_l]
 refine LX_inv (d2F V v1 v0 u0 Q1 u21 s) (fun x => KI v1 v0 u0 u21 x.1 x.2) (fun x => x.1.toNat) ?round (q, r) hI ?start
 case start => simp (disch := omega) only [sxE, math_bits_Div64.E, Nat.reduceAdd, Nat.reduceEqDiff, Nat.reduceMul, Nat.reduceSub, Int.reduceAdd, Int.reduceSub, Int.reduceMul, Int.reduceNeg, Int.reduceLT, Int.reduceLE, Int.reduceEq, Int.reduceToNat, ↓reduceIte, Int.reducePow, Nat.reduceLeDiff, Nat.reduceLT, ne_eq, eq_self, List.length_cons, List.length_nil, d2F]
 case round =>
  clear hI
  rintro ⟨q, r⟩ hI
  dsimp only at hI ⊢
  have g1 := hI.r0
  have g2 := hI.rb
  have g3 := hI.q0
  have g4 := hI.qb
  have more : 4294967296 ≤ q ∨ 4294967296 * r + u0 < q * v0 → (u21 * 4294967296 + u0) / V ≤ q - 1 := fun ht => by have := hI.more kc ht; rwa [← hV] at this
  have step := hI.step kc
  rw [← hV] at step
  have done : ¬ (4294967296 ≤ q ∨ 4294967296 * r + u0 < q * v0) → q = (u21 * 4294967296 + u0) / V := fun ht => by
   have := kc.is hI.eq hI.ge (by omega)
   rwa [← hV] at this
  unfold d2F
  by_cases t1 : 4294967296 ≤ q
  ·have hge := more (.inl t1)
   obtain ⟨s1, s2⟩ := step hge
   by_cases t2 : 4294967296 ≤ r + v1
   ·have e := s2 t2
    repeat' (first | simp (disch := omega) only [sxE, math_bits_Div64.E, Nat.reduceAdd, Nat.reduceEqDiff, Nat.reduceMul, Nat.reduceSub, Int.reduceAdd, Int.reduceSub, Int.reduceMul, Int.reduceNeg, Int.reduceLT, Int.reduceLE, Int.reduceEq, Int.reduceToNat, ↓reduceIte, Int.reducePow, Nat.reduceLeDiff, Nat.reduceLT, ne_eq, eq_self, List.length_cons, List.length_nil, e, last, last1] | (with_reducible refine cregF ?_))
    exact hR
   ·repeat' (first | simp (disch := omega) only [sxE, math_bits_Div64.E, Nat.reduceAdd, Nat.reduceEqDiff, Nat.reduceMul, Nat.reduceSub, Int.reduceAdd, Int.reduceSub, Int.reduceMul, Int.reduceNeg, Int.reduceLT, Int.reduceLE, Int.reduceEq, Int.reduceToNat, ↓reduceIte, Int.reducePow, Nat.reduceLeDiff, Nat.reduceLT, ne_eq, eq_self, List.length_cons, List.length_nil] | (with_reducible refine cregF ?_))
    exact ⟨(q - 1, r + v1), s1 (by omega), by dsimp only; omega, rfl, rfl⟩
  ·obtain ⟨m1, m2⟩ := mul_bnd g3 (by omega) hB1 hB2
   generalize hz : q * v0 = z at *
   by_cases t3 : 4294967296 * r + u0 < z
   ·have hge := more (.inr t3)
    obtain ⟨s1, s2⟩ := step hge
    by_cases t2 : 4294967296 ≤ r + v1
    ·have e := s2 t2
     repeat' (first | simp (disch := omega) only [sxE, math_bits_Div64.E, Nat.reduceAdd, Nat.reduceEqDiff, Nat.reduceMul, Nat.reduceSub, Int.reduceAdd, Int.reduceSub, Int.reduceMul, Int.reduceNeg, Int.reduceLT, Int.reduceLE, Int.reduceEq, Int.reduceToNat, ↓reduceIte, Int.reducePow, Nat.reduceLeDiff, Nat.reduceLT, ne_eq, eq_self, List.length_cons, List.length_nil, hz, e, last, last1] | (with_reducible refine cregF ?_))
     exact hR
    ·repeat' (first | simp (disch := omega) only [sxE, math_bits_Div64.E, Nat.reduceAdd, Nat.reduceEqDiff, Nat.reduceMul, Nat.reduceSub, Int.reduceAdd, Int.reduceSub, Int.reduceMul, Int.reduceNeg, Int.reduceLT, Int.reduceLE, Int.reduceEq, Int.reduceToNat, ↓reduceIte, Int.reducePow, Nat.reduceLeDiff, Nat.reduceLT, ne_eq, eq_self, List.length_cons, List.length_nil, hz] | (with_reducible refine cregF ?_))
     exact ⟨(q - 1, r + v1), s1 (by omega), by dsimp only; omega, rfl, rfl⟩
   ·have e := done (by omega)
    repeat' (first | simp (disch := omega) only [sxE, math_bits_Div64.E, Nat.reduceAdd, Nat.reduceEqDiff, Nat.reduceMul, Nat.reduceSub, Int.reduceAdd, Int.reduceSub, Int.reduceMul, Int.reduceNeg, Int.reduceLT, Int.reduceLE, Int.reduceEq, Int.reduceToNat, ↓reduceIte, Int.reducePow, Nat.reduceLeDiff, Nat.reduceLT, ne_eq, eq_self, List.length_cons, List.length_nil, hz] | (with_reducible refine cregF ?_))
    rw [e]
    simp only [last, last1]
    exact hR
theorem div64_one {V v1 v0 u1 u0 u32 : Int} {s : Nat} {w : World} {R : Value → Prop} (hV : V = v1 * 4294967296 + v0) (kc : KC v1 v0 u1 u32) (hu0 : 0 ≤ u0 ∧ u0 < 4294967296) (hs : s < 64)
  (hR : R (.tuple #[.int .u64 ((u32 * 4294967296 + u1) / V * 4294967296 + ((u32 * 4294967296 + u1) % V * 4294967296 + u0) / V), .int .u64 ((((u32 * 4294967296 + u1) % V * 4294967296 + u0) % V).fdiv (2 ^ s))])) {q r : Int} (hI : KI v1 v0 u1 u32 q r) :
  math_bits_Div64.p12 (cx Tryz.prog w 135) (fin [(6, none), (7, none)] R) (d1F V v1 v0 u32 u1 u0 s (q, r)) := by
 have hA1 := kc.a1
 have hA2 := kc.a2
 have hB1 := kc.b1
 have hB2 := kc.b2
 have hC1 := kc.c1
 have hC2 := kc.c2
 have hD1 := kc.d1
 have hD2 := kc.d2
 obtain ⟨rr, r1, r2, r3, r4⟩ := kc.rest
 rw [← hV] at r1 r3 r4
 have hq0 := kc.q0
 have hq1 := kc.qlt
 rw [← hV] at hq0 hq1
 rw [← r4] at hR
 have kc2 : KC v1 v0 u0 rr := ⟨hA1, hA2, hB1, hB2, hu0.1, hu0.2, r2, by omega⟩
 have st2 := kc2.start
 have last : IntKind.u64.wrap (IntKind.u64.wrap (IntKind.u64.wrap (u32 * 4294967296) + u1) - IntKind.u64.wrap ((u32 * 4294967296 + u1) / V * V)) = rr := by
  show (((u32 * 4294967296) % 18446744073709551616 + u1) % 18446744073709551616 - ((u32 * 4294967296 + u1) / V * V) % 18446744073709551616) % 18446744073709551616 = rr
  generalize (u32 * 4294967296 + u1) / V * V = z at *
  omega
 have dv0 : v1 ≠ 0 := by omega
 have w1 : IntKind.u64.wrap (rr / v1) = rr / v1 := s_wu _ (by have := st2.q0; omega) (by have := st2.qb; omega)
 have w2 : IntKind.u64.wrap (rr / v1 * v1) = rr / v1 * v1 := s_wu _ (Int.mul_nonneg st2.q0 (by omega)) (by have := st2.eq; have := st2.r0; omega)
 have w3 : IntKind.u64.wrap (rr - rr / v1 * v1) = rr - rr / v1 * v1 := s_wu _ st2.r0 (by have := st2.rb; omega)
 have two := div64_two (w := w) (Q1 := (u32 * 4294967296 + u1) / V) hV kc2 ⟨hq0, hq1⟩ hs hR st2
 unfold d2F at two
 rw [math_bits_Div64.p12_l]
 refine LX_inv (d1F V v1 v0 u32 u1 u0 s) (fun x => KI v1 v0 u1 u32 x.1 x.2) (fun x => x.1.toNat) ?round (q, r) hI ?start
 case start => simp (disch := omega) only [sxE, math_bits_Div64.E, Nat.reduceAdd, Nat.reduceEqDiff, Nat.reduceMul, Nat.reduceSub, Int.reduceAdd, Int.reduceSub, Int.reduceMul, Int.reduceNeg, Int.reduceLT, Int.reduceLE, Int.reduceEq, Int.reduceToNat, ↓reduceIte, Int.reducePow, Nat.reduceLeDiff, Nat.reduceLT, ne_eq, eq_self, List.length_cons, List.length_nil, d1F]
 case round =>
  clear hI
  rintro ⟨q, r⟩ hI
  dsimp only at hI ⊢
  have g1 := hI.r0
  have g2 := hI.rb
  have g3 := hI.q0
  have g4 := hI.qb
  have more : 4294967296 ≤ q ∨ 4294967296 * r + u1 < q * v0 → (u32 * 4294967296 + u1) / V ≤ q - 1 := fun ht => by have := hI.more kc ht; rwa [← hV] at this
  have step := hI.step kc
  rw [← hV] at step
  have done : ¬ (4294967296 ≤ q ∨ 4294967296 * r + u1 < q * v0) → q = (u32 * 4294967296 + u1) / V := fun ht => by
   have := kc.is hI.eq hI.ge (by omega)
   rwa [← hV] at this
  unfold d1F
  by_cases t1 : 4294967296 ≤ q
  ·have hge := more (.inl t1)
   obtain ⟨s1, s2⟩ := step hge
   by_cases t2 : 4294967296 ≤ r + v1
   ·have e := s2 t2
    repeat' (first | simp (disch := omega) only [sxE, math_bits_Div64.E, Nat.reduceAdd, Nat.reduceEqDiff, Nat.reduceMul, Nat.reduceSub, Int.reduceAdd, Int.reduceSub, Int.reduceMul, Int.reduceNeg, Int.reduceLT, Int.reduceLE, Int.reduceEq, Int.reduceToNat, ↓reduceIte, Int.reducePow, Nat.reduceLeDiff, Nat.reduceLT, ne_eq, eq_self, List.length_cons, List.length_nil, e, last, dv0, w1, w2, w3] | (with_reducible refine cregF ?_))
    exact two
   ·repeat' (first | simp (disch := omega) only [sxE, math_bits_Div64.E, Nat.reduceAdd, Nat.reduceEqDiff, Nat.reduceMul, Nat.reduceSub, Int.reduceAdd, Int.reduceSub, Int.reduceMul, Int.reduceNeg, Int.reduceLT, Int.reduceLE, Int.reduceEq, Int.reduceToNat, ↓reduceIte, Int.reducePow, Nat.reduceLeDiff, Nat.reduceLT, ne_eq, eq_self, List.length_cons, List.length_nil] | (with_reducible refine cregF ?_))
    exact ⟨(q - 1, r + v1), s1 (by omega), by dsimp only; omega, rfl, rfl⟩
  ·obtain ⟨m1, m2⟩ := mul_bnd g3 (by omega) hB1 hB2
   generalize hz : q * v0 = z at *
   by_cases t3 : 4294967296 * r + u1 < z
   ·have hge := more (.inr t3)
    obtain ⟨s1, s2⟩ := step hge
    by_cases t2 : 4294967296 ≤ r + v1
    ·have e := s2 t2
     repeat' (first | simp (disch := omega) only [sxE, math_bits_Div64.E, Nat.reduceAdd, Nat.reduceEqDiff, Nat.reduceMul, Nat.reduceSub, Int.reduceAdd, Int.reduceSub, Int.reduceMul, Int.reduceNeg, Int.reduceLT, Int.reduceLE, Int.reduceEq, Int.reduceToNat, ↓reduceIte, Int.reducePow, Nat.reduceLeDiff, Nat.reduceLT, ne_eq, eq_self, List.length_cons, List.length_nil, hz, e, last, dv0, w1, w2, w3] | (with_reducible refine cregF ?_))
     exact two
    ·repeat' (first | simp (disch := omega) only [sxE, math_bits_Div64.E, Nat.reduceAdd, Nat.reduceEqDiff, Nat.reduceMul, Nat.reduceSub, Int.reduceAdd, Int.reduceSub, Int.reduceMul, Int.reduceNeg, Int.reduceLT, Int.reduceLE, Int.reduceEq, Int.reduceToNat, ↓reduceIte, Int.reducePow, Nat.reduceLeDiff, Nat.reduceLT, ne_eq, eq_self, List.length_cons, List.length_nil, hz] | (with_reducible refine cregF ?_))
     exact ⟨(q - 1, r + v1), s1 (by omega), by dsimp only; omega, rfl, rfl⟩
   ·have e := done (by omega)
    subst e
    repeat' (first | simp (disch := omega) only [sxE, math_bits_Div64.E, Nat.reduceAdd, Nat.reduceEqDiff, Nat.reduceMul, Nat.reduceSub, Int.reduceAdd, Int.reduceSub, Int.reduceMul, Int.reduceNeg, Int.reduceLT, Int.reduceLE, Int.reduceEq, Int.reduceToNat, ↓reduceIte, Int.reducePow, Nat.reduceLeDiff, Nat.reduceLT, ne_eq, eq_self, List.length_cons, List.length_nil, hz, last, dv0, w1, w2, w3] | (with_reducible refine cregF ?_))
    exact two
theorem en_div64 (l : Array Value) (W : World) : (callFunc 182 l).run Tryz.prog W = .ok (.enter 182 l) W := Sx.en_of Tryz.func182 (by kernel_rfl) (by kernel_rfl) l W
theorem g_lz64 {x : Int} (h : U64 x) (W : World) : Gives Tryz.prog 196 [.int .u64 x] W (· = .int .i64 (64 - (Go.Lib.bitLen x.toNat : Int))) :=
 gives_known (Sx.en_of Tryz.func196 (by kernel_rfl) (by kernel_rfl)) ((Tryz.bits_LeadingZeros64 x W h.1 h.2).mono fun _ _ ⟨h1, h2⟩ => ⟨h1, by subst h2; exact Below.refl _ _⟩)
set_option maxRecDepth 100000 in
theorem g_div64 {hi lo y : Int} (hh : U64 hi) (hl : U64 lo) (hy : U64 y) (hlt : hi < y) (W : World) : Gives Tryz.prog 182 [.int .u64 hi, .int .u64 lo, .int .u64 y] W (· = .tuple #[.int .u64 ((hi * 18446744073709551616 + lo) / y), .int .u64 ((hi * 18446744073709551616 + lo) % y)]) := by
 refine gives_known en_div64 ?_
 obtain ⟨hh0, hh1⟩ := id hh
 obtain ⟨hl0, hl1⟩ := id hl
 obtain ⟨hy0, hy1⟩ := id hy
 have hyp : 0 < y := by omega
 by_cases h0 : hi = 0
 ·have d0 : 0 ≤ lo / y := Int.ediv_nonneg hl0 (by omega)
  have d1 : lo / y ≤ lo := Int.ediv_le_self y hl0
  have dn : y ≠ 0 := by omega
  subst h0
  rw [Int.zero_mul, Int.zero_add]
  refine known_of (enter Tryz.func182 math_bits_Div64.ok (args := [.int .u64 0, .int .u64 lo, .int .u64 y]) (by simp) ?_)
  repeat' (first | simp (disch := omega) only [sxE, math_bits_Div64.E, Nat.reduceAdd, Nat.reduceEqDiff, Nat.reduceMul, Nat.reduceSub, Int.reduceAdd, Int.reduceSub, Int.reduceMul, Int.reduceNeg, Int.reduceLT, Int.reduceLE, Int.reduceEq, Int.reduceToNat, ↓reduceIte, Int.reducePow, Nat.reduceLeDiff, Nat.reduceLT, ne_eq, eq_self, List.length_cons, List.length_nil, dn] | (with_reducible refine cregF ?_))
 ·obtain ⟨s, hs1, hs, hL, hv1, hv2⟩ := norm_y hy (by omega)
  have hs2 : IntKind.u64.wrap (64 - (Go.Lib.bitLen y.toNat : Int)) = (s : Int) := by rw [s_wu _ (by omega) (by omega)]; omega
  have hs3 : 64 - (s : Int) = ((64 - s : Nat) : Int) := by omega
  obtain ⟨t, u, t1, t2, t3, u0, us, td, e⟩ := shl_word hl hs
  have p0 : (0 : Int) < 2 ^ s := Int.pow_pos (by decide)
  have hV : IntKind.u64.wrap (y * 2 ^ s) = y * 2 ^ s := s_wu _ (by omega) (by omega)
  have hle : (hi + 1) * 2 ^ s ≤ y * 2 ^ s := Int.mul_le_mul_of_nonneg_right (by omega) (Int.le_of_lt p0)
  rw [Int.add_mul, Int.one_mul] at hle
  have hhp : 0 ≤ hi * 2 ^ s := Int.mul_nonneg hh0 (Int.le_of_lt p0)
  have hH : IntKind.u64.wrap (hi * 2 ^ s) = hi * 2 ^ s := s_wu _ hhp (by omega)
  obtain ⟨o1, o2, o3⟩ := or_add s ⟨u0, by omega⟩ ⟨hhp, by omega⟩ us ⟨hi, Int.mul_comm _ _⟩
  have hU : (hi * 18446744073709551616 + lo) * 2 ^ s = ((u + hi * 2 ^ s) * 4294967296 + t / 4294967296) * 4294967296 + t % 4294967296 := by
   rw [Int.add_mul, e, show hi * 18446744073709551616 * 2 ^ s = 18446744073709551616 * (hi * 2 ^ s) by rw [Int.mul_right_comm, Int.mul_comm]]
   generalize hi * 2 ^ s = H at *
   omega
  have hVp : 0 < y * 2 ^ s := by omega
  obtain ⟨f1, f2⟩ := two_digits hVp hU
  rw [Int.mul_ediv_mul_of_pos_left _ _ p0] at f1
  have f0 : ((hi * 18446744073709551616 + lo) * 2 ^ s) % (y * 2 ^ s) = ((hi * 18446744073709551616 + lo) % y) * 2 ^ s := by
   rw [Int.mul_comm _ (2 ^ s), Int.mul_comm y, Int.mul_emod_mul_of_pos _ _ p0, Int.mul_comm]
  rw [f0] at f2
  have f3 : (((hi * 18446744073709551616 + lo) % y) * 2 ^ s).fdiv (2 ^ s) = (hi * 18446744073709551616 + lo) % y := by
   rw [Int.fdiv_eq_ediv_of_nonneg _ (Int.le_of_lt p0), Int.mul_ediv_cancel _ (Int.ne_of_gt p0)]
  have hVs : y * 2 ^ s = (y * 2 ^ s) / 4294967296 * 4294967296 + (y * 2 ^ s) % 4294967296 := by omega
  have kc : KC ((y * 2 ^ s) / 4294967296) ((y * 2 ^ s) % 4294967296) (t / 4294967296) (u + hi * 2 ^ s) := by
   obtain ⟨t30, t31⟩ := t3
   generalize y * 2 ^ s = V at *
   generalize hi * 2 ^ s = H at *
   exact ⟨by omega, by omega, by omega, by omega, by omega, by omega, by omega, by omega⟩
  have st := kc.start
  have w1 : IntKind.u64.wrap ((u + hi * 2 ^ s) / ((y * 2 ^ s) / 4294967296)) = (u + hi * 2 ^ s) / ((y * 2 ^ s) / 4294967296) := s_wu _ (by have := st.q0; omega) (by have := st.qb; omega)
  have w2 : IntKind.u64.wrap ((u + hi * 2 ^ s) / ((y * 2 ^ s) / 4294967296) * ((y * 2 ^ s) / 4294967296)) = (u + hi * 2 ^ s) / ((y * 2 ^ s) / 4294967296) * ((y * 2 ^ s) / 4294967296) := s_wu _ (Int.mul_nonneg st.q0 (by have := kc.a1; omega)) (by have := st.eq; have := st.r0; have := o3.2; omega)
  have w3 : IntKind.u64.wrap ((u + hi * 2 ^ s) - (u + hi * 2 ^ s) / ((y * 2 ^ s) / 4294967296) * ((y * 2 ^ s) / 4294967296)) = (u + hi * 2 ^ s) - (u + hi * 2 ^ s) / ((y * 2 ^ s) / 4294967296) * ((y * 2 ^ s) / 4294967296) := s_wu _ st.r0 (by have := st.rb; omega)
  have dv0 : (y * 2 ^ s) / 4294967296 ≠ 0 := by have := kc.a1; omega
  have one := div64_one (w := W) (R := fun v => v = .tuple #[.int .u64 ((hi * 18446744073709551616 + lo) / y), .int .u64 ((hi * 18446744073709551616 + lo) % y)]) hVs kc (u0 := t % 4294967296) ⟨by omega, by omega⟩ hs (by rw [← f1, ← f2, f3]) st
  have am1 := and_mask (x := y * 2 ^ s) ⟨by omega, by omega⟩
  have am2 := and_mask t3
  have fd1 : (y * 2 ^ s).fdiv 4294967296 = (y * 2 ^ s) / 4294967296 := Int.fdiv_eq_ediv_of_nonneg _ (by decide)
  have fd2 : t.fdiv 4294967296 = t / 4294967296 := Int.fdiv_eq_ediv_of_nonneg _ (by decide)
  have hun : 0 ≤ u + hi * 2 ^ s := o3.1
  have o1' := o1
  unfold d1F at one
  dsimp only at one
  clear f1 f2 f3 hU hL hs1
  refine known_of (enter Tryz.func182 math_bits_Div64.ok (args := [.int .u64 hi, .int .u64 lo, .int .u64 y]) (by simp) ?_)
  repeat' (first | simp (disch := omega) only [sxE, math_bits_Div64.E, Nat.reduceAdd, Nat.reduceEqDiff, Nat.reduceMul, Nat.reduceSub, Int.reduceAdd, Int.reduceSub, Int.reduceMul, Int.reduceNeg, Int.reduceLT, Int.reduceLE, Int.reduceEq, Int.reduceToNat, ↓reduceIte, Int.reducePow, Nat.reduceLeDiff, Nat.reduceLT, ne_eq, eq_self, List.length_cons, List.length_nil, hs2, hs3, hV, hH, t1, t2, o2, am1, am2, fd1, fd2, dv0, w1, w2, w3] | (with_reducible refine Sx.call_at (f := 196) (fun W hW => g_lz64 hy W) ?_) | (with_reducible refine cregF ?_))
  exact one
end Go.Proofs.YtncmmbacoknefaaGreat

/- Hd: What a call of the reference's divmod gives. -/
namespace Go.Proofs.YtncmmbacoknefaaGreat
open Go Go.RowKit Sx
set_option linter.unusedVariables false
set_option linter.unusedSimpArgs false
theorem gen_one {r : Int} (hr : U64 r) (W : World) : ∃ g cap W', (genRun (.bsl 162 1 [0]) [.int .u64 r]).run Tryz.prog W = .ok (.value (.slice (some ⟨g, 0, none⟩) [r].length cap)) W' ∧ OwnU W' W.heap.size (.slice (some ⟨g, 0, none⟩) [r].length cap) [r] ∧ Below W.heap.size W W' :=
 ⟨W.heap.size, 1, W.alloc (.cells #[.int .u64 r] 34 (0, 0)), by kernel_rfl, OwnU.lit W [r] (Ws.one hr) 34 rfl (show 1 ≤ maxLen by decide), (Below.refl _ _).alloc (Nat.le_refl _) _⟩
theorem gen_none (W : World) : ∃ g cap W', (genRun (.bsl 162 0 []) []).run Tryz.prog W = .ok (.value (.slice (some ⟨g, 0, none⟩) ([] : List Int).length cap)) W' ∧ OwnU W' W.heap.size (.slice (some ⟨g, 0, none⟩) ([] : List Int).length cap) [] ∧ Below W.heap.size W W' :=
 ⟨W.heap.size, 0, W.alloc (.cells #[] 34 (0, 0)), by kernel_rfl, OwnU.lit W [] Ws.nil 34 rfl (by decide), (Below.refl _ _).alloc (Nat.le_refl _) _⟩
theorem genA_app {C : Cx} {S : St} {K : St → Prop} {d : Option Nat} {L L0 : List Kn} {t2 : TypeId} {g cap : Nat} {src : Value} {ms : List Int} (hP : C.P = Tryz.prog) (ht2 : ∃ e2, Tryz.prog.underlying t2 = some (.slice e2)) (hT : S.T = kX C.w0.heap.size L) (hm : .o (.slice (some ⟨g, 0, none⟩) 0 cap) [] ∈ L)
  (hC : C.fr = none) (hL : ∀ k ∈ L0, k ∈ L ∧ g ∉ k.bs) (hsrc : ∀ W, Below C.w0.heap.size C.w0 W → (∀ k ∈ L, k.ok C.w0.heap.size W) → SlU W src ms) (hlen : ms.length ≤ 1000000)
  (hk : ∀ a c, Shp a ms.length c → (∀ b ∈ rbs (.slice a ms.length c), b = g ∨ b ∉ S.T.bs) → K (St.put ⟨S.n, S.E, S.H, kX C.w0.heap.size (.r (.slice a ms.length c) ms :: L0)⟩ d (.v (.slice a ms.length c)))) :
  genA C (.bi .append [162, t2] 162 [false, false]) [.slice (some ⟨g, 0, none⟩) 0 cap, src] d K S := by
 obtain ⟨e2, ht2⟩ := ht2
 obtain ⟨i0, hi, hz0, hz1, hz2⟩ := info_u
 refine genA_T (ι := {x : Option Addr × Nat // Shp x.1 ms.length x.2 ∧ ∀ b ∈ rbs (.slice x.1 ms.length x.2), b = g ∨ b ∉ S.T.bs}) (fun x => .slice x.1.1 ms.length x.1.2) (fun x => kX C.w0.heap.size (.r (.slice x.1.1 ms.length x.1.2) ms :: L0)) (fun W hW hok hbs => ⟨?_⟩) (fun x => hk _ _ x.2.1 x.2.2)
 rw [hT] at hok
 have ho : OwnU W C.w0.heap.size (.slice (some ⟨g, 0, none⟩) 0 cap) [] := hok _ hm
 obtain ⟨v', w', hrun, hown, hg, hat⟩ := run_append_u (P := Tryz.prog) (ty := 162) W C.w0.heap.size Tryz.underlying162 ht2 hi hz0 hz1 hz2 ho (hsrc W hW hok) (by simp; omega) hW.size
 rw [List.nil_append] at hown
 obtain ⟨a, c, rfl, hs⟩ := hown.sl.shp
 have hr : (Kn.r (.slice a ms.length c) ms).ok C.w0.heap.size w' := ⟨hown.sl, hown.fr (Nat.le_refl _)⟩
 have hb' : ∀ b ∈ rbs (.slice a ms.length c), b = g ∨ b = W.heap.size := fun b hb => by
  cases a with
  | none => cases hb
  | some a =>
   have hb2 : b ∈ (if c = 0 then [] else [a.block]) := hb
   have : b = a.block := by split at hb2; cases hb2; exact List.mem_singleton.1 hb2
   subst this
   rcases hat with h | h
   ·left; exact Option.some.inj h
   ·right; exact Option.some.inj h
 have he : (genRun (.bi .append [162, t2] 162 [false, false]) [.slice (some ⟨g, 0, none⟩) 0 cap, src]).run Tryz.prog W = .ok (.value (.slice a ms.length c)) w' := by
  show Sem.run _ (builtin .append [_, _].toArray _ [false, false].toArray [_, _].toArray) W = _
  unfold builtin
  rw [run_bind_ok hrun]
  rfl
 rw [hP, he]
 have hgb : g ∈ (kX C.w0.heap.size L).bs := kX_bs.2 ⟨_, hm, List.mem_singleton.2 rfl⟩
 refine ⟨⟨(a, c), hs, fun b hb => ?_⟩, rfl, ?_, ?_, kX_stab C _, ?_⟩
 ·rcases hb' b hb with h | h
  ·exact .inl h
  ·right; intro hT2; have := (hbs b hT2).2; omega
 ·rw [mv_none hC, hT]
  exact ⟨hg.os, hg.tape, hg.output, hg.size, fun j hj hn => hg.block j hj fun e => hn (by cases e; exact hgb)⟩
 ·intro k hk
  rcases List.mem_cons.1 hk with rfl | hk
  ·exact hr
  ·obtain ⟨h1, h2⟩ := hL k hk
   exact (hok k h1).keep hg.size (fun b hb => hg.block b ((hok k h1).lt b hb).2 fun e => h2 (by cases e; exact hb)) fun b hbn hbl => hg.block b hbl fun e => by
    have := (Kn.ok.lt (k := .o (.slice (some ⟨g, 0, none⟩) 0 cap) []) ho g (List.mem_singleton.2 rfl)).1
    have e2 : b = g := Option.some.inj e
    omega
 ·intro b hb
  rw [hT]
  obtain ⟨k, hk, hb⟩ := kX_bs.1 hb
  rcases List.mem_cons.1 hk with rfl | hk
  ·refine ⟨?_, (hr.lt b hb).2⟩
   rcases hb' b hb with h | h
   ·left; rw [h]; exact hgb
   ·right; omega
  ·exact ⟨.inl (kX_bs.2 ⟨k, (hL k hk).1, hb⟩), Nat.lt_of_lt_of_le ((hok k (hL k hk).1).lt b hb).2 hg.size⟩
theorem asks_half {C : Cx} {S : St} {K : St → Prop} {d : Option Nat} {L : List Kn} (L' : List Kn) {g len cap : Nat} {ws : List Int} (hP : C.P = Tryz.prog) (hC : C.fr = none) (hT : S.T = kX C.w0.heap.size L) (hm : .o (.slice (some ⟨g, 0, none⟩) len cap) ws ∈ L) (hlen : len ≤ 1000000)
  (hL : ∀ k ∈ L', k = .o (.slice (some ⟨g, 0, none⟩) (wl (VL ws / 2)).length cap) (wl (VL ws / 2)) ∨ (k ∈ L ∧ g ∉ k.bs))
  (hk : K (St.put ⟨S.n, S.E, S.H, kX C.w0.heap.size L'⟩ d (.v (.slice (some ⟨g, 0, none⟩) (wl (VL ws / 2)).length cap)))) : asks C 185 [.slice (some ⟨g, 0, none⟩) len cap] d K S := by
 refine asks_kn (ι := Unit) (L := L) (gs := [g]) (fun _ => .slice (some ⟨g, 0, none⟩) (wl (VL ws / 2)).length cap) (fun _ => L') (by rw [hP]; exact en_r02_half) hT (fun b hb => by rw [List.mem_singleton.1 hb, mv_none hC, hT]; exact kX_bs.2 ⟨_, hm, List.mem_singleton.2 rfl⟩) (fun W hok b hb => by rw [List.mem_singleton.1 hb]; exact (Kn.ok.lt (k := .o (.slice (some ⟨g, 0, none⟩) len cap) ws) (hok _ hm) g (List.mem_singleton.2 rfl)).1) (fun W hW hok => ?_) fun _ => hk
 rw [hP]
 have ho : OwnU W C.w0.heap.size (.slice (some ⟨g, 0, none⟩) len cap) ws := hok _ hm
 refine (rhalf_any hlen ho).mono fun e w' ⟨h1, h2, h3⟩ => ⟨(), h1, h3, fun k hk => ?_⟩
 rcases hL k hk with rfl | ⟨hk, hg⟩
 ·exact .inr ⟨h2, fun b hb => .inl (by rw [hT]; exact kX_bs.2 ⟨_, hm, hb⟩)⟩
 ·exact .inl ⟨hk, fun b hb h => hg (by rw [← List.mem_singleton.1 h]; exact hb)⟩
theorem pw4b {z : Int} (h : A4 z) : (wl z).length ≤ 4 := (wl_len_lt h.1 4).2 (by rw [pw4]; exact h.2)
theorem SlU.nil (W : World) : SlU W (.slice none 0 0) [] := ⟨none, 0, 0, rfl, rfl, Nat.le_refl _, by decide, Ws.nil, fun h => by omega⟩
theorem SlF.nil (W : World) (n : Nat) : SlF W n (.slice none 0 0) [] := ⟨SlU.nil W, fun b off e => by cases e⟩
theorem wl_one {y : Int} (h : 0 ≤ y) (hl : (wl y).length = 1) : wl y = [y] ∧ U64 y := by
 have hp : 0 < y := by
  rcases Int.lt_or_eq_of_le h with h | h
  ·exact h
  ·subst h; rw [wl_nil (Int.le_refl _)] at hl; cases hl
 have hlt := (wl_len_lt h 1).1 (by omega)
 have h1 : y < 18446744073709551616 := hlt
 rw [wl_cons hp, wl_nil (by omega), Int.emod_eq_of_lt h h1]
 exact ⟨rfl, h, by omega⟩
def DmR (n : Nat) (x y : Int) (v : Value) (X : Ext) : Prop := ∃ u1 u2, v = .tuple #[u1, u2] ∧ ∀ W, X.ok W → SlF W n u1 (wl (x / y)) ∧ SlF W n u2 (wl (x % y))
def dm1F (w : World) (a b : Option Addr) (lx cx' ly cy' g cap : Nat) (x : Nat × List Int × Int) : St := ⟨0, [(0, .v (.slice a lx cx')), (1, .v (.slice b ly cy')), (6, .v (.slice (some ⟨g, 0, none⟩) lx cap)), (7, .v (.int .u64 x.2.2)), (8, .v (.int .i64 ((x.1 : Int) - 1)))], [], kX w.heap.size [.o (.slice (some ⟨g, 0, none⟩) lx cap) x.2.1]⟩
set_option maxRecDepth 100000 in
theorem rdivmod_one {a b : Option Addr} {cx' cy' : Nat} {x y : Int} {w : World} (hx : A4 x) (hy : 0 < y) (hly : (wl y).length = 1) (h : SlU w (.slice a (wl x).length cx') (wl x)) (h' : SlU w (.slice b (wl y).length cy') (wl y)) :
  Calls Tryz.prog 157 #[.slice a (wl x).length cx', .slice b (wl y).length cy'] w fun e w' => ∃ v Y, e = .returned v ∧ DmR w.heap.size x y v Y ∧ Y.ok w' ∧ Below w.heap.size w w' ∧ ∀ b ∈ Y.bs, w.heap.size ≤ b ∧ b < w'.heap.size := by
 refine enterX Tryz.func157 r02_divmod.ok (args := [.slice a (wl x).length cx', .slice b (wl y).length cy']) (R := DmR w.heap.size x y) (by simp) ?_
 obtain ⟨e1, hu⟩ := wl_one (Int.le_of_lt hy) hly
 have hb : ∃ b' off, b = some ⟨b', off, none⟩ := by
  obtain ⟨a', c', e, hs⟩ := h'.shp
  cases e
  exact hs.some (by omega)
 obtain ⟨b', off', rfl⟩ := hb
 rw [e1] at h' ⊢
 have h'1 : SlU w (.slice (some ⟨b', off', none⟩) 1 cy') [y] := h'
 have hl4 := pw4b hx
 have hst := d1_start (wl x) hy
 have hwx := wl_words x
 have hvx := VL_wl hx.1
 obtain ⟨lx, hlx⟩ : ∃ lx, lx = (wl x).length := ⟨_, rfl⟩
 rw [← hlx] at h hst hl4 ⊢
 have c0 : ((1 : Nat) : Int) == 1 := rfl
 simp (disch := omega) only [sxE, r02_divmod.E, Nat.reduceAdd, Nat.reduceEqDiff, Nat.reduceMul, Nat.reduceSub, Int.reduceAdd, Int.reduceSub, Int.reduceMul, Int.reduceNeg, Int.reduceLT, Int.reduceLE, Int.reduceEq, Int.reduceToNat, ↓reduceIte, Int.reducePow, Nat.reduceLeDiff, Nat.reduceLT, ne_eq, eq_self, List.length_cons, List.length_nil]
 refine genA_o (L := []) (ws := List.replicate lx 0) (kX_nil _) (fun W hW _ => gen_mk (by omega) W) fun g cap' _ => ?_
 rw [List.length_replicate]
 simp (disch := omega) only [sxE, r02_divmod.E, Nat.reduceAdd, Nat.reduceEqDiff, Nat.reduceMul, Nat.reduceSub, Int.reduceAdd, Int.reduceSub, Int.reduceMul, Int.reduceNeg, Int.reduceLT, Int.reduceLE, Int.reduceEq, Int.reduceToNat, ↓reduceIte, Int.reducePow, Nat.reduceLeDiff, Nat.reduceLT, ne_eq, eq_self, List.length_cons, List.length_nil, Int.ofNat_one, beq_self_eq_true]
 rw [r02_divmod.p20_l]
 refine LX_inv (dm1F w a (some ⟨b', off', none⟩) lx cx' 1 cy' g cap') (fun q => q.1 ≤ lx ∧ D1I (wl x) q.2.1 y q.2.2 q.1) (fun q => q.1) ?round (lx, List.replicate lx 0, 0) ⟨Nat.le_refl _, hst⟩ ?start
 case start => simp (disch := omega) only [sxE, r02_divmod.E, Nat.reduceAdd, Nat.reduceEqDiff, Nat.reduceMul, Nat.reduceSub, Int.reduceAdd, Int.reduceSub, Int.reduceMul, Int.reduceNeg, Int.reduceLT, Int.reduceLE, Int.reduceEq, Int.reduceToNat, ↓reduceIte, Int.reducePow, Nat.reduceLeDiff, Nat.reduceLT, ne_eq, eq_self, List.length_cons, List.length_nil, dm1F]
 case round =>
  rintro ⟨i, qs, r⟩ ⟨hi, hI⟩
  dsimp only at hi hI ⊢
  have hql := hI.len
  rw [← hlx] at hql
  have hru : U64 r := ⟨hI.r0, by have := hI.rl; have := hu.2; omega⟩
  unfold dm1F
  rcases i with _ | m
  ·obtain ⟨d1, d2⟩ := d1_end hI hy
   rw [hvx] at d1 d2
   have hr1 : VL [r] = r := by show r + 18446744073709551616 * 0 = r; omega
   have c1 : ¬ (0 : Int) ≤ ((0 : Nat) : Int) - 1 := by omega
   simp (disch := omega) only [sxE, r02_divmod.E, Nat.reduceAdd, Nat.reduceEqDiff, Nat.reduceMul, Nat.reduceSub, Int.reduceAdd, Int.reduceSub, Int.reduceMul, Int.reduceNeg, Int.reduceLT, Int.reduceLE, Int.reduceEq, Int.reduceToNat, ↓reduceIte, Int.reducePow, Nat.reduceLeDiff, Nat.reduceLT, ne_eq, eq_self, List.length_cons, List.length_nil, c1]
   refine asks_trim (L := [.o (.slice (some ⟨g, 0, none⟩) lx cap') qs]) [.o (.slice (some ⟨g, 0, none⟩) (wl (VL qs)).length cap') (wl (VL qs))] rfl rfl (List.mem_singleton.2 rfl) (fun k hk => .inl (List.mem_singleton.1 hk)) ?_
   simp (disch := omega) only [sxE, r02_divmod.E, Nat.reduceAdd, Nat.reduceEqDiff, Nat.reduceMul, Nat.reduceSub, Int.reduceAdd, Int.reduceSub, Int.reduceMul, Int.reduceNeg, Int.reduceLT, Int.reduceLE, Int.reduceEq, Int.reduceToNat, ↓reduceIte, Int.reducePow, Nat.reduceLeDiff, Nat.reduceLT, ne_eq, eq_self, List.length_cons, List.length_nil]
   refine genA_o (L := [.o (.slice (some ⟨g, 0, none⟩) (wl (VL qs)).length cap') (wl (VL qs))]) (ws := [r]) rfl (fun W hW _ => gen_one hru W) fun g2 cap2 _ => ?_
   simp (disch := omega) only [sxE, r02_divmod.E, Nat.reduceAdd, Nat.reduceEqDiff, Nat.reduceMul, Nat.reduceSub, Int.reduceAdd, Int.reduceSub, Int.reduceMul, Int.reduceNeg, Int.reduceLT, Int.reduceLE, Int.reduceEq, Int.reduceToNat, ↓reduceIte, Int.reducePow, Nat.reduceLeDiff, Nat.reduceLT, ne_eq, eq_self, List.length_cons, List.length_nil]
   refine asks_trim (L := [.o (.slice (some ⟨g2, 0, none⟩) 1 cap2) [r], .o (.slice (some ⟨g, 0, none⟩) (wl (VL qs)).length cap') (wl (VL qs))]) [.o (.slice (some ⟨g2, 0, none⟩) (wl (VL [r])).length cap2) (wl (VL [r])), .o (.slice (some ⟨g, 0, none⟩) (wl (VL qs)).length cap') (wl (VL qs))] rfl rfl List.mem_cons_self (fun k hk => ?_) ?_
   ·rcases List.mem_cons.1 hk with rfl | hk
    ·exact .inl rfl
    ·exact .inr (List.mem_cons_of_mem _ hk)
   simp (disch := omega) only [sxE, r02_divmod.E, Nat.reduceAdd, Nat.reduceEqDiff, Nat.reduceMul, Nat.reduceSub, Int.reduceAdd, Int.reduceSub, Int.reduceMul, Int.reduceNeg, Int.reduceLT, Int.reduceLE, Int.reduceEq, Int.reduceToNat, ↓reduceIte, Int.reducePow, Nat.reduceLeDiff, Nat.reduceLT, ne_eq, eq_self, List.length_cons, List.length_nil]
   refine ⟨_, _, rfl, fun W hW => ?_⟩
   have h1 := hW _ List.mem_cons_self
   have h2 := hW _ (List.mem_cons_of_mem _ List.mem_cons_self)
   rw [hr1, d2] at h1
   rw [d1] at h2
   rw [hr1, d1, d2]
   exact ⟨⟨OwnU.sl h2, OwnU.fr h2 (Nat.le_refl _)⟩, ⟨OwnU.sl h1, OwnU.fr h1 (Nat.le_refl _)⟩⟩
  ·have hm : m < lx := hi
   obtain ⟨s1, s2⟩ := d1_step hI hwx hu (by omega)
   obtain ⟨b2, off2, rfl⟩ : ∃ b off, a = some ⟨b, off, none⟩ := by
    obtain ⟨a', c', e, hs⟩ := h.shp
    cases e
    exact hs.some (by omega)
   have c1 : ((m + 1 : Nat) : Int) - 1 = (m : Int) := by omega
   have c2 : (0 : Int) ≤ (m : Int) ∧ (m : Int) < (lx : Int) := by omega
   have y0 : ([y] : List Int).getD 0 0 = y := rfl
   have hwm := hwx.getD m
   have hrl := hI.rl
   repeat' (first | simp (disch := omega) only [sxE, r02_divmod.E, Nat.reduceAdd, Nat.reduceEqDiff, Nat.reduceMul, Nat.reduceSub, Int.reduceAdd, Int.reduceSub, Int.reduceMul, Int.reduceNeg, Int.reduceLT, Int.reduceLE, Int.reduceEq, Int.reduceToNat, ↓reduceIte, Int.reducePow, Nat.reduceLeDiff, Nat.reduceLT, ne_eq, eq_self, List.length_cons, List.length_nil, Nat.mul_one, Nat.zero_add, c1, c2, y0] | (with_reducible refine Sx.call_at (f := 182) (fun W hW => g_div64 hru hwm hu hrl W) ?_) | (refine ldP_w m rfl h (by omega) ?_) | (refine ldP_w 0 rfl h'1 Nat.zero_lt_one ?_) | (refine stP_o [.o (.slice (some ⟨g, 0, none⟩) lx cap') (qs.set m ((r * 18446744073709551616 + (wl x).getD m 0) / y))] m rfl (List.mem_singleton.2 rfl) (by omega) s1 (fun k1 hk1 => .inl (List.mem_singleton.1 hk1)) ?_) | (with_reducible refine cregF ?_))
   exact ⟨(m, _, _), ⟨Nat.le_of_lt hm, s2⟩, Nat.lt_succ_self _, ⟨rfl, rfl⟩, .inl rfl⟩
structure DmS where
 k : Nat
 qs : List Int
 a : Option Addr
 c : Nat
 R : Int
 D : Int
def dmL (n g1 lx c1 g2 c2 : Nat) (x : DmS) : List Kn := [.o (.slice (some ⟨g1, 0, none⟩) lx c1) x.qs, .r (.slice x.a (wl x.R).length x.c) (wl x.R), .o (.slice (some ⟨g2, 0, none⟩) (wl x.D).length c2) (wl x.D)]
def dm2F (w : World) (g1 lx c1 g2 c2 : Nat) (x : DmS) : St := ⟨0, [(6, .v (.slice (some ⟨g1, 0, none⟩) lx c1)), (9, .v (.slice x.a (wl x.R).length x.c)), (11, .v (.slice (some ⟨g2, 0, none⟩) (wl x.D).length c2)), (12, .v (.int .i64 ((x.k : Int) - 1)))], [], kX w.heap.size (dmL w.heap.size g1 lx c1 g2 c2 x)⟩
structure DmI (x y : Int) (lx g1 g2 : Nat) (s : DmS) : Prop where
 dv : DvI x y s.R (VL s.qs) s.k
 dd : 0 < s.k → s.D = y * 2 ^ (s.k - 1)
 aD : A4 s.D
 aR : A4 s.R
 ql : s.qs.length = lx
 qw : Ws s.qs
 kl : s.k ≤ 64 * lx
 sh : Shp s.a (wl s.R).length s.c
 n1 : ∀ b ∈ rbs (.slice s.a (wl s.R).length s.c), b ≠ g1 ∧ b ≠ g2
theorem dm_compare {n g1 lx c1 g2 c2 : Nat} {s : DmS} {W : World} (hR : A4 s.R) (hD : A4 s.D) (hok : ∀ k ∈ dmL n g1 lx c1 g2 c2 s, k.ok n W) : Gives Tryz.prog 113 [.slice s.a (wl s.R).length s.c, .slice (some ⟨g2, 0, none⟩) (wl s.D).length c2] W (· = .int .i64 (cm s.R s.D)) := by
 have h1 : SlF W n _ _ := hok (.r (.slice s.a (wl s.R).length s.c) (wl s.R)) (List.mem_cons_of_mem _ List.mem_cons_self)
 have h2 : OwnU W n (.slice (some ⟨g2, 0, none⟩) (wl s.D).length c2) (wl s.D) := hok (.o (.slice (some ⟨g2, 0, none⟩) (wl s.D).length c2) (wl s.D)) (List.mem_cons_of_mem _ (List.mem_cons_of_mem _ List.mem_cons_self))
 exact gives_known en_r02_compare ((rcompare_any _ _ _ _ _ _ _ _ hR.1 hD.1 W h1.1 h2.sl).mono fun e w' ⟨he, d, hd⟩ => ⟨he, by subst hd; exact below_drewN (Below.refl _ _)⟩)
theorem dm_sub {n g1 lx c1 g2 c2 : Nat} {s : DmS} {W : World} (hR : A4 s.R) (hD : A4 s.D) (hle : s.D ≤ s.R) (hok : ∀ k ∈ dmL n g1 lx c1 g2 c2 s, k.ok n W) : Calls Tryz.prog 114 #[.slice s.a (wl s.R).length s.c, .slice (some ⟨g2, 0, none⟩) (wl s.D).length c2] W fun e w' => ∃ v, e = .returned v ∧ SlF w' W.heap.size v (wl (s.R - s.D)) ∧ Below W.heap.size W w' := by
 have h1 : SlF W n _ _ := hok (.r (.slice s.a (wl s.R).length s.c) (wl s.R)) (List.mem_cons_of_mem _ List.mem_cons_self)
 have h2 : OwnU W n (.slice (some ⟨g2, 0, none⟩) (wl s.D).length c2) (wl s.D) := hok (.o (.slice (some ⟨g2, 0, none⟩) (wl s.D).length c2) (wl s.D)) (List.mem_cons_of_mem _ (List.mem_cons_of_mem _ List.mem_cons_self))
 exact rsub_any _ _ _ _ _ _ _ _ hD.1 hle (by have := pw4b hR; omega) W h1.1 h2.sl
set_option maxRecDepth 100000 in
theorem rdivmod_loop {x y : Int} {w : World} (hx : A4 x) (hy : 0 < y) {g1 lx c1 g2 c2 : Nat} (hg : g1 ≠ g2) {s : DmS} (hI : DmI x y lx g1 g2 s) {S0 : St} (hS : subS (cx Tryz.prog w 89) S0 (dm2F w g1 lx c1 g2 c2 s)) :
  r02_divmod.p2 (cx Tryz.prog w 89) (finT [(4, none), (5, none)] (DmR w.heap.size x y)) S0 := by
 rw [r02_divmod.p2_l]
 refine LX_inv (dm2F w g1 lx c1 g2 c2) (DmI x y lx g1 g2) (fun s => s.k) ?round s hI hS
 case round =>
  clear hI hS
  rintro ⟨k, qs, a, c, R, D⟩ hI
  obtain ⟨dv, dd, aD, aR, ql, qw, kl, sh, n1⟩ := hI
  dsimp only at dv dd aD aR ql qw kl sh n1 ⊢
  unfold dm2F
  rcases k with _ | k
  ·obtain ⟨e1, e2⟩ := dv_end dv hy
   have c1' : ¬ (0 : Int) ≤ ((0 : Nat) : Int) - 1 := by omega
   simp (disch := omega) only [sxE, r02_divmod.E, Nat.reduceAdd, Nat.reduceEqDiff, Nat.reduceMul, Nat.reduceSub, Int.reduceAdd, Int.reduceSub, Int.reduceMul, Int.reduceNeg, Int.reduceLT, Int.reduceLE, Int.reduceEq, Int.reduceToNat, ↓reduceIte, Int.reducePow, Nat.reduceLeDiff, Nat.reduceLT, ne_eq, eq_self, List.length_cons, List.length_nil, c1']
   unfold dmL
   dsimp only
   refine asks_trim [.o (.slice (some ⟨g1, 0, none⟩) (wl (VL qs)).length c1) (wl (VL qs)), .r (.slice a (wl R).length c) (wl R)] rfl rfl List.mem_cons_self (fun k hk => ?_) ?_
   ·rcases List.mem_cons.1 hk with rfl | hk
    ·exact .inl rfl
    ·exact .inr (List.mem_cons_of_mem _ (by rw [List.mem_singleton.1 hk]; exact List.mem_cons_self))
   simp (disch := omega) only [sxE, r02_divmod.E, Nat.reduceAdd, Nat.reduceEqDiff, Nat.reduceMul, Nat.reduceSub, Int.reduceAdd, Int.reduceSub, Int.reduceMul, Int.reduceNeg, Int.reduceLT, Int.reduceLE, Int.reduceEq, Int.reduceToNat, ↓reduceIte, Int.reducePow, Nat.reduceLeDiff, Nat.reduceLT, ne_eq, eq_self, List.length_cons, List.length_nil]
   refine ⟨_, _, rfl, fun W hW => ?_⟩
   have h1 := hW _ List.mem_cons_self
   have h2 := hW _ (List.mem_cons_of_mem _ List.mem_cons_self)
   rw [← e1, ← e2]
   exact ⟨⟨OwnU.sl h1, OwnU.fr h1 (Nat.le_refl _)⟩, h2⟩
  ·have hD' : D = y * 2 ^ k := dd (Nat.succ_pos _)
   have hk : ((k + 1 : Nat) : Int) - 1 = (k : Int) := by omega
   have hk2 : k < 256 := pow256 hy (hD' ▸ aD)
   obtain ⟨st1, st2⟩ := dv_step dv hy
   have aH : A4 (D / 2) := ⟨by have := aD.1; omega, by have := aD.1; have := aD.2; omega⟩
   have hH : 0 < k → D / 2 = y * 2 ^ (k - 1) := fun h => by
    obtain ⟨m, rfl⟩ : ∃ m, k = m + 1 := ⟨k - 1, by omega⟩
    rw [hD', Int.pow_succ, ← Int.mul_assoc, Nat.add_sub_cancel]; omega
   rw [← hD'] at st1 st2
   have hcm := cm_ge R D
   have hvD : VL (wl D) = D := VL_wl aD.1
   have hl4 := pw4b aD
   by_cases hle : D ≤ R
   ·have hI2 := st1 hle
    have hc0 : 0 ≤ cm R D := hcm.2 hle
    have aR2 : A4 (R - D) := ⟨by omega, by have := aR.2; have := aD.1; omega⟩
    obtain ⟨w', j, hj, e⟩ : ∃ w' j : Nat, j < 64 ∧ k = 64 * w' + j := ⟨k / 64, k % 64, by omega, by omega⟩
    have hw' : w' < lx := by omega
    have hm : (k : Int) % 64 = (j : Nat) := by omega
    have hq : (k : Int) / 64 = (w' : Nat) := by omega
    have hwb : (0 : Int) ≤ (w' : Int) ∧ (w' : Int) < (lx : Int) := by omega
    obtain ⟨b1, b2, b3⟩ := q_bit qw e hj (by omega) dv.dv
    have p0 : (0 : Int) < 2 ^ j := Int.pow_pos (by decide)
    have p1 := pow63 hj
    have hp2 : IntKind.u64.wrap (2 ^ j) = 2 ^ j := s_wu _ (by omega) (by omega)
    repeat' (first | simp (disch := omega) only [sxE, r02_divmod.E, Nat.reduceAdd, Nat.reduceEqDiff, Nat.reduceMul, Nat.reduceSub, Int.reduceAdd, Int.reduceSub, Int.reduceMul, Int.reduceNeg, Int.reduceLT, Int.reduceLE, Int.reduceEq, Int.reduceToNat, ↓reduceIte, Int.reducePow, Nat.reduceLeDiff, Nat.reduceLT, ne_eq, eq_self, List.length_cons, List.length_nil, hk, hc0] | ((with_reducible apply asks_ext (f := 113)); (case h => exact fun W hW hok => dm_compare aR aD hok); (case' hk => skip)) | (with_reducible refine cregF ?_))
    refine asks_r (L := dmL w.heap.size g1 lx c1 g2 c2 ⟨k + 1, qs, a, c, R, D⟩) (ws := wl (R - D)) en_r02_sub rfl (fun W hW hok => dm_sub aR aD hle hok) fun a2 c2' hs2 hn2 => ?_
    have hne : ∀ b ∈ rbs (.slice a2 (wl (R - D)).length c2'), b ≠ g1 ∧ b ≠ g2 := fun b hb => by
     have := hn2 b hb
     refine ⟨fun e => this ?_, fun e => this ?_⟩
     ·rw [e]; exact kX_bs.2 ⟨_, List.mem_cons_self, List.mem_singleton.2 rfl⟩
     ·rw [e]; exact kX_bs.2 ⟨_, List.mem_cons_of_mem _ (List.mem_cons_of_mem _ List.mem_cons_self), List.mem_singleton.2 rfl⟩
    clear hn2
    unfold dmL
    dsimp only
    simp (disch := omega) only [sxE, r02_divmod.E, Nat.reduceAdd, Nat.reduceEqDiff, Nat.reduceMul, Nat.reduceSub, Int.reduceAdd, Int.reduceSub, Int.reduceMul, Int.reduceNeg, Int.reduceLT, Int.reduceLE, Int.reduceEq, Int.reduceToNat, ↓reduceIte, Int.reducePow, Nat.reduceLeDiff, Nat.reduceLT, ne_eq, eq_self, List.length_cons, List.length_nil, hq]
    repeat' (first | simp (disch := omega) only [sxE, r02_divmod.E, Nat.reduceAdd, Nat.reduceEqDiff, Nat.reduceMul, Nat.reduceSub, Int.reduceAdd, Int.reduceSub, Int.reduceMul, Int.reduceNeg, Int.reduceLT, Int.reduceLE, Int.reduceEq, Int.reduceToNat, ↓reduceIte, Int.reducePow, Nat.reduceLeDiff, Nat.reduceLT, ne_eq, eq_self, List.length_cons, List.length_nil, Nat.mul_one, Nat.zero_add, hq, hm, hwb, Int.one_mul, hp2, b1] | (refine ldP_o w' rfl (List.mem_cons_of_mem _ List.mem_cons_self) (by omega) ?_) | (refine stP_o [.o (.slice (some ⟨g1, 0, none⟩) lx c1) (qs.set w' (qs.getD w' 0 + 2 ^ j)), .r (.slice a2 (wl (R - D)).length c2') (wl (R - D)), .o (.slice (some ⟨g2, 0, none⟩) (wl D).length c2) (wl D)] w' rfl (List.mem_cons_of_mem _ List.mem_cons_self) (by omega) b2 (fun q1 hq1 => ?mem) ?_) | (with_reducible refine cregF ?_))
    case mem =>
     rcases List.mem_cons.1 hq1 with rfl | hq1
     ·exact .inl rfl
     ·rcases List.mem_cons.1 hq1 with rfl | hq1
      ·exact .inr ⟨List.mem_cons_self, fun h => (hne _ h).1 rfl⟩
      ·exact .inr ⟨by rw [List.mem_singleton.1 hq1]; exact List.mem_cons_of_mem _ (List.mem_cons_of_mem _ (List.mem_cons_of_mem _ List.mem_cons_self)), fun h => by rw [List.mem_singleton.1 hq1] at h; exact hg (List.mem_singleton.1 h)⟩
    refine asks_half (dmL w.heap.size g1 lx c1 g2 c2 ⟨k, qs.set w' (qs.getD w' 0 + 2 ^ j), a2, c2', R - D, D / 2⟩) rfl rfl rfl (List.mem_cons_of_mem _ (List.mem_cons_of_mem _ List.mem_cons_self)) (by omega) (fun q hq => ?_) ?_
    ·rw [hvD]
     rcases List.mem_cons.1 hq with rfl | hq
     ·exact .inr ⟨List.mem_cons_self, fun h => hg (List.mem_singleton.1 h).symm⟩
     ·rcases List.mem_cons.1 hq with rfl | hq
      ·exact .inr ⟨List.mem_cons_of_mem _ List.mem_cons_self, fun h => (hne _ h).2 rfl⟩
      ·exact .inl (List.mem_singleton.1 hq)
    rw [hvD]
    simp (disch := omega) only [sxE, r02_divmod.E, Nat.reduceAdd, Nat.reduceEqDiff, Nat.reduceMul, Nat.reduceSub, Int.reduceAdd, Int.reduceSub, Int.reduceMul, Int.reduceNeg, Int.reduceLT, Int.reduceLE, Int.reduceEq, Int.reduceToNat, ↓reduceIte, Int.reducePow, Nat.reduceLeDiff, Nat.reduceLT, ne_eq, eq_self, List.length_cons, List.length_nil, hk]
    exact ⟨⟨k, qs.set w' (qs.getD w' 0 + 2 ^ j), a2, c2', R - D, D / 2⟩, ⟨by dsimp only; rw [b3]; exact hI2, hH, aH, aR2, by dsimp only; rw [List.length_set]; exact ql, qw.set b2 _, by dsimp only; omega, hs2, hne⟩, Nat.lt_succ_self _, by repeat' (first | (with_reducible rfl) | (exact Or.inl rfl) | apply And.intro)⟩
   ·have hI2 := st2 hle
    have hc0 : ¬ 0 ≤ cm R D := fun h => hle (hcm.1 h)
    repeat' (first | simp (disch := omega) only [sxE, r02_divmod.E, Nat.reduceAdd, Nat.reduceEqDiff, Nat.reduceMul, Nat.reduceSub, Int.reduceAdd, Int.reduceSub, Int.reduceMul, Int.reduceNeg, Int.reduceLT, Int.reduceLE, Int.reduceEq, Int.reduceToNat, ↓reduceIte, Int.reducePow, Nat.reduceLeDiff, Nat.reduceLT, ne_eq, eq_self, List.length_cons, List.length_nil, hk, hc0] | ((with_reducible apply asks_ext (f := 113)); (case h => exact fun W hW hok => dm_compare aR aD hok); (case' hk => skip)) | (with_reducible refine cregF ?_))
    refine asks_half (L := dmL w.heap.size g1 lx c1 g2 c2 ⟨k + 1, qs, a, c, R, D⟩) (dmL w.heap.size g1 lx c1 g2 c2 ⟨k, qs, a, c, R, D / 2⟩) rfl rfl rfl (List.mem_cons_of_mem _ (List.mem_cons_of_mem _ List.mem_cons_self)) (by omega) (fun q hq => ?_) ?_
    ·rw [hvD]
     rcases List.mem_cons.1 hq with rfl | hq
     ·exact .inr ⟨List.mem_cons_self, fun h => hg (List.mem_singleton.1 h).symm⟩
     ·rcases List.mem_cons.1 hq with rfl | hq
      ·exact .inr ⟨List.mem_cons_of_mem _ List.mem_cons_self, fun h => (n1 _ h).2 rfl⟩
      ·exact .inl (List.mem_singleton.1 hq)
    rw [hvD]
    simp (disch := omega) only [sxE, r02_divmod.E, Nat.reduceAdd, Nat.reduceEqDiff, Nat.reduceMul, Nat.reduceSub, Int.reduceAdd, Int.reduceSub, Int.reduceMul, Int.reduceNeg, Int.reduceLT, Int.reduceLE, Int.reduceEq, Int.reduceToNat, ↓reduceIte, Int.reducePow, Nat.reduceLeDiff, Nat.reduceLT, ne_eq, eq_self, List.length_cons, List.length_nil, hk]
    exact ⟨⟨k, qs, a, c, R, D / 2⟩, ⟨hI2, hH, aH, aR, ql, qw, by dsimp only; omega, sh, n1⟩, Nat.lt_succ_self _, by repeat' (first | (with_reducible rfl) | (exact Or.inl rfl) | apply And.intro)⟩
set_option maxRecDepth 100000 in
theorem rdivmod_more {a b : Option Addr} {cx' cy' : Nat} {x y : Int} {w : World} (hx : A4 x) (hay : A4 y) (hy : 0 < y) (hly : (wl y).length ≠ 1) (h : SlU w (.slice a (wl x).length cx') (wl x)) (h' : SlU w (.slice b (wl y).length cy') (wl y)) :
  Calls Tryz.prog 157 #[.slice a (wl x).length cx', .slice b (wl y).length cy'] w fun e w' => ∃ v Y, e = .returned v ∧ DmR w.heap.size x y v Y ∧ Y.ok w' ∧ Below w.heap.size w w' ∧ ∀ b ∈ Y.bs, w.heap.size ≤ b ∧ b < w'.heap.size := by
 refine enterX Tryz.func157 r02_divmod.ok (args := [.slice a (wl x).length cx', .slice b (wl y).length cy']) (R := DmR w.heap.size x y) (by simp) ?_
 have hl4 := pw4b hx
 have hl4' := pw4b hay
 have hwx := wl_words x
 have hvx := VL_wl hx.1
 have hvy := VL_wl (Int.le_of_lt hy)
 have b1 := bl_256 hx
 have b2 := bl_256 hay
 have hck : (((wl y).length : Int) == 1) = false := beq_eq_false_iff_ne.2 (by omega)
 simp (disch := omega) only [sxE, r02_divmod.E, Nat.reduceAdd, Nat.reduceEqDiff, Nat.reduceMul, Nat.reduceSub, Int.reduceAdd, Int.reduceSub, Int.reduceMul, Int.reduceNeg, Int.reduceLT, Int.reduceLE, Int.reduceEq, Int.reduceToNat, ↓reduceIte, Int.reducePow, Nat.reduceLeDiff, Nat.reduceLT, ne_eq, eq_self, List.length_cons, List.length_nil]
 refine genA_o (L := []) (ws := List.replicate (wl x).length 0) (kX_nil _) (fun W hW _ => gen_mk (by omega) W) fun g1 c1 _ => ?_
 rw [List.length_replicate]
 simp (disch := omega) only [sxE, r02_divmod.E, Nat.reduceAdd, Nat.reduceEqDiff, Nat.reduceMul, Nat.reduceSub, Int.reduceAdd, Int.reduceSub, Int.reduceMul, Int.reduceNeg, Int.reduceLT, Int.reduceLE, Int.reduceEq, Int.reduceToNat, ↓reduceIte, Int.reducePow, Nat.reduceLeDiff, Nat.reduceLT, ne_eq, eq_self, List.length_cons, List.length_nil, hck]
 refine genA_o (L := [.o (.slice (some ⟨g1, 0, none⟩) (wl x).length c1) (List.replicate (wl x).length 0)]) (ws := []) rfl (fun W hW _ => gen_none W) fun g2 c2 hn2 => ?_
 have hg12 : g1 ≠ g2 := fun e => hn2 (by rw [← e]; exact kX_bs.2 ⟨_, List.mem_cons_self, List.mem_singleton.2 rfl⟩)
 clear hn2
 simp (disch := omega) only [sxE, r02_divmod.E, Nat.reduceAdd, Nat.reduceEqDiff, Nat.reduceMul, Nat.reduceSub, Int.reduceAdd, Int.reduceSub, Int.reduceMul, Int.reduceNeg, Int.reduceLT, Int.reduceLE, Int.reduceEq, Int.reduceToNat, ↓reduceIte, Int.reducePow, Nat.reduceLeDiff, Nat.reduceLT, ne_eq, eq_self, List.length_cons, List.length_nil]
 refine genA_app (L := [.o (.slice (some ⟨g2, 0, none⟩) 0 c2) [], .o (.slice (some ⟨g1, 0, none⟩) (wl x).length c1) (List.replicate (wl x).length 0)]) (L0 := [.o (.slice (some ⟨g1, 0, none⟩) (wl x).length c1) (List.replicate (wl x).length 0)]) (ms := wl x) rfl ⟨_, Tryz.underlying162⟩ rfl List.mem_cons_self rfl (fun k hk => ?_) (fun W hW _ => h.below hW) (by omega) fun a2 c3 hs3 hn3 => ?_
 ·rw [List.mem_singleton.1 hk]
  exact ⟨List.mem_cons_of_mem _ List.mem_cons_self, fun h => hg12 (List.mem_singleton.1 h).symm⟩
 have hn4 : ∀ b ∈ rbs (.slice a2 (wl x).length c3), b ≠ g1 := fun b hb e => by
  rcases hn3 b hb with h | h
  ·exact hg12 (e.symm.trans h)
  ·exact h (by rw [e]; exact kX_bs.2 ⟨_, List.mem_cons_of_mem _ List.mem_cons_self, List.mem_singleton.2 rfl⟩)
 clear hn3
 simp (disch := omega) only [sxE, r02_divmod.E, Nat.reduceAdd, Nat.reduceEqDiff, Nat.reduceMul, Nat.reduceSub, Int.reduceAdd, Int.reduceSub, Int.reduceMul, Int.reduceNeg, Int.reduceLT, Int.reduceLE, Int.reduceEq, Int.reduceToNat, ↓reduceIte, Int.reducePow, Nat.reduceLeDiff, Nat.reduceLT, ne_eq, eq_self, List.length_cons, List.length_nil]
 refine asks_trim_r [.r (.slice a2 (wl x).length c3) (wl x), .o (.slice (some ⟨g1, 0, none⟩) (wl x).length c1) (List.replicate (wl x).length 0)] rfl rfl List.mem_cons_self (fun k hk => ?_) ?_
 ·exact .inr hk
 rw [hvx]
 have size1 : ∀ W, (∀ k ∈ [Kn.r (.slice a2 (wl x).length c3) (wl x), .o (.slice (some ⟨g1, 0, none⟩) (wl x).length c1) (List.replicate (wl x).length 0)], k.ok w.heap.size W) → Gives Tryz.prog 183 [.slice a2 (wl x).length c3] W (· = .int .i64 (bl x)) := fun W hok =>
  gives_known en_r02_size (rsize_any hx.1 (by omega) (hok (.r (.slice a2 (wl x).length c3) (wl x)) List.mem_cons_self).1)
 have size2 : ∀ W, Below w.heap.size w W → Gives Tryz.prog 183 [.slice b (wl y).length cy'] W (· = .int .i64 (bl y)) := fun W hW =>
  gives_known en_r02_size (rsize_any (Int.le_of_lt hy) (by omega) (h'.below hW))
 repeat' (first | simp (disch := omega) only [sxE, r02_divmod.E, Nat.reduceAdd, Nat.reduceEqDiff, Nat.reduceMul, Nat.reduceSub, Int.reduceAdd, Int.reduceSub, Int.reduceMul, Int.reduceNeg, Int.reduceLT, Int.reduceLE, Int.reduceEq, Int.reduceToNat, ↓reduceIte, Int.reducePow, Nat.reduceLeDiff, Nat.reduceLT, ne_eq, eq_self, List.length_cons, List.length_nil] | ((with_reducible apply asks_ext (f := 183)); (case h => first | exact fun W hW hok => size1 W hok | exact fun W hW hok => size2 W hW); (case' hk => skip)) | (with_reducible refine cregF ?_))
 clear size1 size2
 by_cases hlen : bl x < bl y
 ·obtain ⟨e1, e2⟩ := dv_small hx.1 hy hlen
  repeat' (first | simp (disch := omega) only [sxE, r02_divmod.E, Nat.reduceAdd, Nat.reduceEqDiff, Nat.reduceMul, Nat.reduceSub, Int.reduceAdd, Int.reduceSub, Int.reduceMul, Int.reduceNeg, Int.reduceLT, Int.reduceLE, Int.reduceEq, Int.reduceToNat, ↓reduceIte, Int.reducePow, Nat.reduceLeDiff, Nat.reduceLT, ne_eq, eq_self, List.length_cons, List.length_nil] | (with_reducible refine cregF ?_))
  refine ⟨_, _, rfl, fun W hW => ?_⟩
  rw [e1, e2, wl_nil (Int.le_refl _)]
  exact ⟨SlF.nil W _, hW _ List.mem_cons_self⟩
 ·have hst := dv_start hx.1 hy (by omega)
  have hfit := dv_fit (m := 0) hx hay hy (by omega)
  have hpos := bl_pos hy
  have hbl : bl x ≤ 64 * (wl x).length := by
   rcases Nat.lt_or_ge (64 * (wl x).length) (bl x) with hc | hc
   ·exfalso
    have hx0 : 0 < x := by
     rcases Int.lt_or_eq_of_le hx.1 with hh | hh
     ·exact hh
     ·subst hh; rw [bl_zero] at hc; omega
    have h1 := bl_le hx0
    have h2 := (wl_len_lt hx.1 (wl x).length).1 (Nat.le_refl _)
    rw [pw_two] at h2
    have h3 : (2 : Nat) ^ (64 * (wl x).length) ≤ 2 ^ (bl x - 1) := Nat.pow_le_pow_right (by decide) (by omega)
    have h4 := Int.ofNat_le.2 h3
    rw [Int.natCast_pow, Int.natCast_pow] at h4
    have h5 : ((2 : Nat) : Int) = 2 := rfl
    rw [h5] at h4
    omega
   ·exact hc
  have hsub : (bl x : Int) - (bl y : Int) = ((bl x - bl y : Nat) : Int) := by omega
  have hnn : ¬ (((bl x - bl y : Nat) : Int) < 0) := by omega
  generalize hN : bl x - bl y = N at *
  rw [hsub]
  simp (disch := omega) only [sxE, r02_divmod.E, Nat.reduceAdd, Nat.reduceEqDiff, Nat.reduceMul, Nat.reduceSub, Int.reduceAdd, Int.reduceSub, Int.reduceMul, Int.reduceNeg, Int.reduceLT, Int.reduceLE, Int.reduceEq, Int.reduceToNat, ↓reduceIte, Int.reducePow, Nat.reduceLeDiff, Nat.reduceLT, ne_eq, eq_self, List.length_cons, List.length_nil, hnn]
  have hup : ∀ W, Below w.heap.size w W → Calls Tryz.prog 184 #[.slice b (wl y).length cy', .int .i64 (N : Int)] W fun e w' => ∃ g cap', e = .returned (.slice (some ⟨g, 0, none⟩) (wl (y * 2 ^ N)).length cap') ∧ OwnU w' W.heap.size (.slice (some ⟨g, 0, none⟩) (wl (y * 2 ^ N)).length cap') (wl (y * 2 ^ N)) ∧ Below W.heap.size W w' := fun W hW => by
   have := rup_any (n := N) (k := N / 64) (s := N % 64) (by omega) (by omega) (by omega) (by omega) (h'.below hW)
   rw [hvy] at this
   exact this
  refine asks_o (L := [.r (.slice a2 (wl x).length c3) (wl x), .o (.slice (some ⟨g1, 0, none⟩) (wl x).length c1) (List.replicate (wl x).length 0)]) (ws := wl (y * 2 ^ N)) en_r02_up rfl (fun W hW _ => hup W hW) fun g3 c4 hn5 => ?_
  have hg13 : g1 ≠ g3 := fun e => hn5 (by rw [← e]; exact kX_bs.2 ⟨_, List.mem_cons_of_mem _ List.mem_cons_self, List.mem_singleton.2 rfl⟩)
  have hr3 : ∀ b ∈ rbs (.slice a2 (wl x).length c3), b ≠ g3 := fun b hb e => hn5 (by rw [← e]; exact kX_bs.2 ⟨_, List.mem_cons_self, hb⟩)
  clear hn5 hup
  simp (disch := omega) only [sxE, r02_divmod.E, Nat.reduceAdd, Nat.reduceEqDiff, Nat.reduceMul, Nat.reduceSub, Int.reduceAdd, Int.reduceSub, Int.reduceMul, Int.reduceNeg, Int.reduceLT, Int.reduceLE, Int.reduceEq, Int.reduceToNat, ↓reduceIte, Int.reducePow, Nat.reduceLeDiff, Nat.reduceLT, ne_eq, eq_self, List.length_cons, List.length_nil]
  refine rdivmod_loop hx hy (lx := (wl x).length) (c1 := c1) (g2 := g3) (c2 := c4) hg13 (s := ⟨N + 1, List.replicate (wl x).length 0, a2, c3, x, y * 2 ^ N⟩) ⟨by dsimp only; rw [VL_zeros]; exact hst, fun _ => rfl, hfit, hx, by simp, Ws.zeros _, by dsimp only; omega, hs3, fun b hb => ⟨hn4 b hb, hr3 b hb⟩⟩ ?_
  have hk1 : ((N + 1 : Nat) : Int) - 1 = (N : Int) := by omega
  unfold dm2F
  dsimp only
  simp (disch := omega) only [sxE, r02_divmod.E, Nat.reduceAdd, Nat.reduceEqDiff, Nat.reduceMul, Nat.reduceSub, Int.reduceAdd, Int.reduceSub, Int.reduceMul, Int.reduceNeg, Int.reduceLT, Int.reduceLE, Int.reduceEq, Int.reduceToNat, ↓reduceIte, Int.reducePow, Nat.reduceLeDiff, Nat.reduceLT, ne_eq, eq_self, List.length_cons, List.length_nil, hk1]
  refine extS_kn fun k hk => ?_
  unfold dmL at hk
  dsimp only at hk
  simp only [List.mem_cons, List.not_mem_nil, or_false] at hk ⊢
  rcases hk with rfl | rfl | rfl
  ·exact .inr (.inr rfl)
  ·exact .inr (.inl rfl)
  ·exact .inl rfl
theorem rdivmod_any {a b : Option Addr} {cx' cy' : Nat} {x y : Int} {w : World} (hx : A4 x) (hay : A4 y) (hy : 0 < y) (h : SlU w (.slice a (wl x).length cx') (wl x)) (h' : SlU w (.slice b (wl y).length cy') (wl y)) :
  Calls Tryz.prog 157 #[.slice a (wl x).length cx', .slice b (wl y).length cy'] w fun e w' => ∃ u1 u2, e = .returned (.tuple #[u1, u2]) ∧ SlF w' w.heap.size u1 (wl (x / y)) ∧ SlF w' w.heap.size u2 (wl (x % y)) ∧ Below w.heap.size w w' := by
 have key : ∀ {e : Ending} {w' : World}, (∃ v Y, e = .returned v ∧ DmR w.heap.size x y v Y ∧ Y.ok w' ∧ Below w.heap.size w w' ∧ ∀ b ∈ Y.bs, w.heap.size ≤ b ∧ b < w'.heap.size) → ∃ u1 u2, e = .returned (.tuple #[u1, u2]) ∧ SlF w' w.heap.size u1 (wl (x / y)) ∧ SlF w' w.heap.size u2 (wl (x % y)) ∧ Below w.heap.size w w' := by
  rintro e w' ⟨v, Y, rfl, ⟨u1, u2, rfl, hY⟩, hok, hb, -⟩
  exact ⟨u1, u2, rfl, (hY w' hok).1, (hY w' hok).2, hb⟩
 by_cases hl : (wl y).length = 1
 ·exact (rdivmod_one hx hy hl h h').mono fun e w' hh => key hh
 ·exact (rdivmod_more hx hay hy hl h h').mono fun e w' hh => key hh
end Go.Proofs.YtncmmbacoknefaaGreat

/- Ge: What calls of the program's shift and of its division of absolute values give. -/
namespace Go.Proofs.YtncmmbacoknefaaGreat
open Go Go.RowKit Sx
set_option linter.unusedVariables false
set_option linter.unusedSimpArgs false
set_option maxRecDepth 100000 in
theorem left_0 {z n : Int} {r : Nat} (h : A4 z) (hr : 0 < r) (hr2 : r < 64) (hn : n = 64 * 0 + r) (hf : z * 2 ^ r < 115792089237316195423570985008687907853269984665640564039457584007913129639936) (w : World) :
  Calls Tryz.prog 200 #[ME z, .int .i64 n] w fun e w' => e = .returned (ME (z * 2 ^ r)) ∧ Below w.heap.size w w' := by
 show Calls _ _ #[MG (lb0 z) (lb1 z) (lb2 z) (lb3 z), _] _ _
 have e := mv_me h
 obtain ⟨t0, u0, ht0, hu0, U0, a0, b0, d0, s0⟩ := shl_word (r := r) (lb0_in z) hr2
 obtain ⟨t1, u1, ht1, hu1, U1, a1, b1, d1, s1⟩ := shl_word (r := r) (lb1_in z) hr2
 obtain ⟨t2, u2, ht2, hu2, U2, a2, b2, d2, s2⟩ := shl_word (r := r) (lb2_in z) hr2
 obtain ⟨t3, u3, ht3, hu3, U3, a3, b3, d3, s3⟩ := shl_word (r := r) (lb3_in z) hr2
 have S := shl_words s0 s1 s2 s3
 rw [e] at S
 have hp := pow63 hr2
 obtain ⟨-, o1, V1⟩ := or_add r (⟨a0, by omega⟩ : U64 u0) U1 b0 d1
 obtain ⟨-, o2, V2⟩ := or_add r (⟨a1, by omega⟩ : U64 u1) U2 b1 d2
 obtain ⟨-, o3, V3⟩ := or_add r (⟨a2, by omega⟩ : U64 u2) U3 b2 d3
 rw [Int.add_comm t1 u0, Int.add_comm t2 u1, Int.add_comm t3 u2] at S
 have hR := shl0 S a3 ⟨U0, V1, V2, V3⟩ hf
 have hM := mg_me (U0) (V1) (V2) (V3)
 rw [hR] at hM
 rw [← hM]
 have hq : n / 64 = 0 := by omega
 have hm : n % 64 = (r : Int) := by omega
 have h64 : ((64 : Int) - r).toNat = 64 - r := by omega
 have h0 : 0 ≤ n := by omega
 generalize lb0 z = x0 at *
 generalize lb1 z = x1 at *
 generalize lb2 z = x2 at *
 generalize lb3 z = x3 at *
 clear hM hR S e hf h hn s0 s1 s2 s3 a0 a1 a2 a3 b0 b1 b2 b3 d0 d1 d2 d3 U0 U1 U2 U3 V1 V2 V3 hp
 refine known_of (enter Tryz.func200 wide_left.ok (args := [MG x0 x1 x2 x3, .int .i64 n]) (by simp) ?_)
 repeat' (first | simp (disch := omega) only [sxE, wide_left.E, Nat.reduceAdd, Nat.reduceEqDiff, Nat.reduceMul, Nat.reduceSub, Int.reduceAdd, Int.reduceSub, Int.reduceMul, Int.reduceNeg, Int.reduceLT, Int.reduceLE, Int.reduceEq, Int.reduceToNat, ↓reduceIte, Int.reducePow, Nat.reduceLeDiff, Nat.reduceLT, ne_eq, eq_self, List.length_cons, List.length_nil, hq, hm, h64, ht0, ht1, ht2, ht3, hu0, hu1, hu2, hu3, o1, o2, o3] | (rw [wide_left.p2_l]) | (with_reducible apply LX_round) | (with_reducible refine cregF ?_))
set_option maxRecDepth 100000 in
theorem left_0z {z n : Int} (h : A4 z) (hn : n = 64 * 0) (hf : z < 115792089237316195423570985008687907853269984665640564039457584007913129639936) (w : World) :
  Calls Tryz.prog 200 #[ME z, .int .i64 n] w fun e w' => e = .returned (ME (z)) ∧ Below w.heap.size w w' := by
 show Calls _ _ #[MG (lb0 z) (lb1 z) (lb2 z) (lb3 z), _] _ _
 have e := mv_me h
 have U0 := lb0_in z
 have U1 := lb1_in z
 have U2 := lb2_in z
 have U3 := lb3_in z
 have hR := shl0 (e := 0) (by rw [e]; omega : z = MV (lb0 z) (lb1 z) (lb2 z) (lb3 z) + _ * 0) (Int.le_refl 0) ⟨U0, U1, U2, U3⟩ hf
 have hM := mg_me (U0) (U1) (U2) (U3)
 rw [hR] at hM
 rw [← hM]
 have hq : n / 64 = 0 := by omega
 have hm : n % 64 = 0 := by omega
 have h0 : 0 ≤ n := by omega
 generalize lb0 z = x0 at *
 generalize lb1 z = x1 at *
 generalize lb2 z = x2 at *
 generalize lb3 z = x3 at *
 clear hM hR e hf h hn
 obtain ⟨g0, l0⟩ := U0
 obtain ⟨g1, l1⟩ := U1
 obtain ⟨g2, l2⟩ := U2
 obtain ⟨g3, l3⟩ := U3
 refine known_of (enter Tryz.func200 wide_left.ok (args := [MG x0 x1 x2 x3, .int .i64 n]) (by simp) ?_)
 repeat' (first | simp (disch := omega) only [sxE, wide_left.E, Nat.reduceAdd, Nat.reduceEqDiff, Nat.reduceMul, Nat.reduceSub, Int.reduceAdd, Int.reduceSub, Int.reduceMul, Int.reduceNeg, Int.reduceLT, Int.reduceLE, Int.reduceEq, Int.reduceToNat, ↓reduceIte, Int.reducePow, Nat.reduceLeDiff, Nat.reduceLT, ne_eq, eq_self, List.length_cons, List.length_nil, hq, hm, Int.mul_one, Int.pow_zero, Int.toNat_zero] | (rw [wide_left.p2_l]) | (with_reducible apply LX_round) | (with_reducible refine cregF ?_))
set_option maxRecDepth 100000 in
theorem left_1 {z n : Int} {r : Nat} (h : A4 z) (hr : 0 < r) (hr2 : r < 64) (hn : n = 64 * 1 + r) (hf : z * 2 ^ r * 18446744073709551616 < 115792089237316195423570985008687907853269984665640564039457584007913129639936) (w : World) :
  Calls Tryz.prog 200 #[ME z, .int .i64 n] w fun e w' => e = .returned (ME (z * 2 ^ r * 18446744073709551616)) ∧ Below w.heap.size w w' := by
 show Calls _ _ #[MG (lb0 z) (lb1 z) (lb2 z) (lb3 z), _] _ _
 have e := mv_me h
 obtain ⟨t0, u0, ht0, hu0, U0, a0, b0, d0, s0⟩ := shl_word (r := r) (lb0_in z) hr2
 obtain ⟨t1, u1, ht1, hu1, U1, a1, b1, d1, s1⟩ := shl_word (r := r) (lb1_in z) hr2
 obtain ⟨t2, u2, ht2, hu2, U2, a2, b2, d2, s2⟩ := shl_word (r := r) (lb2_in z) hr2
 obtain ⟨t3, u3, ht3, hu3, U3, a3, b3, d3, s3⟩ := shl_word (r := r) (lb3_in z) hr2
 have S := shl_words s0 s1 s2 s3
 rw [e] at S
 have hp := pow63 hr2
 obtain ⟨-, o1, V1⟩ := or_add r (⟨a0, by omega⟩ : U64 u0) U1 b0 d1
 obtain ⟨-, o2, V2⟩ := or_add r (⟨a1, by omega⟩ : U64 u1) U2 b1 d2
 obtain ⟨-, o3, V3⟩ := or_add r (⟨a2, by omega⟩ : U64 u2) U3 b2 d3
 rw [Int.add_comm t1 u0, Int.add_comm t2 u1, Int.add_comm t3 u2] at S
 have hR := shl1 S a3 ⟨U0, V1, V2, V3⟩ hf
 have hM := mg_me (U64.zero) (U0) (V1) (V2)
 rw [hR] at hM
 rw [← hM]
 have hq : n / 64 = 1 := by omega
 have hm : n % 64 = (r : Int) := by omega
 have h64 : ((64 : Int) - r).toNat = 64 - r := by omega
 have h0 : 0 ≤ n := by omega
 generalize lb0 z = x0 at *
 generalize lb1 z = x1 at *
 generalize lb2 z = x2 at *
 generalize lb3 z = x3 at *
 clear hM hR S e hf h hn s0 s1 s2 s3 a0 a1 a2 a3 b0 b1 b2 b3 d0 d1 d2 d3 U0 U1 U2 U3 V1 V2 V3 hp
 refine known_of (enter Tryz.func200 wide_left.ok (args := [MG x0 x1 x2 x3, .int .i64 n]) (by simp) ?_)
 repeat' (first | simp (disch := omega) only [sxE, wide_left.E, Nat.reduceAdd, Nat.reduceEqDiff, Nat.reduceMul, Nat.reduceSub, Int.reduceAdd, Int.reduceSub, Int.reduceMul, Int.reduceNeg, Int.reduceLT, Int.reduceLE, Int.reduceEq, Int.reduceToNat, ↓reduceIte, Int.reducePow, Nat.reduceLeDiff, Nat.reduceLT, ne_eq, eq_self, List.length_cons, List.length_nil, hq, hm, h64, ht0, ht1, ht2, ht3, hu0, hu1, hu2, hu3, o1, o2, o3] | (rw [wide_left.p2_l]) | (with_reducible apply LX_round) | (with_reducible refine cregF ?_))
set_option maxRecDepth 100000 in
theorem left_1z {z n : Int} (h : A4 z) (hn : n = 64 * 1) (hf : z * 18446744073709551616 < 115792089237316195423570985008687907853269984665640564039457584007913129639936) (w : World) :
  Calls Tryz.prog 200 #[ME z, .int .i64 n] w fun e w' => e = .returned (ME (z * 18446744073709551616)) ∧ Below w.heap.size w w' := by
 show Calls _ _ #[MG (lb0 z) (lb1 z) (lb2 z) (lb3 z), _] _ _
 have e := mv_me h
 have U0 := lb0_in z
 have U1 := lb1_in z
 have U2 := lb2_in z
 have U3 := lb3_in z
 have hR := shl1 (e := 0) (by rw [e]; omega : z = MV (lb0 z) (lb1 z) (lb2 z) (lb3 z) + _ * 0) (Int.le_refl 0) ⟨U0, U1, U2, U3⟩ hf
 have hM := mg_me (U64.zero) (U0) (U1) (U2)
 rw [hR] at hM
 rw [← hM]
 have hq : n / 64 = 1 := by omega
 have hm : n % 64 = 0 := by omega
 have h0 : 0 ≤ n := by omega
 generalize lb0 z = x0 at *
 generalize lb1 z = x1 at *
 generalize lb2 z = x2 at *
 generalize lb3 z = x3 at *
 clear hM hR e hf h hn
 obtain ⟨g0, l0⟩ := U0
 obtain ⟨g1, l1⟩ := U1
 obtain ⟨g2, l2⟩ := U2
 obtain ⟨g3, l3⟩ := U3
 refine known_of (enter Tryz.func200 wide_left.ok (args := [MG x0 x1 x2 x3, .int .i64 n]) (by simp) ?_)
 repeat' (first | simp (disch := omega) only [sxE, wide_left.E, Nat.reduceAdd, Nat.reduceEqDiff, Nat.reduceMul, Nat.reduceSub, Int.reduceAdd, Int.reduceSub, Int.reduceMul, Int.reduceNeg, Int.reduceLT, Int.reduceLE, Int.reduceEq, Int.reduceToNat, ↓reduceIte, Int.reducePow, Nat.reduceLeDiff, Nat.reduceLT, ne_eq, eq_self, List.length_cons, List.length_nil, hq, hm, Int.mul_one, Int.pow_zero, Int.toNat_zero] | (rw [wide_left.p2_l]) | (with_reducible apply LX_round) | (with_reducible refine cregF ?_))
set_option maxRecDepth 100000 in
theorem left_2 {z n : Int} {r : Nat} (h : A4 z) (hr : 0 < r) (hr2 : r < 64) (hn : n = 64 * 2 + r) (hf : z * 2 ^ r * 340282366920938463463374607431768211456 < 115792089237316195423570985008687907853269984665640564039457584007913129639936) (w : World) :
  Calls Tryz.prog 200 #[ME z, .int .i64 n] w fun e w' => e = .returned (ME (z * 2 ^ r * 340282366920938463463374607431768211456)) ∧ Below w.heap.size w w' := by
 show Calls _ _ #[MG (lb0 z) (lb1 z) (lb2 z) (lb3 z), _] _ _
 have e := mv_me h
 obtain ⟨t0, u0, ht0, hu0, U0, a0, b0, d0, s0⟩ := shl_word (r := r) (lb0_in z) hr2
 obtain ⟨t1, u1, ht1, hu1, U1, a1, b1, d1, s1⟩ := shl_word (r := r) (lb1_in z) hr2
 obtain ⟨t2, u2, ht2, hu2, U2, a2, b2, d2, s2⟩ := shl_word (r := r) (lb2_in z) hr2
 obtain ⟨t3, u3, ht3, hu3, U3, a3, b3, d3, s3⟩ := shl_word (r := r) (lb3_in z) hr2
 have S := shl_words s0 s1 s2 s3
 rw [e] at S
 have hp := pow63 hr2
 obtain ⟨-, o1, V1⟩ := or_add r (⟨a0, by omega⟩ : U64 u0) U1 b0 d1
 obtain ⟨-, o2, V2⟩ := or_add r (⟨a1, by omega⟩ : U64 u1) U2 b1 d2
 obtain ⟨-, o3, V3⟩ := or_add r (⟨a2, by omega⟩ : U64 u2) U3 b2 d3
 rw [Int.add_comm t1 u0, Int.add_comm t2 u1, Int.add_comm t3 u2] at S
 have hR := shl2 S a3 ⟨U0, V1, V2, V3⟩ hf
 have hM := mg_me (U64.zero) (U64.zero) (U0) (V1)
 rw [hR] at hM
 rw [← hM]
 have hq : n / 64 = 2 := by omega
 have hm : n % 64 = (r : Int) := by omega
 have h64 : ((64 : Int) - r).toNat = 64 - r := by omega
 have h0 : 0 ≤ n := by omega
 generalize lb0 z = x0 at *
 generalize lb1 z = x1 at *
 generalize lb2 z = x2 at *
 generalize lb3 z = x3 at *
 clear hM hR S e hf h hn s0 s1 s2 s3 a0 a1 a2 a3 b0 b1 b2 b3 d0 d1 d2 d3 U0 U1 U2 U3 V1 V2 V3 hp
 refine known_of (enter Tryz.func200 wide_left.ok (args := [MG x0 x1 x2 x3, .int .i64 n]) (by simp) ?_)
 repeat' (first | simp (disch := omega) only [sxE, wide_left.E, Nat.reduceAdd, Nat.reduceEqDiff, Nat.reduceMul, Nat.reduceSub, Int.reduceAdd, Int.reduceSub, Int.reduceMul, Int.reduceNeg, Int.reduceLT, Int.reduceLE, Int.reduceEq, Int.reduceToNat, ↓reduceIte, Int.reducePow, Nat.reduceLeDiff, Nat.reduceLT, ne_eq, eq_self, List.length_cons, List.length_nil, hq, hm, h64, ht0, ht1, ht2, ht3, hu0, hu1, hu2, hu3, o1, o2, o3] | (rw [wide_left.p2_l]) | (with_reducible apply LX_round) | (with_reducible refine cregF ?_))
set_option maxRecDepth 100000 in
theorem left_2z {z n : Int} (h : A4 z) (hn : n = 64 * 2) (hf : z * 340282366920938463463374607431768211456 < 115792089237316195423570985008687907853269984665640564039457584007913129639936) (w : World) :
  Calls Tryz.prog 200 #[ME z, .int .i64 n] w fun e w' => e = .returned (ME (z * 340282366920938463463374607431768211456)) ∧ Below w.heap.size w w' := by
 show Calls _ _ #[MG (lb0 z) (lb1 z) (lb2 z) (lb3 z), _] _ _
 have e := mv_me h
 have U0 := lb0_in z
 have U1 := lb1_in z
 have U2 := lb2_in z
 have U3 := lb3_in z
 have hR := shl2 (e := 0) (by rw [e]; omega : z = MV (lb0 z) (lb1 z) (lb2 z) (lb3 z) + _ * 0) (Int.le_refl 0) ⟨U0, U1, U2, U3⟩ hf
 have hM := mg_me (U64.zero) (U64.zero) (U0) (U1)
 rw [hR] at hM
 rw [← hM]
 have hq : n / 64 = 2 := by omega
 have hm : n % 64 = 0 := by omega
 have h0 : 0 ≤ n := by omega
 generalize lb0 z = x0 at *
 generalize lb1 z = x1 at *
 generalize lb2 z = x2 at *
 generalize lb3 z = x3 at *
 clear hM hR e hf h hn
 obtain ⟨g0, l0⟩ := U0
 obtain ⟨g1, l1⟩ := U1
 obtain ⟨g2, l2⟩ := U2
 obtain ⟨g3, l3⟩ := U3
 refine known_of (enter Tryz.func200 wide_left.ok (args := [MG x0 x1 x2 x3, .int .i64 n]) (by simp) ?_)
 repeat' (first | simp (disch := omega) only [sxE, wide_left.E, Nat.reduceAdd, Nat.reduceEqDiff, Nat.reduceMul, Nat.reduceSub, Int.reduceAdd, Int.reduceSub, Int.reduceMul, Int.reduceNeg, Int.reduceLT, Int.reduceLE, Int.reduceEq, Int.reduceToNat, ↓reduceIte, Int.reducePow, Nat.reduceLeDiff, Nat.reduceLT, ne_eq, eq_self, List.length_cons, List.length_nil, hq, hm, Int.mul_one, Int.pow_zero, Int.toNat_zero] | (rw [wide_left.p2_l]) | (with_reducible apply LX_round) | (with_reducible refine cregF ?_))
set_option maxRecDepth 100000 in
theorem left_3 {z n : Int} {r : Nat} (h : A4 z) (hr : 0 < r) (hr2 : r < 64) (hn : n = 64 * 3 + r) (hf : z * 2 ^ r * 6277101735386680763835789423207666416102355444464034512896 < 115792089237316195423570985008687907853269984665640564039457584007913129639936) (w : World) :
  Calls Tryz.prog 200 #[ME z, .int .i64 n] w fun e w' => e = .returned (ME (z * 2 ^ r * 6277101735386680763835789423207666416102355444464034512896)) ∧ Below w.heap.size w w' := by
 show Calls _ _ #[MG (lb0 z) (lb1 z) (lb2 z) (lb3 z), _] _ _
 have e := mv_me h
 obtain ⟨t0, u0, ht0, hu0, U0, a0, b0, d0, s0⟩ := shl_word (r := r) (lb0_in z) hr2
 obtain ⟨t1, u1, ht1, hu1, U1, a1, b1, d1, s1⟩ := shl_word (r := r) (lb1_in z) hr2
 obtain ⟨t2, u2, ht2, hu2, U2, a2, b2, d2, s2⟩ := shl_word (r := r) (lb2_in z) hr2
 obtain ⟨t3, u3, ht3, hu3, U3, a3, b3, d3, s3⟩ := shl_word (r := r) (lb3_in z) hr2
 have S := shl_words s0 s1 s2 s3
 rw [e] at S
 have hp := pow63 hr2
 obtain ⟨-, o1, V1⟩ := or_add r (⟨a0, by omega⟩ : U64 u0) U1 b0 d1
 obtain ⟨-, o2, V2⟩ := or_add r (⟨a1, by omega⟩ : U64 u1) U2 b1 d2
 obtain ⟨-, o3, V3⟩ := or_add r (⟨a2, by omega⟩ : U64 u2) U3 b2 d3
 rw [Int.add_comm t1 u0, Int.add_comm t2 u1, Int.add_comm t3 u2] at S
 have hR := shl3 S a3 ⟨U0, V1, V2, V3⟩ hf
 have hM := mg_me (U64.zero) (U64.zero) (U64.zero) (U0)
 rw [hR] at hM
 rw [← hM]
 have hq : n / 64 = 3 := by omega
 have hm : n % 64 = (r : Int) := by omega
 have h64 : ((64 : Int) - r).toNat = 64 - r := by omega
 have h0 : 0 ≤ n := by omega
 generalize lb0 z = x0 at *
 generalize lb1 z = x1 at *
 generalize lb2 z = x2 at *
 generalize lb3 z = x3 at *
 clear hM hR S e hf h hn s0 s1 s2 s3 a0 a1 a2 a3 b0 b1 b2 b3 d0 d1 d2 d3 U0 U1 U2 U3 V1 V2 V3 hp
 refine known_of (enter Tryz.func200 wide_left.ok (args := [MG x0 x1 x2 x3, .int .i64 n]) (by simp) ?_)
 repeat' (first | simp (disch := omega) only [sxE, wide_left.E, Nat.reduceAdd, Nat.reduceEqDiff, Nat.reduceMul, Nat.reduceSub, Int.reduceAdd, Int.reduceSub, Int.reduceMul, Int.reduceNeg, Int.reduceLT, Int.reduceLE, Int.reduceEq, Int.reduceToNat, ↓reduceIte, Int.reducePow, Nat.reduceLeDiff, Nat.reduceLT, ne_eq, eq_self, List.length_cons, List.length_nil, hq, hm, h64, ht0, ht1, ht2, ht3, hu0, hu1, hu2, hu3, o1, o2, o3] | (rw [wide_left.p2_l]) | (with_reducible apply LX_round) | (with_reducible refine cregF ?_))
set_option maxRecDepth 100000 in
theorem left_3z {z n : Int} (h : A4 z) (hn : n = 64 * 3) (hf : z * 6277101735386680763835789423207666416102355444464034512896 < 115792089237316195423570985008687907853269984665640564039457584007913129639936) (w : World) :
  Calls Tryz.prog 200 #[ME z, .int .i64 n] w fun e w' => e = .returned (ME (z * 6277101735386680763835789423207666416102355444464034512896)) ∧ Below w.heap.size w w' := by
 show Calls _ _ #[MG (lb0 z) (lb1 z) (lb2 z) (lb3 z), _] _ _
 have e := mv_me h
 have U0 := lb0_in z
 have U1 := lb1_in z
 have U2 := lb2_in z
 have U3 := lb3_in z
 have hR := shl3 (e := 0) (by rw [e]; omega : z = MV (lb0 z) (lb1 z) (lb2 z) (lb3 z) + _ * 0) (Int.le_refl 0) ⟨U0, U1, U2, U3⟩ hf
 have hM := mg_me (U64.zero) (U64.zero) (U64.zero) (U0)
 rw [hR] at hM
 rw [← hM]
 have hq : n / 64 = 3 := by omega
 have hm : n % 64 = 0 := by omega
 have h0 : 0 ≤ n := by omega
 generalize lb0 z = x0 at *
 generalize lb1 z = x1 at *
 generalize lb2 z = x2 at *
 generalize lb3 z = x3 at *
 clear hM hR e hf h hn
 obtain ⟨g0, l0⟩ := U0
 obtain ⟨g1, l1⟩ := U1
 obtain ⟨g2, l2⟩ := U2
 obtain ⟨g3, l3⟩ := U3
 refine known_of (enter Tryz.func200 wide_left.ok (args := [MG x0 x1 x2 x3, .int .i64 n]) (by simp) ?_)
 repeat' (first | simp (disch := omega) only [sxE, wide_left.E, Nat.reduceAdd, Nat.reduceEqDiff, Nat.reduceMul, Nat.reduceSub, Int.reduceAdd, Int.reduceSub, Int.reduceMul, Int.reduceNeg, Int.reduceLT, Int.reduceLE, Int.reduceEq, Int.reduceToNat, ↓reduceIte, Int.reducePow, Nat.reduceLeDiff, Nat.reduceLT, ne_eq, eq_self, List.length_cons, List.length_nil, hq, hm, Int.mul_one, Int.pow_zero, Int.toNat_zero] | (rw [wide_left.p2_l]) | (with_reducible apply LX_round) | (with_reducible refine cregF ?_))
theorem g_left {z : Int} {n : Nat} (h : A4 z) (hf : A4 (z * 2 ^ n)) (hn : n < 256) (W : World) : Gives Tryz.prog 200 [ME z, .int .i64 (n : Int)] W (· = ME (z * 2 ^ n)) := by
 refine gives_known en_wide_left ?_
 obtain ⟨q, r, hq, hr, e⟩ : ∃ q r : Nat, q < 4 ∧ r < 64 ∧ n = 64 * q + r := ⟨n / 64, n % 64, by omega, by omega, by omega⟩
 have hp := pow_split q r
 have e2 : z * 2 ^ n = z * 2 ^ r * 18446744073709551616 ^ q := by rw [e, hp, Int.mul_assoc]
 have hf2 := hf.2
 rw [e2] at hf2 ⊢
 rcases Nat.eq_zero_or_pos r with h0 | h0
 ·subst h0
  rw [Int.pow_zero, Int.mul_one] at hf2 ⊢
  rcases q with _ | _ | _ | _ | q
  ·rw [Int.pow_zero, Int.mul_one] at hf2 ⊢; exact left_0z h (by omega) hf2 W
  ·rw [show (18446744073709551616 : Int) ^ (0 + 1) = 18446744073709551616 from rfl] at hf2 ⊢; exact left_1z h (by omega) hf2 W
  ·rw [show (18446744073709551616 : Int) ^ (0 + 1 + 1) = 340282366920938463463374607431768211456 from rfl] at hf2 ⊢; exact left_2z h (by omega) hf2 W
  ·rw [show (18446744073709551616 : Int) ^ (0 + 1 + 1 + 1) = 6277101735386680763835789423207666416102355444464034512896 from rfl] at hf2 ⊢; exact left_3z h (by omega) hf2 W
  ·omega
 ·rcases q with _ | _ | _ | _ | q
  ·rw [Int.pow_zero, Int.mul_one] at hf2 ⊢; exact left_0 h h0 hr (by omega) hf2 W
  ·rw [show (18446744073709551616 : Int) ^ (0 + 1) = 18446744073709551616 from rfl] at hf2 ⊢; exact left_1 h h0 hr (by omega) hf2 W
  ·rw [show (18446744073709551616 : Int) ^ (0 + 1 + 1) = 340282366920938463463374607431768211456 from rfl] at hf2 ⊢; exact left_2 h h0 hr (by omega) hf2 W
  ·rw [show (18446744073709551616 : Int) ^ (0 + 1 + 1 + 1) = 6277101735386680763835789423207666416102355444464034512896 from rfl] at hf2 ⊢; exact left_3 h h0 hr (by omega) hf2 W
  ·omega
end Go.Proofs.YtncmmbacoknefaaGreat

/- Gf: What a call of the program's division of absolute values gives; DivMod. -/
namespace Go.Proofs.YtncmmbacoknefaaGreat
open Go Go.RowKit Sx
set_option linter.unusedVariables false
set_option linter.unusedSimpArgs false
theorem g_wcompare_me {z y : Int} (h : A4 z) (h' : A4 y) (W : World) : Gives Tryz.prog 166 [ME z, ME y] W (· = .int .i64 (cm z y)) := by
 have e := cm4_mv (a3 := lb3 z) (b3 := lb3 y) (lb0_in z) (lb1_in z) (lb2_in z) (lb0_in y) (lb1_in y) (lb2_in y)
 rw [mv_me h, mv_me h'] at e
 rw [← e]
 exact g_wcompare _ _ _ _ _ _ _ _ W
theorem g_wsub_me {z y : Int} (h : A4 z) (h' : A4 y) (W : World) : Gives Tryz.prog 167 [ME z, ME y] W (· = ME (z - y)) := by
 have e := wsub_any (lb0 z) (lb1 z) (lb2 z) (lb3 z) (lb0 y) (lb1 y) (lb2 y) (lb3 y) (lb0_in z) (lb1_in z) (lb2_in z) (lb3_in z) (lb0_in y) (lb1_in y) (lb2_in y) (lb3_in y) W
 rw [mv_me h, mv_me h'] at e
 exact gives_known en_wide_sub e
theorem bit_words {q : Int} {k w j : Nat} (hk : k = 64 * w + j) (hj : j < 64) (hw : w < 4) (hq : A4 q) (hd : (2 ^ (k + 1) : Int) ∣ q) (hs : A4 (q + 2 ^ k)) :
  let g := fun x : Int => IntKind.u64.wrap ((BitVec.ofInt IntKind.u64.bits x ||| BitVec.ofInt IntKind.u64.bits (2 ^ j)).toNat : Int)
  (w = 0 → lb0 (q + 2 ^ k) = g (lb0 q) ∧ lb1 (q + 2 ^ k) = lb1 q ∧ lb2 (q + 2 ^ k) = lb2 q ∧ lb3 (q + 2 ^ k) = lb3 q) ∧ (w = 1 → lb0 (q + 2 ^ k) = lb0 q ∧ lb1 (q + 2 ^ k) = g (lb1 q) ∧ lb2 (q + 2 ^ k) = lb2 q ∧ lb3 (q + 2 ^ k) = lb3 q) ∧
  (w = 2 → lb0 (q + 2 ^ k) = lb0 q ∧ lb1 (q + 2 ^ k) = lb1 q ∧ lb2 (q + 2 ^ k) = g (lb2 q) ∧ lb3 (q + 2 ^ k) = lb3 q) ∧ (w = 3 → lb0 (q + 2 ^ k) = lb0 q ∧ lb1 (q + 2 ^ k) = lb1 q ∧ lb2 (q + 2 ^ k) = lb2 q ∧ lb3 (q + 2 ^ k) = g (lb3 q)) := by
 intro g
 have hg : ∀ x : Int, U64 x → (2 ^ (j + 1) : Int) ∣ x → g x = x + 2 ^ j ∧ U64 (x + 2 ^ j) := fun x hx hd => by
  have hp := pow63 hj
  have h0 : (0 : Int) < 2 ^ j := Int.pow_pos (by decide)
  obtain ⟨a, b, c⟩ := or_add (j + 1) (⟨by omega, by omega⟩ : U64 ((2 : Int) ^ j)) hx (by rw [Int.pow_succ]; omega) hd
  refine ⟨?_, ?_⟩
  ·show IntKind.u64.wrap _ = _
   rw [b]; omega
  ·rw [Int.add_comm]; exact c
 have hm := mv_me hq
 have h0 := lb0_in q
 have h1 := lb1_in q
 have h2 := lb2_in q
 have h3 := lb3_in q
 have p3 : (2 ^ (64 * 3) : Int) = 6277101735386680763835789423207666416102355444464034512896 := rfl
 have p2 : (2 ^ (64 * 2) : Int) = 340282366920938463463374607431768211456 := rfl
 have p1 : (2 ^ (64 * 1) : Int) = 18446744073709551616 := rfl
 have p0 : (2 ^ (64 * 0) : Int) = 1 := rfl
 obtain ⟨a0, a1⟩ := id h0
 obtain ⟨b0, b1⟩ := id h1
 obtain ⟨c0, c1⟩ := id h2
 have hsp : (2 ^ k : Int) = 2 ^ (64 * w) * 2 ^ j := by rw [hk, Int.pow_add]
 generalize lb0 q = a at *
 generalize lb1 q = b at *
 generalize lb2 q = c at *
 generalize lb3 q = d at *
 unfold MV at hm
 refine ⟨fun e => ?_, fun e => ?_, fun e => ?_, fun e => ?_⟩
 ·subst e
  obtain ⟨e1, e2⟩ := hg a h0 (word_dvd (q := q) (w := 0) (lo := 0) (hi := b + 18446744073709551616 * (c + 18446744073709551616 * d)) hj (by rw [p0]; omega) (by omega) (by rw [p0]; omega) (by rw [← hk]; exact hd))
  have e3 : q + 2 ^ k = MV (a + 2 ^ j) b c d := by unfold MV; rw [hsp, p0]; omega
  rw [e1, e3, lb0_mv _ _ _ e2, lb1_mv _ _ e2 h1, lb2_mv _ e2 h1 h2, lb3_mv e2 h1 h2 h3]
  exact ⟨rfl, rfl, rfl, rfl⟩
 ·subst e
  obtain ⟨e1, e2⟩ := hg b h1 (word_dvd (q := q) (w := 1) (lo := a) (hi := c + 18446744073709551616 * d) hj (by rw [p1]; omega) (by omega) (by rw [p1]; omega) (by rw [← hk]; exact hd))
  have e3 : q + 2 ^ k = MV a (b + 2 ^ j) c d := by unfold MV; rw [hsp, p1]; omega
  rw [e1, e3, lb0_mv _ _ _ h0, lb1_mv _ _ h0 e2, lb2_mv _ h0 e2 h2, lb3_mv h0 e2 h2 h3]
  exact ⟨rfl, rfl, rfl, rfl⟩
 ·subst e
  obtain ⟨e1, e2⟩ := hg c h2 (word_dvd (q := q) (w := 2) (lo := a + 18446744073709551616 * b) (hi := d) hj (by rw [p2]; omega) (by omega) (by rw [p2]; omega) (by rw [← hk]; exact hd))
  have e3 : q + 2 ^ k = MV a b (c + 2 ^ j) d := by unfold MV; rw [hsp, p2]; omega
  rw [e1, e3, lb0_mv _ _ _ h0, lb1_mv _ _ h0 h1, lb2_mv _ h0 h1 e2, lb3_mv h0 h1 e2 h3]
  exact ⟨rfl, rfl, rfl, rfl⟩
 ·subst e
  obtain ⟨e1, e2⟩ := hg d h3 (word_dvd (q := q) (w := 3) (lo := a + 18446744073709551616 * (b + 18446744073709551616 * c)) (hi := 0) hj (by rw [p3]; omega) (by omega) (by rw [p3]; omega) (by rw [← hk]; exact hd))
  have e3 : q + 2 ^ k = MV a b c (d + 2 ^ j) := by unfold MV; rw [hsp, p3]; omega
  rw [e1, e3, lb0_mv _ _ _ h0, lb1_mv _ _ h0 h1, lb2_mv _ h0 h1 h2, lb3_mv h0 h1 h2 e2]
  exact ⟨rfl, rfl, rfl, rfl⟩
theorem a4_zero : A4 0 := ⟨by decide, by decide⟩
abbrev W4 (z : Int) : List Value := [.int .u64 (lb0 z), .int .u64 (lb1 z), .int .u64 (lb2 z), .int .u64 (lb3 z)]
def dvF (x : Int × Int × Int × Nat) : St := ⟨5, [(2, .p 0 0), (4, .p 2 0), (5, .p 3 0), (6, .v (.int .i64 ((x.2.2.2 : Int) - 1))), (7, .p 4 0)], [(4, W4 x.2.2.1), (3, [.int .u64 0, .int .u64 0, .int .u64 0, .int .u64 0]), (2, W4 x.2.1), (0, W4 x.1)], ext0⟩
set_option maxRecDepth 100000 in
theorem div_any {a b : Int} (ha : A4 a) (hb : A4 b) (hb0 : 0 < b) (w : World) : Calls Tryz.prog 189 #[ME a, ME b] w fun e w' => e = .returned (.tuple #[ME (a / b), ME (a % b)]) ∧ Below w.heap.size w w' := by
 have l1 := bl_256 ha
 have l2 := bl_256 hb
 by_cases hlen : bl a < bl b
 ·obtain ⟨e1, e2⟩ := dv_small ha.1 hb0 hlen
  rw [e1, e2]
  refine known_of (enter Tryz.func189 wide_div.ok (args := [ME a, ME b]) (by simp) ?_)
  repeat' (first | simp (disch := omega) only [sxE, wide_div.E, Nat.reduceAdd, Nat.reduceEqDiff, Nat.reduceMul, Nat.reduceSub, Int.reduceAdd, Int.reduceSub, Int.reduceMul, Int.reduceNeg, Int.reduceLT, Int.reduceLE, Int.reduceEq, Int.reduceToNat, ↓reduceIte, Int.reducePow, Nat.reduceLeDiff, Nat.reduceLT, ne_eq, eq_self, List.length_cons, List.length_nil] | (with_reducible refine Sx.call_at (f := 199) (fun W hW => g_length (by assumption) W) ?_) | (with_reducible refine cregF ?_))
  rfl
 ·have hst := dv_start ha.1 hb0 (by omega)
  have hfit := dv_fit (m := 0) ha hb hb0 (by omega)
  have hsub : IntKind.i64.wrap ((bl a : Int) - (bl b : Int)) = ((bl a - bl b : Nat) : Int) := by rw [s_wi _ (by omega) (by omega)]; omega
  have hn : bl a - bl b < 256 := pow256 hb0 hfit
  generalize bl a - bl b = N at *
  clear hlen l1 l2
  refine known_of (enter Tryz.func189 wide_div.ok (args := [ME a, ME b]) (by simp) ?_)
  repeat' (first | simp (disch := omega) only [sxE, wide_div.E, Nat.reduceAdd, Nat.reduceEqDiff, Nat.reduceMul, Nat.reduceSub, Int.reduceAdd, Int.reduceSub, Int.reduceMul, Int.reduceNeg, Int.reduceLT, Int.reduceLE, Int.reduceEq, Int.reduceToNat, ↓reduceIte, Int.reducePow, Nat.reduceLeDiff, Nat.reduceLT, ne_eq, eq_self, List.length_cons, List.length_nil, hsub] | (with_reducible refine Sx.call_at (f := 199) (fun W hW => g_length (by assumption) W) ?_) | (with_reducible refine Sx.call_at (f := 200) (fun W hW => g_left (by assumption) hfit hn W) ?_) | (with_reducible refine cregF ?_))
  rw [wide_div.p2_l]
  refine LX_inv dvF (fun x => DvI a b x.1 x.2.1 x.2.2.2 ∧ (0 < x.2.2.2 → x.2.2.1 = b * 2 ^ (x.2.2.2 - 1)) ∧ A4 x.2.2.1 ∧ A4 x.1 ∧ A4 x.2.1) (fun x => x.2.2.2) ?round (a, 0, b * 2 ^ N, N + 1) ⟨hst, fun _ => rfl, hfit, ha, a4_zero⟩ ?start
  case start =>
   have hk : ((N + 1 : Nat) : Int) - 1 = N := by omega
   simp (disch := omega) only [sxE, wide_div.E, Nat.reduceAdd, Nat.reduceEqDiff, Nat.reduceMul, Nat.reduceSub, Int.reduceAdd, Int.reduceSub, Int.reduceMul, Int.reduceNeg, Int.reduceLT, Int.reduceLE, Int.reduceEq, Int.reduceToNat, ↓reduceIte, Int.reducePow, Nat.reduceLeDiff, Nat.reduceLT, ne_eq, eq_self, List.length_cons, List.length_nil, dvF, W4, hk, show lb0 0 = 0 from rfl, show lb1 0 = 0 from rfl, show lb2 0 = 0 from rfl, show lb3 0 = 0 from rfl]
  case round =>
   clear hst hfit hsub hn
   rintro ⟨r, q, D, k⟩ ⟨hI, hD, aD, ar, aq⟩
   dsimp only at hI hD aD ar aq ⊢
   rcases k with _ | k
   ·obtain ⟨e1, e2⟩ := dv_end hI hb0
    rw [← e1, ← e2]
    clear e1 e2 hI hD
    unfold dvF
    repeat' (first | simp (disch := omega) only [sxE, wide_div.E, Nat.reduceAdd, Nat.reduceEqDiff, Nat.reduceMul, Nat.reduceSub, Int.reduceAdd, Int.reduceSub, Int.reduceMul, Int.reduceNeg, Int.reduceLT, Int.reduceLE, Int.reduceEq, Int.reduceToNat, ↓reduceIte, Int.reducePow, Nat.reduceLeDiff, Nat.reduceLT, ne_eq, eq_self, List.length_cons, List.length_nil] | (with_reducible refine cregF ?_))
   ·have hD' : D = b * 2 ^ k := hD (by omega)
    have hk : ((k + 1 : Nat) : Int) - 1 = k := by omega
    have hk2 : k < 256 := pow256 hb0 (hD' ▸ aD)
    obtain ⟨st1, st2⟩ := dv_step hI hb0
    have aH : A4 (D / 2) := ⟨by have := aD.1; omega, by have := aD.1; have := aD.2; omega⟩
    have hH : 0 < k → D / 2 = b * 2 ^ (k - 1) := fun h => by
     obtain ⟨m, rfl⟩ : ∃ m, k = m + 1 := ⟨k - 1, by omega⟩
     rw [hD', Int.pow_succ, ← Int.mul_assoc, Nat.add_sub_cancel]; omega
    rw [← hD'] at st1 st2
    have hcm := cm_ge r D
    by_cases hle : D ≤ r
    ·have hI2 := st1 hle
     have hc0 : 0 ≤ cm r D := hcm.2 hle
     have aR : A4 (r - D) := ⟨by omega, by have := ar.2; have := aD.1; omega⟩
     have aQ : A4 (q + 2 ^ k) := by
      have h1 := hI2.eq
      have h2 := hI2.r0
      have h3 := hI2.q0
      have h4 := Int.mul_le_mul_of_nonneg_left (show (1 : Int) ≤ b by omega) h3
      exact ⟨h3, by have := ha.2; omega⟩
     obtain ⟨w', j, hw, hj, e⟩ : ∃ w' j : Nat, w' < 4 ∧ j < 64 ∧ k = 64 * w' + j := ⟨k / 64, k % 64, by omega, by omega, by omega⟩
     have BW := bit_words e hj hw aq hI.dv aQ
     have hm : (k : Int) % 64 = (j : Nat) := by omega
     have p0 : (0 : Int) < 2 ^ j := Int.pow_pos (by decide)
     have p1 := pow63 hj
     have hp2 : IntKind.u64.wrap (2 ^ j) = 2 ^ j := s_wu _ (by omega) (by omega)
     unfold dvF
     clear st1 st2 hcm hI hD hD' p0 p1
     rcases w' with _ | _ | _ | _ | w'
     ·have hq : (k : Int) / 64 = 0 := by omega
      obtain ⟨v0, v1, v2, v3⟩ := BW.1 rfl
      clear BW
      repeat' (first | simp (disch := omega) only [sxE, wide_div.E, Nat.reduceAdd, Nat.reduceEqDiff, Nat.reduceMul, Nat.reduceSub, Int.reduceAdd, Int.reduceSub, Int.reduceMul, Int.reduceNeg, Int.reduceLT, Int.reduceLE, Int.reduceEq, Int.reduceToNat, ↓reduceIte, Int.reducePow, Nat.reduceLeDiff, Nat.reduceLT, ne_eq, eq_self, List.length_cons, List.length_nil, hk, hq, hm, hp2, Int.one_mul] | (with_reducible refine Sx.call_at (f := 166) (fun W hW => g_wcompare_me (by assumption) (by assumption) W) ?_) | (with_reducible refine Sx.call_at (f := 167) (fun W hW => g_wsub_me (by assumption) (by assumption) W) ?_) | (with_reducible refine Sx.call_at (f := 201) (fun W hW => g_halved (by assumption) W) ?_) | (with_reducible refine cregF ?_))
      exact ⟨(r - D, q + 2 ^ k, D / 2, k), ⟨hI2, hH, aH, aR, aQ⟩, Nat.lt_succ_self _, rfl, rfl, by simp only [W4, v0, v1, v2, v3], rfl⟩
     ·have hq : (k : Int) / 64 = 1 := by omega
      obtain ⟨v0, v1, v2, v3⟩ := BW.2.1 rfl
      clear BW
      repeat' (first | simp (disch := omega) only [sxE, wide_div.E, Nat.reduceAdd, Nat.reduceEqDiff, Nat.reduceMul, Nat.reduceSub, Int.reduceAdd, Int.reduceSub, Int.reduceMul, Int.reduceNeg, Int.reduceLT, Int.reduceLE, Int.reduceEq, Int.reduceToNat, ↓reduceIte, Int.reducePow, Nat.reduceLeDiff, Nat.reduceLT, ne_eq, eq_self, List.length_cons, List.length_nil, hk, hq, hm, hp2, Int.one_mul] | (with_reducible refine Sx.call_at (f := 166) (fun W hW => g_wcompare_me (by assumption) (by assumption) W) ?_) | (with_reducible refine Sx.call_at (f := 167) (fun W hW => g_wsub_me (by assumption) (by assumption) W) ?_) | (with_reducible refine Sx.call_at (f := 201) (fun W hW => g_halved (by assumption) W) ?_) | (with_reducible refine cregF ?_))
      exact ⟨(r - D, q + 2 ^ k, D / 2, k), ⟨hI2, hH, aH, aR, aQ⟩, Nat.lt_succ_self _, rfl, rfl, by simp only [W4, v0, v1, v2, v3], rfl⟩
     ·have hq : (k : Int) / 64 = 2 := by omega
      obtain ⟨v0, v1, v2, v3⟩ := BW.2.2.1 rfl
      clear BW
      repeat' (first | simp (disch := omega) only [sxE, wide_div.E, Nat.reduceAdd, Nat.reduceEqDiff, Nat.reduceMul, Nat.reduceSub, Int.reduceAdd, Int.reduceSub, Int.reduceMul, Int.reduceNeg, Int.reduceLT, Int.reduceLE, Int.reduceEq, Int.reduceToNat, ↓reduceIte, Int.reducePow, Nat.reduceLeDiff, Nat.reduceLT, ne_eq, eq_self, List.length_cons, List.length_nil, hk, hq, hm, hp2, Int.one_mul] | (with_reducible refine Sx.call_at (f := 166) (fun W hW => g_wcompare_me (by assumption) (by assumption) W) ?_) | (with_reducible refine Sx.call_at (f := 167) (fun W hW => g_wsub_me (by assumption) (by assumption) W) ?_) | (with_reducible refine Sx.call_at (f := 201) (fun W hW => g_halved (by assumption) W) ?_) | (with_reducible refine cregF ?_))
      exact ⟨(r - D, q + 2 ^ k, D / 2, k), ⟨hI2, hH, aH, aR, aQ⟩, Nat.lt_succ_self _, rfl, rfl, by simp only [W4, v0, v1, v2, v3], rfl⟩
     ·have hq : (k : Int) / 64 = 3 := by omega
      obtain ⟨v0, v1, v2, v3⟩ := BW.2.2.2 rfl
      clear BW
      repeat' (first | simp (disch := omega) only [sxE, wide_div.E, Nat.reduceAdd, Nat.reduceEqDiff, Nat.reduceMul, Nat.reduceSub, Int.reduceAdd, Int.reduceSub, Int.reduceMul, Int.reduceNeg, Int.reduceLT, Int.reduceLE, Int.reduceEq, Int.reduceToNat, ↓reduceIte, Int.reducePow, Nat.reduceLeDiff, Nat.reduceLT, ne_eq, eq_self, List.length_cons, List.length_nil, hk, hq, hm, hp2, Int.one_mul] | (with_reducible refine Sx.call_at (f := 166) (fun W hW => g_wcompare_me (by assumption) (by assumption) W) ?_) | (with_reducible refine Sx.call_at (f := 167) (fun W hW => g_wsub_me (by assumption) (by assumption) W) ?_) | (with_reducible refine Sx.call_at (f := 201) (fun W hW => g_halved (by assumption) W) ?_) | (with_reducible refine cregF ?_))
      exact ⟨(r - D, q + 2 ^ k, D / 2, k), ⟨hI2, hH, aH, aR, aQ⟩, Nat.lt_succ_self _, rfl, rfl, by simp only [W4, v0, v1, v2, v3], rfl⟩
     ·omega
    ·have hI2 := st2 hle
     have hc0 : ¬ 0 ≤ cm r D := fun h => hle (hcm.1 h)
     unfold dvF
     clear st1 st2 hcm hI hD hD'
     repeat' (first | simp (disch := omega) only [sxE, wide_div.E, Nat.reduceAdd, Nat.reduceEqDiff, Nat.reduceMul, Nat.reduceSub, Int.reduceAdd, Int.reduceSub, Int.reduceMul, Int.reduceNeg, Int.reduceLT, Int.reduceLE, Int.reduceEq, Int.reduceToNat, ↓reduceIte, Int.reducePow, Nat.reduceLeDiff, Nat.reduceLT, ne_eq, eq_self, List.length_cons, List.length_nil, hk] | (with_reducible refine Sx.call_at (f := 166) (fun W hW => g_wcompare_me (by assumption) (by assumption) W) ?_) | (with_reducible refine Sx.call_at (f := 201) (fun W hW => g_halved (by assumption) W) ?_) | (with_reducible refine cregF ?_))
     exact ⟨(r, q, D / 2, k), ⟨hI2, hH, aH, ar, aq⟩, Nat.lt_succ_self _, rfl, rfl, rfl, rfl⟩
theorem g_div {a b : Int} (ha : A4 a) (hb : A4 b) (hb0 : 0 < b) (W : World) : Gives Tryz.prog 189 [ME a, ME b] W (· = .tuple #[ME (a / b), ME (a % b)]) := gives_known en_wide_div (div_any ha hb hb0 W)
end Go.Proofs.YtncmmbacoknefaaGreat

/- Gg: What a call of the program's DivMod gives. -/
namespace Go.Proofs.YtncmmbacoknefaaGreat
open Go Go.RowKit Sx
set_option linter.unusedVariables false
set_option linter.unusedSimpArgs false
theorem IsW.me {v : Value} {z : Int} (h : IsW v z) : ∃ n m, v = WV n (lb0 m) (lb1 m) (lb2 m) (lb3 m) ∧ A4 m ∧ ab z = m ∧ z = sv n m ∧ (n && !mz (lb0 m) (lb1 m) (lb2 m) (lb3 m)) = decide (z < 0) := by
 obtain ⟨n, a, b, c, d, rfl, rfl, ha, hb, hc, hd⟩ := h
 refine ⟨n, MV a b c d, ?_, a4_mv ha hb hc hd, ab_wv ha hb hc hd, ?_, ?_⟩
 ·rw [lb0_mv _ _ _ ha, lb1_mv _ _ ha hb, lb2_mv _ ha hb hc, lb3_mv ha hb hc hd]
 ·rfl
 ·rw [lb0_mv _ _ _ ha, lb1_mv _ _ ha hb, lb2_mv _ ha hb hc, lb3_mv ha hb hc hd]
  exact (sg_wv (n := n) ha hb hc hd).symm
theorem mz_me {m : Int} (h : A4 m) : mz (lb0 m) (lb1 m) (lb2 m) (lb3 m) = decide (m = 0) := by
 rw [Bool.eq_iff_iff, mz_iff (lb0_in m) (lb1_in m) (lb2_in m) (lb3_in m), mv_me h, decide_eq_true_iff]
theorem g_signed_me {n : Bool} {m : Int} (h : A4 m) (W : World) : Gives Tryz.prog 163 [.bool n, ME m] W (· = WE (sv n m)) := by
 rw [← sv_signed h.1 (up4_a4 h)]
 exact g_signed n _ _ _ _ W
theorem g_wadd1 {m : Int} (h : A4 m) (W : World) : Gives Tryz.prog 165 [ME m, MG 1 0 0 0] W (· = .tuple #[ME (m + 1), .int .u64 (up4 (m + 1))]) := by
 have e := wadd_any (lb0 m) (lb1 m) (lb2 m) (lb3 m) 1 0 0 0 (lb0_in m) (lb1_in m) (lb2_in m) (lb3_in m) ⟨by decide, by decide⟩ ⟨by decide, by decide⟩ ⟨by decide, by decide⟩ ⟨by decide, by decide⟩ W
 rw [mv_me h, show MV 1 0 0 0 = 1 from rfl] at e
 exact gives_known en_wide_add e
theorem dm_plain {z y : Int} (hy : y ≠ 0) : (¬ z < 0 ∨ ab z % ab y = 0 → z / y = sv (decide (z < 0) != decide (y < 0)) (ab z / ab y) ∧ z % y = ab z % ab y) ∧
  (z < 0 → ab z % ab y ≠ 0 → z / y = sv (decide (z < 0) != decide (y < 0)) (ab z / ab y + 1) ∧ z % y = ab y - ab z % ab y) := by
 have hn : 0 < ab y := by unfold ab; split <;> omega
 have e1 := Int.mul_ediv_add_emod (ab z) (ab y)
 have e2 := Int.emod_nonneg (ab z) (Int.ne_of_gt hn)
 have e3 := Int.emod_lt_of_pos (ab z) hn
 have q0 := Int.ediv_nonneg (ab_nonneg z) (Int.le_of_lt hn)
 generalize ab z / ab y = Q at *
 generalize ab z % ab y = R at *
 have key : ∀ q r : Int, r + y * q = z → 0 ≤ r → r < ab y → z / y = q ∧ z % y = r := fun q r h1 h2 h3 => by
  rcases Int.lt_or_lt_of_ne hy with h | h
  ·exact (Int.ediv_emod_unique' h).2 ⟨h1, h2, by unfold ab at h3; rw [if_pos h] at h3; exact h3⟩
  ·exact (Int.ediv_emod_unique h).2 ⟨h1, h2, by unfold ab at h3; rw [if_neg (by omega)] at h3; exact h3⟩
 by_cases hz : z < 0
 ·have az : ab z = -z := by unfold ab; rw [if_pos hz]
  rw [az] at e1
  by_cases hy0 : y < 0
  ·have ay : ab y = -y := by unfold ab; rw [if_pos hy0]
   rw [decide_eq_true hz, decide_eq_true hy0]
   rw [ay] at e1 e3 hn ⊢
   refine ⟨fun h => key _ _ ?_ e2 (by rw [ay]; exact e3), fun _ h => key _ _ ?_ (by omega) (by rw [ay]; omega)⟩
   ·show R + y * Q = z
    rw [Int.neg_mul] at e1
    omega
   ·show (-y - R) + y * (Q + 1) = z
    rw [Int.neg_mul] at e1
    rw [Int.mul_add]
    omega
  ·have ay : ab y = y := by unfold ab; rw [if_neg hy0]
   rw [decide_eq_true hz, decide_eq_false hy0]
   rw [ay] at e1 e3 hn ⊢
   refine ⟨fun h => key _ _ ?_ e2 (by rw [ay]; exact e3), fun _ h => key _ _ ?_ (by omega) (by rw [ay]; omega)⟩
   ·show R + y * -Q = z
    rw [Int.mul_neg]
    omega
   ·show (y - R) + y * -(Q + 1) = z
    rw [Int.mul_neg, Int.mul_add]
    omega
 ·have az : ab z = z := by unfold ab; rw [if_neg hz]
  rw [az] at e1
  refine ⟨fun _ => ?_, fun h => absurd h hz⟩
  by_cases hy0 : y < 0
  ·have ay : ab y = -y := by unfold ab; rw [if_pos hy0]
   rw [decide_eq_false hz, decide_eq_true hy0]
   rw [ay] at e1 e3 hn
   refine key _ _ ?_ e2 (by rw [ay]; exact e3)
   show R + y * -Q = z
   rw [Int.mul_neg]
   rw [Int.neg_mul] at e1
   omega
  ·have ay : ab y = y := by unfold ab; rw [if_neg hy0]
   rw [decide_eq_false hz, decide_eq_false hy0]
   rw [ay] at e1 e3 hn
   refine key _ _ ?_ e2 (by rw [ay]; exact e3)
   show R + y * Q = z
   omega
def dr (z y : Int) : Int := if y = 0 then 0 else z % y
set_option maxRecDepth 100000 in
theorem g_divmod {v v' : Value} {z y : Int} (h : IsW v z) (h' : IsW v' y) (W : World) : Gives Tryz.prog 171 [v, v'] W (· = .tuple #[WE (z / y), WE (dr z y), .bool (decide (y ≠ 0))]) := by
  obtain ⟨n, m, rfl, am, hab, hz, hn⟩ := h.me
  obtain ⟨n', m', rfl, am', hab', hy, hn'⟩ := h'.me
  refine gives_known en_wide_DivMod ?_
  have p1 : cn n (lb0 m) (lb1 m) (lb2 m) (lb3 m) = decide (z < 0) := hn
  have p2 : cn n' (lb0 m') (lb1 m') (lb2 m') (lb3 m') = decide (y < 0) := hn'
  have SI : IsW (WV (decide (y < 0)) (lb0 m') (lb1 m') (lb2 m') (lb3 m')) y := by
    have := IsW.raw (n := cn n' (lb0 m') (lb1 m') (lb2 m') (lb3 m')) (lb0_in m') (lb1_in m') (lb2_in m') (lb3_in m')
    rw [wv_cn, p2] at this
    have e : wv n' (lb0 m') (lb1 m') (lb2 m') (lb3 m') = y := by rw [hy]; unfold wv sv; rw [mv_me am']
    rw [e] at this
    exact this
  clear hz hy hn hn'
  have hcm := cm_zero y
  have hmz := mz_me (m := m % m')
  by_cases hy0 : y = 0
  · have hc0 : cm y 0 = 0 := by subst hy0; rfl
    have e1 : z / y = 0 := by rw [hy0]; exact Int.ediv_zero z
    have e2 : dr z y = 0 := if_pos hy0
    have e3 : decide (y ≠ 0) = false := by simp [hy0]
    rw [e1, e2, e3]
    clear hcm hmz e1 e2 e3 hab hab'
    refine known_of (enter Tryz.func171 wide_DivMod.ok (args := [WV n (lb0 m) (lb1 m) (lb2 m) (lb3 m), WV n' (lb0 m') (lb1 m') (lb2 m') (lb3 m')]) (by simp) ?_)
    repeat' (first | simp (disch := omega) only [sxE, wide_DivMod.E, Nat.reduceAdd, Nat.reduceEqDiff, Nat.reduceMul, Nat.reduceSub, Int.reduceAdd, Int.reduceSub, Int.reduceMul, Int.reduceNeg, Int.reduceLT, Int.reduceLE, Int.reduceEq, Int.reduceToNat, ↓reduceIte, Int.reducePow, Nat.reduceLeDiff, Nat.reduceLT, ne_eq, eq_self, List.length_cons, List.length_nil, p1, p2] | (with_reducible refine Sx.call_at (f := 161) (fun W hW => g_clean _ _ _ _ _ W) ?_) | (with_reducible refine Sx.call_at (f := 140) (fun W hW => g_sign SI W) ?_) | (with_reducible refine cregF ?_))
    rfl
  · have hc0 : cm y 0 ≠ 0 := by rw [hcm]; split <;> (try split) <;> omega
    have e3 : decide (y ≠ 0) = true := by simp [hy0]
    have hm' : 0 < m' := by rw [← hab']; unfold ab; split <;> omega
    obtain ⟨D1, D2⟩ := dm_plain (z := z) hy0
    rw [hab, hab'] at D1 D2
    have e2 : dr z y = z % y := if_neg hy0
    rw [e2, e3]
    have ar : A4 (m % m') := ⟨Int.emod_nonneg _ (by omega), by have := Int.emod_lt_of_pos m hm'; have := am'.2; omega⟩
    have aq : A4 (m / m') := ⟨Int.ediv_nonneg am.1 (by omega), by have := Int.ediv_le_self m' am.1; have := am.2; omega⟩
    replace hmz := hmz ar
    unfold mz at hmz
    by_cases hC : ¬ z < 0 ∨ m % m' = 0
    · obtain ⟨e4, e5⟩ := D1 hC
      rw [e4, e5]
      clear hcm e2 e3 e4 e5 D1 D2 hab hab'
      by_cases hz0 : z < 0
      · have hr0 : m % m' = 0 := by omega
        refine known_of (enter Tryz.func171 wide_DivMod.ok (args := [WV n (lb0 m) (lb1 m) (lb2 m) (lb3 m), WV n' (lb0 m') (lb1 m') (lb2 m') (lb3 m')]) (by simp) ?_)
        repeat' (first | simp (disch := omega) only [sxE, wide_DivMod.E, Nat.reduceAdd, Nat.reduceEqDiff, Nat.reduceMul, Nat.reduceSub, Int.reduceAdd, Int.reduceSub, Int.reduceMul, Int.reduceNeg, Int.reduceLT, Int.reduceLE, Int.reduceEq, Int.reduceToNat, ↓reduceIte, Int.reducePow, Nat.reduceLeDiff, Nat.reduceLT, ne_eq, eq_self, List.length_cons, List.length_nil, p1, p2, hmz] | (with_reducible refine Sx.call_at (f := 161) (fun W hW => g_clean _ _ _ _ _ W) ?_) | (with_reducible refine Sx.call_at (f := 140) (fun W hW => g_sign SI W) ?_) | (with_reducible refine Sx.call_at (f := 189) (fun W hW => g_div am am' (by omega) W) ?_) | (with_reducible refine Sx.call_at (f := 165) (fun W hW => g_wadd1 aq W) ?_) | (with_reducible refine Sx.call_at (f := 167) (fun W hW => g_wsub_me am' ar W) ?_) | (with_reducible refine Sx.call_at (f := 163) (fun W hW => g_signed_me (by assumption) W) ?_) | (with_reducible refine eq_is (fun W => by exact eqm_run _ _ _ _ _ _ _ _ W) ?_) | (with_reducible refine cregF ?_))
        rfl
      · refine known_of (enter Tryz.func171 wide_DivMod.ok (args := [WV n (lb0 m) (lb1 m) (lb2 m) (lb3 m), WV n' (lb0 m') (lb1 m') (lb2 m') (lb3 m')]) (by simp) ?_)
        repeat' (first | simp (disch := omega) only [sxE, wide_DivMod.E, Nat.reduceAdd, Nat.reduceEqDiff, Nat.reduceMul, Nat.reduceSub, Int.reduceAdd, Int.reduceSub, Int.reduceMul, Int.reduceNeg, Int.reduceLT, Int.reduceLE, Int.reduceEq, Int.reduceToNat, ↓reduceIte, Int.reducePow, Nat.reduceLeDiff, Nat.reduceLT, ne_eq, eq_self, List.length_cons, List.length_nil, p1, p2, hmz] | (with_reducible refine Sx.call_at (f := 161) (fun W hW => g_clean _ _ _ _ _ W) ?_) | (with_reducible refine Sx.call_at (f := 140) (fun W hW => g_sign SI W) ?_) | (with_reducible refine Sx.call_at (f := 189) (fun W hW => g_div am am' (by omega) W) ?_) | (with_reducible refine Sx.call_at (f := 165) (fun W hW => g_wadd1 aq W) ?_) | (with_reducible refine Sx.call_at (f := 167) (fun W hW => g_wsub_me am' ar W) ?_) | (with_reducible refine Sx.call_at (f := 163) (fun W hW => g_signed_me (by assumption) W) ?_) | (with_reducible refine eq_is (fun W => by exact eqm_run _ _ _ _ _ _ _ _ W) ?_) | (with_reducible refine cregF ?_))
        rfl
    · have hz0 : z < 0 := by omega
      have hr0 : m % m' ≠ 0 := by omega
      obtain ⟨e4, e5⟩ := D2 hz0 hr0
      rw [e4, e5]
      clear hcm e2 e3 e4 e5 D1 D2 hab hab'
      have asx : A4 (m' - m % m') := ⟨by have := Int.emod_lt_of_pos m hm'; omega, by have := ar.1; have := am'.2; omega⟩
      have aq1 : A4 (m / m' + 1) := by
        refine ⟨by have := aq.1; omega, ?_⟩
        have h2 : 2 ≤ m' := by
          rcases Int.lt_or_le m' 2 with h | h
          · exact absurd (show m % m' = 0 by have : m' = 1 := by omega
                                             rw [this]; exact Int.emod_one m) hr0
          · exact h
        have := Int.mul_ediv_add_emod m m'
        have h3 := Int.mul_le_mul_of_nonneg_right h2 aq.1
        have := am.2
        have := ar.1
        omega
      refine known_of (enter Tryz.func171 wide_DivMod.ok (args := [WV n (lb0 m) (lb1 m) (lb2 m) (lb3 m), WV n' (lb0 m') (lb1 m') (lb2 m') (lb3 m')]) (by simp) ?_)
      repeat' (first | simp (disch := omega) only [sxE, wide_DivMod.E, Nat.reduceAdd, Nat.reduceEqDiff, Nat.reduceMul, Nat.reduceSub, Int.reduceAdd, Int.reduceSub, Int.reduceMul, Int.reduceNeg, Int.reduceLT, Int.reduceLE, Int.reduceEq, Int.reduceToNat, ↓reduceIte, Int.reducePow, Nat.reduceLeDiff, Nat.reduceLT, ne_eq, eq_self, List.length_cons, List.length_nil, p1, p2, hmz] | (with_reducible refine Sx.call_at (f := 161) (fun W hW => g_clean _ _ _ _ _ W) ?_) | (with_reducible refine Sx.call_at (f := 140) (fun W hW => g_sign SI W) ?_) | (with_reducible refine Sx.call_at (f := 189) (fun W hW => g_div am am' (by omega) W) ?_) | (with_reducible refine Sx.call_at (f := 165) (fun W hW => g_wadd1 aq W) ?_) | (with_reducible refine Sx.call_at (f := 167) (fun W hW => g_wsub_me am' ar W) ?_) | (with_reducible refine Sx.call_at (f := 163) (fun W hW => g_signed_me (by assumption) W) ?_) | (with_reducible refine eq_is (fun W => by exact eqm_run _ _ _ _ _ _ _ _ W) ?_) | (with_reducible refine cregF ?_))
      rfl
end Go.Proofs.YtncmmbacoknefaaGreat

/- He: What calls of the reference of wide give. -/
namespace Go.Proofs.YtncmmbacoknefaaGreat
open Go Go.RowKit Sx
set_option linter.unusedVariables false
set_option linter.unusedSimpArgs false
theorem rg_valid (n : Bool) {a b c d : Int} (ha : U64 a) (hb : U64 b) (hc : U64 c) (hd : U64 d) (W : World) : Gives Tryz.prog 100 [WV n a b c d] W (· = .bool (!n || !mz a b c d)) := gives_known en_r02_Valid (rvalid_any n a b c d ha hb hc hd W)
theorem rg_clean (n : Bool) {a b c d : Int} (ha : U64 a) (hb : U64 b) (hc : U64 c) (hd : U64 d) (W : World) : Gives Tryz.prog 109 [WV n a b c d] W (· = WV (cn n a b c d) a b c d) := gives_known en_r02_clean (rclean_any n a b c d ha hb hc hd W)
theorem rg_sign {v : Value} {z : Int} (h : IsW v z) (W : World) : Gives Tryz.prog 104 [v] W (· = .int .i64 (cm z 0)) := by
 obtain ⟨n, a, b, c, d, rfl, rfl, ha, hb, hc, hd⟩ := h
 exact gives_known en_r02_Sign (rsign_any n a b c d ha hb hc hd W)
theorem rg_neg {v : Value} {z : Int} (h : IsW v z) (W : World) : Gives Tryz.prog 117 [v] W (· = WE (-z)) := gives_known en_r02_Neg (rneg_w h W)
theorem rg_add {v v' : Value} {z z' : Int} (h : IsW v z) (h' : IsW v' z') (W : World) : Gives Tryz.prog 51 [v, v'] W (· = .tuple #[WE (cl (z + z')), .bool (fb (z + z'))]) := gives_known en_r02_Add (radd_w h h' W)
theorem rg_mul {v v' : Value} {z z' : Int} (h : IsW v z) (h' : IsW v' z') (W : World) : Gives Tryz.prog 76 [v, v'] W (· = .tuple #[WE (cl (z * z')), .bool (fb (z * z'))]) := gives_known en_r02_Mul (rmul_w h h' W)
theorem rg_sub {v v' : Value} {z z' : Int} (h : IsW v z) (h' : IsW v' z') (W : World) : Gives Tryz.prog 53 [v, v'] W (· = .tuple #[WE (cl (z - z')), .bool (fb (z - z'))]) := gives_known en_r02_Sub (rsub_w h h' W)
theorem rg_Of {v : Int} (h : I64 v) (W : World) : Gives Tryz.prog 50 [.int .i64 v] W (· = WE v) := gives_known en_r02_Of (rOf_any v h W)
theorem rg_OfU {v : Int} (h : U64 v) (W : World) : Gives Tryz.prog 75 [.int .u64 v] W (· = WE v) := by
 refine gives_known en_r02_OfUnsigned ?_
 rw [we_uns v h]
 refine known_of (enter Tryz.func75 r02_OfUnsigned.ok (args := [.int .u64 v]) (by simp) ?_)
 repeat' (first | simp (disch := omega) only [sxE, r02_OfUnsigned.E, Nat.reduceAdd, Nat.reduceEqDiff, Nat.reduceMul, Nat.reduceSub, Int.reduceAdd, Int.reduceSub, Int.reduceMul, Int.reduceNeg, Int.reduceLT, Int.reduceLE, Int.reduceEq, Int.reduceToNat, ↓reduceIte, Int.reducePow, Nat.reduceLeDiff, Nat.reduceLT, ne_eq, eq_self, List.length_cons, List.length_nil] | (with_reducible refine cregF ?_))
theorem of_mag {n : Bool} {m : Int} (h : A4 m) (W : World) : Calls Tryz.prog 110 #[WV n (lb0 m) (lb1 m) (lb2 m) (lb3 m)] W (MagP W m) := by
 have := rof_any n (lb0 m) (lb1 m) (lb2 m) (lb3 m) (lb0_in m) (lb1_in m) (lb2_in m) (lb3_in m) W
 rw [mv_me h] at this
 exact this
theorem cmp_mul {z y : Int} : (cm z 0 ≠ cm y 0 → cm z y = if cm z 0 < cm y 0 then -1 else 1) ∧ (cm z 0 = cm y 0 → cm z y = cm z 0 * cm (ab z) (ab y)) := by
 rw [cm_zero, cm_zero]
 unfold cm ab
 refine ⟨fun h => ?_, fun h => ?_⟩
 all_goals
  repeat' split
  all_goals (repeat' (split at h))
  all_goals omega
set_option maxRecDepth 100000 in
theorem rg_compare {v v' : Value} {z z' : Int} (h : IsW v z) (h' : IsW v' z') (W : World) : Gives Tryz.prog 54 [v, v'] W (· = .int .i64 (cm z z')) := by
 have s1 := fun W => rg_sign h W
 have s2 := fun W => rg_sign h' W
 obtain ⟨k1, k2⟩ := cmp_mul (z := z) (y := z')
 obtain ⟨n, m, rfl, am, hab, -, -⟩ := h.me
 obtain ⟨n', m', rfl, am', hab', -, -⟩ := h'.me
 rw [hab, hab'] at k2
 clear h h' hab hab'
 refine gives_known en_r02_Compare ?_
 have b1 : -1 ≤ cm z 0 ∧ cm z 0 ≤ 1 := by rw [cm_zero]; (repeat' split) <;> omega
 have b2 : -1 ≤ cm z' 0 ∧ cm z' 0 ≤ 1 := by rw [cm_zero]; (repeat' split) <;> omega
 have b3 : -1 ≤ cm m m' ∧ cm m m' ≤ 1 := by unfold cm; (repeat' split) <;> omega
 generalize cm z 0 = p at *
 generalize cm z' 0 = q at *
 generalize cm z z' = r at *
 refine known_of (enter Tryz.func54 r02_Compare.ok (args := [WV n (lb0 m) (lb1 m) (lb2 m) (lb3 m), WV n' (lb0 m') (lb1 m') (lb2 m') (lb3 m')]) (by simp) ?_)
 by_cases hpq : p = q
 ·have hne : (p == q) = true := beq_iff_eq.2 hpq
  repeat' (first | simp (disch := omega) only [sxE, r02_Compare.E, Nat.reduceAdd, Nat.reduceEqDiff, Nat.reduceMul, Nat.reduceSub, Int.reduceAdd, Int.reduceSub, Int.reduceMul, Int.reduceNeg, Int.reduceLT, Int.reduceLE, Int.reduceEq, Int.reduceToNat, ↓reduceIte, Int.reducePow, Nat.reduceLeDiff, Nat.reduceLT, ne_eq, eq_self, List.length_cons, List.length_nil, hne] | (with_reducible refine Sx.call_at (f := 104) (fun W hW => s1 W) ?_) | (with_reducible refine Sx.call_at (f := 104) (fun W hW => s2 W) ?_) | (with_reducible refine cregF ?_))
  refine asks_r (L := []) (ws := wl m) en_r02_of (kX_nil _) (fun W hW _ => of_mag am W) fun a1 c1 hs1 hn1 => ?_
  simp (disch := omega) only [sxE, r02_Compare.E, Nat.reduceAdd, Nat.reduceEqDiff, Nat.reduceMul, Nat.reduceSub, Int.reduceAdd, Int.reduceSub, Int.reduceMul, Int.reduceNeg, Int.reduceLT, Int.reduceLE, Int.reduceEq, Int.reduceToNat, ↓reduceIte, Int.reducePow, Nat.reduceLeDiff, Nat.reduceLT, ne_eq, eq_self, List.length_cons, List.length_nil]
  refine asks_r (L := [.r (.slice a1 (wl m).length c1) (wl m)]) (ws := wl m') en_r02_of rfl (fun W hW _ => of_mag am' W) fun a2 c2 hs2 hn2 => ?_
  simp (disch := omega) only [sxE, r02_Compare.E, Nat.reduceAdd, Nat.reduceEqDiff, Nat.reduceMul, Nat.reduceSub, Int.reduceAdd, Int.reduceSub, Int.reduceMul, Int.reduceNeg, Int.reduceLT, Int.reduceLE, Int.reduceEq, Int.reduceToNat, ↓reduceIte, Int.reducePow, Nat.reduceLeDiff, Nat.reduceLT, ne_eq, eq_self, List.length_cons, List.length_nil]
  refine asks_ext (v := .int .i64 (cm m m')) (fun W hW hok => gives_known en_r02_compare ((rcompare_any _ _ _ _ _ _ _ _ am.1 am'.1 W (hok (.r (.slice a1 (wl m).length c1) (wl m)) (List.mem_cons_of_mem _ List.mem_cons_self)).1 (hok (.r (.slice a2 (wl m').length c2) (wl m')) List.mem_cons_self).1).mono fun e w' ⟨he, d, hd⟩ => ⟨he, by subst hd; exact below_drewN (Below.refl _ _)⟩)) ?_
  have hw : IntKind.i64.wrap (p * cm m m') = r := by
   rw [k2 hpq]
   have p3 : p = -1 ∨ p = 0 ∨ p = 1 := by omega
   have c3 : cm m m' = -1 ∨ cm m m' = 0 ∨ cm m m' = 1 := by omega
   rcases p3 with e | e | e <;> rcases c3 with f | f | f <;> rw [e, f] <;> rfl
  simp (disch := omega) only [sxE, r02_Compare.E, Nat.reduceAdd, Nat.reduceEqDiff, Nat.reduceMul, Nat.reduceSub, Int.reduceAdd, Int.reduceSub, Int.reduceMul, Int.reduceNeg, Int.reduceLT, Int.reduceLE, Int.reduceEq, Int.reduceToNat, ↓reduceIte, Int.reducePow, Nat.reduceLeDiff, Nat.reduceLT, ne_eq, eq_self, List.length_cons, List.length_nil, hw]
 ·have hr := k1 hpq
  by_cases hlt : p < q
  ·rw [if_pos hlt] at hr
   subst hr
   repeat' (first | simp (disch := omega) only [sxE, r02_Compare.E, Nat.reduceAdd, Nat.reduceEqDiff, Nat.reduceMul, Nat.reduceSub, Int.reduceAdd, Int.reduceSub, Int.reduceMul, Int.reduceNeg, Int.reduceLT, Int.reduceLE, Int.reduceEq, Int.reduceToNat, ↓reduceIte, Int.reducePow, Nat.reduceLeDiff, Nat.reduceLT, ne_eq, eq_self, List.length_cons, List.length_nil] | (with_reducible refine Sx.call_at (f := 104) (fun W hW => s1 W) ?_) | (with_reducible refine Sx.call_at (f := 104) (fun W hW => s2 W) ?_) | (with_reducible refine cregF ?_))
  ·rw [if_neg hlt] at hr
   subst hr
   repeat' (first | simp (disch := omega) only [sxE, r02_Compare.E, Nat.reduceAdd, Nat.reduceEqDiff, Nat.reduceMul, Nat.reduceSub, Int.reduceAdd, Int.reduceSub, Int.reduceMul, Int.reduceNeg, Int.reduceLT, Int.reduceLE, Int.reduceEq, Int.reduceToNat, ↓reduceIte, Int.reducePow, Nat.reduceLeDiff, Nat.reduceLT, ne_eq, eq_self, List.length_cons, List.length_nil] | (with_reducible refine Sx.call_at (f := 104) (fun W hW => s1 W) ?_) | (with_reducible refine Sx.call_at (f := 104) (fun W hW => s2 W) ?_) | (with_reducible refine cregF ?_))
end Go.Proofs.YtncmmbacoknefaaGreat

/- Hf: What calls of the reference's DivMod and Unsigned give; the numbers as atoms. -/
namespace Go.Proofs.YtncmmbacoknefaaGreat
open Go Go.RowKit Sx
set_option linter.unusedVariables false
set_option linter.unusedSimpArgs false
theorem g_wide {neg : Bool} {a : Option Addr} {len cap : Nat} {ws : List Int} {W : World} (h : SlU W (.slice a len cap) ws) : Gives Tryz.prog 111 [.bool neg, .slice a len cap] W (· = .tuple #[WE (cl (sv neg (VL ws))), .bool (fb (sv neg (VL ws)))]) :=
 gives_known en_r02_wide (rwide_any neg a len cap ws W h)
theorem ask_wide {C : Cx} {S : St} {K : St → Prop} {d : Option Nat} {L : List Kn} {a : Option Addr} {c : Nat} {t z : Int} {neg : Bool} (hP : C.P = Tryz.prog) (hT : S.T = kX C.w0.heap.size L) (hm : .r (.slice a (wl t).length c) (wl t) ∈ L) (ht : 0 ≤ t) (e : z = sv neg t) (hf : Fits z)
  (hk : K (S.put d (.v (.tuple #[WE z, .bool true])))) : asks C 111 [.bool neg, .slice a (wl t).length c] d K S :=
 asks_ext (v := .tuple #[WE z, .bool true]) (fun W hW hok => by
  rw [hT] at hok
  have := g_wide (neg := neg) (W := W) (hok (.r (.slice a (wl t).length c) (wl t)) hm).1
  rw [VL_wl ht, ← e, cl_fit hf, fb_fit hf] at this
  rw [hP]
  exact this) hk
theorem fits_ediv {z y : Int} (h : Fits z) (hy : y ≠ 0) : Fits (z / y) := by
 refine fits_le h ?_
 rcases Int.lt_or_lt_of_ne hy with h | h
 ·have e : z / y = -(z / -y) := by rw [Int.ediv_neg, Int.neg_neg]
  rw [e, ab_neg]
  exact ab_fdiv_le z (by omega)
 ·exact ab_fdiv_le z h
theorem fits_emod {z y : Int} (h : Fits y) (hy : y ≠ 0) : Fits (z % y) := by
 refine fits_le h ?_
 have h1 := Int.emod_nonneg z hy
 rw [ab_pos h1]
 have h2 := Int.emod_lt z hy
 unfold ab
 split <;> omega
set_option maxRecDepth 100000 in
theorem rg_divmod {v v' : Value} {z y : Int} (h : IsW v z) (h' : IsW v' y) (W0 : World) : Gives Tryz.prog 116 [v, v'] W0 (· = .tuple #[WE (z / y), WE (dr z y), .bool (decide (y ≠ 0))]) := by
  have fz : Fits z := by obtain ⟨n, a, b, c, d, -, rfl, ha, hb, hc, hd⟩ := h; unfold Fits; rw [ab_wv ha hb hc hd]; exact up4_mv ha hb hc hd
  have fy : Fits y := by obtain ⟨n, a, b, c, d, -, rfl, ha, hb, hc, hd⟩ := h'; unfold Fits; rw [ab_wv ha hb hc hd]; exact up4_mv ha hb hc hd
  obtain ⟨n, m, rfl, am, hab, hz, hn⟩ := h.me
  obtain ⟨n', m', rfl, am', hab', hy, hn'⟩ := h'.me
  refine gives_known en_r02_DivMod ?_
  have p1 : cn n (lb0 m) (lb1 m) (lb2 m) (lb3 m) = decide (z < 0) := hn
  have p2 : cn n' (lb0 m') (lb1 m') (lb2 m') (lb3 m') = decide (y < 0) := hn'
  have SI : IsW (WV (decide (y < 0)) (lb0 m') (lb1 m') (lb2 m') (lb3 m')) y := by
    have := IsW.raw (n := cn n' (lb0 m') (lb1 m') (lb2 m') (lb3 m')) (lb0_in m') (lb1_in m') (lb2_in m') (lb3_in m')
    rw [wv_cn, p2] at this
    have e : wv n' (lb0 m') (lb1 m') (lb2 m') (lb3 m') = y := by rw [hy]; unfold wv sv; rw [mv_me am']
    rw [e] at this
    exact this
  clear hz hy hn hn' h h'
  have hcm := cm_zero y
  by_cases hy0 : y = 0
  · have hc0 : cm y 0 = 0 := by subst hy0; rfl
    have e1 : z / y = 0 := by rw [hy0]; exact Int.ediv_zero z
    have e2 : dr z y = 0 := if_pos hy0
    have e3 : decide (y ≠ 0) = false := by simp [hy0]
    rw [e1, e2, e3]
    clear hcm e1 e2 e3 hab hab'
    refine known_of (enter Tryz.func116 r02_DivMod.ok (args := [WV n (lb0 m) (lb1 m) (lb2 m) (lb3 m), WV n' (lb0 m') (lb1 m') (lb2 m') (lb3 m')]) (by simp) ?_)
    repeat' (first | simp (disch := omega) only [sxE, r02_DivMod.E, Nat.reduceAdd, Nat.reduceEqDiff, Nat.reduceMul, Nat.reduceSub, Int.reduceAdd, Int.reduceSub, Int.reduceMul, Int.reduceNeg, Int.reduceLT, Int.reduceLE, Int.reduceEq, Int.reduceToNat, ↓reduceIte, Int.reducePow, Nat.reduceLeDiff, Nat.reduceLT, ne_eq, eq_self, List.length_cons, List.length_nil, p1, p2] | (with_reducible refine Sx.call_at (f := 109) (fun W hW => rg_clean _ (lb0_in _) (lb1_in _) (lb2_in _) (lb3_in _) W) ?_) | (with_reducible refine Sx.call_at (f := 104) (fun W hW => rg_sign SI W) ?_) | (with_reducible refine cregF ?_))
    rfl
  · have hc0 : cm y 0 ≠ 0 := by rw [hcm]; split <;> (try split) <;> omega
    have e3 : decide (y ≠ 0) = true := by simp [hy0]
    have hm' : 0 < m' := by rw [← hab']; unfold ab; split <;> omega
    obtain ⟨D1, D2⟩ := dm_plain (z := z) hy0
    rw [hab, hab'] at D1 D2
    have e2 : dr z y = z % y := if_neg hy0
    rw [e2, e3]
    have ar : A4 (m % m') := ⟨Int.emod_nonneg _ (by omega), by have := Int.emod_lt_of_pos m hm'; have := am'.2; omega⟩
    have aq : A4 (m / m') := ⟨Int.ediv_nonneg am.1 (by omega), by have := Int.ediv_le_self m' am.1; have := am.2; omega⟩
    have q1 := fits_ediv fz hy0
    have q2 := fits_emod (z := z) fy hy0
    generalize hQ : z / y = Q at *
    generalize hR : z % y = R at *
    refine known_of (enter Tryz.func116 r02_DivMod.ok (args := [WV n (lb0 m) (lb1 m) (lb2 m) (lb3 m), WV n' (lb0 m') (lb1 m') (lb2 m') (lb3 m')]) (by simp) ?_)
    repeat' (first | simp (disch := omega) only [sxE, r02_DivMod.E, Nat.reduceAdd, Nat.reduceEqDiff, Nat.reduceMul, Nat.reduceSub, Int.reduceAdd, Int.reduceSub, Int.reduceMul, Int.reduceNeg, Int.reduceLT, Int.reduceLE, Int.reduceEq, Int.reduceToNat, ↓reduceIte, Int.reducePow, Nat.reduceLeDiff, Nat.reduceLT, ne_eq, eq_self, List.length_cons, List.length_nil, p1, p2] | (with_reducible refine Sx.call_at (f := 109) (fun W hW => rg_clean _ (lb0_in _) (lb1_in _) (lb2_in _) (lb3_in _) W) ?_) | (with_reducible refine Sx.call_at (f := 104) (fun W hW => rg_sign SI W) ?_) | (with_reducible refine cregF ?_))
    refine asks_r (L := []) (ws := wl m) en_r02_of (kX_nil _) (fun W hW _ => of_mag am W) fun a1 c1 hs1 hn1 => ?_
    simp (disch := omega) only [sxE, r02_DivMod.E, Nat.reduceAdd, Nat.reduceEqDiff, Nat.reduceMul, Nat.reduceSub, Int.reduceAdd, Int.reduceSub, Int.reduceMul, Int.reduceNeg, Int.reduceLT, Int.reduceLE, Int.reduceEq, Int.reduceToNat, ↓reduceIte, Int.reducePow, Nat.reduceLeDiff, Nat.reduceLT, ne_eq, eq_self, List.length_cons, List.length_nil]
    refine asks_r (L := [.r (.slice a1 (wl m).length c1) (wl m)]) (ws := wl m') en_r02_of rfl (fun W hW _ => of_mag am' W) fun a2 c2 hs2 hn2 => ?_
    simp (disch := omega) only [sxE, r02_DivMod.E, Nat.reduceAdd, Nat.reduceEqDiff, Nat.reduceMul, Nat.reduceSub, Int.reduceAdd, Int.reduceSub, Int.reduceMul, Int.reduceNeg, Int.reduceLT, Int.reduceLE, Int.reduceEq, Int.reduceToNat, ↓reduceIte, Int.reducePow, Nat.reduceLeDiff, Nat.reduceLT, ne_eq, eq_self, List.length_cons, List.length_nil]
    refine asks_r2 (L := [.r (.slice a2 (wl m').length c2) (wl m'), .r (.slice a1 (wl m).length c1) (wl m)]) (ws := wl (m / m')) (vs := wl (m % m')) en_r02_divmod rfl (fun W hW hok => rdivmod_any am am' hm' (hok (.r (.slice a1 (wl m).length c1) (wl m)) (List.mem_cons_of_mem _ List.mem_cons_self)).1 (hok (.r (.slice a2 (wl m').length c2) (wl m')) List.mem_cons_self).1) fun a3 c3 a4 c4 hs3 hs4 => ?_
    clear hn1 hn2 hs1 hs2 hs3 hs4 hcm p1 p2
    have l1 := pw4b ar
    have l2 := pw4b aq
    have l3 := pw4b am'
    have v1 := VL_wl aq.1
    have v2 := VL_wl ar.1
    have hl0 : ((wl (m % m')).length : Int) > 0 ↔ m % m' ≠ 0 := by
      constructor
      · intro h e; rw [e, wl_nil (Int.le_refl _)] at h; simp at h
      · intro h
        have := ar.1
        rw [wl_cons (by omega), List.length_cons]; omega
    by_cases hC : ¬ z < 0 ∨ m % m' = 0
    · obtain ⟨e4, e5⟩ := D1 hC
      clear D1 D2 hab hab' SI e3 hQ hR e2 l1 l2 l3
      have e6 : sv false (m % m') = R := e5.symm
      have hR0 : R = sv false (m % m') := e5
      by_cases hz : z < 0
      · have h0 : m % m' = 0 := by omega
        have hlf : ¬ ((wl (m % m')).length : Int) > 0 := fun h => hl0.1 h h0
        clear hl0 hC
        simp only [decide_eq_true hz]
        repeat' (first | simp (disch := omega) only [sxE, r02_DivMod.E, Nat.reduceAdd, Nat.reduceEqDiff, Nat.reduceMul, Nat.reduceSub, Int.reduceAdd, Int.reduceSub, Int.reduceMul, Int.reduceNeg, Int.reduceLT, Int.reduceLE, Int.reduceEq, Int.reduceToNat, ↓reduceIte, Int.reducePow, Nat.reduceLeDiff, Nat.reduceLT, ne_eq, eq_self, List.length_cons, List.length_nil] | (with_reducible refine cregF ?_))
        refine ask_wide rfl rfl List.mem_cons_self aq.1 (by rw [e4, decide_eq_true hz]; rfl) q1 ?_
        repeat' (first | simp (disch := omega) only [sxE, r02_DivMod.E, Nat.reduceAdd, Nat.reduceEqDiff, Nat.reduceMul, Nat.reduceSub, Int.reduceAdd, Int.reduceSub, Int.reduceMul, Int.reduceNeg, Int.reduceLT, Int.reduceLE, Int.reduceEq, Int.reduceToNat, ↓reduceIte, Int.reducePow, Nat.reduceLeDiff, Nat.reduceLT, ne_eq, eq_self, List.length_cons, List.length_nil] | (with_reducible refine cregF ?_))
        refine ask_wide rfl rfl (List.mem_cons_of_mem _ List.mem_cons_self) ar.1 hR0 q2 ?_
        repeat' (first | simp (disch := omega) only [sxE, r02_DivMod.E, Nat.reduceAdd, Nat.reduceEqDiff, Nat.reduceMul, Nat.reduceSub, Int.reduceAdd, Int.reduceSub, Int.reduceMul, Int.reduceNeg, Int.reduceLT, Int.reduceLE, Int.reduceEq, Int.reduceToNat, ↓reduceIte, Int.reducePow, Nat.reduceLeDiff, Nat.reduceLT, ne_eq, eq_self, List.length_cons, List.length_nil] | (with_reducible refine cregF ?_))
      · clear hl0 hC
        simp only [decide_eq_false hz]
        repeat' (first | simp (disch := omega) only [sxE, r02_DivMod.E, Nat.reduceAdd, Nat.reduceEqDiff, Nat.reduceMul, Nat.reduceSub, Int.reduceAdd, Int.reduceSub, Int.reduceMul, Int.reduceNeg, Int.reduceLT, Int.reduceLE, Int.reduceEq, Int.reduceToNat, ↓reduceIte, Int.reducePow, Nat.reduceLeDiff, Nat.reduceLT, ne_eq, eq_self, List.length_cons, List.length_nil] | (with_reducible refine cregF ?_))
        refine ask_wide rfl rfl List.mem_cons_self aq.1 (by rw [e4, decide_eq_false hz]; rfl) q1 ?_
        repeat' (first | simp (disch := omega) only [sxE, r02_DivMod.E, Nat.reduceAdd, Nat.reduceEqDiff, Nat.reduceMul, Nat.reduceSub, Int.reduceAdd, Int.reduceSub, Int.reduceMul, Int.reduceNeg, Int.reduceLT, Int.reduceLE, Int.reduceEq, Int.reduceToNat, ↓reduceIte, Int.reducePow, Nat.reduceLeDiff, Nat.reduceLT, ne_eq, eq_self, List.length_cons, List.length_nil] | (with_reducible refine cregF ?_))
        refine ask_wide rfl rfl (List.mem_cons_of_mem _ List.mem_cons_self) ar.1 hR0 q2 ?_
        repeat' (first | simp (disch := omega) only [sxE, r02_DivMod.E, Nat.reduceAdd, Nat.reduceEqDiff, Nat.reduceMul, Nat.reduceSub, Int.reduceAdd, Int.reduceSub, Int.reduceMul, Int.reduceNeg, Int.reduceLT, Int.reduceLE, Int.reduceEq, Int.reduceToNat, ↓reduceIte, Int.reducePow, Nat.reduceLeDiff, Nat.reduceLT, ne_eq, eq_self, List.length_cons, List.length_nil] | (with_reducible refine cregF ?_))
    · have hz : z < 0 := by omega
      have h0 : m % m' ≠ 0 := by omega
      obtain ⟨e4, e5⟩ := D2 hz h0
      have hlf : ((wl (m % m')).length : Int) > 0 := hl0.2 h0
      clear D1 D2 hab hab' SI e3 hQ hR e2 hl0 hC
      have hR0 : R = sv false (m' - m % m') := e5
      simp only [decide_eq_true hz]
      repeat' (first | simp (disch := omega) only [sxE, r02_DivMod.E, Nat.reduceAdd, Nat.reduceEqDiff, Nat.reduceMul, Nat.reduceSub, Int.reduceAdd, Int.reduceSub, Int.reduceMul, Int.reduceNeg, Int.reduceLT, Int.reduceLE, Int.reduceEq, Int.reduceToNat, ↓reduceIte, Int.reducePow, Nat.reduceLeDiff, Nat.reduceLT, ne_eq, eq_self, List.length_cons, List.length_nil] | (with_reducible refine cregF ?_))
      have w1 : wl (1 : Int) = [1] := (wl_one (by decide) (by rw [wl_cons (by decide), show (1 : Int) / 18446744073709551616 = 0 by decide, wl_nil (by decide)]; rfl)).1
      have hlt := Int.emod_lt_of_pos m hm'
      have asx : A4 (m' - m % m') := ⟨by omega, by have := ar.1; have := am'.2; omega⟩
      have aq1 : A4 (m / m' + 1) := by
        refine ⟨by have := aq.1; omega, ?_⟩
        have h2 : 2 ≤ m' := by
          rcases Int.lt_or_le m' 2 with h | h
          · exact absurd (show m % m' = 0 by have : m' = 1 := by omega
                                             rw [this]; exact Int.emod_one m) h0
          · exact h
        have := Int.mul_ediv_add_emod m m'
        have h3 := Int.mul_le_mul_of_nonneg_right h2 aq.1
        have := am.2
        have := ar.1
        omega
      refine genA_o (L := [.r (.slice a3 (wl (m / m')).length c3) (wl (m / m')), .r (.slice a4 (wl (m % m')).length c4) (wl (m % m')), .r (.slice a2 (wl m').length c2) (wl m'), .r (.slice a1 (wl m).length c1) (wl m)]) (ws := [1]) rfl (fun W hW _ => gen_one ⟨by decide, by decide⟩ W) fun g5 c5 hn5 => ?_
      clear hn5
      repeat' (first | simp (disch := omega) only [sxE, r02_DivMod.E, Nat.reduceAdd, Nat.reduceEqDiff, Nat.reduceMul, Nat.reduceSub, Int.reduceAdd, Int.reduceSub, Int.reduceMul, Int.reduceNeg, Int.reduceLT, Int.reduceLE, Int.reduceEq, Int.reduceToNat, ↓reduceIte, Int.reducePow, Nat.reduceLeDiff, Nat.reduceLT, ne_eq, eq_self, List.length_cons, List.length_nil] | (with_reducible refine cregF ?_))
      refine asks_r (L := [.o (.slice (some ⟨g5, 0, none⟩) 1 c5) [1], .r (.slice a3 (wl (m / m')).length c3) (wl (m / m')), .r (.slice a4 (wl (m % m')).length c4) (wl (m % m')), .r (.slice a2 (wl m').length c2) (wl m'), .r (.slice a1 (wl m).length c1) (wl m)]) (ws := wl (m / m' + 1)) en_r02_add rfl (fun W hW hok => by
        have h5 : OwnU W W0.heap.size (.slice (some ⟨g5, 0, none⟩) 1 c5) [1] := hok (.o (.slice (some ⟨g5, 0, none⟩) 1 c5) [1]) List.mem_cons_self
        exact radd_any _ _ _ _ _ _ _ _ aq.1 (by decide) (by omega) (by decide) W (hok (.r (.slice a3 (wl (m / m')).length c3) (wl (m / m'))) (List.mem_cons_of_mem _ List.mem_cons_self)).1 (by rw [w1]; exact h5.sl)) fun a6 c6 hs6 hn6 => ?_
      clear hs6 hn6
      repeat' (first | simp (disch := omega) only [sxE, r02_DivMod.E, Nat.reduceAdd, Nat.reduceEqDiff, Nat.reduceMul, Nat.reduceSub, Int.reduceAdd, Int.reduceSub, Int.reduceMul, Int.reduceNeg, Int.reduceLT, Int.reduceLE, Int.reduceEq, Int.reduceToNat, ↓reduceIte, Int.reducePow, Nat.reduceLeDiff, Nat.reduceLT, ne_eq, eq_self, List.length_cons, List.length_nil] | (with_reducible refine cregF ?_))
      refine asks_r (L := [.r (.slice a6 (wl (m / m' + 1)).length c6) (wl (m / m' + 1)), .o (.slice (some ⟨g5, 0, none⟩) 1 c5) [1], .r (.slice a3 (wl (m / m')).length c3) (wl (m / m')), .r (.slice a4 (wl (m % m')).length c4) (wl (m % m')), .r (.slice a2 (wl m').length c2) (wl m'), .r (.slice a1 (wl m).length c1) (wl m)]) (ws := wl m') en_r02_of rfl (fun W hW _ => of_mag am' W) fun a7 c7 hs7 hn7 => ?_
      clear hs7 hn7
      repeat' (first | simp (disch := omega) only [sxE, r02_DivMod.E, Nat.reduceAdd, Nat.reduceEqDiff, Nat.reduceMul, Nat.reduceSub, Int.reduceAdd, Int.reduceSub, Int.reduceMul, Int.reduceNeg, Int.reduceLT, Int.reduceLE, Int.reduceEq, Int.reduceToNat, ↓reduceIte, Int.reducePow, Nat.reduceLeDiff, Nat.reduceLT, ne_eq, eq_self, List.length_cons, List.length_nil] | (with_reducible refine cregF ?_))
      refine asks_r (L := [.r (.slice a7 (wl m').length c7) (wl m'), .r (.slice a6 (wl (m / m' + 1)).length c6) (wl (m / m' + 1)), .o (.slice (some ⟨g5, 0, none⟩) 1 c5) [1], .r (.slice a3 (wl (m / m')).length c3) (wl (m / m')), .r (.slice a4 (wl (m % m')).length c4) (wl (m % m')), .r (.slice a2 (wl m').length c2) (wl m'), .r (.slice a1 (wl m).length c1) (wl m)]) (ws := wl (m' - m % m')) en_r02_sub rfl (fun W hW hok => rsub_any _ _ _ _ _ _ _ _ ar.1 (by omega) (by omega) W (hok (.r (.slice a7 (wl m').length c7) (wl m')) (by simp)).1 (hok (.r (.slice a4 (wl (m % m')).length c4) (wl (m % m'))) (by simp)).1) fun a8 c8 hs8 hn8 => ?_
      clear hs8 hn8
      repeat' (first | simp (disch := omega) only [sxE, r02_DivMod.E, Nat.reduceAdd, Nat.reduceEqDiff, Nat.reduceMul, Nat.reduceSub, Int.reduceAdd, Int.reduceSub, Int.reduceMul, Int.reduceNeg, Int.reduceLT, Int.reduceLE, Int.reduceEq, Int.reduceToNat, ↓reduceIte, Int.reducePow, Nat.reduceLeDiff, Nat.reduceLT, ne_eq, eq_self, List.length_cons, List.length_nil] | (with_reducible refine cregF ?_))
      refine ask_wide rfl rfl (t := m / m' + 1) (by simp) aq1.1 (by rw [e4, decide_eq_true hz]; rfl) q1 ?_
      repeat' (first | simp (disch := omega) only [sxE, r02_DivMod.E, Nat.reduceAdd, Nat.reduceEqDiff, Nat.reduceMul, Nat.reduceSub, Int.reduceAdd, Int.reduceSub, Int.reduceMul, Int.reduceNeg, Int.reduceLT, Int.reduceLE, Int.reduceEq, Int.reduceToNat, ↓reduceIte, Int.reducePow, Nat.reduceLeDiff, Nat.reduceLT, ne_eq, eq_self, List.length_cons, List.length_nil] | (with_reducible refine cregF ?_))
      refine ask_wide rfl rfl (t := m' - m % m') (by simp) asx.1 hR0 q2 ?_
      repeat' (first | simp (disch := omega) only [sxE, r02_DivMod.E, Nat.reduceAdd, Nat.reduceEqDiff, Nat.reduceMul, Nat.reduceSub, Int.reduceAdd, Int.reduceSub, Int.reduceMul, Int.reduceNeg, Int.reduceLT, Int.reduceLE, Int.reduceEq, Int.reduceToNat, ↓reduceIte, Int.reducePow, Nat.reduceLeDiff, Nat.reduceLT, ne_eq, eq_self, List.length_cons, List.length_nil] | (with_reducible refine cregF ?_))
def unb (z : Int) : Bool := decide (0 ≤ z ∧ z < 18446744073709551616)
def unv (z : Int) : Int := if unb z then z else 0
theorem ab_of_sv {n : Bool} {m z : Int} (h : ab z = m) : (decide (z < 0) = true → z = -m) ∧ (decide (z < 0) = false → z = m) := by
 unfold ab at h
 constructor
 ·intro h2; rw [if_pos (of_decide_eq_true h2)] at h; omega
 ·intro h2; rw [if_neg (of_decide_eq_false h2)] at h; exact h
theorem rg_unsigned {v : Value} {z : Int} (h : IsW v z) (W : World) : Gives Tryz.prog 153 [v] W (· = .tuple #[.int .u64 (unv z), .bool (unb z)]) := by
 obtain ⟨n, m, rfl, am, hab, hz, hn⟩ := h.me
 refine gives_known en_r02_Unsigned ?_
 have p1 : cn n (lb0 m) (lb1 m) (lb2 m) (lb3 m) = decide (z < 0) := hn
 obtain ⟨k1, k2⟩ := ab_of_sv (n := n) hab
 have hl : ¬ 1 < ((wl m).length : Int) ↔ m < 18446744073709551616 := by
  have := wl_len_lt am.1 1
  have e : ((18446744073709551616 : Int) ^ 1) = 18446744073709551616 := by decide
  have e2 : (pw 1 : Int) = 18446744073709551616 := rfl
  rw [e2] at this
  omega
 clear h hn hz hab
 refine known_of (enter Tryz.func153 r02_Unsigned.ok (args := [WV n (lb0 m) (lb1 m) (lb2 m) (lb3 m)]) (by simp) ?_)
 repeat' (first | simp (disch := omega) only [sxE, r02_Unsigned.E, Nat.reduceAdd, Nat.reduceEqDiff, Nat.reduceMul, Nat.reduceSub, Int.reduceAdd, Int.reduceSub, Int.reduceMul, Int.reduceNeg, Int.reduceLT, Int.reduceLE, Int.reduceEq, Int.reduceToNat, ↓reduceIte, Int.reducePow, Nat.reduceLeDiff, Nat.reduceLT, ne_eq, eq_self, List.length_cons, List.length_nil, p1] | (with_reducible refine Sx.call_at (f := 109) (fun W hW => rg_clean _ (lb0_in _) (lb1_in _) (lb2_in _) (lb3_in _) W) ?_) | (with_reducible refine cregF ?_))
 refine asks_r (L := []) (ws := wl m) en_r02_of (kX_nil _) (fun W hW _ => of_mag am W) fun a1 c1 hs1 hn1 => ?_
 clear hs1 hn1
 by_cases hneg : z < 0
 ·have u1 : unb z = false := decide_eq_false (by omega)
  have u2 : unv z = 0 := by unfold unv; rw [u1]; rfl
  rw [u1, u2, decide_eq_true hneg]
  repeat' (first | simp (disch := omega) only [sxE, r02_Unsigned.E, Nat.reduceAdd, Nat.reduceEqDiff, Nat.reduceMul, Nat.reduceSub, Int.reduceAdd, Int.reduceSub, Int.reduceMul, Int.reduceNeg, Int.reduceLT, Int.reduceLE, Int.reduceEq, Int.reduceToNat, ↓reduceIte, Int.reducePow, Nat.reduceLeDiff, Nat.reduceLT, ne_eq, eq_self, List.length_cons, List.length_nil] | (with_reducible refine cregF ?_))
 ·have hzm := k2 (decide_eq_false hneg)
  rw [decide_eq_false hneg]
  by_cases hlt : m < 18446744073709551616
  ·have u1 : unb z = true := decide_eq_true (by have := am.1; omega)
   have u2 : unv z = m := by unfold unv; rw [u1]; exact hzm
   have u3 : lb0 m = m := Int.emod_eq_of_lt am.1 hlt
   have u4 := hl.2 hlt
   rw [u1, u2, u3]
   clear hl k1 k2 u1 u2 u3 p1 hneg hzm
   repeat' (first | simp (disch := omega) only [sxE, r02_Unsigned.E, Nat.reduceAdd, Nat.reduceEqDiff, Nat.reduceMul, Nat.reduceSub, Int.reduceAdd, Int.reduceSub, Int.reduceMul, Int.reduceNeg, Int.reduceLT, Int.reduceLE, Int.reduceEq, Int.reduceToNat, ↓reduceIte, Int.reducePow, Nat.reduceLeDiff, Nat.reduceLT, ne_eq, eq_self, List.length_cons, List.length_nil] | (with_reducible refine cregF ?_))
  ·have u1 : unb z = false := decide_eq_false (by omega)
   have u2 : unv z = 0 := by unfold unv; rw [u1]; rfl
   have u4 : 1 < ((wl m).length : Int) := by omega
   rw [u1, u2]
   clear hl k1 k2 u1 u2 p1 hneg hzm
   repeat' (first | simp (disch := omega) only [sxE, r02_Unsigned.E, Nat.reduceAdd, Nat.reduceEqDiff, Nat.reduceMul, Nat.reduceSub, Int.reduceAdd, Int.reduceSub, Int.reduceMul, Int.reduceNeg, Int.reduceLT, Int.reduceLE, Int.reduceEq, Int.reduceToNat, ↓reduceIte, Int.reducePow, Nat.reduceLeDiff, Nat.reduceLT, ne_eq, eq_self, List.length_cons, List.length_nil] | (with_reducible refine cregF ?_))
end Go.Proofs.YtncmmbacoknefaaGreat

/- Hg: What calls of wide and of its reference give, on integers as atoms. -/
namespace Go.Proofs.YtncmmbacoknefaaGreat
open Go Go.RowKit Sx
set_option linter.unusedVariables false
set_option linter.unusedSimpArgs false
theorem Fits.is {z : Int} (h : Fits z) : IsW (WX z) z := IsW.x h
theorem nz_is : IsW NZ 0 := ⟨true, 0, 0, 0, 0, rfl, rfl, ⟨by decide, by decide⟩, ⟨by decide, by decide⟩, ⟨by decide, by decide⟩, ⟨by decide, by decide⟩⟩
theorem valid_wx {z : Int} (h : Fits z) : (!sg z || !mz (lb0 (ab z)) (lb1 (ab z)) (lb2 (ab z)) (lb3 (ab z))) = true := by
 have a4 : A4 (ab z) := ⟨ab_nonneg z, (fits_lt z).1 h⟩
 rw [mz_me a4]
 unfold sg ab
 by_cases hz : z < 0
 ·rw [decide_eq_true hz, if_pos hz, decide_eq_false (by omega)]; rfl
 ·rw [decide_eq_false hz]; rfl
theorem tup2 {a b c d : Value} (h : a = c) (h' : b = d) : Value.tuple #[a, b] = Value.tuple #[c, d] := by rw [h, h']
theorem tup3 {a b c a' b' c' : Value} (h : a = a') (h1 : b = b') (h2 : c = c') : Value.tuple #[a, b, c] = Value.tuple #[a', b', c'] := by rw [h, h1, h2]
theorem gives_eq {P : Program} {f : FuncId} {l : List Value} {W : World} {u v : Value} (h : Gives P f l W (· = u)) (e : u = v) : Gives P f l W (· = v) := by subst e; exact h
theorem gx_valid {z : Int} (h : Fits z) (W : World) : Gives Tryz.prog 176 [WX z] W (· = .bool true) := gives_eq (g_valid _ _ _ _ _ W) (congrArg Value.bool (valid_wx h))
theorem gx_valid0 (W : World) : Gives Tryz.prog 176 [NZ] W (· = .bool false) := g_valid true 0 0 0 0 W
theorem rx_valid {z : Int} (h : Fits z) (W : World) : Gives Tryz.prog 100 [WX z] W (· = .bool true) := gives_eq (rg_valid _ (lb0_in _) (lb1_in _) (lb2_in _) (lb3_in _) W) (congrArg Value.bool (valid_wx h))
theorem rx_valid0 (W : World) : Gives Tryz.prog 100 [NZ] W (· = .bool false) := rg_valid true ⟨by decide, by decide⟩ ⟨by decide, by decide⟩ ⟨by decide, by decide⟩ ⟨by decide, by decide⟩ W
theorem gx_add {x y : Int} (h : Fits x) (h' : Fits y) (hf : Fits (x + y)) (W : World) : Gives Tryz.prog 137 [WX x, WX y] W (· = .tuple #[WX (x + y), .bool true]) := gives_eq (g_add h.is h'.is W) (tup2 (by rw [cl_fit hf]; rfl) (by rw [fb_fit hf]))
theorem gx_mul {x y : Int} (h : Fits x) (h' : Fits y) (hf : Fits (x * y)) (W : World) : Gives Tryz.prog 126 [WX x, WX y] W (· = .tuple #[WX (x * y), .bool true]) := gives_eq (g_mul h.is h'.is W) (tup2 (by rw [cl_fit hf]; rfl) (by rw [fb_fit hf]))
theorem gx_neg {x : Int} (h : Fits x) (W : World) : Gives Tryz.prog 190 [WX x] W (· = WX (-x)) := g_neg h.is W
theorem gx_sign {x : Int} (h : Fits x) (W : World) : Gives Tryz.prog 140 [WX x] W (· = .int .i64 (cm x 0)) := g_sign h.is W
theorem gx_of {x : Int} (h : I64 x) (W : World) : Gives Tryz.prog 81 [.int .i64 x] W (· = WX x) := g_of h W
theorem gx_ofU {x : Int} (h : U64 x) (W : World) : Gives Tryz.prog 170 [.int .u64 x] W (· = WX x) := g_ofU h W
theorem gx_compare {x y : Int} (h : Fits x) (h' : Fits y) (W : World) : Gives Tryz.prog 193 [WX x, WX y] W (· = .int .i64 (cm x y)) := g_compare h.is h'.is W
theorem gx_divmod {x y : Int} (h : Fits x) (h' : Fits y) (hy : y ≠ 0) (W : World) : Gives Tryz.prog 171 [WX x, WX y] W (· = .tuple #[WX (x / y), WX (x % y), .bool true]) := gives_eq (g_divmod h.is h'.is W) (tup3 rfl (by unfold dr; rw [if_neg hy]; rfl) (by rw [decide_eq_true hy]))
theorem rx_add {x y : Int} (h : Fits x) (h' : Fits y) (hf : Fits (x + y)) (W : World) : Gives Tryz.prog 51 [WX x, WX y] W (· = .tuple #[WX (x + y), .bool true]) := gives_eq (rg_add h.is h'.is W) (tup2 (by rw [cl_fit hf]; rfl) (by rw [fb_fit hf]))
theorem rx_sub {x y : Int} (h : Fits x) (h' : Fits y) (hf : Fits (x - y)) (W : World) : Gives Tryz.prog 53 [WX x, WX y] W (· = .tuple #[WX (x - y), .bool true]) := gives_eq (rg_sub h.is h'.is W) (tup2 (by rw [cl_fit hf]; rfl) (by rw [fb_fit hf]))
theorem rx_mul {x y : Int} (h : Fits x) (h' : Fits y) (hf : Fits (x * y)) (W : World) : Gives Tryz.prog 76 [WX x, WX y] W (· = .tuple #[WX (x * y), .bool true]) := gives_eq (rg_mul h.is h'.is W) (tup2 (by rw [cl_fit hf]; rfl) (by rw [fb_fit hf]))
theorem rx_neg {x : Int} (h : Fits x) (W : World) : Gives Tryz.prog 117 [WX x] W (· = WX (-x)) := rg_neg h.is W
theorem rx_sign {x : Int} (h : Fits x) (W : World) : Gives Tryz.prog 104 [WX x] W (· = .int .i64 (cm x 0)) := rg_sign h.is W
theorem rx_of {x : Int} (h : I64 x) (W : World) : Gives Tryz.prog 50 [.int .i64 x] W (· = WX x) := rg_Of h W
theorem rx_ofU {x : Int} (h : U64 x) (W : World) : Gives Tryz.prog 75 [.int .u64 x] W (· = WX x) := rg_OfU h W
theorem rx_compare {x y : Int} (h : Fits x) (h' : Fits y) (W : World) : Gives Tryz.prog 54 [WX x, WX y] W (· = .int .i64 (cm x y)) := rg_compare h.is h'.is W
theorem rx_divmod {x y : Int} (h : Fits x) (h' : Fits y) (hy : y ≠ 0) (W : World) : Gives Tryz.prog 116 [WX x, WX y] W (· = .tuple #[WX (x / y), WX (x % y), .bool true]) := gives_eq (rg_divmod h.is h'.is W) (tup3 rfl (by unfold dr; rw [if_neg hy]; rfl) (by rw [decide_eq_true hy]))
theorem rx_unsigned {z : Int} (h : Fits z) (W : World) : Gives Tryz.prog 153 [WX z] W (· = .tuple #[.int .u64 (unv z), .bool (unb z)]) := rg_unsigned h.is W
theorem we_inj {x y : Int} (h : Fits x) (h' : Fits y) : weq (sg x) (lb0 (ab x)) (lb1 (ab x)) (lb2 (ab x)) (lb3 (ab x)) (sg y) (lb0 (ab y)) (lb1 (ab y)) (lb2 (ab y)) (lb3 (ab y)) = decide (x = y) := by
 rw [Bool.eq_iff_iff, decide_eq_true_iff]
 constructor
 ·intro e
  have e' : sg x = sg y ∧ lb0 (ab x) = lb0 (ab y) ∧ lb1 (ab x) = lb1 (ab y) ∧ lb2 (ab x) = lb2 (ab y) ∧ lb3 (ab x) = lb3 (ab y) := by simpa [weq, meq] using e
  obtain ⟨e0, e1, e2, e3, e4⟩ := e'
  have m1 := mv_me (z := ab x) ⟨ab_nonneg x, (fits_lt x).1 h⟩
  have m2 := mv_me (z := ab y) ⟨ab_nonneg y, (fits_lt y).1 h'⟩
  rw [e1, e2, e3, e4, m2] at m1
  unfold sg at e0
  have e0' : (x < 0) ↔ (y < 0) := by simpa using e0
  unfold ab at m1
  (repeat' (split at m1)) <;> omega
 ·rintro rfl
  unfold weq meq; simp
theorem eqx_run {ng : Bool} {xo yo : Operand} {x y : Int} (h : Fits x) (h' : Fits y) (W : World) :
  ((do eqGuard (if ng then .neq else .eql) 37 xo yo (WX x) (WX y); binOp (if ng then .neq else .eql) 37 (WX x) (WX y)) : Sem Value).run Tryz.prog W = .ok (.bool (if ng then !decide (x = y) else decide (x = y))) W := by
 have := eqw_run (ng := ng) (xo := xo) (yo := yo) (sg x) (lb0 (ab x)) (lb1 (ab x)) (lb2 (ab x)) (lb3 (ab x)) (sg y) (lb0 (ab y)) (lb1 (ab y)) (lb2 (ab y)) (lb3 (ab y)) W
 rw [we_inj h h'] at this
 exact this
def RW (v : Value) (b : Bool) (z : Int) : Prop := (b = true ∧ v = WX z ∧ Fits z) ∨ (b = false ∧ v = NZ ∧ z = 0)
theorem RW.five {v : Value} {b : Bool} {z : Int} (h : RW v b z) : ∃ c0 c1 c2 c3 c4, v = .agg #[c0, c1, c2, c3, c4] := by
 rcases h with ⟨-, rfl, -⟩ | ⟨-, rfl, -⟩ <;> exact ⟨_, _, _, _, _, rfl⟩
theorem RW.is {v : Value} {b : Bool} {z : Int} (h : RW v b z) : IsW v z := by
 rcases h with ⟨-, rfl, h⟩ | ⟨-, rfl, rfl⟩
 ·exact h.is
 ·exact nz_is
theorem RW.fits {v : Value} {b : Bool} {z : Int} (h : RW v b z) : Fits z := by
 rcases h with ⟨-, rfl, h⟩ | ⟨-, rfl, rfl⟩
 ·exact h
 ·exact fits_zero
theorem Fits.rw {z : Int} (h : Fits z) : RW (WX z) true z := .inl ⟨rfl, rfl, h⟩
theorem gy_valid {v : Value} {b : Bool} {z : Int} (h : RW v b z) (W : World) : Gives Tryz.prog 176 [v] W (· = .bool b) := by
 rcases h with ⟨rfl, rfl, h⟩ | ⟨rfl, rfl, rfl⟩
 ·exact gx_valid h W
 ·exact gx_valid0 W
theorem ry_valid {v : Value} {b : Bool} {z : Int} (h : RW v b z) (W : World) : Gives Tryz.prog 100 [v] W (· = .bool b) := by
 rcases h with ⟨rfl, rfl, h⟩ | ⟨rfl, rfl, rfl⟩
 ·exact rx_valid h W
 ·exact rx_valid0 W
end Go.Proofs.YtncmmbacoknefaaGreat

/- CdR: MADE BY PROGRAM (sxgen.py): the small code of some functions, points of it and their equations. -/
namespace Go.Proofs.YtncmmbacoknefaaGreat
open Go Go.RowKit Sx
set_option linter.unusedVariables false
variable (C : Cx) (R L1 L2 L3 L4 : St → Prop)
namespace ratio_Compare
def r0 : List G := [(some 2, none, .box true 10 (.tmp 0)), (some 3, none, .box true 10 (.tmp 1)), (some 4, none, .mv (.const (.int .i64 0)))]
def r1 : List G := [(some 5, none, .ld true 10 (.tmp 2)), (some 6, none, .call true 168 [.tmp 5]), (some 7, none, .ld true 10 (.tmp 3)), (some 8, none, .call true 168 [.tmp 7])]
def t1 : List G := [(none, none, .st true 10 (.tmp 2) (.tmp 6)), (none, none, .st true 10 (.tmp 3) (.tmp 8))]
def r2 : List G := [(some 9, none, .fa 0 (.tmp 2)), (some 10, none, .ld true 5 (.tmp 9)), (some 11, none, .fa 5 (.tmp 3)), (some 12, none, .ld true 5 (.tmp 11)), (some 13, none, .call true 169 [.tmp 10, .tmp 12]), (some 14, none, .fa 0 (.tmp 3)), (some 15, none, .ld true 5 (.tmp 14)), (some 16, none, .fa 5 (.tmp 2)), (some 17, none, .ld true 5 (.tmp 16)), (some 18, none, .call true 169 [.tmp 15, .tmp 17]), (some 19, none, .call true 193 [.tmp 13, .tmp 18])]
def t2 : List G := [(some 4, none, .mv (.tmp 19))]
def c : MC := (.seq (.reg r0 (some [2, 3])) (.seq (.dreg r1 t1 (some [2, 3])) (.seq (.dreg r2 t2 (some [4])) .ret)))
def ann : Ann := [(0, (some [2, 3], 0, [], [], [])), (1, (some [2, 3], 4, [], [(0, 0), (1, 0), (2, 0), (3, 0)], [])), (2, (some [4], 11, [], [(0, 0), (1, 0), (2, 0), (3, 0), (4, 0), (5, 0), (6, 0), (7, 0), (8, 0), (9, 0), (10, 0)], []))]
theorem ok : compF Tryz.prog Tryz.f179 ann = some (20, c, [(4, none)]) := by kernel_rfl
def p1 (S : St) : Prop := ops C r2 (ops C t2 (kq [4] R)) S
def p2 (S : St) : Prop := ops C r1 (ops C t1 (kq [2, 3] (p1 C R))) S
def p3 (S : St) : Prop := ops C r0 (kq [2, 3] (p2 C R)) S
theorem s (S : St) : X C c (retK R) S = p3 C R S := by kernel_rfl
def E := ai @r2.eq_1 <| ai @t2.eq_1 <| ai @p1.eq_1 <| ai @r1.eq_1 <| ai @t1.eq_1 <| ai @p2.eq_1 <| ai @r0.eq_1 <| ai @p3.eq_1 <| @s
end ratio_Compare
namespace ratio_Make
def r0 : List G := [(some 2, none, .box true 5 (.tmp 0)), (some 3, none, .box true 5 (.tmp 1)), (some 4, none, .new zR), (some 5, none, .mv (.const (.bool false)))]
def r1 : List G := [(some 13, none, .ld true 5 (.tmp 2)), (some 14, none, .call false 176 [.tmp 13]), (some 15, none, .un .not (.tmp 14)), (some 16, none, .mv (.tmp 15)), (some 17, some (16, false), .ld true 5 (.tmp 3)), (some 18, some (16, false), .call false 176 [.tmp 17]), (some 19, some (16, false), .un .not (.tmp 18)), (some 20, none, .pick (.tmp 16) (.const (.bool true)) (.tmp 19)), (some 21, none, .mv (.tmp 20)), (some 22, some (21, false), .ld true 5 (.tmp 3)), (some 23, some (21, false), .call false 140 [.tmp 22]), (some 24, some (21, false), .bin .eql (.tmp 23) (.const (.int .i64 0))), (some 25, none, .pick (.tmp 21) (.const (.bool true)) (.tmp 24))]
def r2 : List G := [(some 26, none, .bd zR []), (none, none, .st true 10 (.tmp 4) (.tmp 26)), (some 5, none, .mv (.const (.bool false)))]
def r3 : List G := [(some 27, none, .fa 0 (.tmp 3)), (some 28, none, .ld false 1 (.tmp 27))]
def r4 : List G := [(some 29, none, .ld true 5 (.tmp 2)), (some 30, none, .call true 190 [.tmp 29]), (some 31, none, .ld true 5 (.tmp 3)), (some 32, none, .call true 190 [.tmp 31])]
def t4 : List G := [(none, none, .st true 5 (.tmp 2) (.tmp 30)), (none, none, .st true 5 (.tmp 3) (.tmp 32))]
def r5 : List G := [(some 33, none, .ld true 5 (.tmp 2)), (some 34, none, .ld true 5 (.tmp 3)), (some 35, none, .call false 191 [.tmp 33, .tmp 34]), (some 6, none, .new zW), (none, none, .st true 5 (.tmp 6) (.tmp 35))]
def r6 : List G := [(some 37, none, .ld true 5 (.tmp 2)), (some 38, none, .ld true 5 (.tmp 6)), (some 39, none, .call false 171 [.tmp 37, .tmp 38]), (some 36, none, .mv (.tmp 39)), (some 40, none, .ex (.tmp 36) 0), (some 41, none, .ex (.tmp 36) 1), (some 42, none, .ex (.tmp 36) 2), (some 7, none, .new zW), (some 8, none, .new zW), (none, none, .st true 5 (.tmp 7) (.tmp 40)), (none, none, .st true 5 (.tmp 8) (.tmp 41)), (some 9, none, .mv (.tmp 42))]
def r7 : List G := [(some 44, none, .ld true 5 (.tmp 3)), (some 45, none, .ld true 5 (.tmp 6)), (some 46, none, .call false 171 [.tmp 44, .tmp 45]), (some 43, none, .mv (.tmp 46)), (some 47, none, .ex (.tmp 43) 0), (some 48, none, .ex (.tmp 43) 1), (some 49, none, .ex (.tmp 43) 2), (some 10, none, .new zW), (some 11, none, .new zW), (none, none, .st true 5 (.tmp 10) (.tmp 47)), (none, none, .st true 5 (.tmp 11) (.tmp 48)), (some 12, none, .mv (.tmp 49))]
def r8 : List G := [(some 50, none, .ld true 5 (.tmp 7)), (some 51, none, .call false 192 [.tmp 50]), (some 52, none, .un .not (.tmp 51)), (some 53, none, .mv (.tmp 52)), (some 54, some (53, false), .ld true 5 (.tmp 10)), (some 55, some (53, false), .call false 192 [.tmp 54]), (some 56, some (53, false), .un .not (.tmp 55)), (some 57, none, .pick (.tmp 53) (.const (.bool true)) (.tmp 56))]
def r9 : List G := [(some 58, none, .bd zR []), (none, none, .st true 10 (.tmp 4) (.tmp 58)), (some 5, none, .mv (.const (.bool false)))]
def r10 : List G := [(some 59, none, .ld true 5 (.tmp 7)), (some 60, none, .ld true 5 (.tmp 10)), (some 61, none, .bd zR [(0, 5, .tmp 59), (5, 5, .tmp 60)]), (none, none, .st true 10 (.tmp 4) (.tmp 61)), (some 5, none, .mv (.const (.bool true)))]
def c : MC := (.seq (.reg r0 (some [2, 3, 4])) (.seq (.seq (.reg r1 (some [2, 3, 4, 25])) (.cond (.tmp 25) (.seq (.reg r2 (some [4, 5])) .ret) .skip)) (.seq (.seq (.reg r3 (some [2, 3, 4, 28])) (.cond (.tmp 28) (.dreg r4 t4 (some [2, 3, 4])) .skip)) (.seq (.reg r5 (some [2, 3, 4, 6])) (.seq (.reg r6 (some [3, 4, 6, 7])) (.seq (.reg r7 (some [4, 7, 10])) (.seq (.seq (.reg r8 (some [4, 7, 10, 57])) (.cond (.tmp 57) (.seq (.reg r9 (some [4, 5])) .ret) .skip)) (.seq (.reg r10 (some [4, 5])) .ret))))))))
def ann : Ann := [(0, (some [2, 3, 4], 0, [], [], [])), (1, (some [2, 3, 4, 25], 0, [], [], [])), (2, (some [4, 5], 0, [], [], [])), (3, (some [2, 3, 4, 28], 0, [], [], [])), (4, (some [2, 3, 4], 4, [], [(0, 0), (1, 0), (2, 0), (3, 0)], [])), (5, (some [2, 3, 4, 6], 0, [], [], [])), (6, (some [3, 4, 6, 7], 0, [], [], [])), (7, (some [4, 7, 10], 0, [], [], [])), (8, (some [4, 7, 10, 57], 0, [], [], [])), (9, (some [4, 5], 0, [], [], [])), (10, (some [4, 5], 0, [], [], []))]
theorem ok : compF Tryz.prog Tryz.f178 ann = some (62, c, [(4, some (true, 10)), (5, none)]) := by kernel_rfl
def p1 (S : St) : Prop := ops C r10 (kq [4, 5] R) S
def p3 (S : St) : Prop := ops C r9 (kq [4, 5] R) S
def p2 (S : St) : Prop := condX (S.ev (.tmp 57)) (p3 C R) (p1 C R) S
def p4 (S : St) : Prop := ops C r8 (kq [4, 7, 10, 57] (p2 C R)) S
def p5 (S : St) : Prop := ops C r7 (kq [4, 7, 10] (p4 C R)) S
def p6 (S : St) : Prop := ops C r6 (kq [3, 4, 6, 7] (p5 C R)) S
def p7 (S : St) : Prop := ops C r5 (kq [2, 3, 4, 6] (p6 C R)) S
def p9 (S : St) : Prop := ops C r4 (ops C t4 (kq [2, 3, 4] (p7 C R))) S
def p8 (S : St) : Prop := condX (S.ev (.tmp 28)) (p9 C R) (p7 C R) S
def p10 (S : St) : Prop := ops C r3 (kq [2, 3, 4, 28] (p8 C R)) S
def p12 (S : St) : Prop := ops C r2 (kq [4, 5] R) S
def p11 (S : St) : Prop := condX (S.ev (.tmp 25)) (p12 C R) (p10 C R) S
def p13 (S : St) : Prop := ops C r1 (kq [2, 3, 4, 25] (p11 C R)) S
def p14 (S : St) : Prop := ops C r0 (kq [2, 3, 4] (p13 C R)) S
theorem s (S : St) : X C c (retK R) S = p14 C R S := by kernel_rfl
def E := ai @r10.eq_1 <| ai @p1.eq_1 <| ai @r9.eq_1 <| ai @p3.eq_1 <| ai @p2.eq_1 <| ai @r8.eq_1 <| ai @p4.eq_1 <| ai @r7.eq_1 <| ai @p5.eq_1 <| ai @r6.eq_1 <| ai @p6.eq_1 <| ai @r5.eq_1 <| ai @p7.eq_1 <| ai @r4.eq_1 <| ai @t4.eq_1 <| ai @p9.eq_1 <| ai @p8.eq_1 <| ai @r3.eq_1 <| ai @p10.eq_1 <| ai @r2.eq_1 <| ai @p12.eq_1 <| ai @p11.eq_1 <| ai @r1.eq_1 <| ai @p13.eq_1 <| ai @r0.eq_1 <| ai @p14.eq_1 <| @s
end ratio_Make
namespace ratio_Of
def r0 : List G := [(some 2, none, .new zR)]
def r1 : List G := [(some 3, none, .mv (.tmp 0)), (some 4, none, .call false 81 [.tmp 3]), (some 5, none, .call false 81 [.const (.int .i64 1)]), (some 6, none, .bd zR [(0, 5, .tmp 4), (5, 5, .tmp 5)]), (none, none, .st true 10 (.tmp 2) (.tmp 6))]
def c : MC := (.seq (.reg r0 (some [0, 2])) (.seq (.reg r1 (some [2])) .ret))
def ann : Ann := [(0, (some [0, 2], 0, [], [], [])), (1, (some [2], 0, [], [], []))]
theorem ok : compF Tryz.prog Tryz.f180 ann = some (7, c, [(2, some (true, 10))]) := by kernel_rfl
def p1 (S : St) : Prop := ops C r1 (kq [2] R) S
def p2 (S : St) : Prop := ops C r0 (kq [0, 2] (p1 C R)) S
theorem s (S : St) : X C c (retK R) S = p2 C R S := by kernel_rfl
def E := ai @r1.eq_1 <| ai @p1.eq_1 <| ai @r0.eq_1 <| ai @p2.eq_1 <| @s
end ratio_Of
namespace ratio_Valid
def r0 : List G := [(some 1, none, .box true 10 (.tmp 0)), (some 2, none, .mv (.const (.bool false)))]
def r1 : List G := [(some 3, none, .fa 0 (.tmp 1)), (some 4, none, .ld true 5 (.tmp 3)), (some 5, none, .call false 176 [.tmp 4]), (some 6, none, .mv (.tmp 5)), (some 7, some (6, true), .fa 5 (.tmp 1)), (some 8, some (6, true), .ld true 5 (.tmp 7)), (some 9, some (6, true), .call false 176 [.tmp 8]), (some 10, none, .pick (.tmp 6) (.tmp 9) (.const (.bool false))), (some 11, none, .mv (.tmp 10)), (some 12, some (11, true), .fa 5 (.tmp 1)), (some 13, some (11, true), .ld true 5 (.tmp 12)), (some 14, some (11, true), .call false 140 [.tmp 13]), (some 15, some (11, true), .bin .gtr (.tmp 14) (.const (.int .i64 0))), (some 16, none, .pick (.tmp 11) (.tmp 15) (.const (.bool false))), (some 17, none, .mv (.tmp 16)), (some 18, some (17, true), .fa 0 (.tmp 1)), (some 19, some (17, true), .ld true 5 (.tmp 18)), (some 20, some (17, true), .call false 192 [.tmp 19]), (some 21, none, .pick (.tmp 17) (.tmp 20) (.const (.bool false))), (some 22, none, .mv (.tmp 21)), (some 23, some (22, true), .fa 5 (.tmp 1)), (some 24, some (22, true), .ld true 5 (.tmp 23)), (some 25, some (22, true), .call false 192 [.tmp 24]), (some 26, none, .pick (.tmp 22) (.tmp 25) (.const (.bool false))), (some 27, none, .mv (.tmp 26)), (some 28, some (27, true), .fa 0 (.tmp 1)), (some 29, some (27, true), .ld true 5 (.tmp 28)), (some 30, some (27, true), .fa 5 (.tmp 1)), (some 31, some (27, true), .ld true 5 (.tmp 30)), (some 32, some (27, true), .call false 191 [.tmp 29, .tmp 31]), (some 33, some (27, true), .call false 81 [.const (.int .i64 1)]), (some 34, some (27, true), .eqg false 37 (.tmp 32) (.tmp 33)), (some 35, none, .pick (.tmp 27) (.tmp 34) (.const (.bool false))), (some 2, none, .mv (.tmp 35))]
def c : MC := (.seq (.reg r0 (some [1])) (.seq (.reg r1 (some [2])) .ret))
def ann : Ann := [(0, (some [1], 0, [], [], [])), (1, (some [2], 0, [], [], []))]
theorem ok : compF Tryz.prog Tryz.f186 ann = some (36, c, [(2, none)]) := by kernel_rfl
def p1 (S : St) : Prop := ops C r1 (kq [2] R) S
def p2 (S : St) : Prop := ops C r0 (kq [1] (p1 C R)) S
theorem s (S : St) : X C c (retK R) S = p2 C R S := by kernel_rfl
def E := ai @r1.eq_1 <| ai @p1.eq_1 <| ai @r0.eq_1 <| ai @p2.eq_1 <| @s
end ratio_Valid
namespace ratio_clean
def r0 : List G := [(some 1, none, .box true 10 (.tmp 0)), (some 2, none, .new zR)]
def r1 : List G := [(some 3, none, .ld true 10 (.tmp 1)), (some 4, none, .call false 186 [.tmp 3]), (some 5, none, .un .not (.tmp 4))]
def r2 : List G := [(some 6, none, .call false 180 [.const (.int .i64 0)]), (none, none, .st true 10 (.tmp 2) (.tmp 6))]
def r3 : List G := [(some 7, none, .ld true 10 (.tmp 1)), (none, none, .st true 10 (.tmp 2) (.tmp 7))]
def c : MC := (.seq (.reg r0 (some [1, 2])) (.seq (.seq (.reg r1 (some [1, 2, 5])) (.cond (.tmp 5) (.seq (.reg r2 (some [2])) .ret) .skip)) (.seq (.reg r3 (some [2])) .ret)))
def ann : Ann := [(0, (some [1, 2], 0, [], [], [])), (1, (some [1, 2, 5], 0, [], [], [])), (2, (some [2], 0, [], [], [])), (3, (some [2], 0, [], [], []))]
theorem ok : compF Tryz.prog Tryz.f168 ann = some (8, c, [(2, some (true, 10))]) := by kernel_rfl
def p1 (S : St) : Prop := ops C r3 (kq [2] R) S
def p3 (S : St) : Prop := ops C r2 (kq [2] R) S
def p2 (S : St) : Prop := condX (S.ev (.tmp 5)) (p3 C R) (p1 C R) S
def p4 (S : St) : Prop := ops C r1 (kq [1, 2, 5] (p2 C R)) S
def p5 (S : St) : Prop := ops C r0 (kq [1, 2] (p4 C R)) S
theorem s (S : St) : X C c (retK R) S = p5 C R S := by kernel_rfl
def E := ai @r3.eq_1 <| ai @p1.eq_1 <| ai @r2.eq_1 <| ai @p3.eq_1 <| ai @p2.eq_1 <| ai @r1.eq_1 <| ai @p4.eq_1 <| ai @r0.eq_1 <| ai @p5.eq_1 <| @s
end ratio_clean
namespace ratio_divisor
def r0 : List G := [(some 2, none, .box true 5 (.tmp 0)), (some 3, none, .box true 5 (.tmp 1)), (some 4, none, .new zW)]
def r1 : List G := [(some 8, none, .fa 0 (.tmp 2)), (none, none, .st false 1 (.tmp 8) (.const (.bool false))), (some 9, none, .fa 0 (.tmp 3)), (none, none, .st false 1 (.tmp 9) (.const (.bool false)))]
def r2 : List G := [(some 10, none, .ld true 5 (.tmp 3)), (some 11, none, .call false 140 [.tmp 10]), (some 12, none, .bin .neq (.tmp 11) (.const (.int .i64 0)))]
def r3 : List G := [(some 14, none, .ld true 5 (.tmp 2)), (some 15, none, .ld true 5 (.tmp 3)), (some 16, none, .call false 171 [.tmp 14, .tmp 15]), (some 13, none, .mv (.tmp 16)), (some 17, none, .ex (.tmp 13) 0), (some 18, none, .ex (.tmp 13) 1), (some 19, none, .ex (.tmp 13) 2), (some 5, none, .new zW), (some 6, none, .new zW), (none, none, .st true 5 (.tmp 5) (.tmp 17)), (none, none, .st true 5 (.tmp 6) (.tmp 18)), (some 7, none, .mv (.tmp 19))]
def o4 : List (List G) := [[(some 20, none, (.ld true 5 (.tmp 3))), (some 21, none, (.ld true 5 (.tmp 6))), (none, none, (.st true 5 (.tmp 2) (.tmp 20))), (none, none, (.st true 5 (.tmp 3) (.tmp 21)))],
 [(some 20, none, (.ld true 5 (.tmp 3))), (none, none, (.st true 5 (.tmp 2) (.tmp 20))), (some 21, none, (.ld true 5 (.tmp 6))), (none, none, (.st true 5 (.tmp 3) (.tmp 21)))],
 [(some 21, none, (.ld true 5 (.tmp 6))), (some 20, none, (.ld true 5 (.tmp 3))), (none, none, (.st true 5 (.tmp 2) (.tmp 20))), (none, none, (.st true 5 (.tmp 3) (.tmp 21)))]]
def r5 : List G := [(some 22, none, .ld true 5 (.tmp 2)), (none, none, .st true 5 (.tmp 4) (.tmp 22))]
def c : MC := (.seq (.reg r0 (some [2, 3, 4])) (.seq (.reg r1 (some [2, 3, 4])) (.seq (.block 0 (.loop (.seq (.seq (.reg r2 (some [2, 3, 4, 12])) (.cond (.tmp 12) .skip (.exit 0))) (.block 1 (.seq (.reg r3 (some [2, 3, 4, 6])) (.areg [] o4 (some [2, 3, 4]))))))) (.seq (.reg r5 (some [4])) .ret))))
def ann : Ann := [(0, (some [2, 3, 4], 0, [], [], [])), (1, (some [2, 3, 4], 0, [], [], [])), (2, (some [2, 3, 4, 12], 0, [], [], [])), (3, (some [2, 3, 4, 6], 0, [], [], [])), (4, (some [2, 3, 4], 99999, [], [], [])), (5, (some [4], 0, [], [], []))]
theorem ok : compF Tryz.prog Tryz.f191 ann = some (23, c, [(4, some (true, 5))]) := by kernel_rfl
def p1 (S : St) : Prop := ops C r5 (kq [4] R) S
def p3 (S : St) : Prop := areX C [] o4 (kq [2, 3, 4] L1) S
def p4 (S : St) : Prop := ops C r3 (kq [2, 3, 4, 6] (p3 C L1)) S
def p5 (S : St) : Prop := condX (S.ev (.tmp 12)) (p4 C L1) (p1 C R) S
def p6 (S : St) : Prop := ops C r2 (kq [2, 3, 4, 12] (p5 C R L1)) S
def p2 (S : St) : Prop := LX C (fun L1 => (p6 C R L1)) S
theorem p2_l (S : St) : p2 C R S = LX C (fun L1 => (p6 C R L1)) S := rfl
def p7 (S : St) : Prop := ops C r1 (kq [2, 3, 4] (p2 C R)) S
def p8 (S : St) : Prop := ops C r0 (kq [2, 3, 4] (p7 C R)) S
theorem s (S : St) : X C c (retK R) S = p8 C R S := by kernel_rfl
def E := ai @r5.eq_1 <| ai @p1.eq_1 <| ai @o4.eq_1 <| ai @p3.eq_1 <| ai @r3.eq_1 <| ai @p4.eq_1 <| ai @p5.eq_1 <| ai @r2.eq_1 <| ai @p6.eq_1 <| ai @r1.eq_1 <| ai @p7.eq_1 <| ai @r0.eq_1 <| ai @p8.eq_1 <| @s
end ratio_divisor
namespace ratio_product
def r0 : List G := [(some 2, none, .box true 5 (.tmp 0)), (some 3, none, .box true 5 (.tmp 1)), (some 4, none, .new zW)]
def r1 : List G := [(some 8, none, .ld true 5 (.tmp 2)), (some 9, none, .ld true 5 (.tmp 3)), (some 10, none, .call false 126 [.tmp 8, .tmp 9]), (some 7, none, .mv (.tmp 10)), (some 11, none, .ex (.tmp 7) 0), (some 12, none, .ex (.tmp 7) 1), (some 5, none, .new zW), (none, none, .st true 5 (.tmp 5) (.tmp 11)), (some 6, none, .mv (.tmp 12))]
def r2 : List G := [(some 13, none, .ld true 5 (.tmp 5)), (none, none, .st true 5 (.tmp 4) (.tmp 13))]
def c : MC := (.seq (.reg r0 (some [2, 3, 4])) (.seq (.reg r1 (some [4, 5])) (.seq (.reg r2 (some [4])) .ret)))
def ann : Ann := [(0, (some [2, 3, 4], 0, [], [], [])), (1, (some [4, 5], 0, [], [], [])), (2, (some [4], 0, [], [], []))]
theorem ok : compF Tryz.prog Tryz.f169 ann = some (14, c, [(4, some (true, 5))]) := by kernel_rfl
def p1 (S : St) : Prop := ops C r2 (kq [4] R) S
def p2 (S : St) : Prop := ops C r1 (kq [4, 5] (p1 C R)) S
def p3 (S : St) : Prop := ops C r0 (kq [2, 3, 4] (p2 C R)) S
theorem s (S : St) : X C c (retK R) S = p3 C R S := by kernel_rfl
def E := ai @r2.eq_1 <| ai @p1.eq_1 <| ai @r1.eq_1 <| ai @p2.eq_1 <| ai @r0.eq_1 <| ai @p3.eq_1 <| @s
end ratio_product
namespace ratio_small
def r0 : List G := [(some 1, none, .box true 5 (.tmp 0)), (some 2, none, .mv (.const (.bool false)))]
def r1 : List G := [(some 3, none, .fa 1 (.tmp 1)), (some 4, none, .ia 4 1 (.tmp 3) (.const (.int .i64 3))), (some 5, none, .ld false 1 (.tmp 4)), (some 6, none, .bin .eql (.tmp 5) (.const (.int .u64 0))), (some 7, none, .mv (.tmp 6)), (some 8, some (7, true), .fa 1 (.tmp 1)), (some 9, some (7, true), .ia 4 1 (.tmp 8) (.const (.int .i64 2))), (some 10, some (7, true), .ld false 1 (.tmp 9)), (some 11, some (7, true), .bin .eql (.tmp 10) (.const (.int .u64 0))), (some 12, none, .pick (.tmp 7) (.tmp 11) (.const (.bool false))), (some 13, none, .mv (.tmp 12)), (some 14, some (13, true), .fa 1 (.tmp 1)), (some 15, some (13, true), .ia 4 1 (.tmp 14) (.const (.int .i64 1))), (some 16, some (13, true), .ld false 1 (.tmp 15)), (some 17, some (13, true), .bin .shr (.tmp 16) (.const (.int .u64 63))), (some 18, some (13, true), .bin .eql (.tmp 17) (.const (.int .u64 0))), (some 19, none, .pick (.tmp 13) (.tmp 18) (.const (.bool false))), (some 2, none, .mv (.tmp 19))]
def c : MC := (.seq (.reg r0 (some [1])) (.seq (.reg r1 (some [2])) .ret))
def ann : Ann := [(0, (some [1], 0, [], [], [])), (1, (some [2], 0, [], [], []))]
theorem ok : compF Tryz.prog Tryz.f192 ann = some (20, c, [(2, none)]) := by kernel_rfl
def p1 (S : St) : Prop := ops C r1 (kq [2] R) S
def p2 (S : St) : Prop := ops C r0 (kq [1] (p1 C R)) S
theorem s (S : St) : X C c (retK R) S = p2 C R S := by kernel_rfl
def E := ai @r1.eq_1 <| ai @p1.eq_1 <| ai @r0.eq_1 <| ai @p2.eq_1 <| @s
end ratio_small
namespace simplest_Between
def r0 : List G := [(some 2, none, .box true 10 (.tmp 0)), (some 3, none, .box true 10 (.tmp 1)), (some 4, none, .new zR), (some 5, none, .mv (.const (.bool false)))]
def r1 : List G := [(some 6, none, .ld true 10 (.tmp 2)), (some 7, none, .call false 186 [.tmp 6]), (some 8, none, .un .not (.tmp 7)), (some 9, none, .mv (.tmp 8)), (some 10, some (9, false), .ld true 10 (.tmp 3)), (some 11, some (9, false), .call false 186 [.tmp 10]), (some 12, some (9, false), .un .not (.tmp 11)), (some 13, none, .pick (.tmp 9) (.const (.bool true)) (.tmp 12)), (some 14, none, .mv (.tmp 13)), (some 15, some (14, false), .ld true 10 (.tmp 2)), (some 16, some (14, false), .ld true 10 (.tmp 3)), (some 17, some (14, false), .call false 179 [.tmp 15, .tmp 16]), (some 18, some (14, false), .bin .gtr (.tmp 17) (.const (.int .i64 0))), (some 19, none, .pick (.tmp 14) (.const (.bool true)) (.tmp 18))]
def r2 : List G := [(some 20, none, .bd zR []), (none, none, .st true 10 (.tmp 4) (.tmp 20)), (some 5, none, .mv (.const (.bool false)))]
def r3 : List G := [(some 22, none, .fa 0 (.tmp 3)), (some 23, none, .ld true 5 (.tmp 22)), (some 24, none, .call false 140 [.tmp 23]), (some 25, none, .bin .lss (.tmp 24) (.const (.int .i64 0))), (some 21, none, .mv (.tmp 25))]
def r4 : List G := [(some 26, none, .ld true 10 (.tmp 3)), (some 27, none, .call true 194 [.tmp 26]), (some 28, none, .ld true 10 (.tmp 2)), (some 29, none, .call true 194 [.tmp 28]), (some 30, none, .call true 195 [.tmp 27, .tmp 29]), (some 31, none, .call true 194 [.tmp 30])]
def t4 : List G := [(none, none, .st true 10 (.tmp 4) (.tmp 31)), (some 5, none, .mv (.const (.bool true)))]
def r5 : List G := [(some 33, none, .fa 0 (.tmp 2)), (some 34, none, .ld true 5 (.tmp 33)), (some 35, none, .call false 140 [.tmp 34]), (some 36, none, .bin .leq (.tmp 35) (.const (.int .i64 0))), (some 32, none, .mv (.tmp 36))]
def r6 : List G := [(some 37, none, .call false 180 [.const (.int .i64 0)]), (none, none, .st true 10 (.tmp 4) (.tmp 37)), (some 5, none, .mv (.const (.bool true)))]
def r7 : List G := [(some 38, none, .ld true 10 (.tmp 2)), (some 39, none, .ld true 10 (.tmp 3)), (some 40, none, .call false 195 [.tmp 38, .tmp 39]), (none, none, .st true 10 (.tmp 4) (.tmp 40)), (some 5, none, .mv (.const (.bool true)))]
def c : MC := (.seq (.reg r0 (some [2, 3, 4])) (.seq (.seq (.reg r1 (some [2, 3, 4, 19])) (.cond (.tmp 19) (.seq (.reg r2 (some [4, 5])) .ret) .skip)) (.seq (.block 0 (.seq (.reg r3 (some [2, 3, 4, 21])) (.cond (.tmp 21) (.seq (.dreg r4 t4 (some [4, 5])) .ret) (.seq (.reg r5 (some [2, 3, 4, 32])) (.cond (.tmp 32) (.seq (.reg r6 (some [4, 5])) .ret) .skip))))) (.seq (.reg r7 (some [4, 5])) .ret))))
def ann : Ann := [(0, (some [2, 3, 4], 0, [], [], [])), (1, (some [2, 3, 4, 19], 0, [], [], [])), (2, (some [4, 5], 0, [], [], [])), (3, (some [2, 3, 4, 21], 0, [], [], [])), (4, (some [4, 5], 6, [], [(0, 0), (1, 0), (2, 0), (3, 0), (4, 0), (5, 0)], [])), (5, (some [2, 3, 4, 32], 0, [], [], [])), (6, (some [4, 5], 0, [], [], [])), (7, (some [4, 5], 0, [], [], []))]
theorem ok : compF Tryz.prog Tryz.f181 ann = some (41, c, [(4, some (true, 10)), (5, none)]) := by kernel_rfl
def p1 (S : St) : Prop := ops C r7 (kq [4, 5] R) S
def p3 (S : St) : Prop := ops C r4 (ops C t4 (kq [4, 5] R)) S
def p5 (S : St) : Prop := ops C r6 (kq [4, 5] R) S
def p4 (S : St) : Prop := condX (S.ev (.tmp 32)) (p5 C R) (p1 C R) S
def p6 (S : St) : Prop := ops C r5 (kq [2, 3, 4, 32] (p4 C R)) S
def p2 (S : St) : Prop := condX (S.ev (.tmp 21)) (p3 C R) (p6 C R) S
def p7 (S : St) : Prop := ops C r3 (kq [2, 3, 4, 21] (p2 C R)) S
def p9 (S : St) : Prop := ops C r2 (kq [4, 5] R) S
def p8 (S : St) : Prop := condX (S.ev (.tmp 19)) (p9 C R) (p7 C R) S
def p10 (S : St) : Prop := ops C r1 (kq [2, 3, 4, 19] (p8 C R)) S
def p11 (S : St) : Prop := ops C r0 (kq [2, 3, 4] (p10 C R)) S
theorem s (S : St) : X C c (retK R) S = p11 C R S := by kernel_rfl
def E := ai @r7.eq_1 <| ai @p1.eq_1 <| ai @r4.eq_1 <| ai @t4.eq_1 <| ai @p3.eq_1 <| ai @r6.eq_1 <| ai @p5.eq_1 <| ai @p4.eq_1 <| ai @r5.eq_1 <| ai @p6.eq_1 <| ai @p2.eq_1 <| ai @r3.eq_1 <| ai @p7.eq_1 <| ai @r2.eq_1 <| ai @p9.eq_1 <| ai @p8.eq_1 <| ai @r1.eq_1 <| ai @p10.eq_1 <| ai @r0.eq_1 <| ai @p11.eq_1 <| @s
end simplest_Between
namespace simplest_negative
def r0 : List G := [(some 1, none, .box true 10 (.tmp 0)), (some 2, none, .new zR)]
def r1 : List G := [(some 3, none, .fa 0 (.tmp 1)), (some 4, none, .ld true 5 (.tmp 3)), (some 5, none, .call false 190 [.tmp 4]), (some 6, none, .fa 0 (.tmp 1)), (none, none, .st true 5 (.tmp 6) (.tmp 5))]
def r2 : List G := [(some 7, none, .ld true 10 (.tmp 1)), (none, none, .st true 10 (.tmp 2) (.tmp 7))]
def c : MC := (.seq (.reg r0 (some [1, 2])) (.seq (.reg r1 (some [1, 2])) (.seq (.reg r2 (some [2])) .ret)))
def ann : Ann := [(0, (some [1, 2], 0, [], [], [])), (1, (some [1, 2], 0, [], [], [])), (2, (some [2], 0, [], [], []))]
theorem ok : compF Tryz.prog Tryz.f194 ann = some (8, c, [(2, some (true, 10))]) := by kernel_rfl
def p1 (S : St) : Prop := ops C r2 (kq [2] R) S
def p2 (S : St) : Prop := ops C r1 (kq [1, 2] (p1 C R)) S
def p3 (S : St) : Prop := ops C r0 (kq [1, 2] (p2 C R)) S
theorem s (S : St) : X C c (retK R) S = p3 C R S := by kernel_rfl
def E := ai @r2.eq_1 <| ai @p1.eq_1 <| ai @r1.eq_1 <| ai @p2.eq_1 <| ai @r0.eq_1 <| ai @p3.eq_1 <| @s
end simplest_negative
namespace simplest_positive
def r0 : List G := [(some 2, none, .box true 10 (.tmp 0)), (some 3, none, .box true 10 (.tmp 1)), (some 4, none, .new zR)]
def r1 : List G := [(some 17, none, .fa 0 (.tmp 2)), (some 18, none, .ld true 5 (.tmp 17)), (some 19, none, .fa 5 (.tmp 2)), (some 20, none, .ld true 5 (.tmp 19)), (some 21, none, .call false 171 [.tmp 18, .tmp 20]), (some 16, none, .mv (.tmp 21)), (some 22, none, .ex (.tmp 16) 0), (some 23, none, .ex (.tmp 16) 1), (some 24, none, .ex (.tmp 16) 2), (some 5, none, .new zW), (some 6, none, .new zW), (none, none, .st true 5 (.tmp 5) (.tmp 22)), (none, none, .st true 5 (.tmp 6) (.tmp 23)), (some 7, none, .mv (.tmp 24))]
def r2 : List G := [(some 25, none, .ld true 5 (.tmp 6)), (some 26, none, .call false 140 [.tmp 25]), (some 27, none, .bin .eql (.tmp 26) (.const (.int .i64 0)))]
def r3 : List G := [(some 28, none, .ld true 5 (.tmp 5)), (some 29, none, .call true 81 [.const (.int .i64 1)]), (some 30, none, .bd zR [(0, 5, .tmp 28), (5, 5, .tmp 29)])]
def t3 : List G := [(none, none, .st true 10 (.tmp 4) (.tmp 30))]
def r4 : List G := [(some 32, none, .fa 0 (.tmp 3)), (some 33, none, .ld true 5 (.tmp 32)), (some 34, none, .fa 5 (.tmp 3)), (some 35, none, .ld true 5 (.tmp 34)), (some 36, none, .call false 171 [.tmp 33, .tmp 35]), (some 31, none, .mv (.tmp 36)), (some 37, none, .ex (.tmp 31) 0), (some 38, none, .ex (.tmp 31) 1), (some 39, none, .ex (.tmp 31) 2), (some 8, none, .new zW), (some 9, none, .new zW), (none, none, .st true 5 (.tmp 8) (.tmp 37)), (none, none, .st true 5 (.tmp 9) (.tmp 38)), (some 10, none, .mv (.tmp 39))]
def r5 : List G := [(some 40, none, .ld true 5 (.tmp 8)), (some 41, none, .ld true 5 (.tmp 5)), (some 42, none, .call false 193 [.tmp 40, .tmp 41]), (some 43, none, .bin .gtr (.tmp 42) (.const (.int .i64 0)))]
def r6 : List G := [(some 45, none, .ld true 5 (.tmp 5)), (some 46, none, .call true 81 [.const (.int .i64 1)]), (some 47, none, .call true 137 [.tmp 45, .tmp 46]), (some 44, none, .mv (.tmp 47)), (some 48, none, .ex (.tmp 44) 0), (some 49, none, .ex (.tmp 44) 1)]
def t6 : List G := [(some 11, none, .new zW), (none, none, .st true 5 (.tmp 11) (.tmp 48)), (some 12, none, .mv (.tmp 49))]
def r7 : List G := [(some 50, none, .ld true 5 (.tmp 11)), (some 51, none, .call true 81 [.const (.int .i64 1)]), (some 52, none, .bd zR [(0, 5, .tmp 50), (5, 5, .tmp 51)])]
def t7 : List G := [(none, none, .st true 10 (.tmp 4) (.tmp 52))]
def r8 : List G := [(some 53, none, .fa 5 (.tmp 3)), (some 54, none, .ld true 5 (.tmp 53)), (some 55, none, .ld true 5 (.tmp 9)), (some 56, none, .bd zR [(0, 5, .tmp 54), (5, 5, .tmp 55)]), (some 57, none, .fa 5 (.tmp 2)), (some 58, none, .ld true 5 (.tmp 57)), (some 59, none, .ld true 5 (.tmp 6)), (some 60, none, .bd zR [(0, 5, .tmp 58), (5, 5, .tmp 59)]), (some 61, none, .call false 195 [.tmp 56, .tmp 60]), (some 13, none, .new zR), (none, none, .st true 10 (.tmp 13) (.tmp 61))]
def r9 : List G := [(some 63, none, .ld true 5 (.tmp 5)), (some 64, none, .fa 0 (.tmp 13)), (some 65, none, .ld true 5 (.tmp 64)), (some 66, none, .call false 126 [.tmp 63, .tmp 65]), (some 62, none, .mv (.tmp 66)), (some 67, none, .ex (.tmp 62) 0), (some 68, none, .ex (.tmp 62) 1), (some 14, none, .new zW), (none, none, .st true 5 (.tmp 14) (.tmp 67)), (some 15, none, .mv (.tmp 68))]
def r10 : List G := [(some 70, none, .ld true 5 (.tmp 14)), (some 71, none, .fa 5 (.tmp 13)), (some 72, none, .ld true 5 (.tmp 71)), (some 73, none, .call false 137 [.tmp 70, .tmp 72]), (some 69, none, .mv (.tmp 73)), (some 74, none, .ex (.tmp 69) 0), (some 75, none, .ex (.tmp 69) 1), (none, none, .st true 5 (.tmp 14) (.tmp 74))]
def r11 : List G := [(some 76, none, .ld true 5 (.tmp 14)), (some 77, none, .fa 0 (.tmp 13)), (some 78, none, .ld true 5 (.tmp 77)), (some 79, none, .bd zR [(0, 5, .tmp 76), (5, 5, .tmp 78)]), (none, none, .st true 10 (.tmp 4) (.tmp 79))]
def c : MC := (.seq (.reg r0 (some [2, 3, 4])) (.seq (.reg r1 (some [2, 3, 4, 5, 6])) (.seq (.seq (.reg r2 (some [2, 3, 4, 5, 6, 27])) (.cond (.tmp 27) (.seq (.dreg r3 t3 (some [4])) .ret) .skip)) (.seq (.reg r4 (some [2, 3, 4, 5, 6, 8, 9])) (.seq (.seq (.reg r5 (some [2, 3, 4, 5, 6, 9, 43])) (.cond (.tmp 43) (.seq (.dreg r6 t6 (some [4, 11])) (.seq (.dreg r7 t7 (some [4])) .ret)) .skip)) (.seq (.reg r8 (some [4, 5, 13])) (.seq (.reg r9 (some [4, 13, 14])) (.seq (.reg r10 (some [4, 13, 14])) (.seq (.reg r11 (some [4])) .ret)))))))))
def ann : Ann := [(0, (some [2, 3, 4], 0, [], [], [])), (1, (some [2, 3, 4, 5, 6], 0, [], [], [])), (2, (some [2, 3, 4, 5, 6, 27], 0, [], [], [])), (3, (some [4], 3, [], [(0, 0), (1, 0), (2, 0)], [])), (4, (some [2, 3, 4, 5, 6, 8, 9], 0, [], [], [])), (5, (some [2, 3, 4, 5, 6, 9, 43], 0, [], [], [])), (6, (some [4, 11], 7, [5], [(0, 0), (1, 0), (2, 0), (3, 0), (4, 0), (5, 2)], [6])), (7, (some [4], 3, [], [(0, 0), (1, 0), (2, 0)], [])), (8, (some [4, 5, 13], 0, [], [], [])), (9, (some [4, 13, 14], 0, [], [], [])), (10, (some [4, 13, 14], 0, [], [], [])), (11, (some [4], 0, [], [], []))]
theorem ok : compF Tryz.prog Tryz.f195 ann = some (80, c, [(4, some (true, 10))]) := by kernel_rfl
def p1 (S : St) : Prop := ops C r11 (kq [4] R) S
def p2 (S : St) : Prop := ops C r10 (kq [4, 13, 14] (p1 C R)) S
def p3 (S : St) : Prop := ops C r9 (kq [4, 13, 14] (p2 C R)) S
def p4 (S : St) : Prop := ops C r8 (kq [4, 5, 13] (p3 C R)) S
def p6 (S : St) : Prop := ops C r7 (ops C t7 (kq [4] R)) S
def p7 (S : St) : Prop := ops C r6 (ops C t6 (kq [4, 11] (p6 C R))) S
def p5 (S : St) : Prop := condX (S.ev (.tmp 43)) (p7 C R) (p4 C R) S
def p8 (S : St) : Prop := ops C r5 (kq [2, 3, 4, 5, 6, 9, 43] (p5 C R)) S
def p9 (S : St) : Prop := ops C r4 (kq [2, 3, 4, 5, 6, 8, 9] (p8 C R)) S
def p11 (S : St) : Prop := ops C r3 (ops C t3 (kq [4] R)) S
def p10 (S : St) : Prop := condX (S.ev (.tmp 27)) (p11 C R) (p9 C R) S
def p12 (S : St) : Prop := ops C r2 (kq [2, 3, 4, 5, 6, 27] (p10 C R)) S
def p13 (S : St) : Prop := ops C r1 (kq [2, 3, 4, 5, 6] (p12 C R)) S
def p14 (S : St) : Prop := ops C r0 (kq [2, 3, 4] (p13 C R)) S
theorem s (S : St) : X C c (retK R) S = p14 C R S := by kernel_rfl
def E := ai @r11.eq_1 <| ai @p1.eq_1 <| ai @r10.eq_1 <| ai @p2.eq_1 <| ai @r9.eq_1 <| ai @p3.eq_1 <| ai @r8.eq_1 <| ai @p4.eq_1 <| ai @r7.eq_1 <| ai @t7.eq_1 <| ai @p6.eq_1 <| ai @r6.eq_1 <| ai @t6.eq_1 <| ai @p7.eq_1 <| ai @p5.eq_1 <| ai @r5.eq_1 <| ai @p8.eq_1 <| ai @r4.eq_1 <| ai @p9.eq_1 <| ai @r3.eq_1 <| ai @t3.eq_1 <| ai @p11.eq_1 <| ai @p10.eq_1 <| ai @r2.eq_1 <| ai @p12.eq_1 <| ai @r1.eq_1 <| ai @p13.eq_1 <| ai @r0.eq_1 <| ai @p14.eq_1 <| @s
end simplest_positive
end Go.Proofs.YtncmmbacoknefaaGreat

/- Qa: What calls of the program's ratio give. -/
namespace Go.Proofs.YtncmmbacoknefaaGreat
open Go Go.RowKit Sx
set_option linter.unusedVariables false
set_option linter.unusedSimpArgs false
theorem small_plain {m : Int} (h : A4 m) : m < ((2 ^ 127 : Nat) : Int) ↔ lb3 m = 0 ∧ lb2 m = 0 ∧ (lb1 m).fdiv 9223372036854775808 = 0 := by
 have e := mv_me h
 have h0 := lb0_in m
 have h1 := lb1_in m
 have h2 := lb2_in m
 have h3 := lb3_in m
 rw [Int.fdiv_eq_ediv_of_nonneg _ (by decide)]
 rw [show ((2 ^ 127 : Nat) : Int) = 170141183460469231731687303715884105728 by decide]
 unfold MV at e
 unfold U64 at *
 generalize lb0 m = a at *
 generalize lb1 m = b at *
 generalize lb2 m = c at *
 generalize lb3 m = d at *
 clear h
 omega
theorem gx_small {z : Int} (h : Fits z) (W : World) : Gives Tryz.prog 192 [WX z] W (· = .bool (decide (ab z < ((2 ^ 127 : Nat) : Int)))) := by
 have e := small_plain (m := ab z) ⟨ab_nonneg z, (fits_lt z).1 h⟩
 have hb := lb1_in (ab z)
 have sh : ∀ a : Int, Int.fdiv a (2 ^ 63) = a.fdiv 9223372036854775808 := fun a => rfl
 refine gives_known en_ratio_small ?_
 rw [show decide (ab z < ((2 ^ 127 : Nat) : Int)) = (decide (lb3 (ab z) = 0) && (decide (lb2 (ab z) = 0) && decide ((lb1 (ab z)).fdiv 9223372036854775808 = 0))) by rw [Bool.eq_iff_iff, decide_eq_true_iff, e]; simp]
 clear e h
 refine known_of (enter Tryz.func192 ratio_small.ok (args := [WX z]) (by simp) ?_)
 repeat' (first | simp (disch := omega) only [sxE, ratio_small.E, Nat.reduceAdd, Nat.reduceEqDiff, Nat.reduceMul, Nat.reduceSub, Int.reduceAdd, Int.reduceSub, Int.reduceMul, Int.reduceNeg, Int.reduceLT, Int.reduceLE, Int.reduceEq, Int.reduceToNat, ↓reduceIte, Int.reducePow, Nat.reduceLeDiff, Nat.reduceLT, ne_eq, eq_self, List.length_cons, List.length_nil, qxE] | ((with_reducible first | apply cond_beq | apply gd_beq) <;> (intro hc; first | simp only [beq_iff_eq.2 hc] | simp only [beq_eq_false_iff_ne.2 hc] | skip)) | ((with_reducible first | apply cond_dec | apply gd_dec) <;> (intro hc; first | simp only [decide_eq_true hc] | simp only [decide_eq_false hc] | skip)) | ((with_reducible first | apply cond_of | apply gd_of) <;> (intro hc; try simp only [hc])) | (with_reducible refine cregF ?_))
 all_goals (refine vb ?_; rw [Bool.eq_iff_iff]; simp_all)
def gcF (x : Int × Int) : St := ⟨3, [(2, .p 0 0), (3, .p 1 0), (4, .p 2 0)], [(0, wc x.1), (1, wc x.2), (2, [.bool false, .int .u64 0, .int .u64 0, .int .u64 0, .int .u64 0])], ext0⟩
set_option maxRecDepth 100000 in
theorem gx_divisor {z y : Int} (h : Fits z) (h' : Fits y) (W : World) : Gives Tryz.prog 191 [WX z, WX y] W (· = WX (gc z y)) := by
 refine gives_known en_ratio_divisor ?_
 rw [← gc_abs]
 have f1 : Fits (ab z) := fits_le h (by rw [ab_ab]; exact Int.le_refl _)
 have f2 : Fits (ab y) := fits_le h' (by rw [ab_ab]; exact Int.le_refl _)
 have n1 := ab_nonneg z
 have n2 := ab_nonneg y
 have g1 := sgx_ab z
 have g2 := sgx_ab y
 have a1 := ab_ab z
 have a2 := ab_ab y
 clear h h'
 refine known_of (enter Tryz.func191 ratio_divisor.ok (args := [WX z, WX y]) (by simp) ?_)
 repeat' (first | simp (disch := omega) only [sxE, ratio_divisor.E, Nat.reduceAdd, Nat.reduceEqDiff, Nat.reduceMul, Nat.reduceSub, Int.reduceAdd, Int.reduceSub, Int.reduceMul, Int.reduceNeg, Int.reduceLT, Int.reduceLE, Int.reduceEq, Int.reduceToNat, ↓reduceIte, Int.reducePow, Nat.reduceLeDiff, Nat.reduceLT, ne_eq, eq_self, List.length_cons, List.length_nil, qxE] | (with_reducible refine cregF ?_))
 rw [ratio_divisor.p2_l]
 refine LX_inv gcF (fun x => 0 ≤ x.1 ∧ 0 ≤ x.2 ∧ Fits x.1 ∧ Fits x.2 ∧ gc x.1 x.2 = gc (ab z) (ab y)) (fun x => x.2.toNat) ?round (ab z, ab y) ⟨n1, n2, f1, f2, rfl⟩ ?start
 case start =>
  unfold gcF wc
  dsimp only
  rw [g1, g2, a1, a2]
  simp (disch := omega) only [sxE, ratio_divisor.E, Nat.reduceAdd, Nat.reduceEqDiff, Nat.reduceMul, Nat.reduceSub, Int.reduceAdd, Int.reduceSub, Int.reduceMul, Int.reduceNeg, Int.reduceLT, Int.reduceLE, Int.reduceEq, Int.reduceToNat, ↓reduceIte, Int.reducePow, Nat.reduceLeDiff, Nat.reduceLT, ne_eq, eq_self, List.length_cons, List.length_nil]
 case round =>
  rintro ⟨x, w⟩ ⟨h1, h2, h3, h4, h5⟩
  dsimp only at h1 h2 h3 h4 h5 ⊢
  rw [← h5]
  clear h5 f1 f2 n1 n2 g1 g2 a1 a2
  have hcm := cm_zero w
  unfold gcF wc
  dsimp only
  by_cases hw : w = 0
  ·subst hw
   rw [gc_zero x h1]
   have hc0 : cm 0 0 = 0 := rfl
   repeat' (first | simp (disch := omega) only [sxE, ratio_divisor.E, Nat.reduceAdd, Nat.reduceEqDiff, Nat.reduceMul, Nat.reduceSub, Int.reduceAdd, Int.reduceSub, Int.reduceMul, Int.reduceNeg, Int.reduceLT, Int.reduceLE, Int.reduceEq, Int.reduceToNat, ↓reduceIte, Int.reducePow, Nat.reduceLeDiff, Nat.reduceLT, ne_eq, eq_self, List.length_cons, List.length_nil, qxE, hc0] | (with_reducible refine Sx.call_at (f := 140) (fun W hW => gx_sign h4 W) ?_) | (with_reducible refine cregF ?_))
  ·have hc0 : cm w 0 ≠ 0 := by rw [hcm]; (repeat' split) <;> omega
   have hq := fits_emod (z := x) h4 hw
   have hm0 := Int.emod_nonneg x hw
   have hm1 := Int.emod_lt_of_pos x (show 0 < w by omega)
   have hgs := gc_step h1 (show 0 < w by omega)
   clear hcm
   repeat' (first | simp (disch := omega) only [sxE, ratio_divisor.E, Nat.reduceAdd, Nat.reduceEqDiff, Nat.reduceMul, Nat.reduceSub, Int.reduceAdd, Int.reduceSub, Int.reduceMul, Int.reduceNeg, Int.reduceLT, Int.reduceLE, Int.reduceEq, Int.reduceToNat, ↓reduceIte, Int.reducePow, Nat.reduceLeDiff, Nat.reduceLT, ne_eq, eq_self, List.length_cons, List.length_nil, qxE] | (with_reducible refine Sx.call_at (f := 140) (fun W hW => gx_sign h4 W) ?_) | (with_reducible refine Sx.call_at (f := 171) (fun W hW => gx_divmod h3 h4 hw W) ?_) | (with_reducible refine cregF ?_))
   exact ⟨(w, x % w), ⟨h2, hm0, h4, hq, hgs⟩, by dsimp only; omega, by repeat' (first | (with_reducible rfl) | (exact Or.inl rfl) | apply And.intro)⟩
theorem gc_le_ab (x y : Int) : gc x y ≤ ab x ∨ gc x y ≤ ab y := by
 by_cases h : y = 0
 ·left; subst h; rw [← gc_abs]; rw [show ab 0 = 0 from rfl, gc_zero _ (ab_nonneg x)]; exact Int.le_refl _
 ·right
  rw [← gc_abs]
  exact gc_le (by have := ab_nonneg y; have := ab_zero_iff (z := y); omega)
theorem fits_gc {x y : Int} (h : Fits x) (h' : Fits y) : Fits (gc x y) := by
 rcases gc_le_ab x y with e | e
 ·exact fits_le h (by rw [ab_pos (gc_nonneg x y)]; exact e)
 ·exact fits_le h' (by rw [ab_pos (gc_nonneg x y)]; exact e)
theorem fits_one : Fits 1 := rfl
theorem cm_pos (z : Int) : 0 < cm z 0 ↔ 0 < z := by rw [cm_zero]; (repeat' split) <;> omega
theorem i64_one : I64 1 := ⟨by decide, by decide⟩
set_option maxRecDepth 100000 in
theorem gx_rvalid {p q : Int} (h : Fits p) (h' : Fits q) (W : World) : Gives Tryz.prog 186 [RX p q] W (· = .bool (rok true p q)) := by
 have hg := fits_gc h h'
 refine gives_known en_ratio_Valid ?_
 have hcm := cm_pos q
 refine known_of (enter Tryz.func186 ratio_Valid.ok (args := [RX p q]) (by simp) ?_)
 repeat' (first | simp (disch := omega) only [sxE, ratio_Valid.E, Nat.reduceAdd, Nat.reduceEqDiff, Nat.reduceMul, Nat.reduceSub, Int.reduceAdd, Int.reduceSub, Int.reduceMul, Int.reduceNeg, Int.reduceLT, Int.reduceLE, Int.reduceEq, Int.reduceToNat, ↓reduceIte, Int.reducePow, Nat.reduceLeDiff, Nat.reduceLT, ne_eq, eq_self, List.length_cons, List.length_nil, qxE] | (with_reducible refine Sx.call_at (f := 176) (fun W hW => gx_valid h W) ?_) | (with_reducible refine Sx.call_at (f := 176) (fun W hW => gx_valid h' W) ?_) | (with_reducible refine Sx.call_at (f := 140) (fun W hW => gx_sign h' W) ?_) | (with_reducible refine Sx.call_at (f := 192) (fun W hW => gx_small h W) ?_) | (with_reducible refine Sx.call_at (f := 192) (fun W hW => gx_small h' W) ?_) | (with_reducible refine Sx.call_at (f := 191) (fun W hW => gx_divisor h h' W) ?_) | (with_reducible refine Sx.call_at (f := 81) (fun W hW => gx_of i64_one W) ?_) | ((with_reducible apply Sx.eq_is); (case h => exact fun W => eqx_run hg fits_one W); (case' hk => skip)) | ((with_reducible first | apply cond_beq | apply gd_beq) <;> (intro hc; first | simp only [beq_iff_eq.2 hc] | simp only [beq_eq_false_iff_ne.2 hc] | skip)) | ((with_reducible first | apply cond_dec | apply gd_dec) <;> (intro hc; first | simp only [decide_eq_true hc] | simp only [decide_eq_false hc] | skip)) | ((with_reducible first | apply cond_of | apply gd_of) <;> (intro hc; try simp only [hc])) | (with_reducible refine cregF ?_))
 all_goals (refine vb ?_; unfold rok; rw [Bool.eq_iff_iff]; simp_all <;> (intros; omega))
def BadR (v : Value) : Prop := (∃ q, Fits q ∧ v = .agg #[.bool true, .int .u64 0, .int .u64 0, .int .u64 0, .int .u64 0, .bool (sg q), .int .u64 (lb0 (ab q)), .int .u64 (lb1 (ab q)), .int .u64 (lb2 (ab q)), .int .u64 (lb3 (ab q))]) ∨
 (∃ p, Fits p ∧ v = .agg #[.bool (sg p), .int .u64 (lb0 (ab p)), .int .u64 (lb1 (ab p)), .int .u64 (lb2 (ab p)), .int .u64 (lb3 (ab p)), .bool true, .int .u64 0, .int .u64 0, .int .u64 0, .int .u64 0]) ∨
 v = .agg #[.bool true, .int .u64 0, .int .u64 0, .int .u64 0, .int .u64 0, .bool true, .int .u64 0, .int .u64 0, .int .u64 0, .int .u64 0]
theorem gx_rvalid0 {v : Value} (h : BadR v) (W : World) : Gives Tryz.prog 186 [v] W (· = .bool false) := by
 refine gives_known en_ratio_Valid ?_
 rcases h with ⟨q, h, rfl⟩ | ⟨p, h, rfl⟩ | rfl
 ·refine known_of (enter Tryz.func186 ratio_Valid.ok (args := [_]) (by simp) ?_)
  repeat' (first | simp (disch := omega) only [sxE, ratio_Valid.E, Nat.reduceAdd, Nat.reduceEqDiff, Nat.reduceMul, Nat.reduceSub, Int.reduceAdd, Int.reduceSub, Int.reduceMul, Int.reduceNeg, Int.reduceLT, Int.reduceLE, Int.reduceEq, Int.reduceToNat, ↓reduceIte, Int.reducePow, Nat.reduceLeDiff, Nat.reduceLT, ne_eq, eq_self, List.length_cons, List.length_nil, qxE] | (with_reducible refine Sx.call_at (f := 176) (fun W hW => gx_valid0 W) ?_) | (with_reducible refine cregF ?_))
 ·refine known_of (enter Tryz.func186 ratio_Valid.ok (args := [_]) (by simp) ?_)
  repeat' (first | simp (disch := omega) only [sxE, ratio_Valid.E, Nat.reduceAdd, Nat.reduceEqDiff, Nat.reduceMul, Nat.reduceSub, Int.reduceAdd, Int.reduceSub, Int.reduceMul, Int.reduceNeg, Int.reduceLT, Int.reduceLE, Int.reduceEq, Int.reduceToNat, ↓reduceIte, Int.reducePow, Nat.reduceLeDiff, Nat.reduceLT, ne_eq, eq_self, List.length_cons, List.length_nil, qxE] | (with_reducible refine Sx.call_at (f := 176) (fun W hW => gx_valid h W) ?_) | (with_reducible refine Sx.call_at (f := 176) (fun W hW => gx_valid0 W) ?_) | (with_reducible refine cregF ?_))
 ·refine known_of (enter Tryz.func186 ratio_Valid.ok (args := [_]) (by simp) ?_)
  repeat' (first | simp (disch := omega) only [sxE, ratio_Valid.E, Nat.reduceAdd, Nat.reduceEqDiff, Nat.reduceMul, Nat.reduceSub, Int.reduceAdd, Int.reduceSub, Int.reduceMul, Int.reduceNeg, Int.reduceLT, Int.reduceLE, Int.reduceEq, Int.reduceToNat, ↓reduceIte, Int.reducePow, Nat.reduceLeDiff, Nat.reduceLT, ne_eq, eq_self, List.length_cons, List.length_nil, qxE] | (with_reducible refine Sx.call_at (f := 176) (fun W hW => gx_valid0 W) ?_) | (with_reducible refine cregF ?_))
theorem gx_rof {z : Int} (h : I64 z) (W : World) : Gives Tryz.prog 180 [.int .i64 z] W (· = RX z 1) := by
 refine gives_known en_ratio_Of ?_
 refine known_of (enter Tryz.func180 ratio_Of.ok (args := [_]) (by simp) ?_)
 repeat' (first | simp (disch := omega) only [sxE, ratio_Of.E, Nat.reduceAdd, Nat.reduceEqDiff, Nat.reduceMul, Nat.reduceSub, Int.reduceAdd, Int.reduceSub, Int.reduceMul, Int.reduceNeg, Int.reduceLT, Int.reduceLE, Int.reduceEq, Int.reduceToNat, ↓reduceIte, Int.reducePow, Nat.reduceLeDiff, Nat.reduceLT, ne_eq, eq_self, List.length_cons, List.length_nil, qxE] | (with_reducible refine Sx.call_at (f := 81) (fun W hW => gx_of h W) ?_) | (with_reducible refine Sx.call_at (f := 81) (fun W hW => gx_of i64_one W) ?_) | (with_reducible refine cregF ?_))
def CQ (v : Value) (p q : Int) : Prop := (∃ x y, Fits x ∧ Fits y ∧ v = RX x y ∧ p = qn true x y ∧ q = qd true x y) ∨ (BadR v ∧ p = 0 ∧ q = 1)
theorem CQ.fq {v : Value} {p q : Int} (h : CQ v p q) : Fq p q := by
 rcases h with ⟨x, y, -, -, -, rfl, rfl⟩ | ⟨-, rfl, rfl⟩
 ·exact fq_clean _ _ _
 ·exact fq_zero
theorem Fq.cq {p q : Int} (h : Fq p q) : CQ (RX p q) p q := by
 have : rok true p q = true := rok_iff.2 ⟨rfl, h⟩
 exact .inl ⟨p, q, h.fp, h.fq, rfl, by unfold qn; rw [this]; rfl, by unfold qd; rw [this]; rfl⟩
set_option maxRecDepth 100000 in
theorem gx_rclean {v : Value} {p q : Int} (h : CQ v p q) (W : World) : Gives Tryz.prog 168 [v] W (· = RX p q) := by
 refine gives_known en_ratio_clean ?_
 rcases h with ⟨x, y, h1, h2, rfl, rfl, rfl⟩ | ⟨h, rfl, rfl⟩
 ·unfold qn qd
  cases hk : rok true x y
  ·refine known_of (enter Tryz.func168 ratio_clean.ok (args := [_]) (by simp) ?_)
   repeat' (first | simp (disch := omega) only [sxE, ratio_clean.E, Nat.reduceAdd, Nat.reduceEqDiff, Nat.reduceMul, Nat.reduceSub, Int.reduceAdd, Int.reduceSub, Int.reduceMul, Int.reduceNeg, Int.reduceLT, Int.reduceLE, Int.reduceEq, Int.reduceToNat, ↓reduceIte, Int.reducePow, Nat.reduceLeDiff, Nat.reduceLT, ne_eq, eq_self, List.length_cons, List.length_nil, qxE, hk] | (with_reducible refine Sx.call_at (f := 186) (fun W hW => gx_rvalid h1 h2 W) ?_) | (with_reducible refine Sx.call_at (f := 180) (fun W hW => gx_rof i64_zero W) ?_) | (with_reducible refine cregF ?_))
  ·refine known_of (enter Tryz.func168 ratio_clean.ok (args := [_]) (by simp) ?_)
   repeat' (first | simp (disch := omega) only [sxE, ratio_clean.E, Nat.reduceAdd, Nat.reduceEqDiff, Nat.reduceMul, Nat.reduceSub, Int.reduceAdd, Int.reduceSub, Int.reduceMul, Int.reduceNeg, Int.reduceLT, Int.reduceLE, Int.reduceEq, Int.reduceToNat, ↓reduceIte, Int.reducePow, Nat.reduceLeDiff, Nat.reduceLT, ne_eq, eq_self, List.length_cons, List.length_nil, qxE, hk] | (with_reducible refine Sx.call_at (f := 186) (fun W hW => gx_rvalid h1 h2 W) ?_) | (with_reducible refine Sx.call_at (f := 180) (fun W hW => gx_rof i64_zero W) ?_) | (with_reducible refine cregF ?_))
 ·have hv := fun W => gx_rvalid0 h W
  rcases h with ⟨q, h, rfl⟩ | ⟨p, h, rfl⟩ | rfl
  ·refine known_of (enter Tryz.func168 ratio_clean.ok (args := [_]) (by simp) ?_)
   repeat' (first | simp (disch := omega) only [sxE, ratio_clean.E, Nat.reduceAdd, Nat.reduceEqDiff, Nat.reduceMul, Nat.reduceSub, Int.reduceAdd, Int.reduceSub, Int.reduceMul, Int.reduceNeg, Int.reduceLT, Int.reduceLE, Int.reduceEq, Int.reduceToNat, ↓reduceIte, Int.reducePow, Nat.reduceLeDiff, Nat.reduceLT, ne_eq, eq_self, List.length_cons, List.length_nil, qxE] | (with_reducible refine Sx.call_at (f := 186) (fun W hW => hv W) ?_) | (with_reducible refine Sx.call_at (f := 180) (fun W hW => gx_rof i64_zero W) ?_) | (with_reducible refine cregF ?_))
  ·refine known_of (enter Tryz.func168 ratio_clean.ok (args := [_]) (by simp) ?_)
   repeat' (first | simp (disch := omega) only [sxE, ratio_clean.E, Nat.reduceAdd, Nat.reduceEqDiff, Nat.reduceMul, Nat.reduceSub, Int.reduceAdd, Int.reduceSub, Int.reduceMul, Int.reduceNeg, Int.reduceLT, Int.reduceLE, Int.reduceEq, Int.reduceToNat, ↓reduceIte, Int.reducePow, Nat.reduceLeDiff, Nat.reduceLT, ne_eq, eq_self, List.length_cons, List.length_nil, qxE] | (with_reducible refine Sx.call_at (f := 186) (fun W hW => hv W) ?_) | (with_reducible refine Sx.call_at (f := 180) (fun W hW => gx_rof i64_zero W) ?_) | (with_reducible refine cregF ?_))
  ·refine known_of (enter Tryz.func168 ratio_clean.ok (args := [_]) (by simp) ?_)
   repeat' (first | simp (disch := omega) only [sxE, ratio_clean.E, Nat.reduceAdd, Nat.reduceEqDiff, Nat.reduceMul, Nat.reduceSub, Int.reduceAdd, Int.reduceSub, Int.reduceMul, Int.reduceNeg, Int.reduceLT, Int.reduceLE, Int.reduceEq, Int.reduceToNat, ↓reduceIte, Int.reducePow, Nat.reduceLeDiff, Nat.reduceLT, ne_eq, eq_self, List.length_cons, List.length_nil, qxE] | (with_reducible refine Sx.call_at (f := 186) (fun W hW => hv W) ?_) | (with_reducible refine Sx.call_at (f := 180) (fun W hW => gx_rof i64_zero W) ?_) | (with_reducible refine cregF ?_))
end Go.Proofs.YtncmmbacoknefaaGreat

/- Ql: Plain laws of fractions. -/
namespace Go.Proofs.YtncmmbacoknefaaGreat
set_option linter.unusedVariables false
set_option linter.unusedSimpArgs false
theorem km_le (x y : Int) : cm x y ≤ 0 ↔ x ≤ y := by unfold cm; (repeat' split) <;> omega
theorem km_gt (x y : Int) : 0 < cm x y ↔ y < x := by unfold cm; (repeat' split) <;> omega
theorem km_lt (x y : Int) : cm x y < 0 ↔ x < y := by unfold cm; (repeat' split) <;> omega
theorem km_ge0 (x y : Int) : 0 ≤ cm x y ↔ y ≤ x := by unfold cm; (repeat' split) <;> omega
def cq (p q p' q' : Int) : Int := cm (p * q') (p' * q)
theorem mul_le_cancel {a x y : Int} (ha : 0 < a) (h : a * x ≤ a * y) : x ≤ y := Int.le_of_mul_le_mul_left h ha
theorem fl_le {x y : Int} (hy : 0 < y) : x / y * y ≤ x ∧ x < x / y * y + y := by
 have h1 := Int.mul_ediv_add_emod x y
 have h2 := Int.emod_nonneg x (Int.ne_of_gt hy)
 have h3 := Int.emod_lt_of_pos x hy
 rw [Int.mul_comm] at h1
 omega
theorem le_fl {x y z : Int} (hy : 0 < y) (h : z * y ≤ x) : z ≤ x / y := (Int.le_ediv_iff_mul_le hy).2 h
end Go.Proofs.YtncmmbacoknefaaGreat

/- Qb: What calls of the program's ratio give: Compare, Floor, Ceil, At, Make. -/
namespace Go.Proofs.YtncmmbacoknefaaGreat
open Go Go.RowKit Sx
set_option linter.unusedVariables false
set_option linter.unusedSimpArgs false
theorem CQ.ten {v : Value} {p q : Int} (h : CQ v p q) : ∃ c0 c1 c2 c3 c4 c5 c6 c7 c8 c9, v = .agg #[c0, c1, c2, c3, c4, c5, c6, c7, c8, c9] := by
 rcases h with ⟨x, y, -, -, rfl, -, -⟩ | ⟨⟨q, -, rfl⟩ | ⟨p, -, rfl⟩ | rfl, -, -⟩ <;> exact ⟨_, _, _, _, _, _, _, _, _, _, rfl⟩
theorem gx_product {x y : Int} (h : Fits x) (h' : Fits y) (hf : Fits (x * y)) (W : World) : Gives Tryz.prog 169 [WX x, WX y] W (· = WX (x * y)) := by
 refine gives_known en_ratio_product ?_
 refine known_of (enter Tryz.func169 ratio_product.ok (args := [_, _]) (by simp) ?_)
 repeat' (first | simp (disch := omega) only [sxE, ratio_product.E, Nat.reduceAdd, Nat.reduceEqDiff, Nat.reduceMul, Nat.reduceSub, Int.reduceAdd, Int.reduceSub, Int.reduceMul, Int.reduceNeg, Int.reduceLT, Int.reduceLE, Int.reduceEq, Int.reduceToNat, ↓reduceIte, Int.reducePow, Nat.reduceLeDiff, Nat.reduceLT, ne_eq, eq_self, List.length_cons, List.length_nil, qxE] | (with_reducible refine Sx.call_at (f := 126) (fun W hW => gx_mul h h' hf W) ?_) | (with_reducible refine cregF ?_))
theorem Fq.fm {p q p' q' : Int} (h : Fq p q) (h' : Fq p' q') : Fits (p * q') := (bd_mul h.bp h'.bq).fits
theorem gx_rcompare {v v' : Value} {p q p' q' : Int} (h : CQ v p q) (h' : CQ v' p' q') (W : World) : Gives Tryz.prog 179 [v, v'] W (· = .int .i64 (cq p q p' q')) := by
 obtain ⟨c0, c1, c2, c3, c4, c5, c6, c7, c8, c9, rfl⟩ := h.ten
 obtain ⟨d0, d1, d2, d3, d4, d5, d6, d7, d8, d9, rfl⟩ := h'.ten
 have f := h.fq
 have f' := h'.fq
 have m1 := f.fm f'
 have m2 := f'.fm f
 refine gives_known en_ratio_Compare ?_
 refine known_of (enter Tryz.func179 ratio_Compare.ok (args := [_, _]) (by simp) ?_)
 repeat' (first | simp (disch := omega) only [sxE, ratio_Compare.E, Nat.reduceAdd, Nat.reduceEqDiff, Nat.reduceMul, Nat.reduceSub, Int.reduceAdd, Int.reduceSub, Int.reduceMul, Int.reduceNeg, Int.reduceLT, Int.reduceLE, Int.reduceEq, Int.reduceToNat, ↓reduceIte, Int.reducePow, Nat.reduceLeDiff, Nat.reduceLT, ne_eq, eq_self, List.length_cons, List.length_nil, qxE] | (with_reducible refine Sx.call_at (f := 168) (fun W hW => gx_rclean h W) ?_) | (with_reducible refine Sx.call_at (f := 168) (fun W hW => gx_rclean h' W) ?_) | (with_reducible refine Sx.call_at (f := 169) (fun W hW => gx_product f.fp f'.fq m1 W) ?_) | (with_reducible refine Sx.call_at (f := 169) (fun W hW => gx_product f'.fp f.fq m2 W) ?_) | (with_reducible refine Sx.call_at (f := 193) (fun W hW => gx_compare m1 m2 W) ?_) | (with_reducible refine cregF ?_))
 rfl
theorem Fq.neg {p q : Int} (h : Fq p q) : Fq (-p) q := ⟨h.pos, bd_neg h.bp, h.bq, by rw [gc_neg]; exact h.gc⟩
def mkV (b : Bool) (z y : Int) : Value := if mok b z y then .tuple #[RX (mn z y) (mD z y), .bool true] else .tuple #[RX 0 0, .bool false]
theorem cm_zero_iff (z : Int) : cm z 0 = 0 ↔ z = 0 := by rw [cm_zero]; (repeat' split) <;> omega
theorem fits_neg {z : Int} (h : Fits z) : Fits (-z) := fits_le h (by rw [ab_neg]; exact Int.le_refl _)
theorem fits_mn {z y : Int} (h : Fits z) (hy : y ≠ 0) : Fits (mn z y) := by
 unfold mn
 split
 ·exact fits_ediv (fits_neg h) (by have := gc_pos (x := z) hy; omega)
 ·exact fits_ediv h (by have := gc_pos (x := z) hy; omega)
theorem fits_ab {z : Int} (h : Fits z) : Fits (ab z) := fits_le h (by rw [ab_ab]; exact Int.le_refl _)
theorem fits_mD {z y : Int} (h : Fits y) (hy : y ≠ 0) : Fits (mD z y) := fits_ediv (fits_ab h) (by have := gc_pos (x := z) hy; omega)
set_option maxRecDepth 100000 in
theorem gx_rmake {v v' : Value} {b b' : Bool} {z y : Int} (h : RW v b z) (h' : RW v' b' y) (W : World) : Gives Tryz.prog 178 [v, v'] W (· = mkV (b && b') z y) := by
 refine gives_known en_ratio_Make ?_
 have v1 := fun W => gy_valid h W
 have v2 := fun W => gy_valid h' W
 have s2 := fun W => g_sign h'.is W
 by_cases hbad : b = false ∨ b' = false ∨ y = 0
 ·have e : mkV (b && b') z y = .tuple #[RX 0 0, .bool false] := by
   unfold mkV mok
   rcases hbad with rfl | rfl | rfl
   ·rfl
   ·rw [Bool.and_false]; rfl
   ·rw [if_neg (by simp)]
  rw [e]
  obtain ⟨c0, c1, c2, c3, c4, rfl⟩ := h.five
  obtain ⟨d0, d1, d2, d3, d4, rfl⟩ := h'.five
  have hcm := cm_zero_iff y
  clear e h h'
  cases b
  ·refine known_of (enter Tryz.func178 ratio_Make.ok (args := [_, _]) (by simp) ?_)
   repeat' (first | simp (disch := omega) only [sxE, ratio_Make.E, Nat.reduceAdd, Nat.reduceEqDiff, Nat.reduceMul, Nat.reduceSub, Int.reduceAdd, Int.reduceSub, Int.reduceMul, Int.reduceNeg, Int.reduceLT, Int.reduceLE, Int.reduceEq, Int.reduceToNat, ↓reduceIte, Int.reducePow, Nat.reduceLeDiff, Nat.reduceLT, ne_eq, eq_self, List.length_cons, List.length_nil, qxE] | (with_reducible refine Sx.call_at (f := 176) (fun W hW => v1 W) ?_) | (with_reducible refine cregF ?_))
  ·cases b'
   ·refine known_of (enter Tryz.func178 ratio_Make.ok (args := [_, _]) (by simp) ?_)
    repeat' (first | simp (disch := omega) only [sxE, ratio_Make.E, Nat.reduceAdd, Nat.reduceEqDiff, Nat.reduceMul, Nat.reduceSub, Int.reduceAdd, Int.reduceSub, Int.reduceMul, Int.reduceNeg, Int.reduceLT, Int.reduceLE, Int.reduceEq, Int.reduceToNat, ↓reduceIte, Int.reducePow, Nat.reduceLeDiff, Nat.reduceLT, ne_eq, eq_self, List.length_cons, List.length_nil, qxE] | (with_reducible refine Sx.call_at (f := 176) (fun W hW => v1 W) ?_) | (with_reducible refine Sx.call_at (f := 176) (fun W hW => v2 W) ?_) | (with_reducible refine cregF ?_))
   ·have hc0 : cm y 0 = 0 := hcm.2 (by rcases hbad with h | h | h; cases h; cases h; exact h)
    clear hcm hbad
    refine known_of (enter Tryz.func178 ratio_Make.ok (args := [_, _]) (by simp) ?_)
    repeat' (first | simp (disch := omega) only [sxE, ratio_Make.E, Nat.reduceAdd, Nat.reduceEqDiff, Nat.reduceMul, Nat.reduceSub, Int.reduceAdd, Int.reduceSub, Int.reduceMul, Int.reduceNeg, Int.reduceLT, Int.reduceLE, Int.reduceEq, Int.reduceToNat, ↓reduceIte, Int.reducePow, Nat.reduceLeDiff, Nat.reduceLT, ne_eq, eq_self, List.length_cons, List.length_nil, qxE, hc0] | (with_reducible refine Sx.call_at (f := 176) (fun W hW => v1 W) ?_) | (with_reducible refine Sx.call_at (f := 176) (fun W hW => v2 W) ?_) | (with_reducible refine Sx.call_at (f := 140) (fun W hW => s2 W) ?_) | (with_reducible refine cregF ?_))
 ·obtain ⟨rfl, rfl⟩ : b = true ∧ b' = true := by
   cases b
   ·exact absurd (.inl rfl) hbad
   ·cases b'
    ·exact absurd (.inr (.inl rfl)) hbad
    ·exact ⟨rfl, rfl⟩
  have hy : y ≠ 0 := fun e => hbad (.inr (.inr e))
  rcases h with ⟨-, rfl, h⟩ | ⟨h, -, -⟩
  rotate_left
  ·cases h
  rcases h' with ⟨-, rfl, h'⟩ | ⟨h', -, -⟩
  rotate_left
  ·cases h'
  have hc0 : cm y 0 ≠ 0 := fun e => hy ((cm_zero_iff y).1 e)
  have f1 := fits_mn h hy
  have f2 := fits_mD (z := z) h' hy
  have hg := fits_gc h h'
  have hgp := gc_pos (x := z) hy
  have hgn : gc z y ≠ 0 := by omega
  have e : mkV (true && true) z y = if (decide (ab (mn z y) < ((2 ^ 127 : Nat) : Int)) && decide (ab (mD z y) < ((2 ^ 127 : Nat) : Int))) = true then .tuple #[RX (mn z y) (mD z y), .bool true] else .tuple #[RX 0 0, .bool false] := by
   unfold mkV mok
   rw [decide_eq_false hy]; rfl
  rw [e]
  have k1 := fun W => gx_small f1 W
  have k2 := fun W => gx_small f2 W
  generalize decide (ab (mn z y) < ((2 ^ 127 : Nat) : Int)) = t1 at *
  generalize decide (ab (mD z y) < ((2 ^ 127 : Nat) : Int)) = t2 at *
  clear e hbad
  by_cases hneg : y < 0
  ·have hs : sg y = true := decide_eq_true hneg
   have n1 := fits_neg h
   have n2 := fits_neg h'
   have e1 : -z / gc z y = mn z y := by unfold mn; rw [if_pos hneg]
   have e2 : -y / gc z y = mD z y := by unfold mD ab; rw [if_pos hneg]
   have d1 := fun W => gx_divmod n1 hg hgn W
   have d2 := fun W => gx_divmod n2 hg hgn W
   rw [e1] at d1
   rw [e2] at d2
   have g1 := fun W => gx_divisor n1 n2 W
   rw [gc_neg, gc_ngr] at g1
   generalize mn z y = N at *
   generalize mD z y = D at *
   generalize gc z y = G at *
   cases t1 <;> cases t2
   all_goals
    refine known_of (enter Tryz.func178 ratio_Make.ok (args := [_, _]) (by simp) ?_)
    repeat' (first | simp (disch := omega) only [sxE, ratio_Make.E, Nat.reduceAdd, Nat.reduceEqDiff, Nat.reduceMul, Nat.reduceSub, Int.reduceAdd, Int.reduceSub, Int.reduceMul, Int.reduceNeg, Int.reduceLT, Int.reduceLE, Int.reduceEq, Int.reduceToNat, ↓reduceIte, Int.reducePow, Nat.reduceLeDiff, Nat.reduceLT, ne_eq, eq_self, List.length_cons, List.length_nil, qxE] | (with_reducible refine Sx.call_at (f := 176) (fun W hW => v1 W) ?_) | (with_reducible refine Sx.call_at (f := 176) (fun W hW => v2 W) ?_) | (with_reducible refine Sx.call_at (f := 140) (fun W hW => s2 W) ?_) | (with_reducible refine Sx.call_at (f := 190) (fun W hW => gx_neg h W) ?_) | (with_reducible refine Sx.call_at (f := 190) (fun W hW => gx_neg h' W) ?_) | (with_reducible refine Sx.call_at (f := 191) (fun W hW => g1 W) ?_) | (with_reducible refine Sx.call_at (f := 171) (fun W hW => d1 W) ?_) | (with_reducible refine Sx.call_at (f := 171) (fun W hW => d2 W) ?_) | (with_reducible refine Sx.call_at (f := 192) (fun W hW => k1 W) ?_) | (with_reducible refine Sx.call_at (f := 192) (fun W hW => k2 W) ?_) | (with_reducible refine cregF ?_))
    try rfl
  ·have e1 : z / gc z y = mn z y := by unfold mn; rw [if_neg hneg]
   have e2 : y / gc z y = mD z y := by unfold mD ab; rw [if_neg hneg]
   have d1 := fun W => gx_divmod h hg hgn W
   have d2 := fun W => gx_divmod h' hg hgn W
   rw [e1] at d1
   rw [e2] at d2
   have g1 := fun W => gx_divisor h h' W
   generalize mn z y = N at *
   generalize mD z y = D at *
   generalize gc z y = G at *
   cases t1 <;> cases t2
   all_goals
    refine known_of (enter Tryz.func178 ratio_Make.ok (args := [_, _]) (by simp) ?_)
    repeat' (first | simp (disch := omega) only [sxE, ratio_Make.E, Nat.reduceAdd, Nat.reduceEqDiff, Nat.reduceMul, Nat.reduceSub, Int.reduceAdd, Int.reduceSub, Int.reduceMul, Int.reduceNeg, Int.reduceLT, Int.reduceLE, Int.reduceEq, Int.reduceToNat, ↓reduceIte, Int.reducePow, Nat.reduceLeDiff, Nat.reduceLT, ne_eq, eq_self, List.length_cons, List.length_nil, qxE] | (with_reducible refine Sx.call_at (f := 176) (fun W hW => v1 W) ?_) | (with_reducible refine Sx.call_at (f := 176) (fun W hW => v2 W) ?_) | (with_reducible refine Sx.call_at (f := 140) (fun W hW => s2 W) ?_) | (with_reducible refine Sx.call_at (f := 191) (fun W hW => g1 W) ?_) | (with_reducible refine Sx.call_at (f := 171) (fun W hW => d1 W) ?_) | (with_reducible refine Sx.call_at (f := 171) (fun W hW => d2 W) ?_) | (with_reducible refine Sx.call_at (f := 192) (fun W hW => k1 W) ?_) | (with_reducible refine Sx.call_at (f := 192) (fun W hW => k2 W) ?_) | (with_reducible refine cregF ?_))
    try rfl
end Go.Proofs.YtncmmbacoknefaaGreat

/- CdX: MADE BY PROGRAM (sxgen.py): the small code of some functions, points of it and their equations. -/
namespace Go.Proofs.YtncmmbacoknefaaGreat
open Go Go.RowKit Sx
set_option linter.unusedVariables false
variable (C : Cx) (R L1 L2 L3 L4 : St → Prop)
namespace r03_Compare
def r0 : List G := [(some 2, none, .box true 10 (.tmp 0)), (some 3, none, .box true 10 (.tmp 1)), (some 4, none, .mv (.const (.int .i64 0)))]
def r1 : List G := [(some 9, none, .ld true 10 (.tmp 2)), (some 10, none, .call true 115 [.tmp 9]), (some 11, none, .ld true 10 (.tmp 3)), (some 12, none, .call true 115 [.tmp 11])]
def t1 : List G := [(none, none, .st true 10 (.tmp 2) (.tmp 10)), (none, none, .st true 10 (.tmp 3) (.tmp 12))]
def r2 : List G := [(some 14, none, .fa 0 (.tmp 2)), (some 15, none, .ld true 5 (.tmp 14)), (some 16, none, .fa 5 (.tmp 3)), (some 17, none, .ld true 5 (.tmp 16)), (some 18, none, .call false 76 [.tmp 15, .tmp 17]), (some 13, none, .mv (.tmp 18)), (some 19, none, .ex (.tmp 13) 0), (some 20, none, .ex (.tmp 13) 1), (some 5, none, .new zW), (none, none, .st true 5 (.tmp 5) (.tmp 19)), (some 6, none, .mv (.tmp 20))]
def r3 : List G := [(some 22, none, .fa 0 (.tmp 3)), (some 23, none, .ld true 5 (.tmp 22)), (some 24, none, .fa 5 (.tmp 2)), (some 25, none, .ld true 5 (.tmp 24)), (some 26, none, .call false 76 [.tmp 23, .tmp 25]), (some 21, none, .mv (.tmp 26)), (some 27, none, .ex (.tmp 21) 0), (some 28, none, .ex (.tmp 21) 1), (some 7, none, .new zW), (none, none, .st true 5 (.tmp 7) (.tmp 27)), (some 8, none, .mv (.tmp 28))]
def r4 : List G := [(some 29, none, .ld true 5 (.tmp 5)), (some 30, none, .ld true 5 (.tmp 7)), (some 31, none, .call false 54 [.tmp 29, .tmp 30]), (some 4, none, .mv (.tmp 31))]
def c : MC := (.seq (.reg r0 (some [2, 3])) (.seq (.dreg r1 t1 (some [2, 3])) (.seq (.reg r2 (some [2, 3, 5])) (.seq (.reg r3 (some [5, 7])) (.seq (.reg r4 (some [4])) .ret)))))
def ann : Ann := [(0, (some [2, 3], 0, [], [], [])), (1, (some [2, 3], 4, [], [(0, 0), (1, 0), (2, 0), (3, 0)], [])), (2, (some [2, 3, 5], 0, [], [], [])), (3, (some [5, 7], 0, [], [], [])), (4, (some [4], 0, [], [], []))]
theorem ok : compF Tryz.prog Tryz.f99 ann = some (32, c, [(4, none)]) := by kernel_rfl
def p1 (S : St) : Prop := ops C r4 (kq [4] R) S
def p2 (S : St) : Prop := ops C r3 (kq [5, 7] (p1 C R)) S
def p3 (S : St) : Prop := ops C r2 (kq [2, 3, 5] (p2 C R)) S
def p4 (S : St) : Prop := ops C r1 (ops C t1 (kq [2, 3] (p3 C R))) S
def p5 (S : St) : Prop := ops C r0 (kq [2, 3] (p4 C R)) S
theorem s (S : St) : X C c (retK R) S = p5 C R S := by kernel_rfl
def E := ai @r4.eq_1 <| ai @p1.eq_1 <| ai @r3.eq_1 <| ai @p2.eq_1 <| ai @r2.eq_1 <| ai @p3.eq_1 <| ai @r1.eq_1 <| ai @t1.eq_1 <| ai @p4.eq_1 <| ai @r0.eq_1 <| ai @p5.eq_1 <| @s
end r03_Compare
namespace r03_Make
def r0 : List G := [(some 2, none, .box true 5 (.tmp 0)), (some 3, none, .box true 5 (.tmp 1)), (some 4, none, .new zR), (some 5, none, .mv (.const (.bool false)))]
def r1 : List G := [(some 14, none, .ld true 5 (.tmp 2)), (some 15, none, .call false 100 [.tmp 14]), (some 16, none, .un .not (.tmp 15)), (some 17, none, .mv (.tmp 16)), (some 18, some (17, false), .ld true 5 (.tmp 3)), (some 19, some (17, false), .call false 100 [.tmp 18]), (some 20, some (17, false), .un .not (.tmp 19)), (some 21, none, .pick (.tmp 17) (.const (.bool true)) (.tmp 20)), (some 22, none, .mv (.tmp 21)), (some 23, some (22, false), .ld true 5 (.tmp 3)), (some 24, some (22, false), .call false 104 [.tmp 23]), (some 25, some (22, false), .bin .eql (.tmp 24) (.const (.int .i64 0))), (some 26, none, .pick (.tmp 22) (.const (.bool true)) (.tmp 25))]
def r2 : List G := [(some 27, none, .bd zR []), (none, none, .st true 10 (.tmp 4) (.tmp 27)), (some 5, none, .mv (.const (.bool false)))]
def r3 : List G := [(some 28, none, .ld true 5 (.tmp 2)), (some 29, none, .call true 107 [.tmp 28]), (some 30, none, .ld true 5 (.tmp 3)), (some 31, none, .call true 107 [.tmp 30]), (some 32, none, .call true 106 [.tmp 29, .tmp 31])]
def t3 : List G := [(some 6, none, .new zW), (none, none, .st true 5 (.tmp 6) (.tmp 32))]
def r4 : List G := [(some 34, none, .ld true 5 (.tmp 2)), (some 35, none, .call true 107 [.tmp 34]), (some 36, none, .ld true 5 (.tmp 6)), (some 37, none, .call true 116 [.tmp 35, .tmp 36]), (some 33, none, .mv (.tmp 37)), (some 38, none, .ex (.tmp 33) 0), (some 39, none, .ex (.tmp 33) 1), (some 40, none, .ex (.tmp 33) 2)]
def t4 : List G := [(some 7, none, .new zW), (some 8, none, .new zW), (none, none, .st true 5 (.tmp 7) (.tmp 38)), (none, none, .st true 5 (.tmp 8) (.tmp 39)), (some 9, none, .mv (.tmp 40))]
def r5 : List G := [(some 42, none, .ld true 5 (.tmp 3)), (some 43, none, .call true 107 [.tmp 42]), (some 44, none, .ld true 5 (.tmp 6)), (some 45, none, .call true 116 [.tmp 43, .tmp 44]), (some 41, none, .mv (.tmp 45)), (some 46, none, .ex (.tmp 41) 0), (some 47, none, .ex (.tmp 41) 1), (some 48, none, .ex (.tmp 41) 2)]
def t5 : List G := [(some 10, none, .new zW), (some 11, none, .new zW), (none, none, .st true 5 (.tmp 10) (.tmp 46)), (none, none, .st true 5 (.tmp 11) (.tmp 47)), (some 12, none, .mv (.tmp 48))]
def r6 : List G := [(some 49, none, .fa 0 (.tmp 2)), (some 50, none, .ld false 1 (.tmp 49)), (some 51, none, .fa 0 (.tmp 3)), (some 52, none, .ld false 1 (.tmp 51)), (some 53, none, .bq true (.tmp 50) (.tmp 52))]
def r7 : List G := [(some 54, none, .ld true 5 (.tmp 7)), (some 55, none, .call false 117 [.tmp 54]), (none, none, .st true 5 (.tmp 7) (.tmp 55))]
def r8 : List G := [(some 56, none, .ld true 5 (.tmp 7)), (some 57, none, .ld true 5 (.tmp 10)), (some 58, none, .bd zR [(0, 5, .tmp 56), (5, 5, .tmp 57)]), (some 13, none, .new zR), (none, none, .st true 10 (.tmp 13) (.tmp 58))]
def r9 : List G := [(some 59, none, .ld true 10 (.tmp 13)), (some 60, none, .call false 49 [.tmp 59]), (some 61, none, .un .not (.tmp 60))]
def r10 : List G := [(some 62, none, .bd zR []), (none, none, .st true 10 (.tmp 4) (.tmp 62)), (some 5, none, .mv (.const (.bool false)))]
def r11 : List G := [(some 63, none, .ld true 10 (.tmp 13)), (none, none, .st true 10 (.tmp 4) (.tmp 63)), (some 5, none, .mv (.const (.bool true)))]
def c : MC := (.seq (.reg r0 (some [2, 3, 4])) (.seq (.seq (.reg r1 (some [2, 3, 4, 26])) (.cond (.tmp 26) (.seq (.reg r2 (some [4, 5])) .ret) .skip)) (.seq (.dreg r3 t3 (some [2, 3, 4, 6])) (.seq (.dreg r4 t4 (some [2, 3, 4, 6, 7])) (.seq (.dreg r5 t5 (some [2, 3, 4, 7, 10])) (.seq (.seq (.reg r6 (some [4, 7, 10, 53])) (.cond (.tmp 53) (.reg r7 (some [4, 7, 10])) .skip)) (.seq (.reg r8 (some [4, 13])) (.seq (.seq (.reg r9 (some [4, 13, 61])) (.cond (.tmp 61) (.seq (.reg r10 (some [4, 5])) .ret) .skip)) (.seq (.reg r11 (some [4, 5])) .ret)))))))))
def ann : Ann := [(0, (some [2, 3, 4], 0, [], [], [])), (1, (some [2, 3, 4, 26], 0, [], [], [])), (2, (some [4, 5], 0, [], [], [])), (3, (some [2, 3, 4, 6], 6, [], [(0, 0), (1, 0), (2, 0), (3, 0), (4, 0)], [5])), (4, (some [2, 3, 4, 6, 7], 10, [6, 7], [(0, 0), (1, 0), (2, 0), (3, 0), (4, 0), (5, 0), (6, 2), (7, 2)], [8, 9])), (5, (some [2, 3, 4, 7, 10], 10, [6, 7], [(0, 0), (1, 0), (2, 0), (3, 0), (4, 0), (5, 0), (6, 2), (7, 2)], [8, 9])), (6, (some [4, 7, 10, 53], 0, [], [], [])), (7, (some [4, 7, 10], 0, [], [], [])), (8, (some [4, 13], 0, [], [], [])), (9, (some [4, 13, 61], 0, [], [], [])), (10, (some [4, 5], 0, [], [], [])), (11, (some [4, 5], 0, [], [], []))]
theorem ok : compF Tryz.prog Tryz.f77 ann = some (64, c, [(4, some (true, 10)), (5, none)]) := by kernel_rfl
def p1 (S : St) : Prop := ops C r11 (kq [4, 5] R) S
def p3 (S : St) : Prop := ops C r10 (kq [4, 5] R) S
def p2 (S : St) : Prop := condX (S.ev (.tmp 61)) (p3 C R) (p1 C R) S
def p4 (S : St) : Prop := ops C r9 (kq [4, 13, 61] (p2 C R)) S
def p5 (S : St) : Prop := ops C r8 (kq [4, 13] (p4 C R)) S
def p7 (S : St) : Prop := ops C r7 (kq [4, 7, 10] (p5 C R)) S
def p6 (S : St) : Prop := condX (S.ev (.tmp 53)) (p7 C R) (p5 C R) S
def p8 (S : St) : Prop := ops C r6 (kq [4, 7, 10, 53] (p6 C R)) S
def p9 (S : St) : Prop := ops C r5 (ops C t5 (kq [2, 3, 4, 7, 10] (p8 C R))) S
def p10 (S : St) : Prop := ops C r4 (ops C t4 (kq [2, 3, 4, 6, 7] (p9 C R))) S
def p11 (S : St) : Prop := ops C r3 (ops C t3 (kq [2, 3, 4, 6] (p10 C R))) S
def p13 (S : St) : Prop := ops C r2 (kq [4, 5] R) S
def p12 (S : St) : Prop := condX (S.ev (.tmp 26)) (p13 C R) (p11 C R) S
def p14 (S : St) : Prop := ops C r1 (kq [2, 3, 4, 26] (p12 C R)) S
def p15 (S : St) : Prop := ops C r0 (kq [2, 3, 4] (p14 C R)) S
theorem s (S : St) : X C c (retK R) S = p15 C R S := by kernel_rfl
def E := ai @r11.eq_1 <| ai @p1.eq_1 <| ai @r10.eq_1 <| ai @p3.eq_1 <| ai @p2.eq_1 <| ai @r9.eq_1 <| ai @p4.eq_1 <| ai @r8.eq_1 <| ai @p5.eq_1 <| ai @r7.eq_1 <| ai @p7.eq_1 <| ai @p6.eq_1 <| ai @r6.eq_1 <| ai @p8.eq_1 <| ai @r5.eq_1 <| ai @t5.eq_1 <| ai @p9.eq_1 <| ai @r4.eq_1 <| ai @t4.eq_1 <| ai @p10.eq_1 <| ai @r3.eq_1 <| ai @t3.eq_1 <| ai @p11.eq_1 <| ai @r2.eq_1 <| ai @p13.eq_1 <| ai @p12.eq_1 <| ai @r1.eq_1 <| ai @p14.eq_1 <| ai @r0.eq_1 <| ai @p15.eq_1 <| @s
end r03_Make
namespace r03_Of
def r0 : List G := [(some 2, none, .new zR)]
def r1 : List G := [(some 3, none, .mv (.tmp 0)), (some 4, none, .call false 50 [.tmp 3]), (some 5, none, .call false 108 []), (some 6, none, .bd zR [(0, 5, .tmp 4), (5, 5, .tmp 5)]), (none, none, .st true 10 (.tmp 2) (.tmp 6))]
def c : MC := (.seq (.reg r0 (some [0, 2])) (.seq (.reg r1 (some [2])) .ret))
def ann : Ann := [(0, (some [0, 2], 0, [], [], [])), (1, (some [2], 0, [], [], []))]
theorem ok : compF Tryz.prog Tryz.f78 ann = some (7, c, [(2, some (true, 10))]) := by kernel_rfl
def p1 (S : St) : Prop := ops C r1 (kq [2] R) S
def p2 (S : St) : Prop := ops C r0 (kq [0, 2] (p1 C R)) S
theorem s (S : St) : X C c (retK R) S = p2 C R S := by kernel_rfl
def E := ai @r1.eq_1 <| ai @p1.eq_1 <| ai @r0.eq_1 <| ai @p2.eq_1 <| @s
end r03_Of
namespace r03_Valid
def r0 : List G := [(some 1, none, .box true 10 (.tmp 0)), (some 2, none, .mv (.const (.bool false)))]
def r1 : List G := [(some 3, none, .fa 0 (.tmp 1)), (some 4, none, .ld true 5 (.tmp 3)), (some 5, none, .call false 100 [.tmp 4]), (some 6, none, .un .not (.tmp 5)), (some 7, none, .mv (.tmp 6)), (some 8, some (7, false), .fa 5 (.tmp 1)), (some 9, some (7, false), .ld true 5 (.tmp 8)), (some 10, some (7, false), .call false 100 [.tmp 9]), (some 11, some (7, false), .un .not (.tmp 10)), (some 12, none, .pick (.tmp 7) (.const (.bool true)) (.tmp 11)), (some 13, none, .mv (.tmp 12)), (some 14, some (13, false), .fa 5 (.tmp 1)), (some 15, some (13, false), .ld true 5 (.tmp 14)), (some 16, some (13, false), .call false 104 [.tmp 15]), (some 17, some (13, false), .bin .leq (.tmp 16) (.const (.int .i64 0))), (some 18, none, .pick (.tmp 13) (.const (.bool true)) (.tmp 17)), (some 19, none, .mv (.tmp 18)), (some 20, some (19, false), .fa 0 (.tmp 1)), (some 21, some (19, false), .ld true 5 (.tmp 20)), (some 22, some (19, false), .call false 105 [.tmp 21]), (some 23, some (19, false), .un .not (.tmp 22)), (some 24, none, .pick (.tmp 19) (.const (.bool true)) (.tmp 23)), (some 25, none, .mv (.tmp 24)), (some 26, some (25, false), .fa 5 (.tmp 1)), (some 27, some (25, false), .ld true 5 (.tmp 26)), (some 28, some (25, false), .call false 105 [.tmp 27]), (some 29, some (25, false), .un .not (.tmp 28)), (some 30, none, .pick (.tmp 25) (.const (.bool true)) (.tmp 29))]
def r2 : List G := [(some 2, none, .mv (.const (.bool false)))]
def r3 : List G := [(some 31, none, .fa 0 (.tmp 1)), (some 32, none, .ld true 5 (.tmp 31)), (some 33, none, .call true 107 [.tmp 32]), (some 34, none, .fa 5 (.tmp 1)), (some 35, none, .ld true 5 (.tmp 34)), (some 36, none, .call true 106 [.tmp 33, .tmp 35]), (some 37, none, .call true 108 []), (some 38, none, .eqg false 37 (.tmp 36) (.tmp 37))]
def t3 : List G := [(some 2, none, .mv (.tmp 38))]
def c : MC := (.seq (.reg r0 (some [1])) (.seq (.seq (.reg r1 (some [1, 30])) (.cond (.tmp 30) (.seq (.reg r2 (some [2])) .ret) .skip)) (.seq (.dreg r3 t3 (some [2])) .ret)))
def ann : Ann := [(0, (some [1], 0, [], [], [])), (1, (some [1, 30], 0, [], [], [])), (2, (some [2], 0, [], [], [])), (3, (some [2], 8, [], [(0, 0), (1, 0), (2, 0), (3, 0), (4, 0), (5, 0), (6, 0), (7, 0)], []))]
theorem ok : compF Tryz.prog Tryz.f49 ann = some (39, c, [(2, none)]) := by kernel_rfl
def p1 (S : St) : Prop := ops C r3 (ops C t3 (kq [2] R)) S
def p3 (S : St) : Prop := ops C r2 (kq [2] R) S
def p2 (S : St) : Prop := condX (S.ev (.tmp 30)) (p3 C R) (p1 C R) S
def p4 (S : St) : Prop := ops C r1 (kq [1, 30] (p2 C R)) S
def p5 (S : St) : Prop := ops C r0 (kq [1] (p4 C R)) S
theorem s (S : St) : X C c (retK R) S = p5 C R S := by kernel_rfl
def E := ai @r3.eq_1 <| ai @t3.eq_1 <| ai @p1.eq_1 <| ai @r2.eq_1 <| ai @p3.eq_1 <| ai @p2.eq_1 <| ai @r1.eq_1 <| ai @p4.eq_1 <| ai @r0.eq_1 <| ai @p5.eq_1 <| @s
end r03_Valid
namespace r03_abs
def r0 : List G := [(some 1, none, .box true 5 (.tmp 0)), (some 2, none, .new zW)]
def r1 : List G := [(some 3, none, .fa 0 (.tmp 1)), (none, none, .st false 1 (.tmp 3) (.const (.bool false)))]
def r2 : List G := [(some 4, none, .ld true 5 (.tmp 1)), (none, none, .st true 5 (.tmp 2) (.tmp 4))]
def c : MC := (.seq (.reg r0 (some [1, 2])) (.seq (.reg r1 (some [1, 2])) (.seq (.reg r2 (some [2])) .ret)))
def ann : Ann := [(0, (some [1, 2], 0, [], [], [])), (1, (some [1, 2], 0, [], [], [])), (2, (some [2], 0, [], [], []))]
theorem ok : compF Tryz.prog Tryz.f107 ann = some (5, c, [(2, some (true, 5))]) := by kernel_rfl
def p1 (S : St) : Prop := ops C r2 (kq [2] R) S
def p2 (S : St) : Prop := ops C r1 (kq [1, 2] (p1 C R)) S
def p3 (S : St) : Prop := ops C r0 (kq [1, 2] (p2 C R)) S
theorem s (S : St) : X C c (retK R) S = p3 C R S := by kernel_rfl
def E := ai @r2.eq_1 <| ai @p1.eq_1 <| ai @r1.eq_1 <| ai @p2.eq_1 <| ai @r0.eq_1 <| ai @p3.eq_1 <| @s
end r03_abs
namespace r03_clean
def r0 : List G := [(some 1, none, .box true 10 (.tmp 0)), (some 2, none, .new zR)]
def r1 : List G := [(some 3, none, .ld true 10 (.tmp 1)), (some 4, none, .call false 49 [.tmp 3]), (some 5, none, .un .not (.tmp 4))]
def r2 : List G := [(some 6, none, .call false 108 []), (some 7, none, .bd zR [(5, 5, .tmp 6)]), (none, none, .st true 10 (.tmp 2) (.tmp 7))]
def r3 : List G := [(some 8, none, .ld true 10 (.tmp 1)), (none, none, .st true 10 (.tmp 2) (.tmp 8))]
def c : MC := (.seq (.reg r0 (some [1, 2])) (.seq (.seq (.reg r1 (some [1, 2, 5])) (.cond (.tmp 5) (.seq (.reg r2 (some [2])) .ret) .skip)) (.seq (.reg r3 (some [2])) .ret)))
def ann : Ann := [(0, (some [1, 2], 0, [], [], [])), (1, (some [1, 2, 5], 0, [], [], [])), (2, (some [2], 0, [], [], [])), (3, (some [2], 0, [], [], []))]
theorem ok : compF Tryz.prog Tryz.f115 ann = some (9, c, [(2, some (true, 10))]) := by kernel_rfl
def p1 (S : St) : Prop := ops C r3 (kq [2] R) S
def p3 (S : St) : Prop := ops C r2 (kq [2] R) S
def p2 (S : St) : Prop := condX (S.ev (.tmp 5)) (p3 C R) (p1 C R) S
def p4 (S : St) : Prop := ops C r1 (kq [1, 2, 5] (p2 C R)) S
def p5 (S : St) : Prop := ops C r0 (kq [1, 2] (p4 C R)) S
theorem s (S : St) : X C c (retK R) S = p5 C R S := by kernel_rfl
def E := ai @r3.eq_1 <| ai @p1.eq_1 <| ai @r2.eq_1 <| ai @p3.eq_1 <| ai @p2.eq_1 <| ai @r1.eq_1 <| ai @p4.eq_1 <| ai @r0.eq_1 <| ai @p5.eq_1 <| @s
end r03_clean
namespace r03_gcd
def r0 : List G := [(some 2, none, .box true 5 (.tmp 0)), (some 3, none, .box true 5 (.tmp 1)), (some 4, none, .new zW)]
def r1 : List G := [(some 12, none, .ld true 5 (.tmp 3)), (some 13, none, .call false 104 [.tmp 12]), (some 14, none, .bin .neq (.tmp 13) (.const (.int .i64 0)))]
def r2 : List G := [(some 16, none, .ld true 5 (.tmp 2)), (some 17, none, .call false 153 [.tmp 16]), (some 15, none, .mv (.tmp 17)), (some 18, none, .ex (.tmp 15) 0), (some 19, none, .ex (.tmp 15) 1), (some 5, none, .mv (.tmp 18)), (some 6, none, .mv (.tmp 19))]
def r3 : List G := [(some 21, none, .ld true 5 (.tmp 3)), (some 22, none, .call false 153 [.tmp 21]), (some 20, none, .mv (.tmp 22)), (some 23, none, .ex (.tmp 20) 0), (some 24, none, .ex (.tmp 20) 1), (some 7, none, .mv (.tmp 23)), (some 8, none, .mv (.tmp 24))]
def r4 : List G := [(some 25, none, .mv (.tmp 6)), (some 26, none, .mv (.tmp 25)), (some 27, some (26, true), .mv (.tmp 8)), (some 28, none, .pick (.tmp 26) (.tmp 27) (.const (.bool false)))]
def r5 : List G := [(some 29, none, .mv (.tmp 7)), (some 30, none, .bin .neq (.tmp 29) (.const (.int .u64 0)))]
def r6 : List G := [(some 31, none, .mv (.tmp 7)), (some 32, none, .mv (.tmp 5)), (some 33, none, .mv (.tmp 7)), (some 34, none, .bin .rem (.tmp 32) (.tmp 33))]
def t6 : List G := [(some 5, none, .mv (.tmp 31)), (some 7, none, .mv (.tmp 34))]
def r7 : List G := [(some 35, none, .mv (.tmp 5)), (some 36, none, .call false 75 [.tmp 35]), (none, none, .st true 5 (.tmp 4) (.tmp 36))]
def r8 : List G := [(some 38, none, .ld true 5 (.tmp 2)), (some 39, none, .ld true 5 (.tmp 3)), (some 40, none, .call false 116 [.tmp 38, .tmp 39]), (some 37, none, .mv (.tmp 40)), (some 41, none, .ex (.tmp 37) 0), (some 42, none, .ex (.tmp 37) 1), (some 43, none, .ex (.tmp 37) 2), (some 9, none, .new zW), (some 10, none, .new zW), (none, none, .st true 5 (.tmp 9) (.tmp 41)), (none, none, .st true 5 (.tmp 10) (.tmp 42)), (some 11, none, .mv (.tmp 43))]
def o9 : List (List G) := [[(some 44, none, (.ld true 5 (.tmp 3))), (some 45, none, (.ld true 5 (.tmp 10))), (none, none, (.st true 5 (.tmp 2) (.tmp 44))), (none, none, (.st true 5 (.tmp 3) (.tmp 45)))],
 [(some 44, none, (.ld true 5 (.tmp 3))), (none, none, (.st true 5 (.tmp 2) (.tmp 44))), (some 45, none, (.ld true 5 (.tmp 10))), (none, none, (.st true 5 (.tmp 3) (.tmp 45)))],
 [(some 45, none, (.ld true 5 (.tmp 10))), (some 44, none, (.ld true 5 (.tmp 3))), (none, none, (.st true 5 (.tmp 2) (.tmp 44))), (none, none, (.st true 5 (.tmp 3) (.tmp 45)))]]
def r10 : List G := [(some 46, none, .ld true 5 (.tmp 2)), (none, none, .st true 5 (.tmp 4) (.tmp 46))]
def c : MC := (.seq (.reg r0 (some [2, 3, 4])) (.seq (.block 0 (.loop (.seq (.seq (.reg r1 (some [2, 3, 4, 14])) (.cond (.tmp 14) .skip (.exit 0))) (.block 1 (.seq (.reg r2 (some [2, 3, 4, 5, 6])) (.seq (.reg r3 (some [2, 3, 4, 5, 6, 7, 8])) (.seq (.seq (.reg r4 (some [2, 3, 4, 5, 7, 28])) (.cond (.tmp 28) (.seq (.block 2 (.loop (.seq (.seq (.reg r5 (some [4, 5, 7, 30])) (.cond (.tmp 30) .skip (.exit 2))) (.block 3 (.dreg r6 t6 (some [4, 5, 7])))))) (.seq (.reg r7 (some [4])) .ret)) .skip)) (.seq (.reg r8 (some [2, 3, 4, 10])) (.areg [] o9 (some [2, 3, 4])))))))))) (.seq (.reg r10 (some [4])) .ret)))
def ann : Ann := [(0, (some [2, 3, 4], 0, [], [], [])), (1, (some [2, 3, 4, 14], 0, [], [], [])), (2, (some [2, 3, 4, 5, 6], 0, [], [], [])), (3, (some [2, 3, 4, 5, 6, 7, 8], 0, [], [], [])), (4, (some [2, 3, 4, 5, 7, 28], 0, [], [], [])), (5, (some [4, 5, 7, 30], 0, [], [], [])), (6, (some [4, 5, 7], 4, [2, 3], [(0, 0), (1, 0), (2, 2), (3, 2)], [])), (7, (some [4], 0, [], [], [])), (8, (some [2, 3, 4, 10], 0, [], [], [])), (9, (some [2, 3, 4], 99999, [], [], [])), (10, (some [4], 0, [], [], []))]
theorem ok : compF Tryz.prog Tryz.f106 ann = some (47, c, [(4, some (true, 5))]) := by kernel_rfl
def p1 (S : St) : Prop := ops C r10 (kq [4] R) S
def p3 (S : St) : Prop := areX C [] o9 (kq [2, 3, 4] L1) S
def p4 (S : St) : Prop := ops C r8 (kq [2, 3, 4, 10] (p3 C L1)) S
def p6 (S : St) : Prop := ops C r7 (kq [4] R) S
def p8 (S : St) : Prop := ops C r6 (ops C t6 (kq [4, 5, 7] L2)) S
def p9 (S : St) : Prop := condX (S.ev (.tmp 30)) (p8 C L2) (p6 C R) S
def p10 (S : St) : Prop := ops C r5 (kq [4, 5, 7, 30] (p9 C R L2)) S
def p7 (S : St) : Prop := LX C (fun L2 => (p10 C R L2)) S
theorem p7_l (S : St) : p7 C R S = LX C (fun L2 => (p10 C R L2)) S := rfl
def p5 (S : St) : Prop := condX (S.ev (.tmp 28)) (p7 C R) (p4 C L1) S
def p11 (S : St) : Prop := ops C r4 (kq [2, 3, 4, 5, 7, 28] (p5 C R L1)) S
def p12 (S : St) : Prop := ops C r3 (kq [2, 3, 4, 5, 6, 7, 8] (p11 C R L1)) S
def p13 (S : St) : Prop := ops C r2 (kq [2, 3, 4, 5, 6] (p12 C R L1)) S
def p14 (S : St) : Prop := condX (S.ev (.tmp 14)) (p13 C R L1) (p1 C R) S
def p15 (S : St) : Prop := ops C r1 (kq [2, 3, 4, 14] (p14 C R L1)) S
def p2 (S : St) : Prop := LX C (fun L1 => (p15 C R L1)) S
theorem p2_l (S : St) : p2 C R S = LX C (fun L1 => (p15 C R L1)) S := rfl
def p16 (S : St) : Prop := ops C r0 (kq [2, 3, 4] (p2 C R)) S
theorem s (S : St) : X C c (retK R) S = p16 C R S := by kernel_rfl
def E := ai @r10.eq_1 <| ai @p1.eq_1 <| ai @o9.eq_1 <| ai @p3.eq_1 <| ai @r8.eq_1 <| ai @p4.eq_1 <| ai @r7.eq_1 <| ai @p6.eq_1 <| ai @r6.eq_1 <| ai @t6.eq_1 <| ai @p8.eq_1 <| ai @p9.eq_1 <| ai @r5.eq_1 <| ai @p10.eq_1 <| ai @p5.eq_1 <| ai @r4.eq_1 <| ai @p11.eq_1 <| ai @r3.eq_1 <| ai @p12.eq_1 <| ai @r2.eq_1 <| ai @p13.eq_1 <| ai @p14.eq_1 <| ai @r1.eq_1 <| ai @p15.eq_1 <| ai @r0.eq_1 <| ai @p16.eq_1 <| @s
end r03_gcd
namespace r03_one
def r0 : List G := [(some 0, none, .new zW)]
def r1 : List G := [(some 1, none, .call false 50 [.const (.int .i64 1)]), (none, none, .st true 5 (.tmp 0) (.tmp 1))]
def c : MC := (.seq (.reg r0 (some [0])) (.seq (.reg r1 (some [0])) .ret))
def ann : Ann := [(0, (some [0], 0, [], [], [])), (1, (some [0], 0, [], [], []))]
theorem ok : compF Tryz.prog Tryz.f108 ann = some (2, c, [(0, some (true, 5))]) := by kernel_rfl
def p1 (S : St) : Prop := ops C r1 (kq [0] R) S
def p2 (S : St) : Prop := ops C r0 (kq [0] (p1 C R)) S
theorem s (S : St) : X C c (retK R) S = p2 C R S := by kernel_rfl
def E := ai @r1.eq_1 <| ai @p1.eq_1 <| ai @r0.eq_1 <| ai @p2.eq_1 <| @s
end r03_one
namespace r03_small
def r0 : List G := [(some 1, none, .box true 5 (.tmp 0)), (some 2, none, .mv (.const (.bool false)))]
def r1 : List G := [(some 3, none, .fa 1 (.tmp 1)), (some 4, none, .ia 4 1 (.tmp 3) (.const (.int .i64 3))), (some 5, none, .ld false 1 (.tmp 4)), (some 6, none, .bin .eql (.tmp 5) (.const (.int .u64 0))), (some 7, none, .mv (.tmp 6)), (some 8, some (7, true), .fa 1 (.tmp 1)), (some 9, some (7, true), .ia 4 1 (.tmp 8) (.const (.int .i64 2))), (some 10, some (7, true), .ld false 1 (.tmp 9)), (some 11, some (7, true), .bin .eql (.tmp 10) (.const (.int .u64 0))), (some 12, none, .pick (.tmp 7) (.tmp 11) (.const (.bool false))), (some 13, none, .mv (.tmp 12)), (some 14, some (13, true), .fa 1 (.tmp 1)), (some 15, some (13, true), .ia 4 1 (.tmp 14) (.const (.int .i64 1))), (some 16, some (13, true), .ld false 1 (.tmp 15)), (some 17, some (13, true), .bin .lss (.tmp 16) (.const (.int .u64 9223372036854775808))), (some 18, none, .pick (.tmp 13) (.tmp 17) (.const (.bool false))), (some 2, none, .mv (.tmp 18))]
def c : MC := (.seq (.reg r0 (some [1])) (.seq (.reg r1 (some [2])) .ret))
def ann : Ann := [(0, (some [1], 0, [], [], [])), (1, (some [2], 0, [], [], []))]
theorem ok : compF Tryz.prog Tryz.f105 ann = some (19, c, [(2, none)]) := by kernel_rfl
def p1 (S : St) : Prop := ops C r1 (kq [2] R) S
def p2 (S : St) : Prop := ops C r0 (kq [1] (p1 C R)) S
theorem s (S : St) : X C c (retK R) S = p2 C R S := by kernel_rfl
def E := ai @r1.eq_1 <| ai @p1.eq_1 <| ai @r0.eq_1 <| ai @p2.eq_1 <| @s
end r03_small
end Go.Proofs.YtncmmbacoknefaaGreat
