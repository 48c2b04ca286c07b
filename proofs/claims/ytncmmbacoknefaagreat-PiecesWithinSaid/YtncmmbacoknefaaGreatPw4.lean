/- Several texts in one: Hb, DvK, Hc, Hd, Ge, Gf, Gg, He, Hf, Hg, CdR, Qa, Ql, Qb, CdX, Qc, Spl, Sq, CdT, Tr, Rw. -/
import Derived.Test.YtncmmbacoknefaaGreatProg
import Derived.Test.YtncmmbacoknefaaGreatPw2
import Derived.Test.YtncmmbacoknefaaGreatPw3
set_option linter.defProp false

/- Hb: What a call of the reference's up gives; slices that are made. -/
namespace Go.Proofs.YtncmmbacoknefaaGreat
open Go Go.RowKit Sx
set_option linter.unusedVariables false
set_option linter.unusedSimpArgs false
theorem gen_mk {n : Nat} (hn : n ≤ 4294967296) (W : World) : ∃ g cap W', (genRun (.mks 162) [.int .i64 (n : Int), .int .i64 (n : Int)]).run Tryz.prog W = .ok (.value (.slice (some ⟨g, 0, none⟩) (List.replicate n (0 : Int)).length cap)) W' ∧ OwnU W' W.heap.size (.slice (some ⟨g, 0, none⟩) (List.replicate n (0 : Int)).length cap) (List.replicate n 0) ∧ Below W.heap.size W W' := by
 obtain ⟨i0, hi, hz0, hz1, hz2⟩ := info_u
 obtain ⟨w1, hmk, hown, hg1⟩ := run_make_full (P := Tryz.prog) W W.heap.size 162 34 i0 (.int .u64 0) 1 Tryz.underlying162 hi hz0 hz1 .i64 .i64 n (by rw [hz2]; omega) (by simp only [maxLen]; omega) (Nat.le_refl _)
 refine ⟨W.heap.size, n, w1, ?_, ?_, below_gt hg1⟩
 ·rw [List.length_replicate]
  show Sem.run _ (do pure (Next.value (← Instr.makeSlice _ _ _))) W = _
  rw [run_bind_ok hmk]
  rfl
 ·rw [List.length_replicate]
  exact OwnU.zeros hown
theorem asks_trim {C : Cx} {S : St} {K : St → Prop} {d : Option Nat} {L : List Kn} (L' : List Kn) {g len cap : Nat} {ws : List Int} (hP : C.P = Tryz.prog) (hT : S.T = kX C.w0.heap.size L) (hm : .o (.slice (some ⟨g, 0, none⟩) len cap) ws ∈ L)
  (hL : ∀ k ∈ L', k = .o (.slice (some ⟨g, 0, none⟩) (wl (VL ws)).length cap) (wl (VL ws)) ∨ k ∈ L)
  (hk : K (St.put ⟨S.n, S.E, S.H, kX C.w0.heap.size L'⟩ d (.v (.slice (some ⟨g, 0, none⟩) (wl (VL ws)).length cap)))) : asks C 154 [.slice (some ⟨g, 0, none⟩) len cap] d K S := by
 refine asks_kn (ι := Unit) (L := L) (gs := []) (fun _ => .slice (some ⟨g, 0, none⟩) (wl (VL ws)).length cap) (fun _ => L') (by rw [hP]; exact en_r02_trim) hT (fun g hg => by cases hg) (fun _ _ g hg => by cases hg) (fun W hW hok => ?_) fun _ => hk
 rw [hP]
 have ho : OwnU W C.w0.heap.size (.slice (some ⟨g, 0, none⟩) len cap) ws := hok _ hm
 refine (rtrim_any _ _ _ _ W ho.sl).mono fun e w' ⟨h1, h2⟩ => ⟨(), h1, by subst h2; exact moves_below (Below.refl _ _), fun k hk => ?_⟩
 subst h2
 rcases hL k hk with rfl | hk
 ·exact .inr ⟨ho.canon, fun b hb => .inl (by rw [hT]; exact kX_bs.2 ⟨_, hm, hb⟩)⟩
 ·exact .inl ⟨hk, fun b hb h => by cases h⟩
theorem asks_trim_r {C : Cx} {S : St} {K : St → Prop} {d : Option Nat} {L : List Kn} (L' : List Kn) {a : Option Addr} {len cap : Nat} {ws : List Int} (hP : C.P = Tryz.prog) (hT : S.T = kX C.w0.heap.size L) (hm : .r (.slice a len cap) ws ∈ L)
  (hL : ∀ k ∈ L', k = .r (.slice a (wl (VL ws)).length cap) (wl (VL ws)) ∨ k ∈ L)
  (hk : K (St.put ⟨S.n, S.E, S.H, kX C.w0.heap.size L'⟩ d (.v (.slice a (wl (VL ws)).length cap)))) : asks C 154 [.slice a len cap] d K S := by
 refine asks_kn (ι := Unit) (L := L) (gs := []) (fun _ => .slice a (wl (VL ws)).length cap) (fun _ => L') (by rw [hP]; exact en_r02_trim) hT (fun g hg => by cases hg) (fun _ _ g hg => by cases hg) (fun W hW hok => ?_) fun _ => hk
 rw [hP]
 have ho : SlF W C.w0.heap.size (.slice a len cap) ws := hok _ hm
 refine (rtrim_any _ _ _ _ W ho.1).mono fun e w' ⟨h1, h2⟩ => ⟨(), h1, by subst h2; exact moves_below (Below.refl _ _), fun k hk => ?_⟩
 subst h2
 rcases hL k hk with rfl | hk
 ·exact .inr ⟨ho.canon, fun b hb => .inl (by
   rw [hT]
   refine kX_bs.2 ⟨_, hm, ?_⟩
   cases a with
   | none => cases hb
   | some a => exact hb)⟩
 ·exact .inl ⟨hk, fun b hb h => by cases h⟩
def upF (w : World) (a : Option Addr) (n len lo cap g cap' : Nat) (x : Nat × List Int) : St := ⟨0, [(0, .v (.slice a len cap)), (1, .v (.int .i64 (n : Int))), (5, .v (.slice (some ⟨g, 0, none⟩) lo cap')), (6, .v (.int .i64 (x.1 : Int)))], [], kX w.heap.size [.o (.slice (some ⟨g, 0, none⟩) lo cap') x.2]⟩
set_option maxRecDepth 100000 in
theorem rup_any {a : Option Addr} {cap : Nat} {ws : List Int} {w : World} {n k s : Nat} (hn : n = 64 * k + s) (hs : s < 64) (hk : k ≤ 1000) (hlen : ws.length ≤ 1000) (h : SlU w (.slice a ws.length cap) ws) :
  Calls Tryz.prog 184 #[.slice a ws.length cap, .int .i64 (n : Int)] w fun e w' => ∃ g cap', e = .returned (.slice (some ⟨g, 0, none⟩) (wl (VL ws * 2 ^ n)).length cap') ∧ OwnU w' w.heap.size (.slice (some ⟨g, 0, none⟩) (wl (VL ws * 2 ^ n)).length cap') (wl (VL ws * 2 ^ n)) ∧ Below w.heap.size w w' := by
 refine Calls.mono (enterX Tryz.func184 r02_up.ok (args := [.slice a ws.length cap, .int .i64 (n : Int)]) (R := fun v X => ∃ g cap', v = .slice (some ⟨g, 0, none⟩) (wl (VL ws * 2 ^ n)).length cap' ∧ X = kX w.heap.size [.o (.slice (some ⟨g, 0, none⟩) (wl (VL ws * 2 ^ n)).length cap') (wl (VL ws * 2 ^ n))]) (by simp) ?run) ?fin
 case fin =>
  rintro e w' ⟨v, Y, rfl, ⟨g, cap', rfl, rfl⟩, hok, hb, -⟩
  exact ⟨g, cap', rfl, hok _ (List.mem_singleton.2 rfl), hb⟩
 case run =>
  have q1 : (n : Int) / 64 = (k : Int) := by omega
  have q2 : (n : Int) % 64 = (s : Int) := by omega
  obtain ⟨lo, hlo⟩ : ∃ lo, lo = ws.length + k + 1 := ⟨_, rfl⟩
  have L1 : (ws.length : Int) + (k : Int) + 1 = (lo : Int) := by omega
  have hst := up_start ws k s
  rw [← hlo] at hst
  simp (disch := omega) only [sxE, r02_up.E, Nat.reduceAdd, Nat.reduceEqDiff, Nat.reduceMul, Nat.reduceSub, Int.reduceAdd, Int.reduceSub, Int.reduceMul, Int.reduceNeg, Int.reduceLT, Int.reduceLE, Int.reduceEq, Int.reduceToNat, ↓reduceIte, Int.reducePow, Nat.reduceLeDiff, Nat.reduceLT, ne_eq, eq_self, List.length_cons, List.length_nil, q1, q2, L1]
  refine genA_o (L := []) (ws := List.replicate lo 0) (kX_nil _) (fun W hW _ => gen_mk (by omega) W) fun g cap' _ => ?_
  rw [List.length_replicate]
  simp (disch := omega) only [sxE, r02_up.E, Nat.reduceAdd, Nat.reduceEqDiff, Nat.reduceMul, Nat.reduceSub, Int.reduceAdd, Int.reduceSub, Int.reduceMul, Int.reduceNeg, Int.reduceLT, Int.reduceLE, Int.reduceEq, Int.reduceToNat, ↓reduceIte, Int.reducePow, Nat.reduceLeDiff, Nat.reduceLT, ne_eq, eq_self, List.length_cons, List.length_nil, Int.ofNat_zero]
  rw [r02_up.p2_l]
  refine LX_inv (upF w a n ws.length lo cap g cap') (fun x => x.1 ≤ ws.length ∧ UpI ws x.2 k s x.1) (fun x => ws.length - x.1) ?round (0, List.replicate lo 0) ⟨Nat.zero_le _, hst⟩ ?start
  case start =>
   simp (disch := omega) only [sxE, r02_up.E, Nat.reduceAdd, Nat.reduceEqDiff, Nat.reduceMul, Nat.reduceSub, Int.reduceAdd, Int.reduceSub, Int.reduceMul, Int.reduceNeg, Int.reduceLT, Int.reduceLE, Int.reduceEq, Int.reduceToNat, ↓reduceIte, Int.reducePow, Nat.reduceLeDiff, Nat.reduceLT, ne_eq, eq_self, List.length_cons, List.length_nil, upF, Int.ofNat_zero]
  case round =>
   rintro ⟨i, out⟩ ⟨hi, hI⟩
   dsimp only at hi hI ⊢
   have hol := hI.len
   rcases Nat.lt_or_ge i ws.length with hil | hil
   ·have c1 : (i : Int) < (ws.length : Int) := by omega
    have c2 : (0 : Int) ≤ (i : Int) ∧ (i : Int) < (ws.length : Int) := by omega
    have c3 : (0 : Int) ≤ ((i + k : Nat) : Int) ∧ ((i + k : Nat) : Int) < (lo : Int) := by omega
    have c4 : (0 : Int) ≤ ((i + k + 1 : Nat) : Int) ∧ ((i + k + 1 : Nat) : Int) < (lo : Int) := by omega
    have k1 : (i : Int) + 1 = ((i + 1 : Nat) : Int) := by omega
    have k2 : (i : Int) + (k : Int) = ((i + k : Nat) : Int) := by omega
    have k3 : ((i + k : Nat) : Int) + 1 = ((i + k + 1 : Nat) : Int) := by omega
    have hx := h.ws.getD i
    obtain ⟨t, u, t1, t2, t3, u0, us, td, e⟩ := shl_word hx hs
    obtain ⟨e1, e2, e3, e4, e5⟩ := up_step hI hil hs t3 td u0 us e
    obtain ⟨b, off, rfl⟩ : ∃ b off, a = some ⟨b, off, none⟩ := by
     obtain ⟨a', cap2, e', hsh⟩ := h.shp
     cases e'
     exact hsh.some (by omega)
    unfold upF
    by_cases hs0 : s = 0
    ·have hu : u = 0 := by rw [hs0, Int.pow_zero] at us; omega
     have hnn : ¬ (0 : Int) < (s : Int) := by omega
     have hl1 : (out.set (i + k) (out.getD (i + k) 0 + t)).length = lo := by rw [List.length_set]; omega
     have hset := set_self_D (out.set (i + k) (out.getD (i + k) 0 + t)) (i + k + 1) (by omega)
     rw [e4] at hset
     rw [hu, hset] at e5
     repeat' (first | simp (disch := omega) only [sxE, r02_up.E, Nat.reduceAdd, Nat.reduceEqDiff, Nat.reduceMul, Nat.reduceSub, Int.reduceAdd, Int.reduceSub, Int.reduceMul, Int.reduceNeg, Int.reduceLT, Int.reduceLE, Int.reduceEq, Int.reduceToNat, ↓reduceIte, Int.reducePow, Nat.reduceLeDiff, Nat.reduceLT, ne_eq, eq_self, List.length_cons, List.length_nil, Nat.mul_one, Nat.zero_add, c1, c2, c3, k1, k2, q1, q2, t1, e1, hnn] | (refine ldP_w i rfl h hil ?_) | (refine ldP_o (i + k) rfl (List.mem_singleton.2 rfl) (by omega) ?_) | (refine stP_o [.o (.slice (some ⟨g, 0, none⟩) lo cap') (out.set (i + k) (out.getD (i + k) 0 + t))] (i + k) rfl (List.mem_singleton.2 rfl) (by omega) e2 (fun k1 hk1 => .inl (List.mem_singleton.1 hk1)) ?_) | (with_reducible refine cregF ?_))
     exact ⟨(i + 1, _), ⟨hil, e5⟩, by dsimp only; omega, rfl, .inl rfl⟩
    ·have hnn : (0 : Int) < (s : Int) := by omega
     have k5 : 64 - (s : Int) = ((64 - s : Nat) : Int) := by omega
     have hz := (or_add 0 U64.zero e3 (by decide) ⟨u, by omega⟩).1
     rw [Int.zero_add] at hz
     have hl1 : (out.set (i + k) (out.getD (i + k) 0 + t)).length = lo := by rw [List.length_set]; omega
     repeat' (first | simp (disch := omega) only [sxE, r02_up.E, Nat.reduceAdd, Nat.reduceEqDiff, Nat.reduceMul, Nat.reduceSub, Int.reduceAdd, Int.reduceSub, Int.reduceMul, Int.reduceNeg, Int.reduceLT, Int.reduceLE, Int.reduceEq, Int.reduceToNat, ↓reduceIte, Int.reducePow, Nat.reduceLeDiff, Nat.reduceLT, ne_eq, eq_self, List.length_cons, List.length_nil, Nat.mul_one, Nat.zero_add, c1, c2, c3, c4, k1, k2, k3, k5, q1, q2, t1, t2, e1, e4, hz, hnn] | (refine ldP_w i rfl h hil ?_) | (refine ldP_o (i + k) rfl (List.mem_singleton.2 rfl) (by omega) ?_) | (refine ldP_o (i + k + 1) rfl (List.mem_singleton.2 rfl) (by omega) ?_) | (refine stP_o [.o (.slice (some ⟨g, 0, none⟩) lo cap') (out.set (i + k) (out.getD (i + k) 0 + t))] (i + k) rfl (List.mem_singleton.2 rfl) (by omega) e2 (fun k1 hk1 => .inl (List.mem_singleton.1 hk1)) ?_) | (refine stP_o [.o (.slice (some ⟨g, 0, none⟩) lo cap') ((out.set (i + k) (out.getD (i + k) 0 + t)).set (i + k + 1) u)] (i + k + 1) rfl (List.mem_singleton.2 rfl) (by omega) e3 (fun k1 hk1 => .inl (List.mem_singleton.1 hk1)) ?_) | (with_reducible refine cregF ?_))
     exact ⟨(i + 1, _), ⟨hil, e5⟩, by dsimp only; omega, rfl, .inl rfl⟩
   ·have hie : i = ws.length := by omega
    have c1 : ¬ (i : Int) < (ws.length : Int) := by omega
    have hv : VL out = VL ws * 2 ^ n := by rw [hie] at hI; rw [up_end hI, hn]
    unfold upF
    simp (disch := omega) only [sxE, r02_up.E, Nat.reduceAdd, Nat.reduceEqDiff, Nat.reduceMul, Nat.reduceSub, Int.reduceAdd, Int.reduceSub, Int.reduceMul, Int.reduceNeg, Int.reduceLT, Int.reduceLE, Int.reduceEq, Int.reduceToNat, ↓reduceIte, Int.reducePow, Nat.reduceLeDiff, Nat.reduceLT, ne_eq, eq_self, List.length_cons, List.length_nil, c1]
    refine asks_trim (L := [.o (.slice (some ⟨g, 0, none⟩) lo cap') out]) [.o (.slice (some ⟨g, 0, none⟩) (wl (VL out)).length cap') (wl (VL out))] rfl rfl (List.mem_singleton.2 rfl) (fun k hk => .inl (List.mem_singleton.1 hk)) ?_
    rw [hv]
    simp (disch := omega) only [sxE, r02_up.E, Nat.reduceAdd, Nat.reduceEqDiff, Nat.reduceMul, Nat.reduceSub, Int.reduceAdd, Int.reduceSub, Int.reduceMul, Int.reduceNeg, Int.reduceLT, Int.reduceLE, Int.reduceEq, Int.reduceToNat, ↓reduceIte, Int.reducePow, Nat.reduceLeDiff, Nat.reduceLT, ne_eq, eq_self, List.length_cons, List.length_nil]
    exact ⟨g, cap', rfl, rfl⟩
end Go.Proofs.YtncmmbacoknefaaGreat

/- DvK: Plain facts for bits.Div64: two words by one. -/
namespace Go.Proofs.YtncmmbacoknefaaGreat
open Go
set_option linter.unusedVariables false
set_option linter.unusedSimpArgs false
structure KI (v1 v0 u1 u32 q r : Int) : Prop where
 eq : q * v1 + r = u32
 ge : (u32 * 4294967296 + u1) / (v1 * 4294967296 + v0) ≤ q
 r0 : 0 ≤ r
 rb : r < 4294967296
 q0 : 0 ≤ q
 qb : q ≤ 4294967297
structure KC (v1 v0 u1 u32 : Int) : Prop where
 a1 : 2147483648 ≤ v1
 a2 : v1 < 4294967296
 b1 : 0 ≤ v0
 b2 : v0 < 4294967296
 c1 : 0 ≤ u1
 c2 : u1 < 4294967296
 d1 : 0 ≤ u32
 d2 : u32 < v1 * 4294967296 + v0
section
variable {v1 v0 u1 u32 q r : Int}
theorem KC.vpos (h : KC v1 v0 u1 u32) : 0 < v1 * 4294967296 + v0 := by have := h.a1; have := h.b1; omega
theorem KC.qlt (h : KC v1 v0 u1 u32) : (u32 * 4294967296 + u1) / (v1 * 4294967296 + v0) < 4294967296 := by
 refine Int.ediv_lt_of_lt_mul h.vpos ?_
 have := h.d2; have := h.c2
 omega
theorem KC.q0 (h : KC v1 v0 u1 u32) : 0 ≤ (u32 * 4294967296 + u1) / (v1 * 4294967296 + v0) := Int.ediv_nonneg (by have := h.d1; have := h.c1; omega) (Int.le_of_lt h.vpos)
theorem KC.start (h : KC v1 v0 u1 u32) : KI v1 v0 u1 u32 (u32 / v1) (u32 - u32 / v1 * v1) := by
 have hv : 0 < v1 := by have := h.a1; omega
 have e1 := Int.mul_ediv_add_emod u32 v1
 have e2 := Int.emod_nonneg u32 (Int.ne_of_gt hv)
 have e3 := Int.emod_lt_of_pos u32 hv
 have e4 : u32 / v1 * v1 = v1 * (u32 / v1) := Int.mul_comm _ _
 have hQ := Int.ediv_mul_le (u32 * 4294967296 + u1) (Int.ne_of_gt h.vpos)
 have hQ0 := h.q0
 have hQ1 := h.qlt
 generalize hQe : (u32 * 4294967296 + u1) / (v1 * 4294967296 + v0) = Q at *
 have d1 := h.d1
 refine ⟨by omega, ?_, by omega, by have := h.a2; omega, Int.ediv_nonneg d1 (Int.le_of_lt hv), ?_⟩
 ·have m1 : Q * (v1 * 4294967296 + v0) = (Q * v1) * 4294967296 + Q * v0 := by rw [Int.mul_add, Int.mul_assoc]
  have m2 : 0 ≤ Q * v0 := Int.mul_nonneg hQ0 h.b1
  have m3 : Q * v1 ≤ u32 := by have := h.c2; omega
  rw [hQe]
  exact (Int.le_ediv_iff_mul_le hv).2 m3
 ·have : u32 / v1 < 4294967298 := by
   refine Int.ediv_lt_of_lt_mul hv ?_
   have := h.d2; have := h.b2; have := h.a1
   omega
  omega
theorem KI.more (h : KC v1 v0 u1 u32) (k : KI v1 v0 u1 u32 q r) (ht : 4294967296 ≤ q ∨ 4294967296 * r + u1 < q * v0) : (u32 * 4294967296 + u1) / (v1 * 4294967296 + v0) ≤ q - 1 := by
 have hQ1 := h.qlt
 rcases ht with ht | ht
 ·omega
 ·have : (u32 * 4294967296 + u1) / (v1 * 4294967296 + v0) < q := by
   refine Int.ediv_lt_of_lt_mul h.vpos ?_
   have m1 : q * (v1 * 4294967296 + v0) = (q * v1) * 4294967296 + q * v0 := by rw [Int.mul_add, Int.mul_assoc]
   have := k.eq
   omega
  omega
theorem KC.is (h : KC v1 v0 u1 u32) (he : q * v1 + r = u32) (hge : (u32 * 4294967296 + u1) / (v1 * 4294967296 + v0) ≤ q) (ht : q * v0 ≤ 4294967296 * r + u1) : q = (u32 * 4294967296 + u1) / (v1 * 4294967296 + v0) := by
 refine Int.le_antisymm ((Int.le_ediv_iff_mul_le h.vpos).2 ?_) hge
 have m1 : q * (v1 * 4294967296 + v0) = (q * v1) * 4294967296 + q * v0 := by rw [Int.mul_add, Int.mul_assoc]
 omega
theorem KI.step (h : KC v1 v0 u1 u32) (k : KI v1 v0 u1 u32 q r) (ht : (u32 * 4294967296 + u1) / (v1 * 4294967296 + v0) ≤ q - 1) : (r + v1 < 4294967296 → KI v1 v0 u1 u32 (q - 1) (r + v1)) ∧ (4294967296 ≤ r + v1 → q - 1 = (u32 * 4294967296 + u1) / (v1 * 4294967296 + v0)) := by
 have hQ0 := h.q0
 have e : (q - 1) * v1 + (r + v1) = u32 := by
  have := k.eq
  rw [Int.sub_mul, Int.one_mul]
  omega
 refine ⟨fun hr => ⟨e, ht, by have := k.r0; have := h.a1; omega, hr, by omega, by have := k.qb; omega⟩, fun hr => ?_⟩
 refine h.is e ht ?_
 have q0 : 0 ≤ q - 1 := by omega
 have hlt : (q - 1) * v1 < 4294967296 * v1 := by have := h.d2; have := h.b2; omega
 have hq : q - 1 < 4294967296 := by
  by_cases hc : q - 1 < 4294967296
  ·exact hc
  ·have : 4294967296 * v1 ≤ (q - 1) * v1 := Int.mul_le_mul_of_nonneg_right (by omega) (by have := h.a1; omega)
   omega
 have m2 : (q - 1) * v0 ≤ 4294967296 * v0 := Int.mul_le_mul_of_nonneg_right (by omega) h.b1
 have := h.b2
 have := h.c1
 omega
theorem KC.rest (h : KC v1 v0 u1 u32) : ∃ R, (u32 * 4294967296 + u1) - (u32 * 4294967296 + u1) / (v1 * 4294967296 + v0) * (v1 * 4294967296 + v0) = R ∧ 0 ≤ R ∧ R < v1 * 4294967296 + v0 ∧ R = (u32 * 4294967296 + u1) % (v1 * 4294967296 + v0) := by
 have e1 := Int.mul_ediv_add_emod (u32 * 4294967296 + u1) (v1 * 4294967296 + v0)
 have e2 := Int.emod_nonneg (u32 * 4294967296 + u1) (Int.ne_of_gt h.vpos)
 have e3 := Int.emod_lt_of_pos (u32 * 4294967296 + u1) h.vpos
 refine ⟨(u32 * 4294967296 + u1) % (v1 * 4294967296 + v0), ?_, e2, e3, rfl⟩
 rw [Int.mul_comm ((u32 * 4294967296 + u1) / (v1 * 4294967296 + v0))]
 omega
end
theorem two_digits {V U u32 u1 u0 : Int} (hV : 0 < V) (hU : U = (u32 * 4294967296 + u1) * 4294967296 + u0) :
  U / V = (u32 * 4294967296 + u1) / V * 4294967296 + ((u32 * 4294967296 + u1) % V * 4294967296 + u0) / V ∧ U % V = ((u32 * 4294967296 + u1) % V * 4294967296 + u0) % V := by
 have e1 := Int.mul_ediv_add_emod (u32 * 4294967296 + u1) V
 generalize (u32 * 4294967296 + u1) / V = Q at *
 generalize (u32 * 4294967296 + u1) % V = R at *
 have e2 : U = (R * 4294967296 + u0) + V * (Q * 4294967296) := by
  rw [hU, ← e1, Int.add_mul, Int.mul_assoc]; omega
 rw [e2]
 refine ⟨?_, ?_⟩
 ·rw [Int.add_mul_ediv_left _ _ (Int.ne_of_gt hV)]; omega
 ·rw [Int.add_mul_emod_self_left]
theorem and_mask {x : Int} (h : U64 x) : IntKind.u64.wrap ((BitVec.ofInt IntKind.u64.bits x &&& BitVec.ofInt IntKind.u64.bits 4294967295).toNat : Int) = x % 4294967296 := by
 have e1 := toNat_ofInt h
 have e2 : (BitVec.ofInt IntKind.u64.bits 4294967295).toNat = 2 ^ 32 - 1 := by decide
 rw [BitVec.toNat_and, e1, e2, Nat.and_two_pow_sub_one_eq_mod]
 obtain ⟨n, rfl⟩ := Int.eq_ofNat_of_zero_le h.1
 rw [Int.toNat_natCast]
 have : (n % 2 ^ 32 : Nat) < 4294967296 := Nat.mod_lt _ (by decide)
 rw [IntWalk.u64_in _ ⟨by omega, by omega⟩]
 omega
theorem norm_y {y : Int} (h : U64 y) (h0 : y ≠ 0) : ∃ s : Nat, s = 64 - Go.Lib.bitLen y.toNat ∧ s < 64 ∧ Go.Lib.bitLen y.toNat ≤ 64 ∧ 9223372036854775808 ≤ y * 2 ^ s ∧ y * 2 ^ s < 18446744073709551616 := by
 obtain ⟨n, rfl⟩ := Int.eq_ofNat_of_zero_le h.1
 rw [Int.toNat_natCast]
 obtain ⟨b1, b2, b3⟩ := Go.Lib.bitLenAux_bounds 64 n (by have := h.2; omega) (by omega)
 have e : Go.Lib.bitLen n = Go.Lib.bitLenAux 64 n := rfl
 rw [e]
 generalize Go.Lib.bitLenAux 64 n = L at *
 have hL : L ≤ 64 := by
  by_cases hL : L ≤ 64
  ·exact hL
  ·have : 2 ^ 64 ≤ 2 ^ (L - 1) := Nat.pow_le_pow_right (by decide) (by omega)
   have := h.2
   omega
 have p1 : (2 : Nat) ^ (L - 1) * 2 ^ (64 - L) = 9223372036854775808 := by rw [← Nat.pow_add, show L - 1 + (64 - L) = 63 by omega]
 have p2 : (2 : Nat) ^ L * 2 ^ (64 - L) = 18446744073709551616 := by rw [← Nat.pow_add, show L + (64 - L) = 64 by omega]
 refine ⟨64 - L, rfl, by omega, hL, ?_, ?_⟩
 ·have := Nat.mul_le_mul_right (2 ^ (64 - L)) b2
  rw [p1] at this
  have h := Int.ofNat_le.2 this
  rw [Int.natCast_mul, Int.natCast_pow] at h
  exact h
 ·have := Nat.mul_lt_mul_of_pos_right b3 (Nat.two_pow_pos (64 - L))
  rw [p2] at this
  have h := Int.ofNat_lt.2 this
  rw [Int.natCast_mul, Int.natCast_pow] at h
  exact h
end Go.Proofs.YtncmmbacoknefaaGreat

/- Hc: What a call of bits.Div64 gives. -/
namespace Go.Proofs.YtncmmbacoknefaaGreat
open Go Go.RowKit Sx
set_option linter.unusedVariables false
set_option linter.unusedSimpArgs false
def d2F (V v1 v0 u0 Q1 u21 : Int) (s : Nat) (x : Int × Int) : St := ⟨0, [(2, .v (.int .u64 V)), (8, .v (.int .u64 (s : Int))), (9, .v (.int .u64 v1)), (10, .v (.int .u64 v0)), (14, .v (.int .u64 u0)), (15, .v (.int .u64 Q1)), (16, .v (.int .u64 x.2)), (17, .v (.int .u64 u21)), (18, .v (.int .u64 x.1))], [], ext0⟩
def d1F (V v1 v0 u32 u1 u0 : Int) (s : Nat) (x : Int × Int) : St := ⟨0, [(2, .v (.int .u64 V)), (8, .v (.int .u64 (s : Int))), (9, .v (.int .u64 v1)), (10, .v (.int .u64 v0)), (11, .v (.int .u64 u32)), (13, .v (.int .u64 u1)), (14, .v (.int .u64 u0)), (15, .v (.int .u64 x.1)), (16, .v (.int .u64 x.2))], [], ext0⟩
theorem mul_bnd {q v : Int} (h0 : 0 ≤ q) (h1 : q < 4294967296) (h2 : 0 ≤ v) (h3 : v < 4294967296) : 0 ≤ q * v ∧ q * v ≤ 18446744069414584320 := by
 refine ⟨Int.mul_nonneg h0 h2, ?_⟩
 have := Int.mul_le_mul_of_nonneg_right (show q ≤ 4294967295 by omega) h2
 omega
theorem div64_two {V v1 v0 u0 Q1 u21 : Int} {s : Nat} {w : World} {R : Value → Prop} (hV : V = v1 * 4294967296 + v0) (kc : KC v1 v0 u0 u21) (hQ : 0 ≤ Q1 ∧ Q1 < 4294967296) (hs : s < 64)
  (hR : R (.tuple #[.int .u64 (Q1 * 4294967296 + (u21 * 4294967296 + u0) / V), .int .u64 (((u21 * 4294967296 + u0) % V).fdiv (2 ^ s))])) {q r : Int} (hI : KI v1 v0 u0 u21 q r) :
  math_bits_Div64.p2 (cx Tryz.prog w 135) (fin [(6, none), (7, none)] R) (d2F V v1 v0 u0 Q1 u21 s (q, r)) := by
 have hA1 := kc.a1
 have hA2 := kc.a2
 have hB1 := kc.b1
 have hB2 := kc.b2
 have hC1 := kc.c1
 have hC2 := kc.c2
 obtain ⟨rr, r1, r2, r3, r4⟩ := kc.rest
 rw [← hV] at r1 r3 r4
 have hq0 := kc.q0
 have hq1 := kc.qlt
 rw [← hV] at hq0 hq1
 have last : IntKind.u64.wrap (IntKind.u64.wrap (IntKind.u64.wrap (u21 * 4294967296) + u0) - IntKind.u64.wrap ((u21 * 4294967296 + u0) / V * V)) = rr := by
  show (((u21 * 4294967296) % 18446744073709551616 + u0) % 18446744073709551616 - ((u21 * 4294967296 + u0) / V * V) % 18446744073709551616) % 18446744073709551616 = rr
  generalize (u21 * 4294967296 + u0) / V * V = z at *
  omega
 have last1 : IntKind.u64.wrap (IntKind.u64.wrap (Q1 * 4294967296) + (u21 * 4294967296 + u0) / V) = Q1 * 4294967296 + (u21 * 4294967296 + u0) / V := by
  show ((Q1 * 4294967296) % 18446744073709551616 + (u21 * 4294967296 + u0) / V) % 18446744073709551616 = _
  omega
 rw [← r4] at hR
 rw [math_bits_Div64.p2_l]
 refine LX_inv (d2F V v1 v0 u0 Q1 u21 s) (fun x => KI v1 v0 u0 u21 x.1 x.2) (fun x => x.1.toNat) ?round (q, r) hI ?start
 case start => simp (disch := omega) only [sxE, math_bits_Div64.E, Nat.reduceAdd, Nat.reduceEqDiff, Nat.reduceMul, Nat.reduceSub, Int.reduceAdd, Int.reduceSub, Int.reduceMul, Int.reduceNeg, Int.reduceLT, Int.reduceLE, Int.reduceEq, Int.reduceToNat, ↓reduceIte, Int.reducePow, Nat.reduceLeDiff, Nat.reduceLT, ne_eq, eq_self, List.length_cons, List.length_nil, d2F]
 case round =>
  clear hI
  rintro ⟨q, r⟩ hI
  dsimp only at hI ⊢
  have g1 := hI.r0
  have g2 := hI.rb
  have g3 := hI.q0
  have g4 := hI.qb
  have more : 4294967296 ≤ q ∨ 4294967296 * r + u0 < q * v0 → (u21 * 4294967296 + u0) / V ≤ q - 1 := fun ht => by have := hI.more kc ht; rwa [← hV] at this
  have step := hI.step kc
  rw [← hV] at step
  have done : ¬ (4294967296 ≤ q ∨ 4294967296 * r + u0 < q * v0) → q = (u21 * 4294967296 + u0) / V := fun ht => by
   have := kc.is hI.eq hI.ge (by omega)
   rwa [← hV] at this
  unfold d2F
  by_cases t1 : 4294967296 ≤ q
  ·have hge := more (.inl t1)
   obtain ⟨s1, s2⟩ := step hge
   by_cases t2 : 4294967296 ≤ r + v1
   ·have e := s2 t2
    repeat' (first | simp (disch := omega) only [sxE, math_bits_Div64.E, Nat.reduceAdd, Nat.reduceEqDiff, Nat.reduceMul, Nat.reduceSub, Int.reduceAdd, Int.reduceSub, Int.reduceMul, Int.reduceNeg, Int.reduceLT, Int.reduceLE, Int.reduceEq, Int.reduceToNat, ↓reduceIte, Int.reducePow, Nat.reduceLeDiff, Nat.reduceLT, ne_eq, eq_self, List.length_cons, List.length_nil, e, last, last1] | (with_reducible refine cregF ?_))
    exact hR
   ·repeat' (first | simp (disch := omega) only [sxE, math_bits_Div64.E, Nat.reduceAdd, Nat.reduceEqDiff, Nat.reduceMul, Nat.reduceSub, Int.reduceAdd, Int.reduceSub, Int.reduceMul, Int.reduceNeg, Int.reduceLT, Int.reduceLE, Int.reduceEq, Int.reduceToNat, ↓reduceIte, Int.reducePow, Nat.reduceLeDiff, Nat.reduceLT, ne_eq, eq_self, List.length_cons, List.length_nil] | (with_reducible refine cregF ?_))
    exact ⟨(q - 1, r + v1), s1 (by omega), by dsimp only; omega, rfl, rfl⟩
  ·obtain ⟨m1, m2⟩ := mul_bnd g3 (by omega) hB1 hB2
   generalize hz : q * v0 = z at *
   by_cases t3 : 4294967296 * r + u0 < z
   ·have hge := more (.inr t3)
    obtain ⟨s1, s2⟩ := step hge
    by_cases t2 : 4294967296 ≤ r + v1
    ·have e := s2 t2
     repeat' (first | simp (disch := omega) only [sxE, math_bits_Div64.E, Nat.reduceAdd, Nat.reduceEqDiff, Nat.reduceMul, Nat.reduceSub, Int.reduceAdd, Int.reduceSub, Int.reduceMul, Int.reduceNeg, Int.reduceLT, Int.reduceLE, Int.reduceEq, Int.reduceToNat, ↓reduceIte, Int.reducePow, Nat.reduceLeDiff, Nat.reduceLT, ne_eq, eq_self, List.length_cons, List.length_nil, hz, e, last, last1] | (with_reducible refine cregF ?_))
     exact hR
    ·repeat' (first | simp (disch := omega) only [sxE, math_bits_Div64.E, Nat.reduceAdd, Nat.reduceEqDiff, Nat.reduceMul, Nat.reduceSub, Int.reduceAdd, Int.reduceSub, Int.reduceMul, Int.reduceNeg, Int.reduceLT, Int.reduceLE, Int.reduceEq, Int.reduceToNat, ↓reduceIte, Int.reducePow, Nat.reduceLeDiff, Nat.reduceLT, ne_eq, eq_self, List.length_cons, List.length_nil, hz] | (with_reducible refine cregF ?_))
     exact ⟨(q - 1, r + v1), s1 (by omega), by dsimp only; omega, rfl, rfl⟩
   ·have e := done (by omega)
    repeat' (first | simp (disch := omega) only [sxE, math_bits_Div64.E, Nat.reduceAdd, Nat.reduceEqDiff, Nat.reduceMul, Nat.reduceSub, Int.reduceAdd, Int.reduceSub, Int.reduceMul, Int.reduceNeg, Int.reduceLT, Int.reduceLE, Int.reduceEq, Int.reduceToNat, ↓reduceIte, Int.reducePow, Nat.reduceLeDiff, Nat.reduceLT, ne_eq, eq_self, List.length_cons, List.length_nil, hz] | (with_reducible refine cregF ?_))
    rw [e]
    simp only [last, last1]
    exact hR
theorem div64_one {V v1 v0 u1 u0 u32 : Int} {s : Nat} {w : World} {R : Value → Prop} (hV : V = v1 * 4294967296 + v0) (kc : KC v1 v0 u1 u32) (hu0 : 0 ≤ u0 ∧ u0 < 4294967296) (hs : s < 64)
  (hR : R (.tuple #[.int .u64 ((u32 * 4294967296 + u1) / V * 4294967296 + ((u32 * 4294967296 + u1) % V * 4294967296 + u0) / V), .int .u64 ((((u32 * 4294967296 + u1) % V * 4294967296 + u0) % V).fdiv (2 ^ s))])) {q r : Int} (hI : KI v1 v0 u1 u32 q r) :
  math_bits_Div64.p12 (cx Tryz.prog w 135) (fin [(6, none), (7, none)] R) (d1F V v1 v0 u32 u1 u0 s (q, r)) := by
 have hA1 := kc.a1
 have hA2 := kc.a2
 have hB1 := kc.b1
 have hB2 := kc.b2
 have hC1 := kc.c1
 have hC2 := kc.c2
 have hD1 := kc.d1
 have hD2 := kc.d2
 obtain ⟨rr, r1, r2, r3, r4⟩ := kc.rest
 rw [← hV] at r1 r3 r4
 have hq0 := kc.q0
 have hq1 := kc.qlt
 rw [← hV] at hq0 hq1
 rw [← r4] at hR
 have kc2 : KC v1 v0 u0 rr := ⟨hA1, hA2, hB1, hB2, hu0.1, hu0.2, r2, by omega⟩
 have st2 := kc2.start
 have last : IntKind.u64.wrap (IntKind.u64.wrap (IntKind.u64.wrap (u32 * 4294967296) + u1) - IntKind.u64.wrap ((u32 * 4294967296 + u1) / V * V)) = rr := by
  show (((u32 * 4294967296) % 18446744073709551616 + u1) % 18446744073709551616 - ((u32 * 4294967296 + u1) / V * V) % 18446744073709551616) % 18446744073709551616 = rr
  generalize (u32 * 4294967296 + u1) / V * V = z at *
  omega
 have dv0 : v1 ≠ 0 := by omega
 have w1 : IntKind.u64.wrap (rr / v1) = rr / v1 := s_wu _ (by have := st2.q0; omega) (by have := st2.qb; omega)
 have w2 : IntKind.u64.wrap (rr / v1 * v1) = rr / v1 * v1 := s_wu _ (Int.mul_nonneg st2.q0 (by omega)) (by have := st2.eq; have := st2.r0; omega)
 have w3 : IntKind.u64.wrap (rr - rr / v1 * v1) = rr - rr / v1 * v1 := s_wu _ st2.r0 (by have := st2.rb; omega)
 have two := div64_two (w := w) (Q1 := (u32 * 4294967296 + u1) / V) hV kc2 ⟨hq0, hq1⟩ hs hR st2
 unfold d2F at two
 rw [math_bits_Div64.p12_l]
 refine LX_inv (d1F V v1 v0 u32 u1 u0 s) (fun x => KI v1 v0 u1 u32 x.1 x.2) (fun x => x.1.toNat) ?round (q, r) hI ?start
 case start => simp (disch := omega) only [sxE, math_bits_Div64.E, Nat.reduceAdd, Nat.reduceEqDiff, Nat.reduceMul, Nat.reduceSub, Int.reduceAdd, Int.reduceSub, Int.reduceMul, Int.reduceNeg, Int.reduceLT, Int.reduceLE, Int.reduceEq, Int.reduceToNat, ↓reduceIte, Int.reducePow, Nat.reduceLeDiff, Nat.reduceLT, ne_eq, eq_self, List.length_cons, List.length_nil, d1F]
 case round =>
  clear hI
  rintro ⟨q, r⟩ hI
  dsimp only at hI ⊢
  have g1 := hI.r0
  have g2 := hI.rb
  have g3 := hI.q0
  have g4 := hI.qb
  have more : 4294967296 ≤ q ∨ 4294967296 * r + u1 < q * v0 → (u32 * 4294967296 + u1) / V ≤ q - 1 := fun ht => by have := hI.more kc ht; rwa [← hV] at this
  have step := hI.step kc
  rw [← hV] at step
  have done : ¬ (4294967296 ≤ q ∨ 4294967296 * r + u1 < q * v0) → q = (u32 * 4294967296 + u1) / V := fun ht => by
   have := kc.is hI.eq hI.ge (by omega)
   rwa [← hV] at this
  unfold d1F
  by_cases t1 : 4294967296 ≤ q
  ·have hge := more (.inl t1)
   obtain ⟨s1, s2⟩ := step hge
   by_cases t2 : 4294967296 ≤ r + v1
   ·have e := s2 t2
    repeat' (first | simp (disch := omega) only [sxE, math_bits_Div64.E, Nat.reduceAdd, Nat.reduceEqDiff, Nat.reduceMul, Nat.reduceSub, Int.reduceAdd, Int.reduceSub, Int.reduceMul, Int.reduceNeg, Int.reduceLT, Int.reduceLE, Int.reduceEq, Int.reduceToNat, ↓reduceIte, Int.reducePow, Nat.reduceLeDiff, Nat.reduceLT, ne_eq, eq_self, List.length_cons, List.length_nil, e, last, dv0, w1, w2, w3] | (with_reducible refine cregF ?_))
    exact two
   ·repeat' (first | simp (disch := omega) only [sxE, math_bits_Div64.E, Nat.reduceAdd, Nat.reduceEqDiff, Nat.reduceMul, Nat.reduceSub, Int.reduceAdd, Int.reduceSub, Int.reduceMul, Int.reduceNeg, Int.reduceLT, Int.reduceLE, Int.reduceEq, Int.reduceToNat, ↓reduceIte, Int.reducePow, Nat.reduceLeDiff, Nat.reduceLT, ne_eq, eq_self, List.length_cons, List.length_nil] | (with_reducible refine cregF ?_))
    exact ⟨(q - 1, r + v1), s1 (by omega), by dsimp only; omega, rfl, rfl⟩
  ·obtain ⟨m1, m2⟩ := mul_bnd g3 (by omega) hB1 hB2
   generalize hz : q * v0 = z at *
   by_cases t3 : 4294967296 * r + u1 < z
   ·have hge := more (.inr t3)
    obtain ⟨s1, s2⟩ := step hge
    by_cases t2 : 4294967296 ≤ r + v1
    ·have e := s2 t2
     repeat' (first | simp (disch := omega) only [sxE, math_bits_Div64.E, Nat.reduceAdd, Nat.reduceEqDiff, Nat.reduceMul, Nat.reduceSub, Int.reduceAdd, Int.reduceSub, Int.reduceMul, Int.reduceNeg, Int.reduceLT, Int.reduceLE, Int.reduceEq, Int.reduceToNat, ↓reduceIte, Int.reducePow, Nat.reduceLeDiff, Nat.reduceLT, ne_eq, eq_self, List.length_cons, List.length_nil, hz, e, last, dv0, w1, w2, w3] | (with_reducible refine cregF ?_))
     exact two
    ·repeat' (first | simp (disch := omega) only [sxE, math_bits_Div64.E, Nat.reduceAdd, Nat.reduceEqDiff, Nat.reduceMul, Nat.reduceSub, Int.reduceAdd, Int.reduceSub, Int.reduceMul, Int.reduceNeg, Int.reduceLT, Int.reduceLE, Int.reduceEq, Int.reduceToNat, ↓reduceIte, Int.reducePow, Nat.reduceLeDiff, Nat.reduceLT, ne_eq, eq_self, List.length_cons, List.length_nil, hz] | (with_reducible refine cregF ?_))
     exact ⟨(q - 1, r + v1), s1 (by omega), by dsimp only; omega, rfl, rfl⟩
   ·have e := done (by omega)
    subst e
    repeat' (first | simp (disch := omega) only [sxE, math_bits_Div64.E, Nat.reduceAdd, Nat.reduceEqDiff, Nat.reduceMul, Nat.reduceSub, Int.reduceAdd, Int.reduceSub, Int.reduceMul, Int.reduceNeg, Int.reduceLT, Int.reduceLE, Int.reduceEq, Int.reduceToNat, ↓reduceIte, Int.reducePow, Nat.reduceLeDiff, Nat.reduceLT, ne_eq, eq_self, List.length_cons, List.length_nil, hz, last, dv0, w1, w2, w3] | (with_reducible refine cregF ?_))
    exact two
theorem en_div64 (l : Array Value) (W : World) : (callFunc 182 l).run Tryz.prog W = .ok (.enter 182 l) W := Sx.en_of Tryz.func182 (by kernel_rfl) (by kernel_rfl) l W
theorem g_lz64 {x : Int} (h : U64 x) (W : World) : Gives Tryz.prog 196 [.int .u64 x] W (· = .int .i64 (64 - (Go.Lib.bitLen x.toNat : Int))) :=
 gives_known (Sx.en_of Tryz.func196 (by kernel_rfl) (by kernel_rfl)) ((Tryz.bits_LeadingZeros64 x W h.1 h.2).mono fun _ _ ⟨h1, h2⟩ => ⟨h1, by subst h2; exact Below.refl _ _⟩)
set_option maxRecDepth 100000 in
theorem g_div64 {hi lo y : Int} (hh : U64 hi) (hl : U64 lo) (hy : U64 y) (hlt : hi < y) (W : World) : Gives Tryz.prog 182 [.int .u64 hi, .int .u64 lo, .int .u64 y] W (· = .tuple #[.int .u64 ((hi * 18446744073709551616 + lo) / y), .int .u64 ((hi * 18446744073709551616 + lo) % y)]) := by
 refine gives_known en_div64 ?_
 obtain ⟨hh0, hh1⟩ := id hh
 obtain ⟨hl0, hl1⟩ := id hl
 obtain ⟨hy0, hy1⟩ := id hy
 have hyp : 0 < y := by omega
 by_cases h0 : hi = 0
 ·have d0 : 0 ≤ lo / y := Int.ediv_nonneg hl0 (by omega)
  have d1 : lo / y ≤ lo := Int.ediv_le_self y hl0
  have dn : y ≠ 0 := by omega
  subst h0
  rw [Int.zero_mul, Int.zero_add]
  refine known_of (enter Tryz.func182 math_bits_Div64.ok (args := [.int .u64 0, .int .u64 lo, .int .u64 y]) (by simp) ?_)
  repeat' (first | simp (disch := omega) only [sxE, math_bits_Div64.E, Nat.reduceAdd, Nat.reduceEqDiff, Nat.reduceMul, Nat.reduceSub, Int.reduceAdd, Int.reduceSub, Int.reduceMul, Int.reduceNeg, Int.reduceLT, Int.reduceLE, Int.reduceEq, Int.reduceToNat, ↓reduceIte, Int.reducePow, Nat.reduceLeDiff, Nat.reduceLT, ne_eq, eq_self, List.length_cons, List.length_nil, dn] | (with_reducible refine cregF ?_))
 ·obtain ⟨s, hs1, hs, hL, hv1, hv2⟩ := norm_y hy (by omega)
  have hs2 : IntKind.u64.wrap (64 - (Go.Lib.bitLen y.toNat : Int)) = (s : Int) := by rw [s_wu _ (by omega) (by omega)]; omega
  have hs3 : 64 - (s : Int) = ((64 - s : Nat) : Int) := by omega
  obtain ⟨t, u, t1, t2, t3, u0, us, td, e⟩ := shl_word hl hs
  have p0 : (0 : Int) < 2 ^ s := Int.pow_pos (by decide)
  have hV : IntKind.u64.wrap (y * 2 ^ s) = y * 2 ^ s := s_wu _ (by omega) (by omega)
  have hle : (hi + 1) * 2 ^ s ≤ y * 2 ^ s := Int.mul_le_mul_of_nonneg_right (by omega) (Int.le_of_lt p0)
  rw [Int.add_mul, Int.one_mul] at hle
  have hhp : 0 ≤ hi * 2 ^ s := Int.mul_nonneg hh0 (Int.le_of_lt p0)
  have hH : IntKind.u64.wrap (hi * 2 ^ s) = hi * 2 ^ s := s_wu _ hhp (by omega)
  obtain ⟨o1, o2, o3⟩ := or_add s ⟨u0, by omega⟩ ⟨hhp, by omega⟩ us ⟨hi, Int.mul_comm _ _⟩
  have hU : (hi * 18446744073709551616 + lo) * 2 ^ s = ((u + hi * 2 ^ s) * 4294967296 + t / 4294967296) * 4294967296 + t % 4294967296 := by
   rw [Int.add_mul, e, show hi * 18446744073709551616 * 2 ^ s = 18446744073709551616 * (hi * 2 ^ s) by rw [Int.mul_right_comm, Int.mul_comm]]
   generalize hi * 2 ^ s = H at *
   omega
  have hVp : 0 < y * 2 ^ s := by omega
  obtain ⟨f1, f2⟩ := two_digits hVp hU
  rw [Int.mul_ediv_mul_of_pos_left _ _ p0] at f1
  have f0 : ((hi * 18446744073709551616 + lo) * 2 ^ s) % (y * 2 ^ s) = ((hi * 18446744073709551616 + lo) % y) * 2 ^ s := by
   rw [Int.mul_comm _ (2 ^ s), Int.mul_comm y, Int.mul_emod_mul_of_pos _ _ p0, Int.mul_comm]
  rw [f0] at f2
  have f3 : (((hi * 18446744073709551616 + lo) % y) * 2 ^ s).fdiv (2 ^ s) = (hi * 18446744073709551616 + lo) % y := by
   rw [Int.fdiv_eq_ediv_of_nonneg _ (Int.le_of_lt p0), Int.mul_ediv_cancel _ (Int.ne_of_gt p0)]
  have hVs : y * 2 ^ s = (y * 2 ^ s) / 4294967296 * 4294967296 + (y * 2 ^ s) % 4294967296 := by omega
  have kc : KC ((y * 2 ^ s) / 4294967296) ((y * 2 ^ s) % 4294967296) (t / 4294967296) (u + hi * 2 ^ s) := by
   obtain ⟨t30, t31⟩ := t3
   generalize y * 2 ^ s = V at *
   generalize hi * 2 ^ s = H at *
   exact ⟨by omega, by omega, by omega, by omega, by omega, by omega, by omega, by omega⟩
  have st := kc.start
  have w1 : IntKind.u64.wrap ((u + hi * 2 ^ s) / ((y * 2 ^ s) / 4294967296)) = (u + hi * 2 ^ s) / ((y * 2 ^ s) / 4294967296) := s_wu _ (by have := st.q0; omega) (by have := st.qb; omega)
  have w2 : IntKind.u64.wrap ((u + hi * 2 ^ s) / ((y * 2 ^ s) / 4294967296) * ((y * 2 ^ s) / 4294967296)) = (u + hi * 2 ^ s) / ((y * 2 ^ s) / 4294967296) * ((y * 2 ^ s) / 4294967296) := s_wu _ (Int.mul_nonneg st.q0 (by have := kc.a1; omega)) (by have := st.eq; have := st.r0; have := o3.2; omega)
  have w3 : IntKind.u64.wrap ((u + hi * 2 ^ s) - (u + hi * 2 ^ s) / ((y * 2 ^ s) / 4294967296) * ((y * 2 ^ s) / 4294967296)) = (u + hi * 2 ^ s) - (u + hi * 2 ^ s) / ((y * 2 ^ s) / 4294967296) * ((y * 2 ^ s) / 4294967296) := s_wu _ st.r0 (by have := st.rb; omega)
  have dv0 : (y * 2 ^ s) / 4294967296 ≠ 0 := by have := kc.a1; omega
  have one := div64_one (w := W) (R := fun v => v = .tuple #[.int .u64 ((hi * 18446744073709551616 + lo) / y), .int .u64 ((hi * 18446744073709551616 + lo) % y)]) hVs kc (u0 := t % 4294967296) ⟨by omega, by omega⟩ hs (by rw [← f1, ← f2, f3]) st
  have am1 := and_mask (x := y * 2 ^ s) ⟨by omega, by omega⟩
  have am2 := and_mask t3
  have fd1 : (y * 2 ^ s).fdiv 4294967296 = (y * 2 ^ s) / 4294967296 := Int.fdiv_eq_ediv_of_nonneg _ (by decide)
  have fd2 : t.fdiv 4294967296 = t / 4294967296 := Int.fdiv_eq_ediv_of_nonneg _ (by decide)
  have hun : 0 ≤ u + hi * 2 ^ s := o3.1
  have o1' := o1
  unfold d1F at one
  dsimp only at one
  clear f1 f2 f3 hU hL hs1
  refine known_of (enter Tryz.func182 math_bits_Div64.ok (args := [.int .u64 hi, .int .u64 lo, .int .u64 y]) (by simp) ?_)
  repeat' (first | simp (disch := omega) only [sxE, math_bits_Div64.E, Nat.reduceAdd, Nat.reduceEqDiff, Nat.reduceMul, Nat.reduceSub, Int.reduceAdd, Int.reduceSub, Int.reduceMul, Int.reduceNeg, Int.reduceLT, Int.reduceLE, Int.reduceEq, Int.reduceToNat, ↓reduceIte, Int.reducePow, Nat.reduceLeDiff, Nat.reduceLT, ne_eq, eq_self, List.length_cons, List.length_nil, hs2, hs3, hV, hH, t1, t2, o2, am1, am2, fd1, fd2, dv0, w1, w2, w3] | (with_reducible refine Sx.call_at (f := 196) (fun W hW => g_lz64 hy W) ?_) | (with_reducible refine cregF ?_))
  exact one
end Go.Proofs.YtncmmbacoknefaaGreat

/- Hd: What a call of the reference's divmod gives. -/
namespace Go.Proofs.YtncmmbacoknefaaGreat
open Go Go.RowKit Sx
set_option linter.unusedVariables false
set_option linter.unusedSimpArgs false
theorem gen_one {r : Int} (hr : U64 r) (W : World) : ∃ g cap W', (genRun (.bsl 162 1 [0]) [.int .u64 r]).run Tryz.prog W = .ok (.value (.slice (some ⟨g, 0, none⟩) [r].length cap)) W' ∧ OwnU W' W.heap.size (.slice (some ⟨g, 0, none⟩) [r].length cap) [r] ∧ Below W.heap.size W W' :=
 ⟨W.heap.size, 1, W.alloc (.cells #[.int .u64 r] 34 (0, 0)), by kernel_rfl, OwnU.lit W [r] (Ws.one hr) 34 rfl (show 1 ≤ maxLen by decide), (Below.refl _ _).alloc (Nat.le_refl _) _⟩
theorem gen_none (W : World) : ∃ g cap W', (genRun (.bsl 162 0 []) []).run Tryz.prog W = .ok (.value (.slice (some ⟨g, 0, none⟩) ([] : List Int).length cap)) W' ∧ OwnU W' W.heap.size (.slice (some ⟨g, 0, none⟩) ([] : List Int).length cap) [] ∧ Below W.heap.size W W' :=
 ⟨W.heap.size, 0, W.alloc (.cells #[] 34 (0, 0)), by kernel_rfl, OwnU.lit W [] Ws.nil 34 rfl (by decide), (Below.refl _ _).alloc (Nat.le_refl _) _⟩
theorem genA_app {C : Cx} {S : St} {K : St → Prop} {d : Option Nat} {L L0 : List Kn} {t2 : TypeId} {g cap : Nat} {src : Value} {ms : List Int} (hP : C.P = Tryz.prog) (ht2 : ∃ e2, Tryz.prog.underlying t2 = some (.slice e2)) (hT : S.T = kX C.w0.heap.size L) (hm : .o (.slice (some ⟨g, 0, none⟩) 0 cap) [] ∈ L)
  (hC : C.fr = none) (hL : ∀ k ∈ L0, k ∈ L ∧ g ∉ k.bs) (hsrc : ∀ W, Below C.w0.heap.size C.w0 W → (∀ k ∈ L, k.ok C.w0.heap.size W) → SlU W src ms) (hlen : ms.length ≤ 1000000)
  (hk : ∀ a c, Shp a ms.length c → (∀ b ∈ rbs (.slice a ms.length c), b = g ∨ b ∉ S.T.bs) → K (St.put ⟨S.n, S.E, S.H, kX C.w0.heap.size (.r (.slice a ms.length c) ms :: L0)⟩ d (.v (.slice a ms.length c)))) :
  genA C (.bi .append [162, t2] 162 [false, false]) [.slice (some ⟨g, 0, none⟩) 0 cap, src] d K S := by
 obtain ⟨e2, ht2⟩ := ht2
 obtain ⟨i0, hi, hz0, hz1, hz2⟩ := info_u
 refine genA_T (ι := {x : Option Addr × Nat // Shp x.1 ms.length x.2 ∧ ∀ b ∈ rbs (.slice x.1 ms.length x.2), b = g ∨ b ∉ S.T.bs}) (fun x => .slice x.1.1 ms.length x.1.2) (fun x => kX C.w0.heap.size (.r (.slice x.1.1 ms.length x.1.2) ms :: L0)) (fun W hW hok hbs => ⟨?_⟩) (fun x => hk _ _ x.2.1 x.2.2)
 rw [hT] at hok
 have ho : OwnU W C.w0.heap.size (.slice (some ⟨g, 0, none⟩) 0 cap) [] := hok _ hm
 obtain ⟨v', w', hrun, hown, hg, hat⟩ := run_append_u (P := Tryz.prog) (ty := 162) W C.w0.heap.size Tryz.underlying162 ht2 hi hz0 hz1 hz2 ho (hsrc W hW hok) (by simp; omega) hW.size
 rw [List.nil_append] at hown
 obtain ⟨a, c, rfl, hs⟩ := hown.sl.shp
 have hr : (Kn.r (.slice a ms.length c) ms).ok C.w0.heap.size w' := ⟨hown.sl, hown.fr (Nat.le_refl _)⟩
 have hb' : ∀ b ∈ rbs (.slice a ms.length c), b = g ∨ b = W.heap.size := fun b hb => by
  cases a with
  | none => cases hb
  | some a =>
   have hb2 : b ∈ (if c = 0 then [] else [a.block]) := hb
   have : b = a.block := by split at hb2; cases hb2; exact List.mem_singleton.1 hb2
   subst this
   rcases hat with h | h
   ·left; exact Option.some.inj h
   ·right; exact Option.some.inj h
 have he : (genRun (.bi .append [162, t2] 162 [false, false]) [.slice (some ⟨g, 0, none⟩) 0 cap, src]).run Tryz.prog W = .ok (.value (.slice a ms.length c)) w' := by
  show Sem.run _ (builtin .append [_, _].toArray _ [false, false].toArray [_, _].toArray) W = _
  unfold builtin
  rw [run_bind_ok hrun]
  rfl
 rw [hP, he]
 have hgb : g ∈ (kX C.w0.heap.size L).bs := kX_bs.2 ⟨_, hm, List.mem_singleton.2 rfl⟩
 refine ⟨⟨(a, c), hs, fun b hb => ?_⟩, rfl, ?_, ?_, kX_stab C _, ?_⟩
 ·rcases hb' b hb with h | h
  ·exact .inl h
  ·right; intro hT2; have := (hbs b hT2).2; omega
 ·rw [mv_none hC, hT]
  exact ⟨hg.os, hg.tape, hg.output, hg.size, fun j hj hn => hg.block j hj fun e => hn (by cases e; exact hgb)⟩
 ·intro k hk
  rcases List.mem_cons.1 hk with rfl | hk
  ·exact hr
  ·obtain ⟨h1, h2⟩ := hL k hk
   exact (hok k h1).keep hg.size (fun b hb => hg.block b ((hok k h1).lt b hb).2 fun e => h2 (by cases e; exact hb)) fun b hbn hbl => hg.block b hbl fun e => by
    have := (Kn.ok.lt (k := .o (.slice (some ⟨g, 0, none⟩) 0 cap) []) ho g (List.mem_singleton.2 rfl)).1
    have e2 : b = g := Option.some.inj e
    omega
 ·intro b hb
  rw [hT]
  obtain ⟨k, hk, hb⟩ := kX_bs.1 hb
  rcases List.mem_cons.1 hk with rfl | hk
  ·refine ⟨?_, (hr.lt b hb).2⟩
   rcases hb' b hb with h | h
   ·left; rw [h]; exact hgb
   ·right; omega
  ·exact ⟨.inl (kX_bs.2 ⟨k, (hL k hk).1, hb⟩), Nat.lt_of_lt_of_le ((hok k (hL k hk).1).lt b hb).2 hg.size⟩
theorem asks_half {C : Cx} {S : St} {K : St → Prop} {d : Option Nat} {L : List Kn} (L' : List Kn) {g len cap : Nat} {ws : List Int} (hP : C.P = Tryz.prog) (hC : C.fr = none) (hT : S.T = kX C.w0.heap.size L) (hm : .o (.slice (some ⟨g, 0, none⟩) len cap) ws ∈ L) (hlen : len ≤ 1000000)
  (hL : ∀ k ∈ L', k = .o (.slice (some ⟨g, 0, none⟩) (wl (VL ws / 2)).length cap) (wl (VL ws / 2)) ∨ (k ∈ L ∧ g ∉ k.bs))
  (hk : K (St.put ⟨S.n, S.E, S.H, kX C.w0.heap.size L'⟩ d (.v (.slice (some ⟨g, 0, none⟩) (wl (VL ws / 2)).length cap)))) : asks C 185 [.slice (some ⟨g, 0, none⟩) len cap] d K S := by
 refine asks_kn (ι := Unit) (L := L) (gs := [g]) (fun _ => .slice (some ⟨g, 0, none⟩) (wl (VL ws / 2)).length cap) (fun _ => L') (by rw [hP]; exact en_r02_half) hT (fun b hb => by rw [List.mem_singleton.1 hb, mv_none hC, hT]; exact kX_bs.2 ⟨_, hm, List.mem_singleton.2 rfl⟩) (fun W hok b hb => by rw [List.mem_singleton.1 hb]; exact (Kn.ok.lt (k := .o (.slice (some ⟨g, 0, none⟩) len cap) ws) (hok _ hm) g (List.mem_singleton.2 rfl)).1) (fun W hW hok => ?_) fun _ => hk
 rw [hP]
 have ho : OwnU W C.w0.heap.size (.slice (some ⟨g, 0, none⟩) len cap) ws := hok _ hm
 refine (rhalf_any hlen ho).mono fun e w' ⟨h1, h2, h3⟩ => ⟨(), h1, h3, fun k hk => ?_⟩
 rcases hL k hk with rfl | ⟨hk, hg⟩
 ·exact .inr ⟨h2, fun b hb => .inl (by rw [hT]; exact kX_bs.2 ⟨_, hm, hb⟩)⟩
 ·exact .inl ⟨hk, fun b hb h => hg (by rw [← List.mem_singleton.1 h]; exact hb)⟩
theorem pw4b {z : Int} (h : A4 z) : (wl z).length ≤ 4 := (wl_len_lt h.1 4).2 (by rw [pw4]; exact h.2)
theorem SlU.nil (W : World) : SlU W (.slice none 0 0) [] := ⟨none, 0, 0, rfl, rfl, Nat.le_refl _, by decide, Ws.nil, fun h => by omega⟩
theorem SlF.nil (W : World) (n : Nat) : SlF W n (.slice none 0 0) [] := ⟨SlU.nil W, fun b off e => by cases e⟩
theorem wl_one {y : Int} (h : 0 ≤ y) (hl : (wl y).length = 1) : wl y = [y] ∧ U64 y := by
 have hp : 0 < y := by
  rcases Int.lt_or_eq_of_le h with h | h
  ·exact h
  ·subst h; rw [wl_nil (Int.le_refl _)] at hl; cases hl
 have hlt := (wl_len_lt h 1).1 (by omega)
 have h1 : y < 18446744073709551616 := hlt
 rw [wl_cons hp, wl_nil (by omega), Int.emod_eq_of_lt h h1]
 exact ⟨rfl, h, by omega⟩
def DmR (n : Nat) (x y : Int) (v : Value) (X : Ext) : Prop := ∃ u1 u2, v = .tuple #[u1, u2] ∧ ∀ W, X.ok W → SlF W n u1 (wl (x / y)) ∧ SlF W n u2 (wl (x % y))
def dm1F (w : World) (a b : Option Addr) (lx cx' ly cy' g cap : Nat) (x : Nat × List Int × Int) : St := ⟨0, [(0, .v (.slice a lx cx')), (1, .v (.slice b ly cy')), (6, .v (.slice (some ⟨g, 0, none⟩) lx cap)), (7, .v (.int .u64 x.2.2)), (8, .v (.int .i64 ((x.1 : Int) - 1)))], [], kX w.heap.size [.o (.slice (some ⟨g, 0, none⟩) lx cap) x.2.1]⟩
set_option maxRecDepth 100000 in
theorem rdivmod_one {a b : Option Addr} {cx' cy' : Nat} {x y : Int} {w : World} (hx : A4 x) (hy : 0 < y) (hly : (wl y).length = 1) (h : SlU w (.slice a (wl x).length cx') (wl x)) (h' : SlU w (.slice b (wl y).length cy') (wl y)) :
  Calls Tryz.prog 157 #[.slice a (wl x).length cx', .slice b (wl y).length cy'] w fun e w' => ∃ v Y, e = .returned v ∧ DmR w.heap.size x y v Y ∧ Y.ok w' ∧ Below w.heap.size w w' ∧ ∀ b ∈ Y.bs, w.heap.size ≤ b ∧ b < w'.heap.size := by
 refine enterX Tryz.func157 r02_divmod.ok (args := [.slice a (wl x).length cx', .slice b (wl y).length cy']) (R := DmR w.heap.size x y) (by simp) ?_
 obtain ⟨e1, hu⟩ := wl_one (Int.le_of_lt hy) hly
 have hb : ∃ b' off, b = some ⟨b', off, none⟩ := by
  obtain ⟨a', c', e, hs⟩ := h'.shp
  cases e
  exact hs.some (by omega)
 obtain ⟨b', off', rfl⟩ := hb
 rw [e1] at h' ⊢
 have h'1 : SlU w (.slice (some ⟨b', off', none⟩) 1 cy') [y] := h'
 have hl4 := pw4b hx
 have hst := d1_start (wl x) hy
 have hwx := wl_words x
 have hvx := VL_wl hx.1
 obtain ⟨lx, hlx⟩ : ∃ lx, lx = (wl x).length := ⟨_, rfl⟩
 rw [← hlx] at h hst hl4 ⊢
 have c0 : ((1 : Nat) : Int) == 1 := rfl
 simp (disch := omega) only [sxE, r02_divmod.E, Nat.reduceAdd, Nat.reduceEqDiff, Nat.reduceMul, Nat.reduceSub, Int.reduceAdd, Int.reduceSub, Int.reduceMul, Int.reduceNeg, Int.reduceLT, Int.reduceLE, Int.reduceEq, Int.reduceToNat, ↓reduceIte, Int.reducePow, Nat.reduceLeDiff, Nat.reduceLT, ne_eq, eq_self, List.length_cons, List.length_nil]
 refine genA_o (L := []) (ws := List.replicate lx 0) (kX_nil _) (fun W hW _ => gen_mk (by omega) W) fun g cap' _ => ?_
 rw [List.length_replicate]
 simp (disch := omega) only [sxE, r02_divmod.E, Nat.reduceAdd, Nat.reduceEqDiff, Nat.reduceMul, Nat.reduceSub, Int.reduceAdd, Int.reduceSub, Int.reduceMul, Int.reduceNeg, Int.reduceLT, Int.reduceLE, Int.reduceEq, Int.reduceToNat, ↓reduceIte, Int.reducePow, Nat.reduceLeDiff, Nat.reduceLT, ne_eq, eq_self, List.length_cons, List.length_nil, Int.ofNat_one, beq_self_eq_true]
 rw [r02_divmod.p20_l]
 refine LX_inv (dm1F w a (some ⟨b', off', none⟩) lx cx' 1 cy' g cap') (fun q => q.1 ≤ lx ∧ D1I (wl x) q.2.1 y q.2.2 q.1) (fun q => q.1) ?round (lx, List.replicate lx 0, 0) ⟨Nat.le_refl _, hst⟩ ?start
 case start => simp (disch := omega) only [sxE, r02_divmod.E, Nat.reduceAdd, Nat.reduceEqDiff, Nat.reduceMul, Nat.reduceSub, Int.reduceAdd, Int.reduceSub, Int.reduceMul, Int.reduceNeg, Int.reduceLT, Int.reduceLE, Int.reduceEq, Int.reduceToNat, ↓reduceIte, Int.reducePow, Nat.reduceLeDiff, Nat.reduceLT, ne_eq, eq_self, List.length_cons, List.length_nil, dm1F]
 case round =>
  rintro ⟨i, qs, r⟩ ⟨hi, hI⟩
  dsimp only at hi hI ⊢
  have hql := hI.len
  rw [← hlx] at hql
  have hru : U64 r := ⟨hI.r0, by have := hI.rl; have := hu.2; omega⟩
  unfold dm1F
  rcases i with _ | m
  ·obtain ⟨d1, d2⟩ := d1_end hI hy
   rw [hvx] at d1 d2
   have hr1 : VL [r] = r := by show r + 18446744073709551616 * 0 = r; omega
   have c1 : ¬ (0 : Int) ≤ ((0 : Nat) : Int) - 1 := by omega
   simp (disch := omega) only [sxE, r02_divmod.E, Nat.reduceAdd, Nat.reduceEqDiff, Nat.reduceMul, Nat.reduceSub, Int.reduceAdd, Int.reduceSub, Int.reduceMul, Int.reduceNeg, Int.reduceLT, Int.reduceLE, Int.reduceEq, Int.reduceToNat, ↓reduceIte, Int.reducePow, Nat.reduceLeDiff, Nat.reduceLT, ne_eq, eq_self, List.length_cons, List.length_nil, c1]
   refine asks_trim (L := [.o (.slice (some ⟨g, 0, none⟩) lx cap') qs]) [.o (.slice (some ⟨g, 0, none⟩) (wl (VL qs)).length cap') (wl (VL qs))] rfl rfl (List.mem_singleton.2 rfl) (fun k hk => .inl (List.mem_singleton.1 hk)) ?_
   simp (disch := omega) only [sxE, r02_divmod.E, Nat.reduceAdd, Nat.reduceEqDiff, Nat.reduceMul, Nat.reduceSub, Int.reduceAdd, Int.reduceSub, Int.reduceMul, Int.reduceNeg, Int.reduceLT, Int.reduceLE, Int.reduceEq, Int.reduceToNat, ↓reduceIte, Int.reducePow, Nat.reduceLeDiff, Nat.reduceLT, ne_eq, eq_self, List.length_cons, List.length_nil]
   refine genA_o (L := [.o (.slice (some ⟨g, 0, none⟩) (wl (VL qs)).length cap') (wl (VL qs))]) (ws := [r]) rfl (fun W hW _ => gen_one hru W) fun g2 cap2 _ => ?_
   simp (disch := omega) only [sxE, r02_divmod.E, Nat.reduceAdd, Nat.reduceEqDiff, Nat.reduceMul, Nat.reduceSub, Int.reduceAdd, Int.reduceSub, Int.reduceMul, Int.reduceNeg, Int.reduceLT, Int.reduceLE, Int.reduceEq, Int.reduceToNat, ↓reduceIte, Int.reducePow, Nat.reduceLeDiff, Nat.reduceLT, ne_eq, eq_self, List.length_cons, List.length_nil]
   refine asks_trim (L := [.o (.slice (some ⟨g2, 0, none⟩) 1 cap2) [r], .o (.slice (some ⟨g, 0, none⟩) (wl (VL qs)).length cap') (wl (VL qs))]) [.o (.slice (some ⟨g2, 0, none⟩) (wl (VL [r])).length cap2) (wl (VL [r])), .o (.slice (some ⟨g, 0, none⟩) (wl (VL qs)).length cap') (wl (VL qs))] rfl rfl List.mem_cons_self (fun k hk => ?_) ?_
   ·rcases List.mem_cons.1 hk with rfl | hk
    ·exact .inl rfl
    ·exact .inr (List.mem_cons_of_mem _ hk)
   simp (disch := omega) only [sxE, r02_divmod.E, Nat.reduceAdd, Nat.reduceEqDiff, Nat.reduceMul, Nat.reduceSub, Int.reduceAdd, Int.reduceSub, Int.reduceMul, Int.reduceNeg, Int.reduceLT, Int.reduceLE, Int.reduceEq, Int.reduceToNat, ↓reduceIte, Int.reducePow, Nat.reduceLeDiff, Nat.reduceLT, ne_eq, eq_self, List.length_cons, List.length_nil]
   refine ⟨_, _, rfl, fun W hW => ?_⟩
   have h1 := hW _ List.mem_cons_self
   have h2 := hW _ (List.mem_cons_of_mem _ List.mem_cons_self)
   rw [hr1, d2] at h1
   rw [d1] at h2
   rw [hr1, d1, d2]
   exact ⟨⟨OwnU.sl h2, OwnU.fr h2 (Nat.le_refl _)⟩, ⟨OwnU.sl h1, OwnU.fr h1 (Nat.le_refl _)⟩⟩
  ·have hm : m < lx := hi
   obtain ⟨s1, s2⟩ := d1_step hI hwx hu (by omega)
   obtain ⟨b2, off2, rfl⟩ : ∃ b off, a = some ⟨b, off, none⟩ := by
    obtain ⟨a', c', e, hs⟩ := h.shp
    cases e
    exact hs.some (by omega)
   have c1 : ((m + 1 : Nat) : Int) - 1 = (m : Int) := by omega
   have c2 : (0 : Int) ≤ (m : Int) ∧ (m : Int) < (lx : Int) := by omega
   have y0 : ([y] : List Int).getD 0 0 = y := rfl
   have hwm := hwx.getD m
   have hrl := hI.rl
   repeat' (first | simp (disch := omega) only [sxE, r02_divmod.E, Nat.reduceAdd, Nat.reduceEqDiff, Nat.reduceMul, Nat.reduceSub, Int.reduceAdd, Int.reduceSub, Int.reduceMul, Int.reduceNeg, Int.reduceLT, Int.reduceLE, Int.reduceEq, Int.reduceToNat, ↓reduceIte, Int.reducePow, Nat.reduceLeDiff, Nat.reduceLT, ne_eq, eq_self, List.length_cons, List.length_nil, Nat.mul_one, Nat.zero_add, c1, c2, y0] | (with_reducible refine Sx.call_at (f := 182) (fun W hW => g_div64 hru hwm hu hrl W) ?_) | (refine ldP_w m rfl h (by omega) ?_) | (refine ldP_w 0 rfl h'1 Nat.zero_lt_one ?_) | (refine stP_o [.o (.slice (some ⟨g, 0, none⟩) lx cap') (qs.set m ((r * 18446744073709551616 + (wl x).getD m 0) / y))] m rfl (List.mem_singleton.2 rfl) (by omega) s1 (fun k1 hk1 => .inl (List.mem_singleton.1 hk1)) ?_) | (with_reducible refine cregF ?_))
   exact ⟨(m, _, _), ⟨Nat.le_of_lt hm, s2⟩, Nat.lt_succ_self _, ⟨rfl, rfl⟩, .inl rfl⟩
structure DmS where
 k : Nat
 qs : List Int
 a : Option Addr
 c : Nat
 R : Int
 D : Int
def dmL (n g1 lx c1 g2 c2 : Nat) (x : DmS) : List Kn := [.o (.slice (some ⟨g1, 0, none⟩) lx c1) x.qs, .r (.slice x.a (wl x.R).length x.c) (wl x.R), .o (.slice (some ⟨g2, 0, none⟩) (wl x.D).length c2) (wl x.D)]
def dm2F (w : World) (g1 lx c1 g2 c2 : Nat) (x : DmS) : St := ⟨0, [(6, .v (.slice (some ⟨g1, 0, none⟩) lx c1)), (9, .v (.slice x.a (wl x.R).length x.c)), (11, .v (.slice (some ⟨g2, 0, none⟩) (wl x.D).length c2)), (12, .v (.int .i64 ((x.k : Int) - 1)))], [], kX w.heap.size (dmL w.heap.size g1 lx c1 g2 c2 x)⟩
structure DmI (x y : Int) (lx g1 g2 : Nat) (s : DmS) : Prop where
 dv : DvI x y s.R (VL s.qs) s.k
 dd : 0 < s.k → s.D = y * 2 ^ (s.k - 1)
 aD : A4 s.D
 aR : A4 s.R
 ql : s.qs.length = lx
 qw : Ws s.qs
 kl : s.k ≤ 64 * lx
 sh : Shp s.a (wl s.R).length s.c
 n1 : ∀ b ∈ rbs (.slice s.a (wl s.R).length s.c), b ≠ g1 ∧ b ≠ g2
theorem dm_compare {n g1 lx c1 g2 c2 : Nat} {s : DmS} {W : World} (hR : A4 s.R) (hD : A4 s.D) (hok : ∀ k ∈ dmL n g1 lx c1 g2 c2 s, k.ok n W) : Gives Tryz.prog 113 [.slice s.a (wl s.R).length s.c, .slice (some ⟨g2, 0, none⟩) (wl s.D).length c2] W (· = .int .i64 (cm s.R s.D)) := by
 have h1 : SlF W n _ _ := hok (.r (.slice s.a (wl s.R).length s.c) (wl s.R)) (List.mem_cons_of_mem _ List.mem_cons_self)
 have h2 : OwnU W n (.slice (some ⟨g2, 0, none⟩) (wl s.D).length c2) (wl s.D) := hok (.o (.slice (some ⟨g2, 0, none⟩) (wl s.D).length c2) (wl s.D)) (List.mem_cons_of_mem _ (List.mem_cons_of_mem _ List.mem_cons_self))
 exact gives_known en_r02_compare ((rcompare_any _ _ _ _ _ _ _ _ hR.1 hD.1 W h1.1 h2.sl).mono fun e w' ⟨he, d, hd⟩ => ⟨he, by subst hd; exact below_drewN (Below.refl _ _)⟩)
theorem dm_sub {n g1 lx c1 g2 c2 : Nat} {s : DmS} {W : World} (hR : A4 s.R) (hD : A4 s.D) (hle : s.D ≤ s.R) (hok : ∀ k ∈ dmL n g1 lx c1 g2 c2 s, k.ok n W) : Calls Tryz.prog 114 #[.slice s.a (wl s.R).length s.c, .slice (some ⟨g2, 0, none⟩) (wl s.D).length c2] W fun e w' => ∃ v, e = .returned v ∧ SlF w' W.heap.size v (wl (s.R - s.D)) ∧ Below W.heap.size W w' := by
 have h1 : SlF W n _ _ := hok (.r (.slice s.a (wl s.R).length s.c) (wl s.R)) (List.mem_cons_of_mem _ List.mem_cons_self)
 have h2 : OwnU W n (.slice (some ⟨g2, 0, none⟩) (wl s.D).length c2) (wl s.D) := hok (.o (.slice (some ⟨g2, 0, none⟩) (wl s.D).length c2) (wl s.D)) (List.mem_cons_of_mem _ (List.mem_cons_of_mem _ List.mem_cons_self))
 exact rsub_any _ _ _ _ _ _ _ _ hD.1 hle (by have := pw4b hR; omega) W h1.1 h2.sl
set_option maxRecDepth 100000 in
theorem rdivmod_loop {x y : Int} {w : World} (hx : A4 x) (hy : 0 < y) {g1 lx c1 g2 c2 : Nat} (hg : g1 ≠ g2) {s : DmS} (hI : DmI x y lx g1 g2 s) {S0 : St} (hS : subS (cx Tryz.prog w 89) S0 (dm2F w g1 lx c1 g2 c2 s)) :
  r02_divmod.p2 (cx Tryz.prog w 89) (finT [(4, none), (5, none)] (DmR w.heap.size x y)) S0 := by
 rw [r02_divmod.p2_l]
 refine LX_inv (dm2F w g1 lx c1 g2 c2) (DmI x y lx g1 g2) (fun s => s.k) ?round s hI hS
 case round =>
  clear hI hS
  rintro ⟨k, qs, a, c, R, D⟩ hI
  obtain ⟨dv, dd, aD, aR, ql, qw, kl, sh, n1⟩ := hI
  dsimp only at dv dd aD aR ql qw kl sh n1 ⊢
  unfold dm2F
  rcases k with _ | k
  ·obtain ⟨e1, e2⟩ := dv_end dv hy
   have c1' : ¬ (0 : Int) ≤ ((0 : Nat) : Int) - 1 := by omega
   simp (disch := omega) only [sxE, r02_divmod.E, Nat.reduceAdd, Nat.reduceEqDiff, Nat.reduceMul, Nat.reduceSub, Int.reduceAdd, Int.reduceSub, Int.reduceMul, Int.reduceNeg, Int.reduceLT, Int.reduceLE, Int.reduceEq, Int.reduceToNat, ↓reduceIte, Int.reducePow, Nat.reduceLeDiff, Nat.reduceLT, ne_eq, eq_self, List.length_cons, List.length_nil, c1']
   unfold dmL
   dsimp only
   refine asks_trim [.o (.slice (some ⟨g1, 0, none⟩) (wl (VL qs)).length c1) (wl (VL qs)), .r (.slice a (wl R).length c) (wl R)] rfl rfl List.mem_cons_self (fun k hk => ?_) ?_
   ·rcases List.mem_cons.1 hk with rfl | hk
    ·exact .inl rfl
    ·exact .inr (List.mem_cons_of_mem _ (by rw [List.mem_singleton.1 hk]; exact List.mem_cons_self))
   simp (disch := omega) only [sxE, r02_divmod.E, Nat.reduceAdd, Nat.reduceEqDiff, Nat.reduceMul, Nat.reduceSub, Int.reduceAdd, Int.reduceSub, Int.reduceMul, Int.reduceNeg, Int.reduceLT, Int.reduceLE, Int.reduceEq, Int.reduceToNat, ↓reduceIte, Int.reducePow, Nat.reduceLeDiff, Nat.reduceLT, ne_eq, eq_self, List.length_cons, List.length_nil]
   refine ⟨_, _, rfl, fun W hW => ?_⟩
   have h1 := hW _ List.mem_cons_self
   have h2 := hW _ (List.mem_cons_of_mem _ List.mem_cons_self)
   rw [← e1, ← e2]
   exact ⟨⟨OwnU.sl h1, OwnU.fr h1 (Nat.le_refl _)⟩, h2⟩
  ·have hD' : D = y * 2 ^ k := dd (Nat.succ_pos _)
   have hk : ((k + 1 : Nat) : Int) - 1 = (k : Int) := by omega
   have hk2 : k < 256 := pow256 hy (hD' ▸ aD)
   obtain ⟨st1, st2⟩ := dv_step dv hy
   have aH : A4 (D / 2) := ⟨by have := aD.1; omega, by have := aD.1; have := aD.2; omega⟩
   have hH : 0 < k → D / 2 = y * 2 ^ (k - 1) := fun h => by
    obtain ⟨m, rfl⟩ : ∃ m, k = m + 1 := ⟨k - 1, by omega⟩
    rw [hD', Int.pow_succ, ← Int.mul_assoc, Nat.add_sub_cancel]; omega
   rw [← hD'] at st1 st2
   have hcm := cm_ge R D
   have hvD : VL (wl D) = D := VL_wl aD.1
   have hl4 := pw4b aD
   by_cases hle : D ≤ R
   ·have hI2 := st1 hle
    have hc0 : 0 ≤ cm R D := hcm.2 hle
    have aR2 : A4 (R - D) := ⟨by omega, by have := aR.2; have := aD.1; omega⟩
    obtain ⟨w', j, hj, e⟩ : ∃ w' j : Nat, j < 64 ∧ k = 64 * w' + j := ⟨k / 64, k % 64, by omega, by omega⟩
    have hw' : w' < lx := by omega
    have hm : (k : Int) % 64 = (j : Nat) := by omega
    have hq : (k : Int) / 64 = (w' : Nat) := by omega
    have hwb : (0 : Int) ≤ (w' : Int) ∧ (w' : Int) < (lx : Int) := by omega
    obtain ⟨b1, b2, b3⟩ := q_bit qw e hj (by omega) dv.dv
    have p0 : (0 : Int) < 2 ^ j := Int.pow_pos (by decide)
    have p1 := pow63 hj
    have hp2 : IntKind.u64.wrap (2 ^ j) = 2 ^ j := s_wu _ (by omega) (by omega)
    repeat' (first | simp (disch := omega) only [sxE, r02_divmod.E, Nat.reduceAdd, Nat.reduceEqDiff, Nat.reduceMul, Nat.reduceSub, Int.reduceAdd, Int.reduceSub, Int.reduceMul, Int.reduceNeg, Int.reduceLT, Int.reduceLE, Int.reduceEq, Int.reduceToNat, ↓reduceIte, Int.reducePow, Nat.reduceLeDiff, Nat.reduceLT, ne_eq, eq_self, List.length_cons, List.length_nil, hk, hc0] | ((with_reducible apply asks_ext (f := 113)); (case h => exact fun W hW hok => dm_compare aR aD hok); (case' hk => skip)) | (with_reducible refine cregF ?_))
    refine asks_r (L := dmL w.heap.size g1 lx c1 g2 c2 ⟨k + 1, qs, a, c, R, D⟩) (ws := wl (R - D)) en_r02_sub rfl (fun W hW hok => dm_sub aR aD hle hok) fun a2 c2' hs2 hn2 => ?_
    have hne : ∀ b ∈ rbs (.slice a2 (wl (R - D)).length c2'), b ≠ g1 ∧ b ≠ g2 := fun b hb => by
     have := hn2 b hb
     refine ⟨fun e => this ?_, fun e => this ?_⟩
     ·rw [e]; exact kX_bs.2 ⟨_, List.mem_cons_self, List.mem_singleton.2 rfl⟩
     ·rw [e]; exact kX_bs.2 ⟨_, List.mem_cons_of_mem _ (List.mem_cons_of_mem _ List.mem_cons_self), List.mem_singleton.2 rfl⟩
    clear hn2
    unfold dmL
    dsimp only
    simp (disch := omega) only [sxE, r02_divmod.E, Nat.reduceAdd, Nat.reduceEqDiff, Nat.reduceMul, Nat.reduceSub, Int.reduceAdd, Int.reduceSub, Int.reduceMul, Int.reduceNeg, Int.reduceLT, Int.reduceLE, Int.reduceEq, Int.reduceToNat, ↓reduceIte, Int.reducePow, Nat.reduceLeDiff, Nat.reduceLT, ne_eq, eq_self, List.length_cons, List.length_nil, hq]
    repeat' (first | simp (disch := omega) only [sxE, r02_divmod.E, Nat.reduceAdd, Nat.reduceEqDiff, Nat.reduceMul, Nat.reduceSub, Int.reduceAdd, Int.reduceSub, Int.reduceMul, Int.reduceNeg, Int.reduceLT, Int.reduceLE, Int.reduceEq, Int.reduceToNat, ↓reduceIte, Int.reducePow, Nat.reduceLeDiff, Nat.reduceLT, ne_eq, eq_self, List.length_cons, List.length_nil, Nat.mul_one, Nat.zero_add, hq, hm, hwb, Int.one_mul, hp2, b1] | (refine ldP_o w' rfl (List.mem_cons_of_mem _ List.mem_cons_self) (by omega) ?_) | (refine stP_o [.o (.slice (some ⟨g1, 0, none⟩) lx c1) (qs.set w' (qs.getD w' 0 + 2 ^ j)), .r (.slice a2 (wl (R - D)).length c2') (wl (R - D)), .o (.slice (some ⟨g2, 0, none⟩) (wl D).length c2) (wl D)] w' rfl (List.mem_cons_of_mem _ List.mem_cons_self) (by omega) b2 (fun q1 hq1 => ?mem) ?_) | (with_reducible refine cregF ?_))
    case mem =>
     rcases List.mem_cons.1 hq1 with rfl | hq1
     ·exact .inl rfl
     ·rcases List.mem_cons.1 hq1 with rfl | hq1
      ·exact .inr ⟨List.mem_cons_self, fun h => (hne _ h).1 rfl⟩
      ·exact .inr ⟨by rw [List.mem_singleton.1 hq1]; exact List.mem_cons_of_mem _ (List.mem_cons_of_mem _ (List.mem_cons_of_mem _ List.mem_cons_self)), fun h => by rw [List.mem_singleton.1 hq1] at h; exact hg (List.mem_singleton.1 h)⟩
    refine asks_half (dmL w.heap.size g1 lx c1 g2 c2 ⟨k, qs.set w' (qs.getD w' 0 + 2 ^ j), a2, c2', R - D, D / 2⟩) rfl rfl rfl (List.mem_cons_of_mem _ (List.mem_cons_of_mem _ List.mem_cons_self)) (by omega) (fun q hq => ?_) ?_
    ·rw [hvD]
     rcases List.mem_cons.1 hq with rfl | hq
     ·exact .inr ⟨List.mem_cons_self, fun h => hg (List.mem_singleton.1 h).symm⟩
     ·rcases List.mem_cons.1 hq with rfl | hq
      ·exact .inr ⟨List.mem_cons_of_mem _ List.mem_cons_self, fun h => (hne _ h).2 rfl⟩
      ·exact .inl (List.mem_singleton.1 hq)
    rw [hvD]
    simp (disch := omega) only [sxE, r02_divmod.E, Nat.reduceAdd, Nat.reduceEqDiff, Nat.reduceMul, Nat.reduceSub, Int.reduceAdd, Int.reduceSub, Int.reduceMul, Int.reduceNeg, Int.reduceLT, Int.reduceLE, Int.reduceEq, Int.reduceToNat, ↓reduceIte, Int.reducePow, Nat.reduceLeDiff, Nat.reduceLT, ne_eq, eq_self, List.length_cons, List.length_nil, hk]
    exact ⟨⟨k, qs.set w' (qs.getD w' 0 + 2 ^ j), a2, c2', R - D, D / 2⟩, ⟨by dsimp only; rw [b3]; exact hI2, hH, aH, aR2, by dsimp only; rw [List.length_set]; exact ql, qw.set b2 _, by dsimp only; omega, hs2, hne⟩, Nat.lt_succ_self _, by repeat' (first | (with_reducible rfl) | (exact Or.inl rfl) | apply And.intro)⟩
   ·have hI2 := st2 hle
    have hc0 : ¬ 0 ≤ cm R D := fun h => hle (hcm.1 h)
    repeat' (first | simp (disch := omega) only [sxE, r02_divmod.E, Nat.reduceAdd, Nat.reduceEqDiff, Nat.reduceMul, Nat.reduceSub, Int.reduceAdd, Int.reduceSub, Int.reduceMul, Int.reduceNeg, Int.reduceLT, Int.reduceLE, Int.reduceEq, Int.reduceToNat, ↓reduceIte, Int.reducePow, Nat.reduceLeDiff, Nat.reduceLT, ne_eq, eq_self, List.length_cons, List.length_nil, hk, hc0] | ((with_reducible apply asks_ext (f := 113)); (case h => exact fun W hW hok => dm_compare aR aD hok); (case' hk => skip)) | (with_reducible refine cregF ?_))
    refine asks_half (L := dmL w.heap.size g1 lx c1 g2 c2 ⟨k + 1, qs, a, c, R, D⟩) (dmL w.heap.size g1 lx c1 g2 c2 ⟨k, qs, a, c, R, D / 2⟩) rfl rfl rfl (List.mem_cons_of_mem _ (List.mem_cons_of_mem _ List.mem_cons_self)) (by omega) (fun q hq => ?_) ?_
    ·rw [hvD]
     rcases List.mem_cons.1 hq with rfl | hq
     ·exact .inr ⟨List.mem_cons_self, fun h => hg (List.mem_singleton.1 h).symm⟩
     ·rcases List.mem_cons.1 hq with rfl | hq
      ·exact .inr ⟨List.mem_cons_of_mem _ List.mem_cons_self, fun h => (n1 _ h).2 rfl⟩
      ·exact .inl (List.mem_singleton.1 hq)
    rw [hvD]
    simp (disch := omega) only [sxE, r02_divmod.E, Nat.reduceAdd, Nat.reduceEqDiff, Nat.reduceMul, Nat.reduceSub, Int.reduceAdd, Int.reduceSub, Int.reduceMul, Int.reduceNeg, Int.reduceLT, Int.reduceLE, Int.reduceEq, Int.reduceToNat, ↓reduceIte, Int.reducePow, Nat.reduceLeDiff, Nat.reduceLT, ne_eq, eq_self, List.length_cons, List.length_nil, hk]
    exact ⟨⟨k, qs, a, c, R, D / 2⟩, ⟨hI2, hH, aH, aR, ql, qw, by dsimp only; omega, sh, n1⟩, Nat.lt_succ_self _, by repeat' (first | (with_reducible rfl) | (exact Or.inl rfl) | apply And.intro)⟩
set_option maxRecDepth 100000 in
theorem rdivmod_more {a b : Option Addr} {cx' cy' : Nat} {x y : Int} {w : World} (hx : A4 x) (hay : A4 y) (hy : 0 < y) (hly : (wl y).length ≠ 1) (h : SlU w (.slice a (wl x).length cx') (wl x)) (h' : SlU w (.slice b (wl y).length cy') (wl y)) :
  Calls Tryz.prog 157 #[.slice a (wl x).length cx', .slice b (wl y).length cy'] w fun e w' => ∃ v Y, e = .returned v ∧ DmR w.heap.size x y v Y ∧ Y.ok w' ∧ Below w.heap.size w w' ∧ ∀ b ∈ Y.bs, w.heap.size ≤ b ∧ b < w'.heap.size := by
 refine enterX Tryz.func157 r02_divmod.ok (args := [.slice a (wl x).length cx', .slice b (wl y).length cy']) (R := DmR w.heap.size x y) (by simp) ?_
 have hl4 := pw4b hx
 have hl4' := pw4b hay
 have hwx := wl_words x
 have hvx := VL_wl hx.1
 have hvy := VL_wl (Int.le_of_lt hy)
 have b1 := bl_256 hx
 have b2 := bl_256 hay
 have hck : (((wl y).length : Int) == 1) = false := beq_eq_false_iff_ne.2 (by omega)
 simp (disch := omega) only [sxE, r02_divmod.E, Nat.reduceAdd, Nat.reduceEqDiff, Nat.reduceMul, Nat.reduceSub, Int.reduceAdd, Int.reduceSub, Int.reduceMul, Int.reduceNeg, Int.reduceLT, Int.reduceLE, Int.reduceEq, Int.reduceToNat, ↓reduceIte, Int.reducePow, Nat.reduceLeDiff, Nat.reduceLT, ne_eq, eq_self, List.length_cons, List.length_nil]
 refine genA_o (L := []) (ws := List.replicate (wl x).length 0) (kX_nil _) (fun W hW _ => gen_mk (by omega) W) fun g1 c1 _ => ?_
 rw [List.length_replicate]
 simp (disch := omega) only [sxE, r02_divmod.E, Nat.reduceAdd, Nat.reduceEqDiff, Nat.reduceMul, Nat.reduceSub, Int.reduceAdd, Int.reduceSub, Int.reduceMul, Int.reduceNeg, Int.reduceLT, Int.reduceLE, Int.reduceEq, Int.reduceToNat, ↓reduceIte, Int.reducePow, Nat.reduceLeDiff, Nat.reduceLT, ne_eq, eq_self, List.length_cons, List.length_nil, hck]
 refine genA_o (L := [.o (.slice (some ⟨g1, 0, none⟩) (wl x).length c1) (List.replicate (wl x).length 0)]) (ws := []) rfl (fun W hW _ => gen_none W) fun g2 c2 hn2 => ?_
 have hg12 : g1 ≠ g2 := fun e => hn2 (by rw [← e]; exact kX_bs.2 ⟨_, List.mem_cons_self, List.mem_singleton.2 rfl⟩)
 clear hn2
 simp (disch := omega) only [sxE, r02_divmod.E, Nat.reduceAdd, Nat.reduceEqDiff, Nat.reduceMul, Nat.reduceSub, Int.reduceAdd, Int.reduceSub, Int.reduceMul, Int.reduceNeg, Int.reduceLT, Int.reduceLE, Int.reduceEq, Int.reduceToNat, ↓reduceIte, Int.reducePow, Nat.reduceLeDiff, Nat.reduceLT, ne_eq, eq_self, List.length_cons, List.length_nil]
 refine genA_app (L := [.o (.slice (some ⟨g2, 0, none⟩) 0 c2) [], .o (.slice (some ⟨g1, 0, none⟩) (wl x).length c1) (List.replicate (wl x).length 0)]) (L0 := [.o (.slice (some ⟨g1, 0, none⟩) (wl x).length c1) (List.replicate (wl x).length 0)]) (ms := wl x) rfl ⟨_, Tryz.underlying162⟩ rfl List.mem_cons_self rfl (fun k hk => ?_) (fun W hW _ => h.below hW) (by omega) fun a2 c3 hs3 hn3 => ?_
 ·rw [List.mem_singleton.1 hk]
  exact ⟨List.mem_cons_of_mem _ List.mem_cons_self, fun h => hg12 (List.mem_singleton.1 h).symm⟩
 have hn4 : ∀ b ∈ rbs (.slice a2 (wl x).length c3), b ≠ g1 := fun b hb e => by
  rcases hn3 b hb with h | h
  ·exact hg12 (e.symm.trans h)
  ·exact h (by rw [e]; exact kX_bs.2 ⟨_, List.mem_cons_of_mem _ List.mem_cons_self, List.mem_singleton.2 rfl⟩)
 clear hn3
 simp (disch := omega) only [sxE, r02_divmod.E, Nat.reduceAdd, Nat.reduceEqDiff, Nat.reduceMul, Nat.reduceSub, Int.reduceAdd, Int.reduceSub, Int.reduceMul, Int.reduceNeg, Int.reduceLT, Int.reduceLE, Int.reduceEq, Int.reduceToNat, ↓reduceIte, Int.reducePow, Nat.reduceLeDiff, Nat.reduceLT, ne_eq, eq_self, List.length_cons, List.length_nil]
 refine asks_trim_r [.r (.slice a2 (wl x).length c3) (wl x), .o (.slice (some ⟨g1, 0, none⟩) (wl x).length c1) (List.replicate (wl x).length 0)] rfl rfl List.mem_cons_self (fun k hk => ?_) ?_
 ·exact .inr hk
 rw [hvx]
 have size1 : ∀ W, (∀ k ∈ [Kn.r (.slice a2 (wl x).length c3) (wl x), .o (.slice (some ⟨g1, 0, none⟩) (wl x).length c1) (List.replicate (wl x).length 0)], k.ok w.heap.size W) → Gives Tryz.prog 183 [.slice a2 (wl x).length c3] W (· = .int .i64 (bl x)) := fun W hok =>
  gives_known en_r02_size (rsize_any hx.1 (by omega) (hok (.r (.slice a2 (wl x).length c3) (wl x)) List.mem_cons_self).1)
 have size2 : ∀ W, Below w.heap.size w W → Gives Tryz.prog 183 [.slice b (wl y).length cy'] W (· = .int .i64 (bl y)) := fun W hW =>
  gives_known en_r02_size (rsize_any (Int.le_of_lt hy) (by omega) (h'.below hW))
 repeat' (first | simp (disch := omega) only [sxE, r02_divmod.E, Nat.reduceAdd, Nat.reduceEqDiff, Nat.reduceMul, Nat.reduceSub, Int.reduceAdd, Int.reduceSub, Int.reduceMul, Int.reduceNeg, Int.reduceLT, Int.reduceLE, Int.reduceEq, Int.reduceToNat, ↓reduceIte, Int.reducePow, Nat.reduceLeDiff, Nat.reduceLT, ne_eq, eq_self, List.length_cons, List.length_nil] | ((with_reducible apply asks_ext (f := 183)); (case h => first | exact fun W hW hok => size1 W hok | exact fun W hW hok => size2 W hW); (case' hk => skip)) | (with_reducible refine cregF ?_))
 clear size1 size2
 by_cases hlen : bl x < bl y
 ·obtain ⟨e1, e2⟩ := dv_small hx.1 hy hlen
  repeat' (first | simp (disch := omega) only [sxE, r02_divmod.E, Nat.reduceAdd, Nat.reduceEqDiff, Nat.reduceMul, Nat.reduceSub, Int.reduceAdd, Int.reduceSub, Int.reduceMul, Int.reduceNeg, Int.reduceLT, Int.reduceLE, Int.reduceEq, Int.reduceToNat, ↓reduceIte, Int.reducePow, Nat.reduceLeDiff, Nat.reduceLT, ne_eq, eq_self, List.length_cons, List.length_nil] | (with_reducible refine cregF ?_))
  refine ⟨_, _, rfl, fun W hW => ?_⟩
  rw [e1, e2, wl_nil (Int.le_refl _)]
  exact ⟨SlF.nil W _, hW _ List.mem_cons_self⟩
 ·have hst := dv_start hx.1 hy (by omega)
  have hfit := dv_fit (m := 0) hx hay hy (by omega)
  have hpos := bl_pos hy
  have hbl : bl x ≤ 64 * (wl x).length := by
   rcases Nat.lt_or_ge (64 * (wl x).length) (bl x) with hc | hc
   ·exfalso
    have hx0 : 0 < x := by
     rcases Int.lt_or_eq_of_le hx.1 with hh | hh
     ·exact hh
     ·subst hh; rw [bl_zero] at hc; omega
    have h1 := bl_le hx0
    have h2 := (wl_len_lt hx.1 (wl x).length).1 (Nat.le_refl _)
    rw [pw_two] at h2
    have h3 : (2 : Nat) ^ (64 * (wl x).length) ≤ 2 ^ (bl x - 1) := Nat.pow_le_pow_right (by decide) (by omega)
    have h4 := Int.ofNat_le.2 h3
    rw [Int.natCast_pow, Int.natCast_pow] at h4
    have h5 : ((2 : Nat) : Int) = 2 := rfl
    rw [h5] at h4
    omega
   ·exact hc
  have hsub : (bl x : Int) - (bl y : Int) = ((bl x - bl y : Nat) : Int) := by omega
  have hnn : ¬ (((bl x - bl y : Nat) : Int) < 0) := by omega
  generalize hN : bl x - bl y = N at *
  rw [hsub]
  simp (disch := omega) only [sxE, r02_divmod.E, Nat.reduceAdd, Nat.reduceEqDiff, Nat.reduceMul, Nat.reduceSub, Int.reduceAdd, Int.reduceSub, Int.reduceMul, Int.reduceNeg, Int.reduceLT, Int.reduceLE, Int.reduceEq, Int.reduceToNat, ↓reduceIte, Int.reducePow, Nat.reduceLeDiff, Nat.reduceLT, ne_eq, eq_self, List.length_cons, List.length_nil, hnn]
  have hup : ∀ W, Below w.heap.size w W → Calls Tryz.prog 184 #[.slice b (wl y).length cy', .int .i64 (N : Int)] W fun e w' => ∃ g cap', e = .returned (.slice (some ⟨g, 0, none⟩) (wl (y * 2 ^ N)).length cap') ∧ OwnU w' W.heap.size (.slice (some ⟨g, 0, none⟩) (wl (y * 2 ^ N)).length cap') (wl (y * 2 ^ N)) ∧ Below W.heap.size W w' := fun W hW => by
   have := rup_any (n := N) (k := N / 64) (s := N % 64) (by omega) (by omega) (by omega) (by omega) (h'.below hW)
   rw [hvy] at this
   exact this
  refine asks_o (L := [.r (.slice a2 (wl x).length c3) (wl x), .o (.slice (some ⟨g1, 0, none⟩) (wl x).length c1) (List.replicate (wl x).length 0)]) (ws := wl (y * 2 ^ N)) en_r02_up rfl (fun W hW _ => hup W hW) fun g3 c4 hn5 => ?_
  have hg13 : g1 ≠ g3 := fun e => hn5 (by rw [← e]; exact kX_bs.2 ⟨_, List.mem_cons_of_mem _ List.mem_cons_self, List.mem_singleton.2 rfl⟩)
  have hr3 : ∀ b ∈ rbs (.slice a2 (wl x).length c3), b ≠ g3 := fun b hb e => hn5 (by rw [← e]; exact kX_bs.2 ⟨_, List.mem_cons_self, hb⟩)
  clear hn5 hup
  simp (disch := omega) only [sxE, r02_divmod.E, Nat.reduceAdd, Nat.reduceEqDiff, Nat.reduceMul, Nat.reduceSub, Int.reduceAdd, Int.reduceSub, Int.reduceMul, Int.reduceNeg, Int.reduceLT, Int.reduceLE, Int.reduceEq, Int.reduceToNat, ↓reduceIte, Int.reducePow, Nat.reduceLeDiff, Nat.reduceLT, ne_eq, eq_self, List.length_cons, List.length_nil]
  refine rdivmod_loop hx hy (lx := (wl x).length) (c1 := c1) (g2 := g3) (c2 := c4) hg13 (s := ⟨N + 1, List.replicate (wl x).length 0, a2, c3, x, y * 2 ^ N⟩) ⟨by dsimp only; rw [VL_zeros]; exact hst, fun _ => rfl, hfit, hx, by simp, Ws.zeros _, by dsimp only; omega, hs3, fun b hb => ⟨hn4 b hb, hr3 b hb⟩⟩ ?_
  have hk1 : ((N + 1 : Nat) : Int) - 1 = (N : Int) := by omega
  unfold dm2F
  dsimp only
  simp (disch := omega) only [sxE, r02_divmod.E, Nat.reduceAdd, Nat.reduceEqDiff, Nat.reduceMul, Nat.reduceSub, Int.reduceAdd, Int.reduceSub, Int.reduceMul, Int.reduceNeg, Int.reduceLT, Int.reduceLE, Int.reduceEq, Int.reduceToNat, ↓reduceIte, Int.reducePow, Nat.reduceLeDiff, Nat.reduceLT, ne_eq, eq_self, List.length_cons, List.length_nil, hk1]
  refine extS_kn fun k hk => ?_
  unfold dmL at hk
  dsimp only at hk
  simp only [List.mem_cons, List.not_mem_nil, or_false] at hk ⊢
  rcases hk with rfl | rfl | rfl
  ·exact .inr (.inr rfl)
  ·exact .inr (.inl rfl)
  ·exact .inl rfl
theorem rdivmod_any {a b : Option Addr} {cx' cy' : Nat} {x y : Int} {w : World} (hx : A4 x) (hay : A4 y) (hy : 0 < y) (h : SlU w (.slice a (wl x).length cx') (wl x)) (h' : SlU w (.slice b (wl y).length cy') (wl y)) :
  Calls Tryz.prog 157 #[.slice a (wl x).length cx', .slice b (wl y).length cy'] w fun e w' => ∃ u1 u2, e = .returned (.tuple #[u1, u2]) ∧ SlF w' w.heap.size u1 (wl (x / y)) ∧ SlF w' w.heap.size u2 (wl (x % y)) ∧ Below w.heap.size w w' := by
 have key : ∀ {e : Ending} {w' : World}, (∃ v Y, e = .returned v ∧ DmR w.heap.size x y v Y ∧ Y.ok w' ∧ Below w.heap.size w w' ∧ ∀ b ∈ Y.bs, w.heap.size ≤ b ∧ b < w'.heap.size) → ∃ u1 u2, e = .returned (.tuple #[u1, u2]) ∧ SlF w' w.heap.size u1 (wl (x / y)) ∧ SlF w' w.heap.size u2 (wl (x % y)) ∧ Below w.heap.size w w' := by
  rintro e w' ⟨v, Y, rfl, ⟨u1, u2, rfl, hY⟩, hok, hb, -⟩
  exact ⟨u1, u2, rfl, (hY w' hok).1, (hY w' hok).2, hb⟩
 by_cases hl : (wl y).length = 1
 ·exact (rdivmod_one hx hy hl h h').mono fun e w' hh => key hh
 ·exact (rdivmod_more hx hay hy hl h h').mono fun e w' hh => key hh
end Go.Proofs.YtncmmbacoknefaaGreat

/- Ge: What calls of the program's shift and of its division of absolute values give. -/
namespace Go.Proofs.YtncmmbacoknefaaGreat
open Go Go.RowKit Sx
set_option linter.unusedVariables false
set_option linter.unusedSimpArgs false
set_option maxRecDepth 100000 in
theorem left_0 {z n : Int} {r : Nat} (h : A4 z) (hr : 0 < r) (hr2 : r < 64) (hn : n = 64 * 0 + r) (hf : z * 2 ^ r < 115792089237316195423570985008687907853269984665640564039457584007913129639936) (w : World) :
  Calls Tryz.prog 200 #[ME z, .int .i64 n] w fun e w' => e = .returned (ME (z * 2 ^ r)) ∧ Below w.heap.size w w' := by
 show Calls _ _ #[MG (lb0 z) (lb1 z) (lb2 z) (lb3 z), _] _ _
 have e := mv_me h
 obtain ⟨t0, u0, ht0, hu0, U0, a0, b0, d0, s0⟩ := shl_word (r := r) (lb0_in z) hr2
 obtain ⟨t1, u1, ht1, hu1, U1, a1, b1, d1, s1⟩ := shl_word (r := r) (lb1_in z) hr2
 obtain ⟨t2, u2, ht2, hu2, U2, a2, b2, d2, s2⟩ := shl_word (r := r) (lb2_in z) hr2
 obtain ⟨t3, u3, ht3, hu3, U3, a3, b3, d3, s3⟩ := shl_word (r := r) (lb3_in z) hr2
 have S := shl_words s0 s1 s2 s3
 rw [e] at S
 have hp := pow63 hr2
 obtain ⟨-, o1, V1⟩ := or_add r (⟨a0, by omega⟩ : U64 u0) U1 b0 d1
 obtain ⟨-, o2, V2⟩ := or_add r (⟨a1, by omega⟩ : U64 u1) U2 b1 d2
 obtain ⟨-, o3, V3⟩ := or_add r (⟨a2, by omega⟩ : U64 u2) U3 b2 d3
 rw [Int.add_comm t1 u0, Int.add_comm t2 u1, Int.add_comm t3 u2] at S
 have hR := shl0 S a3 ⟨U0, V1, V2, V3⟩ hf
 have hM := mg_me (U0) (V1) (V2) (V3)
 rw [hR] at hM
 rw [← hM]
 have hq : n / 64 = 0 := by omega
 have hm : n % 64 = (r : Int) := by omega
 have h64 : ((64 : Int) - r).toNat = 64 - r := by omega
 have h0 : 0 ≤ n := by omega
 generalize lb0 z = x0 at *
 generalize lb1 z = x1 at *
 generalize lb2 z = x2 at *
 generalize lb3 z = x3 at *
 clear hM hR S e hf h hn s0 s1 s2 s3 a0 a1 a2 a3 b0 b1 b2 b3 d0 d1 d2 d3 U0 U1 U2 U3 V1 V2 V3 hp
 refine known_of (enter Tryz.func200 wide_left.ok (args := [MG x0 x1 x2 x3, .int .i64 n]) (by simp) ?_)
 repeat' (first | simp (disch := omega) only [sxE, wide_left.E, Nat.reduceAdd, Nat.reduceEqDiff, Nat.reduceMul, Nat.reduceSub, Int.reduceAdd, Int.reduceSub, Int.reduceMul, Int.reduceNeg, Int.reduceLT, Int.reduceLE, Int.reduceEq, Int.reduceToNat, ↓reduceIte, Int.reducePow, Nat.reduceLeDiff, Nat.reduceLT, ne_eq, eq_self, List.length_cons, List.length_nil, hq, hm, h64, ht0, ht1, ht2, ht3, hu0, hu1, hu2, hu3, o1, o2, o3] | (rw [wide_left.p2_l]) | (with_reducible apply LX_round) | (with_reducible refine cregF ?_))
set_option maxRecDepth 100000 in
theorem left_0z {z n : Int} (h : A4 z) (hn : n = 64 * 0) (hf : z < 115792089237316195423570985008687907853269984665640564039457584007913129639936) (w : World) :
  Calls Tryz.prog 200 #[ME z, .int .i64 n] w fun e w' => e = .returned (ME (z)) ∧ Below w.heap.size w w' := by
 show Calls _ _ #[MG (lb0 z) (lb1 z) (lb2 z) (lb3 z), _] _ _
 have e := mv_me h
 have U0 := lb0_in z
 have U1 := lb1_in z
 have U2 := lb2_in z
 have U3 := lb3_in z
 have hR := shl0 (e := 0) (by rw [e]; omega : z = MV (lb0 z) (lb1 z) (lb2 z) (lb3 z) + _ * 0) (Int.le_refl 0) ⟨U0, U1, U2, U3⟩ hf
 have hM := mg_me (U0) (U1) (U2) (U3)
 rw [hR] at hM
 rw [← hM]
 have hq : n / 64 = 0 := by omega
 have hm : n % 64 = 0 := by omega
 have h0 : 0 ≤ n := by omega
 generalize lb0 z = x0 at *
 generalize lb1 z = x1 at *
 generalize lb2 z = x2 at *
 generalize lb3 z = x3 at *
 clear hM hR e hf h hn
 obtain ⟨g0, l0⟩ := U0
 obtain ⟨g1, l1⟩ := U1
 obtain ⟨g2, l2⟩ := U2
 obtain ⟨g3, l3⟩ := U3
 refine known_of (enter Tryz.func200 wide_left.ok (args := [MG x0 x1 x2 x3, .int .i64 n]) (by simp) ?_)
 repeat' (first | simp (disch := omega) only [sxE, wide_left.E, Nat.reduceAdd, Nat.reduceEqDiff, Nat.reduceMul, Nat.reduceSub, Int.reduceAdd, Int.reduceSub, Int.reduceMul, Int.reduceNeg, Int.reduceLT, Int.reduceLE, Int.reduceEq, Int.reduceToNat, ↓reduceIte, Int.reducePow, Nat.reduceLeDiff, Nat.reduceLT, ne_eq, eq_self, List.length_cons, List.length_nil, hq, hm, Int.mul_one, Int.pow_zero, Int.toNat_zero] | (rw [wide_left.p2_l]) | (with_reducible apply LX_round) | (with_reducible refine cregF ?_))
set_option maxRecDepth 100000 in
theorem left_1 {z n : Int} {r : Nat} (h : A4 z) (hr : 0 < r) (hr2 : r < 64) (hn : n = 64 * 1 + r) (hf : z * 2 ^ r * 18446744073709551616 < 115792089237316195423570985008687907853269984665640564039457584007913129639936) (w : World) :
  Calls Tryz.prog 200 #[ME z, .int .i64 n] w fun e w' => e = .returned (ME (z * 2 ^ r * 18446744073709551616)) ∧ Below w.heap.size w w' := by
 show Calls _ _ #[MG (lb0 z) (lb1 z) (lb2 z) (lb3 z), _] _ _
 have e := mv_me h
 obtain ⟨t0, u0, ht0, hu0, U0, a0, b0, d0, s0⟩ := shl_word (r := r) (lb0_in z) hr2
 obtain ⟨t1, u1, ht1, hu1, U1, a1, b1, d1, s1⟩ := shl_word (r := r) (lb1_in z) hr2
 obtain ⟨t2, u2, ht2, hu2, U2, a2, b2, d2, s2⟩ := shl_word (r := r) (lb2_in z) hr2
 obtain ⟨t3, u3, ht3, hu3, U3, a3, b3, d3, s3⟩ := shl_word (r := r) (lb3_in z) hr2
 have S := shl_words s0 s1 s2 s3
 rw [e] at S
 have hp := pow63 hr2
 obtain ⟨-, o1, V1⟩ := or_add r (⟨a0, by omega⟩ : U64 u0) U1 b0 d1
 obtain ⟨-, o2, V2⟩ := or_add r (⟨a1, by omega⟩ : U64 u1) U2 b1 d2
 obtain ⟨-, o3, V3⟩ := or_add r (⟨a2, by omega⟩ : U64 u2) U3 b2 d3
 rw [Int.add_comm t1 u0, Int.add_comm t2 u1, Int.add_comm t3 u2] at S
 have hR := shl1 S a3 ⟨U0, V1, V2, V3⟩ hf
 have hM := mg_me (U64.zero) (U0) (V1) (V2)
 rw [hR] at hM
 rw [← hM]
 have hq : n / 64 = 1 := by omega
 have hm : n % 64 = (r : Int) := by omega
 have h64 : ((64 : Int) - r).toNat = 64 - r := by omega
 have h0 : 0 ≤ n := by omega
 generalize lb0 z = x0 at *
 generalize lb1 z = x1 at *
 generalize lb2 z = x2 at *
 generalize lb3 z = x3 at *
 clear hM hR S e hf h hn s0 s1 s2 s3 a0 a1 a2 a3 b0 b1 b2 b3 d0 d1 d2 d3 U0 U1 U2 U3 V1 V2 V3 hp
 refine known_of (enter Tryz.func200 wide_left.ok (args := [MG x0 x1 x2 x3, .int .i64 n]) (by simp) ?_)
 repeat' (first | simp (disch := omega) only [sxE, wide_left.E, Nat.reduceAdd, Nat.reduceEqDiff, Nat.reduceMul, Nat.reduceSub, Int.reduceAdd, Int.reduceSub, Int.reduceMul, Int.reduceNeg, Int.reduceLT, Int.reduceLE, Int.reduceEq, Int.reduceToNat, ↓reduceIte, Int.reducePow, Nat.reduceLeDiff, Nat.reduceLT, ne_eq, eq_self, List.length_cons, List.length_nil, hq, hm, h64, ht0, ht1, ht2, ht3, hu0, hu1, hu2, hu3, o1, o2, o3] | (rw [wide_left.p2_l]) | (with_reducible apply LX_round) | (with_reducible refine cregF ?_))
set_option maxRecDepth 100000 in
theorem left_1z {z n : Int} (h : A4 z) (hn : n = 64 * 1) (hf : z * 18446744073709551616 < 115792089237316195423570985008687907853269984665640564039457584007913129639936) (w : World) :
  Calls Tryz.prog 200 #[ME z, .int .i64 n] w fun e w' => e = .returned (ME (z * 18446744073709551616)) ∧ Below w.heap.size w w' := by
 show Calls _ _ #[MG (lb0 z) (lb1 z) (lb2 z) (lb3 z), _] _ _
 have e := mv_me h
 have U0 := lb0_in z
 have U1 := lb1_in z
 have U2 := lb2_in z
 have U3 := lb3_in z
 have hR := shl1 (e := 0) (by rw [e]; omega : z = MV (lb0 z) (lb1 z) (lb2 z) (lb3 z) + _ * 0) (Int.le_refl 0) ⟨U0, U1, U2, U3⟩ hf
 have hM := mg_me (U64.zero) (U0) (U1) (U2)
 rw [hR] at hM
 rw [← hM]
 have hq : n / 64 = 1 := by omega
 have hm : n % 64 = 0 := by omega
 have h0 : 0 ≤ n := by omega
 generalize lb0 z = x0 at *
 generalize lb1 z = x1 at *
 generalize lb2 z = x2 at *
 generalize lb3 z = x3 at *
 clear hM hR e hf h hn
 obtain ⟨g0, l0⟩ := U0
 obtain ⟨g1, l1⟩ := U1
 obtain ⟨g2, l2⟩ := U2
 obtain ⟨g3, l3⟩ := U3
 refine known_of (enter Tryz.func200 wide_left.ok (args := [MG x0 x1 x2 x3, .int .i64 n]) (by simp) ?_)
 repeat' (first | simp (disch := omega) only [sxE, wide_left.E, Nat.reduceAdd, Nat.reduceEqDiff, Nat.reduceMul, Nat.reduceSub, Int.reduceAdd, Int.reduceSub, Int.reduceMul, Int.reduceNeg, Int.reduceLT, Int.reduceLE, Int.reduceEq, Int.reduceToNat, ↓reduceIte, Int.reducePow, Nat.reduceLeDiff, Nat.reduceLT, ne_eq, eq_self, List.length_cons, List.length_nil, hq, hm, Int.mul_one, Int.pow_zero, Int.toNat_zero] | (rw [wide_left.p2_l]) | (with_reducible apply LX_round) | (with_reducible refine cregF ?_))
set_option maxRecDepth 100000 in
theorem left_2 {z n : Int} {r : Nat} (h : A4 z) (hr : 0 < r) (hr2 : r < 64) (hn : n = 64 * 2 + r) (hf : z * 2 ^ r * 340282366920938463463374607431768211456 < 115792089237316195423570985008687907853269984665640564039457584007913129639936) (w : World) :
  Calls Tryz.prog 200 #[ME z, .int .i64 n] w fun e w' => e = .returned (ME (z * 2 ^ r * 340282366920938463463374607431768211456)) ∧ Below w.heap.size w w' := by
 show Calls _ _ #[MG (lb0 z) (lb1 z) (lb2 z) (lb3 z), _] _ _
 have e := mv_me h
 obtain ⟨t0, u0, ht0, hu0, U0, a0, b0, d0, s0⟩ := shl_word (r := r) (lb0_in z) hr2
 obtain ⟨t1, u1, ht1, hu1, U1, a1, b1, d1, s1⟩ := shl_word (r := r) (lb1_in z) hr2
 obtain ⟨t2, u2, ht2, hu2, U2, a2, b2, d2, s2⟩ := shl_word (r := r) (lb2_in z) hr2
 obtain ⟨t3, u3, ht3, hu3, U3, a3, b3, d3, s3⟩ := shl_word (r := r) (lb3_in z) hr2
 have S := shl_words s0 s1 s2 s3
 rw [e] at S
 have hp := pow63 hr2
 obtain ⟨-, o1, V1⟩ := or_add r (⟨a0, by omega⟩ : U64 u0) U1 b0 d1
 obtain ⟨-, o2, V2⟩ := or_add r (⟨a1, by omega⟩ : U64 u1) U2 b1 d2
 obtain ⟨-, o3, V3⟩ := or_add r (⟨a2, by omega⟩ : U64 u2) U3 b2 d3
 rw [Int.add_comm t1 u0, Int.add_comm t2 u1, Int.add_comm t3 u2] at S
 have hR := shl2 S a3 ⟨U0, V1, V2, V3⟩ hf
 have hM := mg_me (U64.zero) (U64.zero) (U0) (V1)
 rw [hR] at hM
 rw [← hM]
 have hq : n / 64 = 2 := by omega
 have hm : n % 64 = (r : Int) := by omega
 have h64 : ((64 : Int) - r).toNat = 64 - r := by omega
 have h0 : 0 ≤ n := by omega
 generalize lb0 z = x0 at *
 generalize lb1 z = x1 at *
 generalize lb2 z = x2 at *
 generalize lb3 z = x3 at *
 clear hM hR S e hf h hn s0 s1 s2 s3 a0 a1 a2 a3 b0 b1 b2 b3 d0 d1 d2 d3 U0 U1 U2 U3 V1 V2 V3 hp
 refine known_of (enter Tryz.func200 wide_left.ok (args := [MG x0 x1 x2 x3, .int .i64 n]) (by simp) ?_)
 repeat' (first | simp (disch := omega) only [sxE, wide_left.E, Nat.reduceAdd, Nat.reduceEqDiff, Nat.reduceMul, Nat.reduceSub, Int.reduceAdd, Int.reduceSub, Int.reduceMul, Int.reduceNeg, Int.reduceLT, Int.reduceLE, Int.reduceEq, Int.reduceToNat, ↓reduceIte, Int.reducePow, Nat.reduceLeDiff, Nat.reduceLT, ne_eq, eq_self, List.length_cons, List.length_nil, hq, hm, h64, ht0, ht1, ht2, ht3, hu0, hu1, hu2, hu3, o1, o2, o3] | (rw [wide_left.p2_l]) | (with_reducible apply LX_round) | (with_reducible refine cregF ?_))
set_option maxRecDepth 100000 in
theorem left_2z {z n : Int} (h : A4 z) (hn : n = 64 * 2) (hf : z * 340282366920938463463374607431768211456 < 115792089237316195423570985008687907853269984665640564039457584007913129639936) (w : World) :
  Calls Tryz.prog 200 #[ME z, .int .i64 n] w fun e w' => e = .returned (ME (z * 340282366920938463463374607431768211456)) ∧ Below w.heap.size w w' := by
 show Calls _ _ #[MG (lb0 z) (lb1 z) (lb2 z) (lb3 z), _] _ _
 have e := mv_me h
 have U0 := lb0_in z
 have U1 := lb1_in z
 have U2 := lb2_in z
 have U3 := lb3_in z
 have hR := shl2 (e := 0) (by rw [e]; omega : z = MV (lb0 z) (lb1 z) (lb2 z) (lb3 z) + _ * 0) (Int.le_refl 0) ⟨U0, U1, U2, U3⟩ hf
 have hM := mg_me (U64.zero) (U64.zero) (U0) (U1)
 rw [hR] at hM
 rw [← hM]
 have hq : n / 64 = 2 := by omega
 have hm : n % 64 = 0 := by omega
 have h0 : 0 ≤ n := by omega
 generalize lb0 z = x0 at *
 generalize lb1 z = x1 at *
 generalize lb2 z = x2 at *
 generalize lb3 z = x3 at *
 clear hM hR e hf h hn
 obtain ⟨g0, l0⟩ := U0
 obtain ⟨g1, l1⟩ := U1
 obtain ⟨g2, l2⟩ := U2
 obtain ⟨g3, l3⟩ := U3
 refine known_of (enter Tryz.func200 wide_left.ok (args := [MG x0 x1 x2 x3, .int .i64 n]) (by simp) ?_)
 repeat' (first | simp (disch := omega) only [sxE, wide_left.E, Nat.reduceAdd, Nat.reduceEqDiff, Nat.reduceMul, Nat.reduceSub, Int.reduceAdd, Int.reduceSub, Int.reduceMul, Int.reduceNeg, Int.reduceLT, Int.reduceLE, Int.reduceEq, Int.reduceToNat, ↓reduceIte, Int.reducePow, Nat.reduceLeDiff, Nat.reduceLT, ne_eq, eq_self, List.length_cons, List.length_nil, hq, hm, Int.mul_one, Int.pow_zero, Int.toNat_zero] | (rw [wide_left.p2_l]) | (with_reducible apply LX_round) | (with_reducible refine cregF ?_))
set_option maxRecDepth 100000 in
theorem left_3 {z n : Int} {r : Nat} (h : A4 z) (hr : 0 < r) (hr2 : r < 64) (hn : n = 64 * 3 + r) (hf : z * 2 ^ r * 6277101735386680763835789423207666416102355444464034512896 < 115792089237316195423570985008687907853269984665640564039457584007913129639936) (w : World) :
  Calls Tryz.prog 200 #[ME z, .int .i64 n] w fun e w' => e = .returned (ME (z * 2 ^ r * 6277101735386680763835789423207666416102355444464034512896)) ∧ Below w.heap.size w w' := by
 show Calls _ _ #[MG (lb0 z) (lb1 z) (lb2 z) (lb3 z), _] _ _
 have e := mv_me h
 obtain ⟨t0, u0, ht0, hu0, U0, a0, b0, d0, s0⟩ := shl_word (r := r) (lb0_in z) hr2
 obtain ⟨t1, u1, ht1, hu1, U1, a1, b1, d1, s1⟩ := shl_word (r := r) (lb1_in z) hr2
 obtain ⟨t2, u2, ht2, hu2, U2, a2, b2, d2, s2⟩ := shl_word (r := r) (lb2_in z) hr2
 obtain ⟨t3, u3, ht3, hu3, U3, a3, b3, d3, s3⟩ := shl_word (r := r) (lb3_in z) hr2
 have S := shl_words s0 s1 s2 s3
 rw [e] at S
 have hp := pow63 hr2
 obtain ⟨-, o1, V1⟩ := or_add r (⟨a0, by omega⟩ : U64 u0) U1 b0 d1
 obtain ⟨-, o2, V2⟩ := or_add r (⟨a1, by omega⟩ : U64 u1) U2 b1 d2
 obtain ⟨-, o3, V3⟩ := or_add r (⟨a2, by omega⟩ : U64 u2) U3 b2 d3
 rw [Int.add_comm t1 u0, Int.add_comm t2 u1, Int.add_comm t3 u2] at S
 have hR := shl3 S a3 ⟨U0, V1, V2, V3⟩ hf
 have hM := mg_me (U64.zero) (U64.zero) (U64.zero) (U0)
 rw [hR] at hM
 rw [← hM]
 have hq : n / 64 = 3 := by omega
 have hm : n % 64 = (r : Int) := by omega
 have h64 : ((64 : Int) - r).toNat = 64 - r := by omega
 have h0 : 0 ≤ n := by omega
 generalize lb0 z = x0 at *
 generalize lb1 z = x1 at *
 generalize lb2 z = x2 at *
 generalize lb3 z = x3 at *
 clear hM hR S e hf h hn s0 s1 s2 s3 a0 a1 a2 a3 b0 b1 b2 b3 d0 d1 d2 d3 U0 U1 U2 U3 V1 V2 V3 hp
 refine known_of (enter Tryz.func200 wide_left.ok (args := [MG x0 x1 x2 x3, .int .i64 n]) (by simp) ?_)
 repeat' (first | simp (disch := omega) only [sxE, wide_left.E, Nat.reduceAdd, Nat.reduceEqDiff, Nat.reduceMul, Nat.reduceSub, Int.reduceAdd, Int.reduceSub, Int.reduceMul, Int.reduceNeg, Int.reduceLT, Int.reduceLE, Int.reduceEq, Int.reduceToNat, ↓reduceIte, Int.reducePow, Nat.reduceLeDiff, Nat.reduceLT, ne_eq, eq_self, List.length_cons, List.length_nil, hq, hm, h64, ht0, ht1, ht2, ht3, hu0, hu1, hu2, hu3, o1, o2, o3] | (rw [wide_left.p2_l]) | (with_reducible apply LX_round) | (with_reducible refine cregF ?_))
set_option maxRecDepth 100000 in
theorem left_3z {z n : Int} (h : A4 z) (hn : n = 64 * 3) (hf : z * 6277101735386680763835789423207666416102355444464034512896 < 115792089237316195423570985008687907853269984665640564039457584007913129639936) (w : World) :
  Calls Tryz.prog 200 #[ME z, .int .i64 n] w fun e w' => e = .returned (ME (z * 6277101735386680763835789423207666416102355444464034512896)) ∧ Below w.heap.size w w' := by
 show Calls _ _ #[MG (lb0 z) (lb1 z) (lb2 z) (lb3 z), _] _ _
 have e := mv_me h
 have U0 := lb0_in z
 have U1 := lb1_in z
 have U2 := lb2_in z
 have U3 := lb3_in z
 have hR := shl3 (e := 0) (by rw [e]; omega : z = MV (lb0 z) (lb1 z) (lb2 z) (lb3 z) + _ * 0) (Int.le_refl 0) ⟨U0, U1, U2, U3⟩ hf
 have hM := mg_me (U64.zero) (U64.zero) (U64.zero) (U0)
 rw [hR] at hM
 rw [← hM]
 have hq : n / 64 = 3 := by omega
 have hm : n % 64 = 0 := by omega
 have h0 : 0 ≤ n := by omega
 generalize lb0 z = x0 at *
 generalize lb1 z = x1 at *
 generalize lb2 z = x2 at *
 generalize lb3 z = x3 at *
 clear hM hR e hf h hn
 obtain ⟨g0, l0⟩ := U0
 obtain ⟨g1, l1⟩ := U1
 obtain ⟨g2, l2⟩ := U2
 obtain ⟨g3, l3⟩ := U3
 refine known_of (enter Tryz.func200 wide_left.ok (args := [MG x0 x1 x2 x3, .int .i64 n]) (by simp) ?_)
 repeat' (first | simp (disch := omega) only [sxE, wide_left.E, Nat.reduceAdd, Nat.reduceEqDiff, Nat.reduceMul, Nat.reduceSub, Int.reduceAdd, Int.reduceSub, Int.reduceMul, Int.reduceNeg, Int.reduceLT, Int.reduceLE, Int.reduceEq, Int.reduceToNat, ↓reduceIte, Int.reducePow, Nat.reduceLeDiff, Nat.reduceLT, ne_eq, eq_self, List.length_cons, List.length_nil, hq, hm, Int.mul_one, Int.pow_zero, Int.toNat_zero] | (rw [wide_left.p2_l]) | (with_reducible apply LX_round) | (with_reducible refine cregF ?_))
theorem g_left {z : Int} {n : Nat} (h : A4 z) (hf : A4 (z * 2 ^ n)) (hn : n < 256) (W : World) : Gives Tryz.prog 200 [ME z, .int .i64 (n : Int)] W (· = ME (z * 2 ^ n)) := by
 refine gives_known en_wide_left ?_
 obtain ⟨q, r, hq, hr, e⟩ : ∃ q r : Nat, q < 4 ∧ r < 64 ∧ n = 64 * q + r := ⟨n / 64, n % 64, by omega, by omega, by omega⟩
 have hp := pow_split q r
 have e2 : z * 2 ^ n = z * 2 ^ r * 18446744073709551616 ^ q := by rw [e, hp, Int.mul_assoc]
 have hf2 := hf.2
 rw [e2] at hf2 ⊢
 rcases Nat.eq_zero_or_pos r with h0 | h0
 ·subst h0
  rw [Int.pow_zero, Int.mul_one] at hf2 ⊢
  rcases q with _ | _ | _ | _ | q
  ·rw [Int.pow_zero, Int.mul_one] at hf2 ⊢; exact left_0z h (by omega) hf2 W
  ·rw [show (18446744073709551616 : Int) ^ (0 + 1) = 18446744073709551616 from rfl] at hf2 ⊢; exact left_1z h (by omega) hf2 W
  ·rw [show (18446744073709551616 : Int) ^ (0 + 1 + 1) = 340282366920938463463374607431768211456 from rfl] at hf2 ⊢; exact left_2z h (by omega) hf2 W
  ·rw [show (18446744073709551616 : Int) ^ (0 + 1 + 1 + 1) = 6277101735386680763835789423207666416102355444464034512896 from rfl] at hf2 ⊢; exact left_3z h (by omega) hf2 W
  ·omega
 ·rcases q with _ | _ | _ | _ | q
  ·rw [Int.pow_zero, Int.mul_one] at hf2 ⊢; exact left_0 h h0 hr (by omega) hf2 W
  ·rw [show (18446744073709551616 : Int) ^ (0 + 1) = 18446744073709551616 from rfl] at hf2 ⊢; exact left_1 h h0 hr (by omega) hf2 W
  ·rw [show (18446744073709551616 : Int) ^ (0 + 1 + 1) = 340282366920938463463374607431768211456 from rfl] at hf2 ⊢; exact left_2 h h0 hr (by omega) hf2 W
  ·rw [show (18446744073709551616 : Int) ^ (0 + 1 + 1 + 1) = 6277101735386680763835789423207666416102355444464034512896 from rfl] at hf2 ⊢; exact left_3 h h0 hr (by omega) hf2 W
  ·omega
end Go.Proofs.YtncmmbacoknefaaGreat

/- Gf: What a call of the program's division of absolute values gives; DivMod. -/
namespace Go.Proofs.YtncmmbacoknefaaGreat
open Go Go.RowKit Sx
set_option linter.unusedVariables false
set_option linter.unusedSimpArgs false
theorem g_wcompare_me {z y : Int} (h : A4 z) (h' : A4 y) (W : World) : Gives Tryz.prog 166 [ME z, ME y] W (· = .int .i64 (cm z y)) := by
 have e := cm4_mv (a3 := lb3 z) (b3 := lb3 y) (lb0_in z) (lb1_in z) (lb2_in z) (lb0_in y) (lb1_in y) (lb2_in y)
 rw [mv_me h, mv_me h'] at e
 rw [← e]
 exact g_wcompare _ _ _ _ _ _ _ _ W
theorem g_wsub_me {z y : Int} (h : A4 z) (h' : A4 y) (W : World) : Gives Tryz.prog 167 [ME z, ME y] W (· = ME (z - y)) := by
 have e := wsub_any (lb0 z) (lb1 z) (lb2 z) (lb3 z) (lb0 y) (lb1 y) (lb2 y) (lb3 y) (lb0_in z) (lb1_in z) (lb2_in z) (lb3_in z) (lb0_in y) (lb1_in y) (lb2_in y) (lb3_in y) W
 rw [mv_me h, mv_me h'] at e
 exact gives_known en_wide_sub e
theorem bit_words {q : Int} {k w j : Nat} (hk : k = 64 * w + j) (hj : j < 64) (hw : w < 4) (hq : A4 q) (hd : (2 ^ (k + 1) : Int) ∣ q) (hs : A4 (q + 2 ^ k)) :
  let g := fun x : Int => IntKind.u64.wrap ((BitVec.ofInt IntKind.u64.bits x ||| BitVec.ofInt IntKind.u64.bits (2 ^ j)).toNat : Int)
  (w = 0 → lb0 (q + 2 ^ k) = g (lb0 q) ∧ lb1 (q + 2 ^ k) = lb1 q ∧ lb2 (q + 2 ^ k) = lb2 q ∧ lb3 (q + 2 ^ k) = lb3 q) ∧ (w = 1 → lb0 (q + 2 ^ k) = lb0 q ∧ lb1 (q + 2 ^ k) = g (lb1 q) ∧ lb2 (q + 2 ^ k) = lb2 q ∧ lb3 (q + 2 ^ k) = lb3 q) ∧
  (w = 2 → lb0 (q + 2 ^ k) = lb0 q ∧ lb1 (q + 2 ^ k) = lb1 q ∧ lb2 (q + 2 ^ k) = g (lb2 q) ∧ lb3 (q + 2 ^ k) = lb3 q) ∧ (w = 3 → lb0 (q + 2 ^ k) = lb0 q ∧ lb1 (q + 2 ^ k) = lb1 q ∧ lb2 (q + 2 ^ k) = lb2 q ∧ lb3 (q + 2 ^ k) = g (lb3 q)) := by
 intro g
 have hg : ∀ x : Int, U64 x → (2 ^ (j + 1) : Int) ∣ x → g x = x + 2 ^ j ∧ U64 (x + 2 ^ j) := fun x hx hd => by
  have hp := pow63 hj
  have h0 : (0 : Int) < 2 ^ j := Int.pow_pos (by decide)
  obtain ⟨a, b, c⟩ := or_add (j + 1) (⟨by omega, by omega⟩ : U64 ((2 : Int) ^ j)) hx (by rw [Int.pow_succ]; omega) hd
  refine ⟨?_, ?_⟩
  ·show IntKind.u64.wrap _ = _
   rw [b]; omega
  ·rw [Int.add_comm]; exact c
 have hm := mv_me hq
 have h0 := lb0_in q
 have h1 := lb1_in q
 have h2 := lb2_in q
 have h3 := lb3_in q
 have p3 : (2 ^ (64 * 3) : Int) = 6277101735386680763835789423207666416102355444464034512896 := rfl
 have p2 : (2 ^ (64 * 2) : Int) = 340282366920938463463374607431768211456 := rfl
 have p1 : (2 ^ (64 * 1) : Int) = 18446744073709551616 := rfl
 have p0 : (2 ^ (64 * 0) : Int) = 1 := rfl
 obtain ⟨a0, a1⟩ := id h0
 obtain ⟨b0, b1⟩ := id h1
 obtain ⟨c0, c1⟩ := id h2
 have hsp : (2 ^ k : Int) = 2 ^ (64 * w) * 2 ^ j := by rw [hk, Int.pow_add]
 generalize lb0 q = a at *
 generalize lb1 q = b at *
 generalize lb2 q = c at *
 generalize lb3 q = d at *
 unfold MV at hm
 refine ⟨fun e => ?_, fun e => ?_, fun e => ?_, fun e => ?_⟩
 ·subst e
  obtain ⟨e1, e2⟩ := hg a h0 (word_dvd (q := q) (w := 0) (lo := 0) (hi := b + 18446744073709551616 * (c + 18446744073709551616 * d)) hj (by rw [p0]; omega) (by omega) (by rw [p0]; omega) (by rw [← hk]; exact hd))
  have e3 : q + 2 ^ k = MV (a + 2 ^ j) b c d := by unfold MV; rw [hsp, p0]; omega
  rw [e1, e3, lb0_mv _ _ _ e2, lb1_mv _ _ e2 h1, lb2_mv _ e2 h1 h2, lb3_mv e2 h1 h2 h3]
  exact ⟨rfl, rfl, rfl, rfl⟩
 ·subst e
  obtain ⟨e1, e2⟩ := hg b h1 (word_dvd (q := q) (w := 1) (lo := a) (hi := c + 18446744073709551616 * d) hj (by rw [p1]; omega) (by omega) (by rw [p1]; omega) (by rw [← hk]; exact hd))
  have e3 : q + 2 ^ k = MV a (b + 2 ^ j) c d := by unfold MV; rw [hsp, p1]; omega
  rw [e1, e3, lb0_mv _ _ _ h0, lb1_mv _ _ h0 e2, lb2_mv _ h0 e2 h2, lb3_mv h0 e2 h2 h3]
  exact ⟨rfl, rfl, rfl, rfl⟩
 ·subst e
  obtain ⟨e1, e2⟩ := hg c h2 (word_dvd (q := q) (w := 2) (lo := a + 18446744073709551616 * b) (hi := d) hj (by rw [p2]; omega) (by omega) (by rw [p2]; omega) (by rw [← hk]; exact hd))
  have e3 : q + 2 ^ k = MV a b (c + 2 ^ j) d := by unfold MV; rw [hsp, p2]; omega
  rw [e1, e3, lb0_mv _ _ _ h0, lb1_mv _ _ h0 h1, lb2_mv _ h0 h1 e2, lb3_mv h0 h1 e2 h3]
  exact ⟨rfl, rfl, rfl, rfl⟩
 ·subst e
  obtain ⟨e1, e2⟩ := hg d h3 (word_dvd (q := q) (w := 3) (lo := a + 18446744073709551616 * (b + 18446744073709551616 * c)) (hi := 0) hj (by rw [p3]; omega) (by omega) (by rw [p3]; omega) (by rw [← hk]; exact hd))
  have e3 : q + 2 ^ k = MV a b c (d + 2 ^ j) := by unfold MV; rw [hsp, p3]; omega
  rw [e1, e3, lb0_mv _ _ _ h0, lb1_mv _ _ h0 h1, lb2_mv _ h0 h1 h2, lb3_mv h0 h1 h2 e2]
  exact ⟨rfl, rfl, rfl, rfl⟩
theorem a4_zero : A4 0 := ⟨by decide, by decide⟩
abbrev W4 (z : Int) : List Value := [.int .u64 (lb0 z), .int .u64 (lb1 z), .int .u64 (lb2 z), .int .u64 (lb3 z)]
def dvF (x : Int × Int × Int × Nat) : St := ⟨5, [(2, .p 0 0), (4, .p 2 0), (5, .p 3 0), (6, .v (.int .i64 ((x.2.2.2 : Int) - 1))), (7, .p 4 0)], [(4, W4 x.2.2.1), (3, [.int .u64 0, .int .u64 0, .int .u64 0, .int .u64 0]), (2, W4 x.2.1), (0, W4 x.1)], ext0⟩
set_option maxRecDepth 100000 in
theorem div_any {a b : Int} (ha : A4 a) (hb : A4 b) (hb0 : 0 < b) (w : World) : Calls Tryz.prog 189 #[ME a, ME b] w fun e w' => e = .returned (.tuple #[ME (a / b), ME (a % b)]) ∧ Below w.heap.size w w' := by
 have l1 := bl_256 ha
 have l2 := bl_256 hb
 by_cases hlen : bl a < bl b
 ·obtain ⟨e1, e2⟩ := dv_small ha.1 hb0 hlen
  rw [e1, e2]
  refine known_of (enter Tryz.func189 wide_div.ok (args := [ME a, ME b]) (by simp) ?_)
  repeat' (first | simp (disch := omega) only [sxE, wide_div.E, Nat.reduceAdd, Nat.reduceEqDiff, Nat.reduceMul, Nat.reduceSub, Int.reduceAdd, Int.reduceSub, Int.reduceMul, Int.reduceNeg, Int.reduceLT, Int.reduceLE, Int.reduceEq, Int.reduceToNat, ↓reduceIte, Int.reducePow, Nat.reduceLeDiff, Nat.reduceLT, ne_eq, eq_self, List.length_cons, List.length_nil] | (with_reducible refine Sx.call_at (f := 199) (fun W hW => g_length (by assumption) W) ?_) | (with_reducible refine cregF ?_))
  rfl
 ·have hst := dv_start ha.1 hb0 (by omega)
  have hfit := dv_fit (m := 0) ha hb hb0 (by omega)
  have hsub : IntKind.i64.wrap ((bl a : Int) - (bl b : Int)) = ((bl a - bl b : Nat) : Int) := by rw [s_wi _ (by omega) (by omega)]; omega
  have hn : bl a - bl b < 256 := pow256 hb0 hfit
  generalize bl a - bl b = N at *
  clear hlen l1 l2
  refine known_of (enter Tryz.func189 wide_div.ok (args := [ME a, ME b]) (by simp) ?_)
  repeat' (first | simp (disch := omega) only [sxE, wide_div.E, Nat.reduceAdd, Nat.reduceEqDiff, Nat.reduceMul, Nat.reduceSub, Int.reduceAdd, Int.reduceSub, Int.reduceMul, Int.reduceNeg, Int.reduceLT, Int.reduceLE, Int.reduceEq, Int.reduceToNat, ↓reduceIte, Int.reducePow, Nat.reduceLeDiff, Nat.reduceLT, ne_eq, eq_self, List.length_cons, List.length_nil, hsub] | (with_reducible refine Sx.call_at (f := 199) (fun W hW => g_length (by assumption) W) ?_) | (with_reducible refine Sx.call_at (f := 200) (fun W hW => g_left (by assumption) hfit hn W) ?_) | (with_reducible refine cregF ?_))
  rw [wide_div.p2_l]
  refine LX_inv dvF (fun x => DvI a b x.1 x.2.1 x.2.2.2 ∧ (0 < x.2.2.2 → x.2.2.1 = b * 2 ^ (x.2.2.2 - 1)) ∧ A4 x.2.2.1 ∧ A4 x.1 ∧ A4 x.2.1) (fun x => x.2.2.2) ?round (a, 0, b * 2 ^ N, N + 1) ⟨hst, fun _ => rfl, hfit, ha, a4_zero⟩ ?start
  case start =>
   have hk : ((N + 1 : Nat) : Int) - 1 = N := by omega
   simp (disch := omega) only [sxE, wide_div.E, Nat.reduceAdd, Nat.reduceEqDiff, Nat.reduceMul, Nat.reduceSub, Int.reduceAdd, Int.reduceSub, Int.reduceMul, Int.reduceNeg, Int.reduceLT, Int.reduceLE, Int.reduceEq, Int.reduceToNat, ↓reduceIte, Int.reducePow, Nat.reduceLeDiff, Nat.reduceLT, ne_eq, eq_self, List.length_cons, List.length_nil, dvF, W4, hk, show lb0 0 = 0 from rfl, show lb1 0 = 0 from rfl, show lb2 0 = 0 from rfl, show lb3 0 = 0 from rfl]
  case round =>
   clear hst hfit hsub hn
   rintro ⟨r, q, D, k⟩ ⟨hI, hD, aD, ar, aq⟩
   dsimp only at hI hD aD ar aq ⊢
   rcases k with _ | k
   ·obtain ⟨e1, e2⟩ := dv_end hI hb0
    rw [← e1, ← e2]
    clear e1 e2 hI hD
    unfold dvF
    repeat' (first | simp (disch := omega) only [sxE, wide_div.E, Nat.reduceAdd, Nat.reduceEqDiff, Nat.reduceMul, Nat.reduceSub, Int.reduceAdd, Int.reduceSub, Int.reduceMul, Int.reduceNeg, Int.reduceLT, Int.reduceLE, Int.reduceEq, Int.reduceToNat, ↓reduceIte, Int.reducePow, Nat.reduceLeDiff, Nat.reduceLT, ne_eq, eq_self, List.length_cons, List.length_nil] | (with_reducible refine cregF ?_))
   ·have hD' : D = b * 2 ^ k := hD (by omega)
    have hk : ((k + 1 : Nat) : Int) - 1 = k := by omega
    have hk2 : k < 256 := pow256 hb0 (hD' ▸ aD)
    obtain ⟨st1, st2⟩ := dv_step hI hb0
    have aH : A4 (D / 2) := ⟨by have := aD.1; omega, by have := aD.1; have := aD.2; omega⟩
    have hH : 0 < k → D / 2 = b * 2 ^ (k - 1) := fun h => by
     obtain ⟨m, rfl⟩ : ∃ m, k = m + 1 := ⟨k - 1, by omega⟩
     rw [hD', Int.pow_succ, ← Int.mul_assoc, Nat.add_sub_cancel]; omega
    rw [← hD'] at st1 st2
    have hcm := cm_ge r D
    by_cases hle : D ≤ r
    ·have hI2 := st1 hle
     have hc0 : 0 ≤ cm r D := hcm.2 hle
     have aR : A4 (r - D) := ⟨by omega, by have := ar.2; have := aD.1; omega⟩
     have aQ : A4 (q + 2 ^ k) := by
      have h1 := hI2.eq
      have h2 := hI2.r0
      have h3 := hI2.q0
      have h4 := Int.mul_le_mul_of_nonneg_left (show (1 : Int) ≤ b by omega) h3
      exact ⟨h3, by have := ha.2; omega⟩
     obtain ⟨w', j, hw, hj, e⟩ : ∃ w' j : Nat, w' < 4 ∧ j < 64 ∧ k = 64 * w' + j := ⟨k / 64, k % 64, by omega, by omega, by omega⟩
     have BW := bit_words e hj hw aq hI.dv aQ
     have hm : (k : Int) % 64 = (j : Nat) := by omega
     have p0 : (0 : Int) < 2 ^ j := Int.pow_pos (by decide)
     have p1 := pow63 hj
     have hp2 : IntKind.u64.wrap (2 ^ j) = 2 ^ j := s_wu _ (by omega) (by omega)
     unfold dvF
     clear st1 st2 hcm hI hD hD' p0 p1
     rcases w' with _ | _ | _ | _ | w'
     ·have hq : (k : Int) / 64 = 0 := by omega
      obtain ⟨v0, v1, v2, v3⟩ := BW.1 rfl
      clear BW
      repeat' (first | simp (disch := omega) only [sxE, wide_div.E, Nat.reduceAdd, Nat.reduceEqDiff, Nat.reduceMul, Nat.reduceSub, Int.reduceAdd, Int.reduceSub, Int.reduceMul, Int.reduceNeg, Int.reduceLT, Int.reduceLE, Int.reduceEq, Int.reduceToNat, ↓reduceIte, Int.reducePow, Nat.reduceLeDiff, Nat.reduceLT, ne_eq, eq_self, List.length_cons, List.length_nil, hk, hq, hm, hp2, Int.one_mul] | (with_reducible refine Sx.call_at (f := 166) (fun W hW => g_wcompare_me (by assumption) (by assumption) W) ?_) | (with_reducible refine Sx.call_at (f := 167) (fun W hW => g_wsub_me (by assumption) (by assumption) W) ?_) | (with_reducible refine Sx.call_at (f := 201) (fun W hW => g_halved (by assumption) W) ?_) | (with_reducible refine cregF ?_))
      exact ⟨(r - D, q + 2 ^ k, D / 2, k), ⟨hI2, hH, aH, aR, aQ⟩, Nat.lt_succ_self _, rfl, rfl, by simp only [W4, v0, v1, v2, v3], rfl⟩
     ·have hq : (k : Int) / 64 = 1 := by omega
      obtain ⟨v0, v1, v2, v3⟩ := BW.2.1 rfl
      clear BW
      repeat' (first | simp (disch := omega) only [sxE, wide_div.E, Nat.reduceAdd, Nat.reduceEqDiff, Nat.reduceMul, Nat.reduceSub, Int.reduceAdd, Int.reduceSub, Int.reduceMul, Int.reduceNeg, Int.reduceLT, Int.reduceLE, Int.reduceEq, Int.reduceToNat, ↓reduceIte, Int.reducePow, Nat.reduceLeDiff, Nat.reduceLT, ne_eq, eq_self, List.length_cons, List.length_nil, hk, hq, hm, hp2, Int.one_mul] | (with_reducible refine Sx.call_at (f := 166) (fun W hW => g_wcompare_me (by assumption) (by assumption) W) ?_) | (with_reducible refine Sx.call_at (f := 167) (fun W hW => g_wsub_me (by assumption) (by assumption) W) ?_) | (with_reducible refine Sx.call_at (f := 201) (fun W hW => g_halved (by assumption) W) ?_) | (with_reducible refine cregF ?_))
      exact ⟨(r - D, q + 2 ^ k, D / 2, k), ⟨hI2, hH, aH, aR, aQ⟩, Nat.lt_succ_self _, rfl, rfl, by simp only [W4, v0, v1, v2, v3], rfl⟩
     ·have hq : (k : Int) / 64 = 2 := by omega
      obtain ⟨v0, v1, v2, v3⟩ := BW.2.2.1 rfl
      clear BW
      repeat' (first | simp (disch := omega) only [sxE, wide_div.E, Nat.reduceAdd, Nat.reduceEqDiff, Nat.reduceMul, Nat.reduceSub, Int.reduceAdd, Int.reduceSub, Int.reduceMul, Int.reduceNeg, Int.reduceLT, Int.reduceLE, Int.reduceEq, Int.reduceToNat, ↓reduceIte, Int.reducePow, Nat.reduceLeDiff, Nat.reduceLT, ne_eq, eq_self, List.length_cons, List.length_nil, hk, hq, hm, hp2, Int.one_mul] | (with_reducible refine Sx.call_at (f := 166) (fun W hW => g_wcompare_me (by assumption) (by assumption) W) ?_) | (with_reducible refine Sx.call_at (f := 167) (fun W hW => g_wsub_me (by assumption) (by assumption) W) ?_) | (with_reducible refine Sx.call_at (f := 201) (fun W hW => g_halved (by assumption) W) ?_) | (with_reducible refine cregF ?_))
      exact ⟨(r - D, q + 2 ^ k, D / 2, k), ⟨hI2, hH, aH, aR, aQ⟩, Nat.lt_succ_self _, rfl, rfl, by simp only [W4, v0, v1, v2, v3], rfl⟩
     ·have hq : (k : Int) / 64 = 3 := by omega
      obtain ⟨v0, v1, v2, v3⟩ := BW.2.2.2 rfl
      clear BW
      repeat' (first | simp (disch := omega) only [sxE, wide_div.E, Nat.reduceAdd, Nat.reduceEqDiff, Nat.reduceMul, Nat.reduceSub, Int.reduceAdd, Int.reduceSub, Int.reduceMul, Int.reduceNeg, Int.reduceLT, Int.reduceLE, Int.reduceEq, Int.reduceToNat, ↓reduceIte, Int.reducePow, Nat.reduceLeDiff, Nat.reduceLT, ne_eq, eq_self, List.length_cons, List.length_nil, hk, hq, hm, hp2, Int.one_mul] | (with_reducible refine Sx.call_at (f := 166) (fun W hW => g_wcompare_me (by assumption) (by assumption) W) ?_) | (with_reducible refine Sx.call_at (f := 167) (fun W hW => g_wsub_me (by assumption) (by assumption) W) ?_) | (with_reducible refine Sx.call_at (f := 201) (fun W hW => g_halved (by assumption) W) ?_) | (with_reducible refine cregF ?_))
      exact ⟨(r - D, q + 2 ^ k, D / 2, k), ⟨hI2, hH, aH, aR, aQ⟩, Nat.lt_succ_self _, rfl, rfl, by simp only [W4, v0, v1, v2, v3], rfl⟩
     ·omega
    ·have hI2 := st2 hle
     have hc0 : ¬ 0 ≤ cm r D := fun h => hle (hcm.1 h)
     unfold dvF
     clear st1 st2 hcm hI hD hD'
     repeat' (first | simp (disch := omega) only [sxE, wide_div.E, Nat.reduceAdd, Nat.reduceEqDiff, Nat.reduceMul, Nat.reduceSub, Int.reduceAdd, Int.reduceSub, Int.reduceMul, Int.reduceNeg, Int.reduceLT, Int.reduceLE, Int.reduceEq, Int.reduceToNat, ↓reduceIte, Int.reducePow, Nat.reduceLeDiff, Nat.reduceLT, ne_eq, eq_self, List.length_cons, List.length_nil, hk] | (with_reducible refine Sx.call_at (f := 166) (fun W hW => g_wcompare_me (by assumption) (by assumption) W) ?_) | (with_reducible refine Sx.call_at (f := 201) (fun W hW => g_halved (by assumption) W) ?_) | (with_reducible refine cregF ?_))
     exact ⟨(r, q, D / 2, k), ⟨hI2, hH, aH, ar, aq⟩, Nat.lt_succ_self _, rfl, rfl, rfl, rfl⟩
theorem g_div {a b : Int} (ha : A4 a) (hb : A4 b) (hb0 : 0 < b) (W : World) : Gives Tryz.prog 189 [ME a, ME b] W (· = .tuple #[ME (a / b), ME (a % b)]) := gives_known en_wide_div (div_any ha hb hb0 W)
end Go.Proofs.YtncmmbacoknefaaGreat

/- Gg: What a call of the program's DivMod gives. -/
namespace Go.Proofs.YtncmmbacoknefaaGreat
open Go Go.RowKit Sx
set_option linter.unusedVariables false
set_option linter.unusedSimpArgs false
theorem IsW.me {v : Value} {z : Int} (h : IsW v z) : ∃ n m, v = WV n (lb0 m) (lb1 m) (lb2 m) (lb3 m) ∧ A4 m ∧ ab z = m ∧ z = sv n m ∧ (n && !mz (lb0 m) (lb1 m) (lb2 m) (lb3 m)) = decide (z < 0) := by
 obtain ⟨n, a, b, c, d, rfl, rfl, ha, hb, hc, hd⟩ := h
 refine ⟨n, MV a b c d, ?_, a4_mv ha hb hc hd, ab_wv ha hb hc hd, ?_, ?_⟩
 ·rw [lb0_mv _ _ _ ha, lb1_mv _ _ ha hb, lb2_mv _ ha hb hc, lb3_mv ha hb hc hd]
 ·rfl
 ·rw [lb0_mv _ _ _ ha, lb1_mv _ _ ha hb, lb2_mv _ ha hb hc, lb3_mv ha hb hc hd]
  exact (sg_wv (n := n) ha hb hc hd).symm
theorem mz_me {m : Int} (h : A4 m) : mz (lb0 m) (lb1 m) (lb2 m) (lb3 m) = decide (m = 0) := by
 rw [Bool.eq_iff_iff, mz_iff (lb0_in m) (lb1_in m) (lb2_in m) (lb3_in m), mv_me h, decide_eq_true_iff]
theorem g_signed_me {n : Bool} {m : Int} (h : A4 m) (W : World) : Gives Tryz.prog 163 [.bool n, ME m] W (· = WE (sv n m)) := by
 rw [← sv_signed h.1 (up4_a4 h)]
 exact g_signed n _ _ _ _ W
theorem g_wadd1 {m : Int} (h : A4 m) (W : World) : Gives Tryz.prog 165 [ME m, MG 1 0 0 0] W (· = .tuple #[ME (m + 1), .int .u64 (up4 (m + 1))]) := by
 have e := wadd_any (lb0 m) (lb1 m) (lb2 m) (lb3 m) 1 0 0 0 (lb0_in m) (lb1_in m) (lb2_in m) (lb3_in m) ⟨by decide, by decide⟩ ⟨by decide, by decide⟩ ⟨by decide, by decide⟩ ⟨by decide, by decide⟩ W
 rw [mv_me h, show MV 1 0 0 0 = 1 from rfl] at e
 exact gives_known en_wide_add e
theorem dm_plain {z y : Int} (hy : y ≠ 0) : (¬ z < 0 ∨ ab z % ab y = 0 → z / y = sv (decide (z < 0) != decide (y < 0)) (ab z / ab y) ∧ z % y = ab z % ab y) ∧
  (z < 0 → ab z % ab y ≠ 0 → z / y = sv (decide (z < 0) != decide (y < 0)) (ab z / ab y + 1) ∧ z % y = ab y - ab z % ab y) := by
 have hn : 0 < ab y := by unfold ab; split <;> omega
 have e1 := Int.mul_ediv_add_emod (ab z) (ab y)
 have e2 := Int.emod_nonneg (ab z) (Int.ne_of_gt hn)
 have e3 := Int.emod_lt_of_pos (ab z) hn
 have q0 := Int.ediv_nonneg (ab_nonneg z) (Int.le_of_lt hn)
 generalize ab z / ab y = Q at *
 generalize ab z % ab y = R at *
 have key : ∀ q r : Int, r + y * q = z → 0 ≤ r → r < ab y → z / y = q ∧ z % y = r := fun q r h1 h2 h3 => by
  rcases Int.lt_or_lt_of_ne hy with h | h
  ·exact (Int.ediv_emod_unique' h).2 ⟨h1, h2, by unfold ab at h3; rw [if_pos h] at h3; exact h3⟩
  ·exact (Int.ediv_emod_unique h).2 ⟨h1, h2, by unfold ab at h3; rw [if_neg (by omega)] at h3; exact h3⟩
 by_cases hz : z < 0
 ·have az : ab z = -z := by unfold ab; rw [if_pos hz]
  rw [az] at e1
  by_cases hy0 : y < 0
  ·have ay : ab y = -y := by unfold ab; rw [if_pos hy0]
   rw [decide_eq_true hz, decide_eq_true hy0]
   rw [ay] at e1 e3 hn ⊢
   refine ⟨fun h => key _ _ ?_ e2 (by rw [ay]; exact e3), fun _ h => key _ _ ?_ (by omega) (by rw [ay]; omega)⟩
   ·show R + y * Q = z
    rw [Int.neg_mul] at e1
    omega
   ·show (-y - R) + y * (Q + 1) = z
    rw [Int.neg_mul] at e1
    rw [Int.mul_add]
    omega
  ·have ay : ab y = y := by unfold ab; rw [if_neg hy0]
   rw [decide_eq_true hz, decide_eq_false hy0]
   rw [ay] at e1 e3 hn ⊢
   refine ⟨fun h => key _ _ ?_ e2 (by rw [ay]; exact e3), fun _ h => key _ _ ?_ (by omega) (by rw [ay]; omega)⟩
   ·show R + y * -Q = z
    rw [Int.mul_neg]
    omega
   ·show (y - R) + y * -(Q + 1) = z
    rw [Int.mul_neg, Int.mul_add]
    omega
 ·have az : ab z = z := by unfold ab; rw [if_neg hz]
  rw [az] at e1
  refine ⟨fun _ => ?_, fun h => absurd h hz⟩
  by_cases hy0 : y < 0
  ·have ay : ab y = -y := by unfold ab; rw [if_pos hy0]
   rw [decide_eq_false hz, decide_eq_true hy0]
   rw [ay] at e1 e3 hn
   refine key _ _ ?_ e2 (by rw [ay]; exact e3)
   show R + y * -Q = z
   rw [Int.mul_neg]
   rw [Int.neg_mul] at e1
   omega
  ·have ay : ab y = y := by unfold ab; rw [if_neg hy0]
   rw [decide_eq_false hz, decide_eq_false hy0]
   rw [ay] at e1 e3 hn
   refine key _ _ ?_ e2 (by rw [ay]; exact e3)
   show R + y * Q = z
   omega
def dr (z y : Int) : Int := if y = 0 then 0 else z % y
set_option maxRecDepth 100000 in
theorem g_divmod {v v' : Value} {z y : Int} (h : IsW v z) (h' : IsW v' y) (W : World) : Gives Tryz.prog 171 [v, v'] W (· = .tuple #[WE (z / y), WE (dr z y), .bool (decide (y ≠ 0))]) := by
  obtain ⟨n, m, rfl, am, hab, hz, hn⟩ := h.me
  obtain ⟨n', m', rfl, am', hab', hy, hn'⟩ := h'.me
  refine gives_known en_wide_DivMod ?_
  have p1 : cn n (lb0 m) (lb1 m) (lb2 m) (lb3 m) = decide (z < 0) := hn
  have p2 : cn n' (lb0 m') (lb1 m') (lb2 m') (lb3 m') = decide (y < 0) := hn'
  have SI : IsW (WV (decide (y < 0)) (lb0 m') (lb1 m') (lb2 m') (lb3 m')) y := by
    have := IsW.raw (n := cn n' (lb0 m') (lb1 m') (lb2 m') (lb3 m')) (lb0_in m') (lb1_in m') (lb2_in m') (lb3_in m')
    rw [wv_cn, p2] at this
    have e : wv n' (lb0 m') (lb1 m') (lb2 m') (lb3 m') = y := by rw [hy]; unfold wv sv; rw [mv_me am']
    rw [e] at this
    exact this
  clear hz hy hn hn'
  have hcm := cm_zero y
  have hmz := mz_me (m := m % m')
  by_cases hy0 : y = 0
  · have hc0 : cm y 0 = 0 := by subst hy0; rfl
    have e1 : z / y = 0 := by rw [hy0]; exact Int.ediv_zero z
    have e2 : dr z y = 0 := if_pos hy0
    have e3 : decide (y ≠ 0) = false := by simp [hy0]
    rw [e1, e2, e3]
    clear hcm hmz e1 e2 e3 hab hab'
    refine known_of (enter Tryz.func171 wide_DivMod.ok (args := [WV n (lb0 m) (lb1 m) (lb2 m) (lb3 m), WV n' (lb0 m') (lb1 m') (lb2 m') (lb3 m')]) (by simp) ?_)
    repeat' (first | simp (disch := omega) only [sxE, wide_DivMod.E, Nat.reduceAdd, Nat.reduceEqDiff, Nat.reduceMul, Nat.reduceSub, Int.reduceAdd, Int.reduceSub, Int.reduceMul, Int.reduceNeg, Int.reduceLT, Int.reduceLE, Int.reduceEq, Int.reduceToNat, ↓reduceIte, Int.reducePow, Nat.reduceLeDiff, Nat.reduceLT, ne_eq, eq_self, List.length_cons, List.length_nil, p1, p2] | (with_reducible refine Sx.call_at (f := 161) (fun W hW => g_clean _ _ _ _ _ W) ?_) | (with_reducible refine Sx.call_at (f := 140) (fun W hW => g_sign SI W) ?_) | (with_reducible refine cregF ?_))
    rfl
  · have hc0 : cm y 0 ≠ 0 := by rw [hcm]; split <;> (try split) <;> omega
    have e3 : decide (y ≠ 0) = true := by simp [hy0]
    have hm' : 0 < m' := by rw [← hab']; unfold ab; split <;> omega
    obtain ⟨D1, D2⟩ := dm_plain (z := z) hy0
    rw [hab, hab'] at D1 D2
    have e2 : dr z y = z % y := if_neg hy0
    rw [e2, e3]
    have ar : A4 (m % m') := ⟨Int.emod_nonneg _ (by omega), by have := Int.emod_lt_of_pos m hm'; have := am'.2; omega⟩
    have aq : A4 (m / m') := ⟨Int.ediv_nonneg am.1 (by omega), by have := Int.ediv_le_self m' am.1; have := am.2; omega⟩
    replace hmz := hmz ar
    unfold mz at hmz
    by_cases hC : ¬ z < 0 ∨ m % m' = 0
    · obtain ⟨e4, e5⟩ := D1 hC
      rw [e4, e5]
      clear hcm e2 e3 e4 e5 D1 D2 hab hab'
      by_cases hz0 : z < 0
      · have hr0 : m % m' = 0 := by omega
        refine known_of (enter Tryz.func171 wide_DivMod.ok (args := [WV n (lb0 m) (lb1 m) (lb2 m) (lb3 m), WV n' (lb0 m') (lb1 m') (lb2 m') (lb3 m')]) (by simp) ?_)
        repeat' (first | simp (disch := omega) only [sxE, wide_DivMod.E, Nat.reduceAdd, Nat.reduceEqDiff, Nat.reduceMul, Nat.reduceSub, Int.reduceAdd, Int.reduceSub, Int.reduceMul, Int.reduceNeg, Int.reduceLT, Int.reduceLE, Int.reduceEq, Int.reduceToNat, ↓reduceIte, Int.reducePow, Nat.reduceLeDiff, Nat.reduceLT, ne_eq, eq_self, List.length_cons, List.length_nil, p1, p2, hmz] | (with_reducible refine Sx.call_at (f := 161) (fun W hW => g_clean _ _ _ _ _ W) ?_) | (with_reducible refine Sx.call_at (f := 140) (fun W hW => g_sign SI W) ?_) | (with_reducible refine Sx.call_at (f := 189) (fun W hW => g_div am am' (by omega) W) ?_) | (with_reducible refine Sx.call_at (f := 165) (fun W hW => g_wadd1 aq W) ?_) | (with_reducible refine Sx.call_at (f := 167) (fun W hW => g_wsub_me am' ar W) ?_) | (with_reducible refine Sx.call_at (f := 163) (fun W hW => g_signed_me (by assumption) W) ?_) | (with_reducible refine eq_is (fun W => by exact eqm_run _ _ _ _ _ _ _ _ W) ?_) | (with_reducible refine cregF ?_))
        rfl
      · refine known_of (enter Tryz.func171 wide_DivMod.ok (args := [WV n (lb0 m) (lb1 m) (lb2 m) (lb3 m), WV n' (lb0 m') (lb1 m') (lb2 m') (lb3 m')]) (by simp) ?_)
        repeat' (first | simp (disch := omega) only [sxE, wide_DivMod.E, Nat.reduceAdd, Nat.reduceEqDiff, Nat.reduceMul, Nat.reduceSub, Int.reduceAdd, Int.reduceSub, Int.reduceMul, Int.reduceNeg, Int.reduceLT, Int.reduceLE, Int.reduceEq, Int.reduceToNat, ↓reduceIte, Int.reducePow, Nat.reduceLeDiff, Nat.reduceLT, ne_eq, eq_self, List.length_cons, List.length_nil, p1, p2, hmz] | (with_reducible refine Sx.call_at (f := 161) (fun W hW => g_clean _ _ _ _ _ W) ?_) | (with_reducible refine Sx.call_at (f := 140) (fun W hW => g_sign SI W) ?_) | (with_reducible refine Sx.call_at (f := 189) (fun W hW => g_div am am' (by omega) W) ?_) | (with_reducible refine Sx.call_at (f := 165) (fun W hW => g_wadd1 aq W) ?_) | (with_reducible refine Sx.call_at (f := 167) (fun W hW => g_wsub_me am' ar W) ?_) | (with_reducible refine Sx.call_at (f := 163) (fun W hW => g_signed_me (by assumption) W) ?_) | (with_reducible refine eq_is (fun W => by exact eqm_run _ _ _ _ _ _ _ _ W) ?_) | (with_reducible refine cregF ?_))
        rfl
    · have hz0 : z < 0 := by omega
      have hr0 : m % m' ≠ 0 := by omega
      obtain ⟨e4, e5⟩ := D2 hz0 hr0
      rw [e4, e5]
      clear hcm e2 e3 e4 e5 D1 D2 hab hab'
      have asx : A4 (m' - m % m') := ⟨by have := Int.emod_lt_of_pos m hm'; omega, by have := ar.1; have := am'.2; omega⟩
      have aq1 : A4 (m / m' + 1) := by
        refine ⟨by have := aq.1; omega, ?_⟩
        have h2 : 2 ≤ m' := by
          rcases Int.lt_or_le m' 2 with h | h
          · exact absurd (show m % m' = 0 by have : m' = 1 := by omega
                                             rw [this]; exact Int.emod_one m) hr0
          · exact h
        have := Int.mul_ediv_add_emod m m'
        have h3 := Int.mul_le_mul_of_nonneg_right h2 aq.1
        have := am.2
        have := ar.1
        omega
      refine known_of (enter Tryz.func171 wide_DivMod.ok (args := [WV n (lb0 m) (lb1 m) (lb2 m) (lb3 m), WV n' (lb0 m') (lb1 m') (lb2 m') (lb3 m')]) (by simp) ?_)
      repeat' (first | simp (disch := omega) only [sxE, wide_DivMod.E, Nat.reduceAdd, Nat.reduceEqDiff, Nat.reduceMul, Nat.reduceSub, Int.reduceAdd, Int.reduceSub, Int.reduceMul, Int.reduceNeg, Int.reduceLT, Int.reduceLE, Int.reduceEq, Int.reduceToNat, ↓reduceIte, Int.reducePow, Nat.reduceLeDiff, Nat.reduceLT, ne_eq, eq_self, List.length_cons, List.length_nil, p1, p2, hmz] | (with_reducible refine Sx.call_at (f := 161) (fun W hW => g_clean _ _ _ _ _ W) ?_) | (with_reducible refine Sx.call_at (f := 140) (fun W hW => g_sign SI W) ?_) | (with_reducible refine Sx.call_at (f := 189) (fun W hW => g_div am am' (by omega) W) ?_) | (with_reducible refine Sx.call_at (f := 165) (fun W hW => g_wadd1 aq W) ?_) | (with_reducible refine Sx.call_at (f := 167) (fun W hW => g_wsub_me am' ar W) ?_) | (with_reducible refine Sx.call_at (f := 163) (fun W hW => g_signed_me (by assumption) W) ?_) | (with_reducible refine eq_is (fun W => by exact eqm_run _ _ _ _ _ _ _ _ W) ?_) | (with_reducible refine cregF ?_))
      rfl
end Go.Proofs.YtncmmbacoknefaaGreat

/- He: What calls of the reference of wide give. -/
namespace Go.Proofs.YtncmmbacoknefaaGreat
open Go Go.RowKit Sx
set_option linter.unusedVariables false
set_option linter.unusedSimpArgs false
theorem rg_valid (n : Bool) {a b c d : Int} (ha : U64 a) (hb : U64 b) (hc : U64 c) (hd : U64 d) (W : World) : Gives Tryz.prog 100 [WV n a b c d] W (· = .bool (!n || !mz a b c d)) := gives_known en_r02_Valid (rvalid_any n a b c d ha hb hc hd W)
theorem rg_clean (n : Bool) {a b c d : Int} (ha : U64 a) (hb : U64 b) (hc : U64 c) (hd : U64 d) (W : World) : Gives Tryz.prog 109 [WV n a b c d] W (· = WV (cn n a b c d) a b c d) := gives_known en_r02_clean (rclean_any n a b c d ha hb hc hd W)
theorem rg_sign {v : Value} {z : Int} (h : IsW v z) (W : World) : Gives Tryz.prog 104 [v] W (· = .int .i64 (cm z 0)) := by
 obtain ⟨n, a, b, c, d, rfl, rfl, ha, hb, hc, hd⟩ := h
 exact gives_known en_r02_Sign (rsign_any n a b c d ha hb hc hd W)
theorem rg_neg {v : Value} {z : Int} (h : IsW v z) (W : World) : Gives Tryz.prog 117 [v] W (· = WE (-z)) := gives_known en_r02_Neg (rneg_w h W)
theorem rg_add {v v' : Value} {z z' : Int} (h : IsW v z) (h' : IsW v' z') (W : World) : Gives Tryz.prog 51 [v, v'] W (· = .tuple #[WE (cl (z + z')), .bool (fb (z + z'))]) := gives_known en_r02_Add (radd_w h h' W)
theorem rg_mul {v v' : Value} {z z' : Int} (h : IsW v z) (h' : IsW v' z') (W : World) : Gives Tryz.prog 76 [v, v'] W (· = .tuple #[WE (cl (z * z')), .bool (fb (z * z'))]) := gives_known en_r02_Mul (rmul_w h h' W)
theorem rg_sub {v v' : Value} {z z' : Int} (h : IsW v z) (h' : IsW v' z') (W : World) : Gives Tryz.prog 53 [v, v'] W (· = .tuple #[WE (cl (z - z')), .bool (fb (z - z'))]) := gives_known en_r02_Sub (rsub_w h h' W)
theorem rg_Of {v : Int} (h : I64 v) (W : World) : Gives Tryz.prog 50 [.int .i64 v] W (· = WE v) := gives_known en_r02_Of (rOf_any v h W)
theorem rg_OfU {v : Int} (h : U64 v) (W : World) : Gives Tryz.prog 75 [.int .u64 v] W (· = WE v) := by
 refine gives_known en_r02_OfUnsigned ?_
 rw [we_uns v h]
 refine known_of (enter Tryz.func75 r02_OfUnsigned.ok (args := [.int .u64 v]) (by simp) ?_)
 repeat' (first | simp (disch := omega) only [sxE, r02_OfUnsigned.E, Nat.reduceAdd, Nat.reduceEqDiff, Nat.reduceMul, Nat.reduceSub, Int.reduceAdd, Int.reduceSub, Int.reduceMul, Int.reduceNeg, Int.reduceLT, Int.reduceLE, Int.reduceEq, Int.reduceToNat, ↓reduceIte, Int.reducePow, Nat.reduceLeDiff, Nat.reduceLT, ne_eq, eq_self, List.length_cons, List.length_nil] | (with_reducible refine cregF ?_))
theorem of_mag {n : Bool} {m : Int} (h : A4 m) (W : World) : Calls Tryz.prog 110 #[WV n (lb0 m) (lb1 m) (lb2 m) (lb3 m)] W (MagP W m) := by
 have := rof_any n (lb0 m) (lb1 m) (lb2 m) (lb3 m) (lb0_in m) (lb1_in m) (lb2_in m) (lb3_in m) W
 rw [mv_me h] at this
 exact this
theorem cmp_mul {z y : Int} : (cm z 0 ≠ cm y 0 → cm z y = if cm z 0 < cm y 0 then -1 else 1) ∧ (cm z 0 = cm y 0 → cm z y = cm z 0 * cm (ab z) (ab y)) := by
 rw [cm_zero, cm_zero]
 unfold cm ab
 refine ⟨fun h => ?_, fun h => ?_⟩
 all_goals
  repeat' split
  all_goals (repeat' (split at h))
  all_goals omega
set_option maxRecDepth 100000 in
theorem rg_compare {v v' : Value} {z z' : Int} (h : IsW v z) (h' : IsW v' z') (W : World) : Gives Tryz.prog 54 [v, v'] W (· = .int .i64 (cm z z')) := by
 have s1 := fun W => rg_sign h W
 have s2 := fun W => rg_sign h' W
 obtain ⟨k1, k2⟩ := cmp_mul (z := z) (y := z')
 obtain ⟨n, m, rfl, am, hab, -, -⟩ := h.me
 obtain ⟨n', m', rfl, am', hab', -, -⟩ := h'.me
 rw [hab, hab'] at k2
 clear h h' hab hab'
 refine gives_known en_r02_Compare ?_
 have b1 : -1 ≤ cm z 0 ∧ cm z 0 ≤ 1 := by rw [cm_zero]; (repeat' split) <;> omega
 have b2 : -1 ≤ cm z' 0 ∧ cm z' 0 ≤ 1 := by rw [cm_zero]; (repeat' split) <;> omega
 have b3 : -1 ≤ cm m m' ∧ cm m m' ≤ 1 := by unfold cm; (repeat' split) <;> omega
 generalize cm z 0 = p at *
 generalize cm z' 0 = q at *
 generalize cm z z' = r at *
 refine known_of (enter Tryz.func54 r02_Compare.ok (args := [WV n (lb0 m) (lb1 m) (lb2 m) (lb3 m), WV n' (lb0 m') (lb1 m') (lb2 m') (lb3 m')]) (by simp) ?_)
 by_cases hpq : p = q
 ·have hne : (p == q) = true := beq_iff_eq.2 hpq
  repeat' (first | simp (disch := omega) only [sxE, r02_Compare.E, Nat.reduceAdd, Nat.reduceEqDiff, Nat.reduceMul, Nat.reduceSub, Int.reduceAdd, Int.reduceSub, Int.reduceMul, Int.reduceNeg, Int.reduceLT, Int.reduceLE, Int.reduceEq, Int.reduceToNat, ↓reduceIte, Int.reducePow, Nat.reduceLeDiff, Nat.reduceLT, ne_eq, eq_self, List.length_cons, List.length_nil, hne] | (with_reducible refine Sx.call_at (f := 104) (fun W hW => s1 W) ?_) | (with_reducible refine Sx.call_at (f := 104) (fun W hW => s2 W) ?_) | (with_reducible refine cregF ?_))
  refine asks_r (L := []) (ws := wl m) en_r02_of (kX_nil _) (fun W hW _ => of_mag am W) fun a1 c1 hs1 hn1 => ?_
  simp (disch := omega) only [sxE, r02_Compare.E, Nat.reduceAdd, Nat.reduceEqDiff, Nat.reduceMul, Nat.reduceSub, Int.reduceAdd, Int.reduceSub, Int.reduceMul, Int.reduceNeg, Int.reduceLT, Int.reduceLE, Int.reduceEq, Int.reduceToNat, ↓reduceIte, Int.reducePow, Nat.reduceLeDiff, Nat.reduceLT, ne_eq, eq_self, List.length_cons, List.length_nil]
  refine asks_r (L := [.r (.slice a1 (wl m).length c1) (wl m)]) (ws := wl m') en_r02_of rfl (fun W hW _ => of_mag am' W) fun a2 c2 hs2 hn2 => ?_
  simp (disch := omega) only [sxE, r02_Compare.E, Nat.reduceAdd, Nat.reduceEqDiff, Nat.reduceMul, Nat.reduceSub, Int.reduceAdd, Int.reduceSub, Int.reduceMul, Int.reduceNeg, Int.reduceLT, Int.reduceLE, Int.reduceEq, Int.reduceToNat, ↓reduceIte, Int.reducePow, Nat.reduceLeDiff, Nat.reduceLT, ne_eq, eq_self, List.length_cons, List.length_nil]
  refine asks_ext (v := .int .i64 (cm m m')) (fun W hW hok => gives_known en_r02_compare ((rcompare_any _ _ _ _ _ _ _ _ am.1 am'.1 W (hok (.r (.slice a1 (wl m).length c1) (wl m)) (List.mem_cons_of_mem _ List.mem_cons_self)).1 (hok (.r (.slice a2 (wl m').length c2) (wl m')) List.mem_cons_self).1).mono fun e w' ⟨he, d, hd⟩ => ⟨he, by subst hd; exact below_drewN (Below.refl _ _)⟩)) ?_
  have hw : IntKind.i64.wrap (p * cm m m') = r := by
   rw [k2 hpq]
   have p3 : p = -1 ∨ p = 0 ∨ p = 1 := by omega
   have c3 : cm m m' = -1 ∨ cm m m' = 0 ∨ cm m m' = 1 := by omega
   rcases p3 with e | e | e <;> rcases c3 with f | f | f <;> rw [e, f] <;> rfl
  simp (disch := omega) only [sxE, r02_Compare.E, Nat.reduceAdd, Nat.reduceEqDiff, Nat.reduceMul, Nat.reduceSub, Int.reduceAdd, Int.reduceSub, Int.reduceMul, Int.reduceNeg, Int.reduceLT, Int.reduceLE, Int.reduceEq, Int.reduceToNat, ↓reduceIte, Int.reducePow, Nat.reduceLeDiff, Nat.reduceLT, ne_eq, eq_self, List.length_cons, List.length_nil, hw]
 ·have hr := k1 hpq
  by_cases hlt : p < q
  ·rw [if_pos hlt] at hr
   subst hr
   repeat' (first | simp (disch := omega) only [sxE, r02_Compare.E, Nat.reduceAdd, Nat.reduceEqDiff, Nat.reduceMul, Nat.reduceSub, Int.reduceAdd, Int.reduceSub, Int.reduceMul, Int.reduceNeg, Int.reduceLT, Int.reduceLE, Int.reduceEq, Int.reduceToNat, ↓reduceIte, Int.reducePow, Nat.reduceLeDiff, Nat.reduceLT, ne_eq, eq_self, List.length_cons, List.length_nil] | (with_reducible refine Sx.call_at (f := 104) (fun W hW => s1 W) ?_) | (with_reducible refine Sx.call_at (f := 104) (fun W hW => s2 W) ?_) | (with_reducible refine cregF ?_))
  ·rw [if_neg hlt] at hr
   subst hr
   repeat' (first | simp (disch := omega) only [sxE, r02_Compare.E, Nat.reduceAdd, Nat.reduceEqDiff, Nat.reduceMul, Nat.reduceSub, Int.reduceAdd, Int.reduceSub, Int.reduceMul, Int.reduceNeg, Int.reduceLT, Int.reduceLE, Int.reduceEq, Int.reduceToNat, ↓reduceIte, Int.reducePow, Nat.reduceLeDiff, Nat.reduceLT, ne_eq, eq_self, List.length_cons, List.length_nil] | (with_reducible refine Sx.call_at (f := 104) (fun W hW => s1 W) ?_) | (with_reducible refine Sx.call_at (f := 104) (fun W hW => s2 W) ?_) | (with_reducible refine cregF ?_))
end Go.Proofs.YtncmmbacoknefaaGreat

/- Hf: What calls of the reference's DivMod and Unsigned give; the numbers as atoms. -/
namespace Go.Proofs.YtncmmbacoknefaaGreat
open Go Go.RowKit Sx
set_option linter.unusedVariables false
set_option linter.unusedSimpArgs false
theorem g_wide {neg : Bool} {a : Option Addr} {len cap : Nat} {ws : List Int} {W : World} (h : SlU W (.slice a len cap) ws) : Gives Tryz.prog 111 [.bool neg, .slice a len cap] W (· = .tuple #[WE (cl (sv neg (VL ws))), .bool (fb (sv neg (VL ws)))]) :=
 gives_known en_r02_wide (rwide_any neg a len cap ws W h)
theorem ask_wide {C : Cx} {S : St} {K : St → Prop} {d : Option Nat} {L : List Kn} {a : Option Addr} {c : Nat} {t z : Int} {neg : Bool} (hP : C.P = Tryz.prog) (hT : S.T = kX C.w0.heap.size L) (hm : .r (.slice a (wl t).length c) (wl t) ∈ L) (ht : 0 ≤ t) (e : z = sv neg t) (hf : Fits z)
  (hk : K (S.put d (.v (.tuple #[WE z, .bool true])))) : asks C 111 [.bool neg, .slice a (wl t).length c] d K S :=
 asks_ext (v := .tuple #[WE z, .bool true]) (fun W hW hok => by
  rw [hT] at hok
  have := g_wide (neg := neg) (W := W) (hok (.r (.slice a (wl t).length c) (wl t)) hm).1
  rw [VL_wl ht, ← e, cl_fit hf, fb_fit hf] at this
  rw [hP]
  exact this) hk
theorem fits_ediv {z y : Int} (h : Fits z) (hy : y ≠ 0) : Fits (z / y) := by
 refine fits_le h ?_
 rcases Int.lt_or_lt_of_ne hy with h | h
 ·have e : z / y = -(z / -y) := by rw [Int.ediv_neg, Int.neg_neg]
  rw [e, ab_neg]
  exact ab_fdiv_le z (by omega)
 ·exact ab_fdiv_le z h
theorem fits_emod {z y : Int} (h : Fits y) (hy : y ≠ 0) : Fits (z % y) := by
 refine fits_le h ?_
 have h1 := Int.emod_nonneg z hy
 rw [ab_pos h1]
 have h2 := Int.emod_lt z hy
 unfold ab
 split <;> omega
set_option maxRecDepth 100000 in
theorem rg_divmod {v v' : Value} {z y : Int} (h : IsW v z) (h' : IsW v' y) (W0 : World) : Gives Tryz.prog 116 [v, v'] W0 (· = .tuple #[WE (z / y), WE (dr z y), .bool (decide (y ≠ 0))]) := by
  have fz : Fits z := by obtain ⟨n, a, b, c, d, -, rfl, ha, hb, hc, hd⟩ := h; unfold Fits; rw [ab_wv ha hb hc hd]; exact up4_mv ha hb hc hd
  have fy : Fits y := by obtain ⟨n, a, b, c, d, -, rfl, ha, hb, hc, hd⟩ := h'; unfold Fits; rw [ab_wv ha hb hc hd]; exact up4_mv ha hb hc hd
  obtain ⟨n, m, rfl, am, hab, hz, hn⟩ := h.me
  obtain ⟨n', m', rfl, am', hab', hy, hn'⟩ := h'.me
  refine gives_known en_r02_DivMod ?_
  have p1 : cn n (lb0 m) (lb1 m) (lb2 m) (lb3 m) = decide (z < 0) := hn
  have p2 : cn n' (lb0 m') (lb1 m') (lb2 m') (lb3 m') = decide (y < 0) := hn'
  have SI : IsW (WV (decide (y < 0)) (lb0 m') (lb1 m') (lb2 m') (lb3 m')) y := by
    have := IsW.raw (n := cn n' (lb0 m') (lb1 m') (lb2 m') (lb3 m')) (lb0_in m') (lb1_in m') (lb2_in m') (lb3_in m')
    rw [wv_cn, p2] at this
    have e : wv n' (lb0 m') (lb1 m') (lb2 m') (lb3 m') = y := by rw [hy]; unfold wv sv; rw [mv_me am']
    rw [e] at this
    exact this
  clear hz hy hn hn' h h'
  have hcm := cm_zero y
  by_cases hy0 : y = 0
  · have hc0 : cm y 0 = 0 := by subst hy0; rfl
    have e1 : z / y = 0 := by rw [hy0]; exact Int.ediv_zero z
    have e2 : dr z y = 0 := if_pos hy0
    have e3 : decide (y ≠ 0) = false := by simp [hy0]
    rw [e1, e2, e3]
    clear hcm e1 e2 e3 hab hab'
    refine known_of (enter Tryz.func116 r02_DivMod.ok (args := [WV n (lb0 m) (lb1 m) (lb2 m) (lb3 m), WV n' (lb0 m') (lb1 m') (lb2 m') (lb3 m')]) (by simp) ?_)
    repeat' (first | simp (disch := omega) only [sxE, r02_DivMod.E, Nat.reduceAdd, Nat.reduceEqDiff, Nat.reduceMul, Nat.reduceSub, Int.reduceAdd, Int.reduceSub, Int.reduceMul, Int.reduceNeg, Int.reduceLT, Int.reduceLE, Int.reduceEq, Int.reduceToNat, ↓reduceIte, Int.reducePow, Nat.reduceLeDiff, Nat.reduceLT, ne_eq, eq_self, List.length_cons, List.length_nil, p1, p2] | (with_reducible refine Sx.call_at (f := 109) (fun W hW => rg_clean _ (lb0_in _) (lb1_in _) (lb2_in _) (lb3_in _) W) ?_) | (with_reducible refine Sx.call_at (f := 104) (fun W hW => rg_sign SI W) ?_) | (with_reducible refine cregF ?_))
    rfl
  · have hc0 : cm y 0 ≠ 0 := by rw [hcm]; split <;> (try split) <;> omega
    have e3 : decide (y ≠ 0) = true := by simp [hy0]
    have hm' : 0 < m' := by rw [← hab']; unfold ab; split <;> omega
    obtain ⟨D1, D2⟩ := dm_plain (z := z) hy0
    rw [hab, hab'] at D1 D2
    have e2 : dr z y = z % y := if_neg hy0
    rw [e2, e3]
    have ar : A4 (m % m') := ⟨Int.emod_nonneg _ (by omega), by have := Int.emod_lt_of_pos m hm'; have := am'.2; omega⟩
    have aq : A4 (m / m') := ⟨Int.ediv_nonneg am.1 (by omega), by have := Int.ediv_le_self m' am.1; have := am.2; omega⟩
    have q1 := fits_ediv fz hy0
    have q2 := fits_emod (z := z) fy hy0
    generalize hQ : z / y = Q at *
    generalize hR : z % y = R at *
    refine known_of (enter Tryz.func116 r02_DivMod.ok (args := [WV n (lb0 m) (lb1 m) (lb2 m) (lb3 m), WV n' (lb0 m') (lb1 m') (lb2 m') (lb3 m')]) (by simp) ?_)
    repeat' (first | simp (disch := omega) only [sxE, r02_DivMod.E, Nat.reduceAdd, Nat.reduceEqDiff, Nat.reduceMul, Nat.reduceSub, Int.reduceAdd, Int.reduceSub, Int.reduceMul, Int.reduceNeg, Int.reduceLT, Int.reduceLE, Int.reduceEq, Int.reduceToNat, ↓reduceIte, Int.reducePow, Nat.reduceLeDiff, Nat.reduceLT, ne_eq, eq_self, List.length_cons, List.length_nil, p1, p2] | (with_reducible refine Sx.call_at (f := 109) (fun W hW => rg_clean _ (lb0_in _) (lb1_in _) (lb2_in _) (lb3_in _) W) ?_) | (with_reducible refine Sx.call_at (f := 104) (fun W hW => rg_sign SI W) ?_) | (with_reducible refine cregF ?_))
    refine asks_r (L := []) (ws := wl m) en_r02_of (kX_nil _) (fun W hW _ => of_mag am W) fun a1 c1 hs1 hn1 => ?_
    simp (disch := omega) only [sxE, r02_DivMod.E, Nat.reduceAdd, Nat.reduceEqDiff, Nat.reduceMul, Nat.reduceSub, Int.reduceAdd, Int.reduceSub, Int.reduceMul, Int.reduceNeg, Int.reduceLT, Int.reduceLE, Int.reduceEq, Int.reduceToNat, ↓reduceIte, Int.reducePow, Nat.reduceLeDiff, Nat.reduceLT, ne_eq, eq_self, List.length_cons, List.length_nil]
    refine asks_r (L := [.r (.slice a1 (wl m).length c1) (wl m)]) (ws := wl m') en_r02_of rfl (fun W hW _ => of_mag am' W) fun a2 c2 hs2 hn2 => ?_
    simp (disch := omega) only [sxE, r02_DivMod.E, Nat.reduceAdd, Nat.reduceEqDiff, Nat.reduceMul, Nat.reduceSub, Int.reduceAdd, Int.reduceSub, Int.reduceMul, Int.reduceNeg, Int.reduceLT, Int.reduceLE, Int.reduceEq, Int.reduceToNat, ↓reduceIte, Int.reducePow, Nat.reduceLeDiff, Nat.reduceLT, ne_eq, eq_self, List.length_cons, List.length_nil]
    refine asks_r2 (L := [.r (.slice a2 (wl m').length c2) (wl m'), .r (.slice a1 (wl m).length c1) (wl m)]) (ws := wl (m / m')) (vs := wl (m % m')) en_r02_divmod rfl (fun W hW hok => rdivmod_any am am' hm' (hok (.r (.slice a1 (wl m).length c1) (wl m)) (List.mem_cons_of_mem _ List.mem_cons_self)).1 (hok (.r (.slice a2 (wl m').length c2) (wl m')) List.mem_cons_self).1) fun a3 c3 a4 c4 hs3 hs4 => ?_
    clear hn1 hn2 hs1 hs2 hs3 hs4 hcm p1 p2
    have l1 := pw4b ar
    have l2 := pw4b aq
    have l3 := pw4b am'
    have v1 := VL_wl aq.1
    have v2 := VL_wl ar.1
    have hl0 : ((wl (m % m')).length : Int) > 0 ↔ m % m' ≠ 0 := by
      constructor
      · intro h e; rw [e, wl_nil (Int.le_refl _)] at h; simp at h
      · intro h
        have := ar.1
        rw [wl_cons (by omega), List.length_cons]; omega
    by_cases hC : ¬ z < 0 ∨ m % m' = 0
    · obtain ⟨e4, e5⟩ := D1 hC
      clear D1 D2 hab hab' SI e3 hQ hR e2 l1 l2 l3
      have e6 : sv false (m % m') = R := e5.symm
      have hR0 : R = sv false (m % m') := e5
      by_cases hz : z < 0
      · have h0 : m % m' = 0 := by omega
        have hlf : ¬ ((wl (m % m')).length : Int) > 0 := fun h => hl0.1 h h0
        clear hl0 hC
        simp only [decide_eq_true hz]
        repeat' (first | simp (disch := omega) only [sxE, r02_DivMod.E, Nat.reduceAdd, Nat.reduceEqDiff, Nat.reduceMul, Nat.reduceSub, Int.reduceAdd, Int.reduceSub, Int.reduceMul, Int.reduceNeg, Int.reduceLT, Int.reduceLE, Int.reduceEq, Int.reduceToNat, ↓reduceIte, Int.reducePow, Nat.reduceLeDiff, Nat.reduceLT, ne_eq, eq_self, List.length_cons, List.length_nil] | (with_reducible refine cregF ?_))
        refine ask_wide rfl rfl List.mem_cons_self aq.1 (by rw [e4, decide_eq_true hz]; rfl) q1 ?_
        repeat' (first | simp (disch := omega) only [sxE, r02_DivMod.E, Nat.reduceAdd, Nat.reduceEqDiff, Nat.reduceMul, Nat.reduceSub, Int.reduceAdd, Int.reduceSub, Int.reduceMul, Int.reduceNeg, Int.reduceLT, Int.reduceLE, Int.reduceEq, Int.reduceToNat, ↓reduceIte, Int.reducePow, Nat.reduceLeDiff, Nat.reduceLT, ne_eq, eq_self, List.length_cons, List.length_nil] | (with_reducible refine cregF ?_))
        refine ask_wide rfl rfl (List.mem_cons_of_mem _ List.mem_cons_self) ar.1 hR0 q2 ?_
        repeat' (first | simp (disch := omega) only [sxE, r02_DivMod.E, Nat.reduceAdd, Nat.reduceEqDiff, Nat.reduceMul, Nat.reduceSub, Int.reduceAdd, Int.reduceSub, Int.reduceMul, Int.reduceNeg, Int.reduceLT, Int.reduceLE, Int.reduceEq, Int.reduceToNat, ↓reduceIte, Int.reducePow, Nat.reduceLeDiff, Nat.reduceLT, ne_eq, eq_self, List.length_cons, List.length_nil] | (with_reducible refine cregF ?_))
      · clear hl0 hC
        simp only [decide_eq_false hz]
        repeat' (first | simp (disch := omega) only [sxE, r02_DivMod.E, Nat.reduceAdd, Nat.reduceEqDiff, Nat.reduceMul, Nat.reduceSub, Int.reduceAdd, Int.reduceSub, Int.reduceMul, Int.reduceNeg, Int.reduceLT, Int.reduceLE, Int.reduceEq, Int.reduceToNat, ↓reduceIte, Int.reducePow, Nat.reduceLeDiff, Nat.reduceLT, ne_eq, eq_self, List.length_cons, List.length_nil] | (with_reducible refine cregF ?_))
        refine ask_wide rfl rfl List.mem_cons_self aq.1 (by rw [e4, decide_eq_false hz]; rfl) q1 ?_
        repeat' (first | simp (disch := omega) only [sxE, r02_DivMod.E, Nat.reduceAdd, Nat.reduceEqDiff, Nat.reduceMul, Nat.reduceSub, Int.reduceAdd, Int.reduceSub, Int.reduceMul, Int.reduceNeg, Int.reduceLT, Int.reduceLE, Int.reduceEq, Int.reduceToNat, ↓reduceIte, Int.reducePow, Nat.reduceLeDiff, Nat.reduceLT, ne_eq, eq_self, List.length_cons, List.length_nil] | (with_reducible refine cregF ?_))
        refine ask_wide rfl rfl (List.mem_cons_of_mem _ List.mem_cons_self) ar.1 hR0 q2 ?_
        repeat' (first | simp (disch := omega) only [sxE, r02_DivMod.E, Nat.reduceAdd, Nat.reduceEqDiff, Nat.reduceMul, Nat.reduceSub, Int.reduceAdd, Int.reduceSub, Int.reduceMul, Int.reduceNeg, Int.reduceLT, Int.reduceLE, Int.reduceEq, Int.reduceToNat, ↓reduceIte, Int.reducePow, Nat.reduceLeDiff, Nat.reduceLT, ne_eq, eq_self, List.length_cons, List.length_nil] | (with_reducible refine cregF ?_))
    · have hz : z < 0 := by omega
      have h0 : m % m' ≠ 0 := by omega
      obtain ⟨e4, e5⟩ := D2 hz h0
      have hlf : ((wl (m % m')).length : Int) > 0 := hl0.2 h0
      clear D1 D2 hab hab' SI e3 hQ hR e2 hl0 hC
      have hR0 : R = sv false (m' - m % m') := e5
      simp only [decide_eq_true hz]
      repeat' (first | simp (disch := omega) only [sxE, r02_DivMod.E, Nat.reduceAdd, Nat.reduceEqDiff, Nat.reduceMul, Nat.reduceSub, Int.reduceAdd, Int.reduceSub, Int.reduceMul, Int.reduceNeg, Int.reduceLT, Int.reduceLE, Int.reduceEq, Int.reduceToNat, ↓reduceIte, Int.reducePow, Nat.reduceLeDiff, Nat.reduceLT, ne_eq, eq_self, List.length_cons, List.length_nil] | (with_reducible refine cregF ?_))
      have w1 : wl (1 : Int) = [1] := (wl_one (by decide) (by rw [wl_cons (by decide), show (1 : Int) / 18446744073709551616 = 0 by decide, wl_nil (by decide)]; rfl)).1
      have hlt := Int.emod_lt_of_pos m hm'
      have asx : A4 (m' - m % m') := ⟨by omega, by have := ar.1; have := am'.2; omega⟩
      have aq1 : A4 (m / m' + 1) := by
        refine ⟨by have := aq.1; omega, ?_⟩
        have h2 : 2 ≤ m' := by
          rcases Int.lt_or_le m' 2 with h | h
          · exact absurd (show m % m' = 0 by have : m' = 1 := by omega
                                             rw [this]; exact Int.emod_one m) h0
          · exact h
        have := Int.mul_ediv_add_emod m m'
        have h3 := Int.mul_le_mul_of_nonneg_right h2 aq.1
        have := am.2
        have := ar.1
        omega
      refine genA_o (L := [.r (.slice a3 (wl (m / m')).length c3) (wl (m / m')), .r (.slice a4 (wl (m % m')).length c4) (wl (m % m')), .r (.slice a2 (wl m').length c2) (wl m'), .r (.slice a1 (wl m).length c1) (wl m)]) (ws := [1]) rfl (fun W hW _ => gen_one ⟨by decide, by decide⟩ W) fun g5 c5 hn5 => ?_
      clear hn5
      repeat' (first | simp (disch := omega) only [sxE, r02_DivMod.E, Nat.reduceAdd, Nat.reduceEqDiff, Nat.reduceMul, Nat.reduceSub, Int.reduceAdd, Int.reduceSub, Int.reduceMul, Int.reduceNeg, Int.reduceLT, Int.reduceLE, Int.reduceEq, Int.reduceToNat, ↓reduceIte, Int.reducePow, Nat.reduceLeDiff, Nat.reduceLT, ne_eq, eq_self, List.length_cons, List.length_nil] | (with_reducible refine cregF ?_))
      refine asks_r (L := [.o (.slice (some ⟨g5, 0, none⟩) 1 c5) [1], .r (.slice a3 (wl (m / m')).length c3) (wl (m / m')), .r (.slice a4 (wl (m % m')).length c4) (wl (m % m')), .r (.slice a2 (wl m').length c2) (wl m'), .r (.slice a1 (wl m).length c1) (wl m)]) (ws := wl (m / m' + 1)) en_r02_add rfl (fun W hW hok => by
        have h5 : OwnU W W0.heap.size (.slice (some ⟨g5, 0, none⟩) 1 c5) [1] := hok (.o (.slice (some ⟨g5, 0, none⟩) 1 c5) [1]) List.mem_cons_self
        exact radd_any _ _ _ _ _ _ _ _ aq.1 (by decide) (by omega) (by decide) W (hok (.r (.slice a3 (wl (m / m')).length c3) (wl (m / m'))) (List.mem_cons_of_mem _ List.mem_cons_self)).1 (by rw [w1]; exact h5.sl)) fun a6 c6 hs6 hn6 => ?_
      clear hs6 hn6
      repeat' (first | simp (disch := omega) only [sxE, r02_DivMod.E, Nat.reduceAdd, Nat.reduceEqDiff, Nat.reduceMul, Nat.reduceSub, Int.reduceAdd, Int.reduceSub, Int.reduceMul, Int.reduceNeg, Int.reduceLT, Int.reduceLE, Int.reduceEq, Int.reduceToNat, ↓reduceIte, Int.reducePow, Nat.reduceLeDiff, Nat.reduceLT, ne_eq, eq_self, List.length_cons, List.length_nil] | (with_reducible refine cregF ?_))
      refine asks_r (L := [.r (.slice a6 (wl (m / m' + 1)).length c6) (wl (m / m' + 1)), .o (.slice (some ⟨g5, 0, none⟩) 1 c5) [1], .r (.slice a3 (wl (m / m')).length c3) (wl (m / m')), .r (.slice a4 (wl (m % m')).length c4) (wl (m % m')), .r (.slice a2 (wl m').length c2) (wl m'), .r (.slice a1 (wl m).length c1) (wl m)]) (ws := wl m') en_r02_of rfl (fun W hW _ => of_mag am' W) fun a7 c7 hs7 hn7 => ?_
      clear hs7 hn7
      repeat' (first | simp (disch := omega) only [sxE, r02_DivMod.E, Nat.reduceAdd, Nat.reduceEqDiff, Nat.reduceMul, Nat.reduceSub, Int.reduceAdd, Int.reduceSub, Int.reduceMul, Int.reduceNeg, Int.reduceLT, Int.reduceLE, Int.reduceEq, Int.reduceToNat, ↓reduceIte, Int.reducePow, Nat.reduceLeDiff, Nat.reduceLT, ne_eq, eq_self, List.length_cons, List.length_nil] | (with_reducible refine cregF ?_))
      refine asks_r (L := [.r (.slice a7 (wl m').length c7) (wl m'), .r (.slice a6 (wl (m / m' + 1)).length c6) (wl (m / m' + 1)), .o (.slice (some ⟨g5, 0, none⟩) 1 c5) [1], .r (.slice a3 (wl (m / m')).length c3) (wl (m / m')), .r (.slice a4 (wl (m % m')).length c4) (wl (m % m')), .r (.slice a2 (wl m').length c2) (wl m'), .r (.slice a1 (wl m).length c1) (wl m)]) (ws := wl (m' - m % m')) en_r02_sub rfl (fun W hW hok => rsub_any _ _ _ _ _ _ _ _ ar.1 (by omega) (by omega) W (hok (.r (.slice a7 (wl m').length c7) (wl m')) (by simp)).1 (hok (.r (.slice a4 (wl (m % m')).length c4) (wl (m % m'))) (by simp)).1) fun a8 c8 hs8 hn8 => ?_
      clear hs8 hn8
      repeat' (first | simp (disch := omega) only [sxE, r02_DivMod.E, Nat.reduceAdd, Nat.reduceEqDiff, Nat.reduceMul, Nat.reduceSub, Int.reduceAdd, Int.reduceSub, Int.reduceMul, Int.reduceNeg, Int.reduceLT, Int.reduceLE, Int.reduceEq, Int.reduceToNat, ↓reduceIte, Int.reducePow, Nat.reduceLeDiff, Nat.reduceLT, ne_eq, eq_self, List.length_cons, List.length_nil] | (with_reducible refine cregF ?_))
      refine ask_wide rfl rfl (t := m / m' + 1) (by simp) aq1.1 (by rw [e4, decide_eq_true hz]; rfl) q1 ?_
      repeat' (first | simp (disch := omega) only [sxE, r02_DivMod.E, Nat.reduceAdd, Nat.reduceEqDiff, Nat.reduceMul, Nat.reduceSub, Int.reduceAdd, Int.reduceSub, Int.reduceMul, Int.reduceNeg, Int.reduceLT, Int.reduceLE, Int.reduceEq, Int.reduceToNat, ↓reduceIte, Int.reducePow, Nat.reduceLeDiff, Nat.reduceLT, ne_eq, eq_self, List.length_cons, List.length_nil] | (with_reducible refine cregF ?_))
      refine ask_wide rfl rfl (t := m' - m % m') (by simp) asx.1 hR0 q2 ?_
      repeat' (first | simp (disch := omega) only [sxE, r02_DivMod.E, Nat.reduceAdd, Nat.reduceEqDiff, Nat.reduceMul, Nat.reduceSub, Int.reduceAdd, Int.reduceSub, Int.reduceMul, Int.reduceNeg, Int.reduceLT, Int.reduceLE, Int.reduceEq, Int.reduceToNat, ↓reduceIte, Int.reducePow, Nat.reduceLeDiff, Nat.reduceLT, ne_eq, eq_self, List.length_cons, List.length_nil] | (with_reducible refine cregF ?_))
def unb (z : Int) : Bool := decide (0 ≤ z ∧ z < 18446744073709551616)
def unv (z : Int) : Int := if unb z then z else 0
theorem ab_of_sv {n : Bool} {m z : Int} (h : ab z = m) : (decide (z < 0) = true → z = -m) ∧ (decide (z < 0) = false → z = m) := by
 unfold ab at h
 constructor
 ·intro h2; rw [if_pos (of_decide_eq_true h2)] at h; omega
 ·intro h2; rw [if_neg (of_decide_eq_false h2)] at h; exact h
theorem rg_unsigned {v : Value} {z : Int} (h : IsW v z) (W : World) : Gives Tryz.prog 153 [v] W (· = .tuple #[.int .u64 (unv z), .bool (unb z)]) := by
 obtain ⟨n, m, rfl, am, hab, hz, hn⟩ := h.me
 refine gives_known en_r02_Unsigned ?_
 have p1 : cn n (lb0 m) (lb1 m) (lb2 m) (lb3 m) = decide (z < 0) := hn
 obtain ⟨k1, k2⟩ := ab_of_sv (n := n) hab
 have hl : ¬ 1 < ((wl m).length : Int) ↔ m < 18446744073709551616 := by
  have := wl_len_lt am.1 1
  have e : ((18446744073709551616 : Int) ^ 1) = 18446744073709551616 := by decide
  have e2 : (pw 1 : Int) = 18446744073709551616 := rfl
  rw [e2] at this
  omega
 clear h hn hz hab
 refine known_of (enter Tryz.func153 r02_Unsigned.ok (args := [WV n (lb0 m) (lb1 m) (lb2 m) (lb3 m)]) (by simp) ?_)
 repeat' (first | simp (disch := omega) only [sxE, r02_Unsigned.E, Nat.reduceAdd, Nat.reduceEqDiff, Nat.reduceMul, Nat.reduceSub, Int.reduceAdd, Int.reduceSub, Int.reduceMul, Int.reduceNeg, Int.reduceLT, Int.reduceLE, Int.reduceEq, Int.reduceToNat, ↓reduceIte, Int.reducePow, Nat.reduceLeDiff, Nat.reduceLT, ne_eq, eq_self, List.length_cons, List.length_nil, p1] | (with_reducible refine Sx.call_at (f := 109) (fun W hW => rg_clean _ (lb0_in _) (lb1_in _) (lb2_in _) (lb3_in _) W) ?_) | (with_reducible refine cregF ?_))
 refine asks_r (L := []) (ws := wl m) en_r02_of (kX_nil _) (fun W hW _ => of_mag am W) fun a1 c1 hs1 hn1 => ?_
 clear hs1 hn1
 by_cases hneg : z < 0
 ·have u1 : unb z = false := decide_eq_false (by omega)
  have u2 : unv z = 0 := by unfold unv; rw [u1]; rfl
  rw [u1, u2, decide_eq_true hneg]
  repeat' (first | simp (disch := omega) only [sxE, r02_Unsigned.E, Nat.reduceAdd, Nat.reduceEqDiff, Nat.reduceMul, Nat.reduceSub, Int.reduceAdd, Int.reduceSub, Int.reduceMul, Int.reduceNeg, Int.reduceLT, Int.reduceLE, Int.reduceEq, Int.reduceToNat, ↓reduceIte, Int.reducePow, Nat.reduceLeDiff, Nat.reduceLT, ne_eq, eq_self, List.length_cons, List.length_nil] | (with_reducible refine cregF ?_))
 ·have hzm := k2 (decide_eq_false hneg)
  rw [decide_eq_false hneg]
  by_cases hlt : m < 18446744073709551616
  ·have u1 : unb z = true := decide_eq_true (by have := am.1; omega)
   have u2 : unv z = m := by unfold unv; rw [u1]; exact hzm
   have u3 : lb0 m = m := Int.emod_eq_of_lt am.1 hlt
   have u4 := hl.2 hlt
   rw [u1, u2, u3]
   clear hl k1 k2 u1 u2 u3 p1 hneg hzm
   repeat' (first | simp (disch := omega) only [sxE, r02_Unsigned.E, Nat.reduceAdd, Nat.reduceEqDiff, Nat.reduceMul, Nat.reduceSub, Int.reduceAdd, Int.reduceSub, Int.reduceMul, Int.reduceNeg, Int.reduceLT, Int.reduceLE, Int.reduceEq, Int.reduceToNat, ↓reduceIte, Int.reducePow, Nat.reduceLeDiff, Nat.reduceLT, ne_eq, eq_self, List.length_cons, List.length_nil] | (with_reducible refine cregF ?_))
  ·have u1 : unb z = false := decide_eq_false (by omega)
   have u2 : unv z = 0 := by unfold unv; rw [u1]; rfl
   have u4 : 1 < ((wl m).length : Int) := by omega
   rw [u1, u2]
   clear hl k1 k2 u1 u2 p1 hneg hzm
   repeat' (first | simp (disch := omega) only [sxE, r02_Unsigned.E, Nat.reduceAdd, Nat.reduceEqDiff, Nat.reduceMul, Nat.reduceSub, Int.reduceAdd, Int.reduceSub, Int.reduceMul, Int.reduceNeg, Int.reduceLT, Int.reduceLE, Int.reduceEq, Int.reduceToNat, ↓reduceIte, Int.reducePow, Nat.reduceLeDiff, Nat.reduceLT, ne_eq, eq_self, List.length_cons, List.length_nil] | (with_reducible refine cregF ?_))
end Go.Proofs.YtncmmbacoknefaaGreat

/- Hg: What calls of wide and of its reference give, on integers as atoms. -/
namespace Go.Proofs.YtncmmbacoknefaaGreat
open Go Go.RowKit Sx
set_option linter.unusedVariables false
set_option linter.unusedSimpArgs false
theorem Fits.is {z : Int} (h : Fits z) : IsW (WX z) z := IsW.x h
theorem nz_is : IsW NZ 0 := ⟨true, 0, 0, 0, 0, rfl, rfl, ⟨by decide, by decide⟩, ⟨by decide, by decide⟩, ⟨by decide, by decide⟩, ⟨by decide, by decide⟩⟩
theorem valid_wx {z : Int} (h : Fits z) : (!sg z || !mz (lb0 (ab z)) (lb1 (ab z)) (lb2 (ab z)) (lb3 (ab z))) = true := by
 have a4 : A4 (ab z) := ⟨ab_nonneg z, (fits_lt z).1 h⟩
 rw [mz_me a4]
 unfold sg ab
 by_cases hz : z < 0
 ·rw [decide_eq_true hz, if_pos hz, decide_eq_false (by omega)]; rfl
 ·rw [decide_eq_false hz]; rfl
theorem tup2 {a b c d : Value} (h : a = c) (h' : b = d) : Value.tuple #[a, b] = Value.tuple #[c, d] := by rw [h, h']
theorem tup3 {a b c a' b' c' : Value} (h : a = a') (h1 : b = b') (h2 : c = c') : Value.tuple #[a, b, c] = Value.tuple #[a', b', c'] := by rw [h, h1, h2]
theorem gives_eq {P : Program} {f : FuncId} {l : List Value} {W : World} {u v : Value} (h : Gives P f l W (· = u)) (e : u = v) : Gives P f l W (· = v) := by subst e; exact h
theorem gx_valid {z : Int} (h : Fits z) (W : World) : Gives Tryz.prog 176 [WX z] W (· = .bool true) := gives_eq (g_valid _ _ _ _ _ W) (congrArg Value.bool (valid_wx h))
theorem gx_valid0 (W : World) : Gives Tryz.prog 176 [NZ] W (· = .bool false) := g_valid true 0 0 0 0 W
theorem rx_valid {z : Int} (h : Fits z) (W : World) : Gives Tryz.prog 100 [WX z] W (· = .bool true) := gives_eq (rg_valid _ (lb0_in _) (lb1_in _) (lb2_in _) (lb3_in _) W) (congrArg Value.bool (valid_wx h))
theorem rx_valid0 (W : World) : Gives Tryz.prog 100 [NZ] W (· = .bool false) := rg_valid true ⟨by decide, by decide⟩ ⟨by decide, by decide⟩ ⟨by decide, by decide⟩ ⟨by decide, by decide⟩ W
theorem gx_add {x y : Int} (h : Fits x) (h' : Fits y) (hf : Fits (x + y)) (W : World) : Gives Tryz.prog 137 [WX x, WX y] W (· = .tuple #[WX (x + y), .bool true]) := gives_eq (g_add h.is h'.is W) (tup2 (by rw [cl_fit hf]; rfl) (by rw [fb_fit hf]))
theorem gx_mul {x y : Int} (h : Fits x) (h' : Fits y) (hf : Fits (x * y)) (W : World) : Gives Tryz.prog 126 [WX x, WX y] W (· = .tuple #[WX (x * y), .bool true]) := gives_eq (g_mul h.is h'.is W) (tup2 (by rw [cl_fit hf]; rfl) (by rw [fb_fit hf]))
theorem gx_neg {x : Int} (h : Fits x) (W : World) : Gives Tryz.prog 190 [WX x] W (· = WX (-x)) := g_neg h.is W
theorem gx_sign {x : Int} (h : Fits x) (W : World) : Gives Tryz.prog 140 [WX x] W (· = .int .i64 (cm x 0)) := g_sign h.is W
theorem gx_of {x : Int} (h : I64 x) (W : World) : Gives Tryz.prog 81 [.int .i64 x] W (· = WX x) := g_of h W
theorem gx_ofU {x : Int} (h : U64 x) (W : World) : Gives Tryz.prog 170 [.int .u64 x] W (· = WX x) := g_ofU h W
theorem gx_compare {x y : Int} (h : Fits x) (h' : Fits y) (W : World) : Gives Tryz.prog 193 [WX x, WX y] W (· = .int .i64 (cm x y)) := g_compare h.is h'.is W
theorem gx_divmod {x y : Int} (h : Fits x) (h' : Fits y) (hy : y ≠ 0) (W : World) : Gives Tryz.prog 171 [WX x, WX y] W (· = .tuple #[WX (x / y), WX (x % y), .bool true]) := gives_eq (g_divmod h.is h'.is W) (tup3 rfl (by unfold dr; rw [if_neg hy]; rfl) (by rw [decide_eq_true hy]))
theorem rx_add {x y : Int} (h : Fits x) (h' : Fits y) (hf : Fits (x + y)) (W : World) : Gives Tryz.prog 51 [WX x, WX y] W (· = .tuple #[WX (x + y), .bool true]) := gives_eq (rg_add h.is h'.is W) (tup2 (by rw [cl_fit hf]; rfl) (by rw [fb_fit hf]))
theorem rx_sub {x y : Int} (h : Fits x) (h' : Fits y) (hf : Fits (x - y)) (W : World) : Gives Tryz.prog 53 [WX x, WX y] W (· = .tuple #[WX (x - y), .bool true]) := gives_eq (rg_sub h.is h'.is W) (tup2 (by rw [cl_fit hf]; rfl) (by rw [fb_fit hf]))
theorem rx_mul {x y : Int} (h : Fits x) (h' : Fits y) (hf : Fits (x * y)) (W : World) : Gives Tryz.prog 76 [WX x, WX y] W (· = .tuple #[WX (x * y), .bool true]) := gives_eq (rg_mul h.is h'.is W) (tup2 (by rw [cl_fit hf]; rfl) (by rw [fb_fit hf]))
theorem rx_neg {x : Int} (h : Fits x) (W : World) : Gives Tryz.prog 117 [WX x] W (· = WX (-x)) := rg_neg h.is W
theorem rx_sign {x : Int} (h : Fits x) (W : World) : Gives Tryz.prog 104 [WX x] W (· = .int .i64 (cm x 0)) := rg_sign h.is W
theorem rx_of {x : Int} (h : I64 x) (W : World) : Gives Tryz.prog 50 [.int .i64 x] W (· = WX x) := rg_Of h W
theorem rx_ofU {x : Int} (h : U64 x) (W : World) : Gives Tryz.prog 75 [.int .u64 x] W (· = WX x) := rg_OfU h W
theorem rx_compare {x y : Int} (h : Fits x) (h' : Fits y) (W : World) : Gives Tryz.prog 54 [WX x, WX y] W (· = .int .i64 (cm x y)) := rg_compare h.is h'.is W
theorem rx_divmod {x y : Int} (h : Fits x) (h' : Fits y) (hy : y ≠ 0) (W : World) : Gives Tryz.prog 116 [WX x, WX y] W (· = .tuple #[WX (x / y), WX (x % y), .bool true]) := gives_eq (rg_divmod h.is h'.is W) (tup3 rfl (by unfold dr; rw [if_neg hy]; rfl) (by rw [decide_eq_true hy]))
theorem rx_unsigned {z : Int} (h : Fits z) (W : World) : Gives Tryz.prog 153 [WX z] W (· = .tuple #[.int .u64 (unv z), .bool (unb z)]) := rg_unsigned h.is W
theorem we_inj {x y : Int} (h : Fits x) (h' : Fits y) : weq (sg x) (lb0 (ab x)) (lb1 (ab x)) (lb2 (ab x)) (lb3 (ab x)) (sg y) (lb0 (ab y)) (lb1 (ab y)) (lb2 (ab y)) (lb3 (ab y)) = decide (x = y) := by
 rw [Bool.eq_iff_iff, decide_eq_true_iff]
 constructor
 ·intro e
  have e' : sg x = sg y ∧ lb0 (ab x) = lb0 (ab y) ∧ lb1 (ab x) = lb1 (ab y) ∧ lb2 (ab x) = lb2 (ab y) ∧ lb3 (ab x) = lb3 (ab y) := by simpa [weq, meq] using e
  obtain ⟨e0, e1, e2, e3, e4⟩ := e'
  have m1 := mv_me (z := ab x) ⟨ab_nonneg x, (fits_lt x).1 h⟩
  have m2 := mv_me (z := ab y) ⟨ab_nonneg y, (fits_lt y).1 h'⟩
  rw [e1, e2, e3, e4, m2] at m1
  unfold sg at e0
  have e0' : (x < 0) ↔ (y < 0) := by simpa using e0
  unfold ab at m1
  (repeat' (split at m1)) <;> omega
 ·rintro rfl
  unfold weq meq; simp
theorem eqx_run {ng : Bool} {xo yo : Operand} {x y : Int} (h : Fits x) (h' : Fits y) (W : World) :
  ((do eqGuard (if ng then .neq else .eql) 37 xo yo (WX x) (WX y); binOp (if ng then .neq else .eql) 37 (WX x) (WX y)) : Sem Value).run Tryz.prog W = .ok (.bool (if ng then !decide (x = y) else decide (x = y))) W := by
 have := eqw_run (ng := ng) (xo := xo) (yo := yo) (sg x) (lb0 (ab x)) (lb1 (ab x)) (lb2 (ab x)) (lb3 (ab x)) (sg y) (lb0 (ab y)) (lb1 (ab y)) (lb2 (ab y)) (lb3 (ab y)) W
 rw [we_inj h h'] at this
 exact this
def RW (v : Value) (b : Bool) (z : Int) : Prop := (b = true ∧ v = WX z ∧ Fits z) ∨ (b = false ∧ v = NZ ∧ z = 0)
theorem RW.five {v : Value} {b : Bool} {z : Int} (h : RW v b z) : ∃ c0 c1 c2 c3 c4, v = .agg #[c0, c1, c2, c3, c4] := by
 rcases h with ⟨-, rfl, -⟩ | ⟨-, rfl, -⟩ <;> exact ⟨_, _, _, _, _, rfl⟩
theorem RW.is {v : Value} {b : Bool} {z : Int} (h : RW v b z) : IsW v z := by
 rcases h with ⟨-, rfl, h⟩ | ⟨-, rfl, rfl⟩
 ·exact h.is
 ·exact nz_is
theorem RW.fits {v : Value} {b : Bool} {z : Int} (h : RW v b z) : Fits z := by
 rcases h with ⟨-, rfl, h⟩ | ⟨-, rfl, rfl⟩
 ·exact h
 ·exact fits_zero
theorem Fits.rw {z : Int} (h : Fits z) : RW (WX z) true z := .inl ⟨rfl, rfl, h⟩
theorem gy_valid {v : Value} {b : Bool} {z : Int} (h : RW v b z) (W : World) : Gives Tryz.prog 176 [v] W (· = .bool b) := by
 rcases h with ⟨rfl, rfl, h⟩ | ⟨rfl, rfl, rfl⟩
 ·exact gx_valid h W
 ·exact gx_valid0 W
theorem ry_valid {v : Value} {b : Bool} {z : Int} (h : RW v b z) (W : World) : Gives Tryz.prog 100 [v] W (· = .bool b) := by
 rcases h with ⟨rfl, rfl, h⟩ | ⟨rfl, rfl, rfl⟩
 ·exact rx_valid h W
 ·exact rx_valid0 W
end Go.Proofs.YtncmmbacoknefaaGreat

/- CdR: MADE BY PROGRAM (sxgen.py): the small code of some functions, points of it and their equations. -/
namespace Go.Proofs.YtncmmbacoknefaaGreat
open Go Go.RowKit Sx Sx.Q
set_option linter.unusedVariables false
variable (C : Cx) (R L1 L2 L3 L4 : St → Prop)
namespace ratio_Compare
abbrev q0 := [2, 3]
abbrev r0 : List G := [e 2 (.box true 10 (t 0)), e 3 (.box true 10 (t 1)), Mi 4 0]
abbrev r1 : List G := [L 5 10 2, k1 6 168 5, L 7 10 3, k1 8 168 7]
abbrev t1 : List G := [V 10 2 6, V 10 3 8]
abbrev r2 : List G := [a 9 0 2, L 10 5 9, a 11 5 3, L 12 5 11, k2 13 169 10 12, a 14 0 3, L 15 5 14, a 16 5 2, L 17 5 16, k2 18 169 15 17, k2 19 193 13 18]
abbrev t2 : List G := [m 4 19]
abbrev c : MC := sq [g r0 q0, gd r1 t1 q0, gd r2 t2 [4], .ret]
theorem ok : compF Tryz.prog Tryz.f179 (an (rg 3) c [(1, 4, [], (up 4), []), (2, 11, [], (up 11), [])]) = some (20, c, [(4, none)]) := by kernel_rfl
abbrev p1 := Pd C r2 t2 [4] R
abbrev p2 := Pd C r1 t1 q0 (p1 C R)
abbrev p3 := P C r0 q0 (p2 C R)
theorem s (S : St) : X C c (retK R) S = p3 C R S := by kernel_rfl
theorem E : type_of% @s := @s
end ratio_Compare
namespace ratio_Make
abbrev q0 := [2, 3, 4]
abbrev r0 : List G := [e 2 (.box true 5 (t 0)), e 3 (.box true 5 (t 1)), e 4 (.new zR), Mb 5 false]
abbrev q1 := [2, 3, 4, 25]
abbrev r1 : List G := [L 13 5 2, K1 14 176 13, e 15 (.un .not (t 14)), m 16 15, n 17 16 (.ld true 5 (t 3)), n 18 16 (.call false 176 [(t 17)]), n 19 16 (.un .not (t 18)), o 20 16 19, m 21 20, n 22 21 (.ld true 5 (t 3)), n 23 21 (.call false 140 [(t 22)]), n 24 21 (.bin .eql (t 23) (i 0)), o 25 21 24]
abbrev q2 := [4, 5]
abbrev r2 : List G := [e 26 (.bd zR []), V 10 4 26, Mb 5 false]
abbrev q3 := [2, 3, 4, 28]
abbrev r3 : List G := [a 27 0 3, l 28 27]
abbrev r4 : List G := [L 29 5 2, k1 30 190 29, L 31 5 3, k1 32 190 31]
abbrev t4 : List G := [V 5 2 30, V 5 3 32]
abbrev q4 := [2, 3, 4, 6]
abbrev r5 : List G := [L 33 5 2, L 34 5 3, K2 35 191 33 34, e 6 (.new zW), V 5 6 35]
abbrev q5 := [3, 4, 6, 7]
abbrev r6 : List G := [L 37 5 2, L 38 5 6, K2 39 171 37 38, m 36 39, x 40 36 0, x 41 36 1, x 42 36 2, e 7 (.new zW), e 8 (.new zW), V 5 7 40, V 5 8 41, m 9 42]
abbrev q6 := [4, 7, 10]
abbrev r7 : List G := [L 44 5 3, L 45 5 6, K2 46 171 44 45, m 43 46, x 47 43 0, x 48 43 1, x 49 43 2, e 10 (.new zW), e 11 (.new zW), V 5 10 47, V 5 11 48, m 12 49]
abbrev q7 := [4, 7, 10, 57]
abbrev r8 : List G := [L 50 5 7, K1 51 192 50, e 52 (.un .not (t 51)), m 53 52, n 54 53 (.ld true 5 (t 10)), n 55 53 (.call false 192 [(t 54)]), n 56 53 (.un .not (t 55)), o 57 53 56]
abbrev r9 : List G := [e 58 (.bd zR []), V 10 4 58, Mb 5 false]
abbrev r10 : List G := [L 59 5 7, L 60 5 10, e 61 (.bd zR [(0, 5, (t 59)), (5, 5, (t 60))]), V 10 4 61, Mb 5 true]
abbrev c : MC := sq [g r0 q0, sq [g r1 q1, ci 25 (sq [g r2 q2, .ret]) .skip], sq [g r3 q3, ci 28 (gd r4 t4 q0) .skip], g r5 q4, g r6 q5, g r7 q6, sq [g r8 q7, ci 57 (sq [g r9 q2, .ret]) .skip], g r10 q2, .ret]
theorem ok : compF Tryz.prog Tryz.f178 (an (rg 11) c [(4, 4, [], (up 4), [])]) = some (62, c, [(4, some (true, 10)), (5, none)]) := by kernel_rfl
abbrev p1 := P C r10 q2 R
abbrev p3 := P C r9 q2 R
abbrev p2 := cd (t 57) (p3 C R) (p1 C R)
abbrev p4 := P C r8 q7 (p2 C R)
abbrev p5 := P C r7 q6 (p4 C R)
abbrev p6 := P C r6 q5 (p5 C R)
abbrev p7 := P C r5 q4 (p6 C R)
abbrev p9 := Pd C r4 t4 q0 (p7 C R)
abbrev p8 := cd (t 28) (p9 C R) (p7 C R)
abbrev p10 := P C r3 q3 (p8 C R)
abbrev p12 := P C r2 q2 R
abbrev p11 := cd (t 25) (p12 C R) (p10 C R)
abbrev p13 := P C r1 q1 (p11 C R)
abbrev p14 := P C r0 q0 (p13 C R)
theorem s (S : St) : X C c (retK R) S = p14 C R S := by kernel_rfl
theorem E : type_of% @s := @s
end ratio_Make
namespace ratio_Of
abbrev q0 := [0, 2]
abbrev r0 : List G := [e 2 (.new zR)]
abbrev r1 : List G := [m 3 0, K1 4 81 3, e 5 (.call false 81 [(i 1)]), e 6 (.bd zR [(0, 5, (t 4)), (5, 5, (t 5))]), V 10 2 6]
abbrev c : MC := sq [g r0 q0, g r1 [2], .ret]
theorem ok : compF Tryz.prog Tryz.f180 (an (rg 2) c []) = some (7, c, [(2, some (true, 10))]) := by kernel_rfl
abbrev p1 := P C r1 [2] R
abbrev p2 := P C r0 q0 (p1 C R)
theorem s (S : St) : X C c (retK R) S = p2 C R S := by kernel_rfl
theorem E : type_of% @s := @s
end ratio_Of
namespace ratio_Valid
abbrev r0 : List G := [e 1 (.box true 10 (t 0)), Mb 2 false]
abbrev r1 : List G := [a 3 0 1, L 4 5 3, K1 5 176 4, m 6 5, ya 7 6 5 1, y 8 6 (.ld true 5 (t 7)), y 9 6 (.call false 176 [(t 8)]), w 10 6 9, m 11 10, ya 12 11 5 1, y 13 11 (.ld true 5 (t 12)), y 14 11 (.call false 140 [(t 13)]), y 15 11 (.bin .gtr (t 14) (i 0)), w 16 11 15, m 17 16, ya 18 17 0 1, y 19 17 (.ld true 5 (t 18)), y 20 17 (.call false 192 [(t 19)]), w 21 17 20, m 22 21, ya 23 22 5 1, y 24 22 (.ld true 5 (t 23)), y 25 22 (.call false 192 [(t 24)]), w 26 22 25, m 27 26, ya 28 27 0 1, y 29 27 (.ld true 5 (t 28)), ya 30 27 5 1, y 31 27 (.ld true 5 (t 30)), y 32 27 (.call false 191 [(t 29), (t 31)]), y 33 27 (.call false 81 [(i 1)]), y 34 27 (.eqg false 37 (t 32) (t 33)), w 35 27 34, m 2 35]
abbrev c : MC := sq [g r0 [1], g r1 [2], .ret]
theorem ok : compF Tryz.prog Tryz.f186 (an (rg 2) c []) = some (36, c, [(2, none)]) := by kernel_rfl
abbrev p1 := P C r1 [2] R
abbrev p2 := P C r0 [1] (p1 C R)
theorem s (S : St) : X C c (retK R) S = p2 C R S := by kernel_rfl
theorem E : type_of% @s := @s
end ratio_Valid
namespace ratio_clean
abbrev q0 := [1, 2]
abbrev r0 : List G := [e 1 (.box true 10 (t 0)), e 2 (.new zR)]
abbrev q1 := [1, 2, 5]
abbrev r1 : List G := [L 3 10 1, K1 4 186 3, e 5 (.un .not (t 4))]
abbrev r2 : List G := [e 6 (.call false 180 [(i 0)]), V 10 2 6]
abbrev r3 : List G := [L 7 10 1, V 10 2 7]
abbrev c : MC := sq [g r0 q0, sq [g r1 q1, ci 5 (sq [g r2 [2], .ret]) .skip], g r3 [2], .ret]
theorem ok : compF Tryz.prog Tryz.f168 (an (rg 4) c []) = some (8, c, [(2, some (true, 10))]) := by kernel_rfl
abbrev p1 := P C r3 [2] R
abbrev p3 := P C r2 [2] R
abbrev p2 := cd (t 5) (p3 C R) (p1 C R)
abbrev p4 := P C r1 q1 (p2 C R)
abbrev p5 := P C r0 q0 (p4 C R)
theorem s (S : St) : X C c (retK R) S = p5 C R S := by kernel_rfl
theorem E : type_of% @s := @s
end ratio_clean
namespace ratio_divisor
abbrev q0 := [2, 3, 4]
abbrev r0 : List G := [e 2 (.box true 5 (t 0)), e 3 (.box true 5 (t 1)), e 4 (.new zW)]
abbrev r1 : List G := [a 8 0 2, z (.st false 1 (t 8) bf), a 9 0 3, z (.st false 1 (t 9) bf)]
abbrev q1 := [2, 3, 4, 12]
abbrev r2 : List G := [L 10 5 3, K1 11 140 10, bi 12 .neq 11 0]
abbrev q2 := [2, 3, 4, 6]
abbrev r3 : List G := [L 14 5 2, L 15 5 3, K2 16 171 14 15, m 13 16, x 17 13 0, x 18 13 1, x 19 13 2, e 5 (.new zW), e 6 (.new zW), V 5 5 17, V 5 6 18, m 7 19]
abbrev o4 : List (List G) := [[L 20 5 3, L 21 5 6, V 5 2 20, V 5 3 21], [L 20 5 3, V 5 2 20, L 21 5 6, V 5 3 21], [L 21 5 6, L 20 5 3, V 5 2 20, V 5 3 21]]
abbrev r5 : List G := [L 22 5 2, V 5 4 22]
abbrev c : MC := sq [g r0 q0, g r1 q0, .block 0 (.loop (sq [sq [g r2 q1, ci 12 .skip (.exit 0)], .block 1 (sq [g r3 q2, ga [] o4 q0])])), g r5 [4], .ret]
theorem ok : compF Tryz.prog Tryz.f191 (an (rg 6) c [(4, 99999, [], [], [])]) = some (23, c, [(4, some (true, 5))]) := by kernel_rfl
abbrev p1 := P C r5 [4] R
abbrev p3 := Pa C [] o4 q0 L1
abbrev p4 := P C r3 q2 (p3 C L1)
abbrev p5 := cd (t 12) (p4 C L1) (p1 C R)
abbrev p6 := P C r2 q1 (p5 C R L1)
def p2 (S : St) : Prop := LX C (fun L1 => (p6 C R L1)) S
theorem p2_l (S : St) : p2 C R S = LX C (fun L1 => (p6 C R L1)) S := rfl
abbrev p7 := P C r1 q0 (p2 C R)
abbrev p8 := P C r0 q0 (p7 C R)
theorem s (S : St) : X C c (retK R) S = p8 C R S := by kernel_rfl
theorem E : type_of% @s := @s
end ratio_divisor
namespace ratio_product
abbrev q0 := [2, 3, 4]
abbrev r0 : List G := [e 2 (.box true 5 (t 0)), e 3 (.box true 5 (t 1)), e 4 (.new zW)]
abbrev q1 := [4, 5]
abbrev r1 : List G := [L 8 5 2, L 9 5 3, K2 10 126 8 9, m 7 10, x 11 7 0, x 12 7 1, e 5 (.new zW), V 5 5 11, m 6 12]
abbrev r2 : List G := [L 13 5 5, V 5 4 13]
abbrev c : MC := sq [g r0 q0, g r1 q1, g r2 [4], .ret]
theorem ok : compF Tryz.prog Tryz.f169 (an (rg 3) c []) = some (14, c, [(4, some (true, 5))]) := by kernel_rfl
abbrev p1 := P C r2 [4] R
abbrev p2 := P C r1 q1 (p1 C R)
abbrev p3 := P C r0 q0 (p2 C R)
theorem s (S : St) : X C c (retK R) S = p3 C R S := by kernel_rfl
theorem E : type_of% @s := @s
end ratio_product
namespace ratio_small
abbrev r0 : List G := [e 1 (.box true 5 (t 0)), Mb 2 false]
abbrev r1 : List G := [a 3 1 1, e 4 (.ia 4 1 (t 3) (i 3)), l 5 4, bu 6 .eql 5 0, m 7 6, ya 8 7 1 1, y 9 7 (.ia 4 1 (t 8) (i 2)), yl 10 7 9, y 11 7 (.bin .eql (t 10) (u 0)), w 12 7 11, m 13 12, ya 14 13 1 1, y 15 13 (.ia 4 1 (t 14) (i 1)), yl 16 13 15, y 17 13 (.bin .shr (t 16) (u 63)), y 18 13 (.bin .eql (t 17) (u 0)), w 19 13 18, m 2 19]
abbrev c : MC := sq [g r0 [1], g r1 [2], .ret]
theorem ok : compF Tryz.prog Tryz.f192 (an (rg 2) c []) = some (20, c, [(2, none)]) := by kernel_rfl
abbrev p1 := P C r1 [2] R
abbrev p2 := P C r0 [1] (p1 C R)
theorem s (S : St) : X C c (retK R) S = p2 C R S := by kernel_rfl
theorem E : type_of% @s := @s
end ratio_small
end Go.Proofs.YtncmmbacoknefaaGreat

/- Qa: What calls of the program's ratio give. -/
namespace Go.Proofs.YtncmmbacoknefaaGreat
open Go Go.RowKit Sx
set_option linter.unusedVariables false
set_option linter.unusedSimpArgs false
theorem small_plain {m : Int} (h : A4 m) : m < ((2 ^ 127 : Nat) : Int) ↔ lb3 m = 0 ∧ lb2 m = 0 ∧ (lb1 m).fdiv 9223372036854775808 = 0 := by
 have e := mv_me h
 have h0 := lb0_in m
 have h1 := lb1_in m
 have h2 := lb2_in m
 have h3 := lb3_in m
 rw [Int.fdiv_eq_ediv_of_nonneg _ (by decide)]
 rw [show ((2 ^ 127 : Nat) : Int) = 170141183460469231731687303715884105728 by decide]
 unfold MV at e
 unfold U64 at *
 generalize lb0 m = a at *
 generalize lb1 m = b at *
 generalize lb2 m = c at *
 generalize lb3 m = d at *
 clear h
 omega
theorem gx_small {z : Int} (h : Fits z) (W : World) : Gives Tryz.prog 192 [WX z] W (· = .bool (decide (ab z < ((2 ^ 127 : Nat) : Int)))) := by
 have e := small_plain (m := ab z) ⟨ab_nonneg z, (fits_lt z).1 h⟩
 have hb := lb1_in (ab z)
 have sh : ∀ a : Int, Int.fdiv a (2 ^ 63) = a.fdiv 9223372036854775808 := fun a => rfl
 refine gives_known en_ratio_small ?_
 rw [show decide (ab z < ((2 ^ 127 : Nat) : Int)) = (decide (lb3 (ab z) = 0) && (decide (lb2 (ab z) = 0) && decide ((lb1 (ab z)).fdiv 9223372036854775808 = 0))) by rw [Bool.eq_iff_iff, decide_eq_true_iff, e]; simp]
 clear e h
 refine known_of (enter Tryz.func192 ratio_small.ok (args := [WX z]) (by simp) ?_)
 repeat' (first | simp (disch := omega) only [sxE, ratio_small.E, Nat.reduceAdd, Nat.reduceEqDiff, Nat.reduceMul, Nat.reduceSub, Int.reduceAdd, Int.reduceSub, Int.reduceMul, Int.reduceNeg, Int.reduceLT, Int.reduceLE, Int.reduceEq, Int.reduceToNat, ↓reduceIte, Int.reducePow, Nat.reduceLeDiff, Nat.reduceLT, ne_eq, eq_self, List.length_cons, List.length_nil, qxE] | ((with_reducible first | apply cond_beq | apply gd_beq) <;> (intro hc; first | simp only [beq_iff_eq.2 hc] | simp only [beq_eq_false_iff_ne.2 hc] | skip)) | ((with_reducible first | apply cond_dec | apply gd_dec) <;> (intro hc; first | simp only [decide_eq_true hc] | simp only [decide_eq_false hc] | skip)) | ((with_reducible first | apply cond_of | apply gd_of) <;> (intro hc; try simp only [hc])) | (with_reducible refine cregF ?_))
 all_goals (refine vb ?_; rw [Bool.eq_iff_iff]; simp_all)
def gcF (x : Int × Int) : St := ⟨3, [(2, .p 0 0), (3, .p 1 0), (4, .p 2 0)], [(0, wc x.1), (1, wc x.2), (2, [.bool false, .int .u64 0, .int .u64 0, .int .u64 0, .int .u64 0])], ext0⟩
set_option maxRecDepth 100000 in
theorem gx_divisor {z y : Int} (h : Fits z) (h' : Fits y) (W : World) : Gives Tryz.prog 191 [WX z, WX y] W (· = WX (gc z y)) := by
 refine gives_known en_ratio_divisor ?_
 rw [← gc_abs]
 have f1 : Fits (ab z) := fits_le h (by rw [ab_ab]; exact Int.le_refl _)
 have f2 : Fits (ab y) := fits_le h' (by rw [ab_ab]; exact Int.le_refl _)
 have n1 := ab_nonneg z
 have n2 := ab_nonneg y
 have g1 := sgx_ab z
 have g2 := sgx_ab y
 have a1 := ab_ab z
 have a2 := ab_ab y
 clear h h'
 refine known_of (enter Tryz.func191 ratio_divisor.ok (args := [WX z, WX y]) (by simp) ?_)
 repeat' (first | simp (disch := omega) only [sxE, ratio_divisor.E, Nat.reduceAdd, Nat.reduceEqDiff, Nat.reduceMul, Nat.reduceSub, Int.reduceAdd, Int.reduceSub, Int.reduceMul, Int.reduceNeg, Int.reduceLT, Int.reduceLE, Int.reduceEq, Int.reduceToNat, ↓reduceIte, Int.reducePow, Nat.reduceLeDiff, Nat.reduceLT, ne_eq, eq_self, List.length_cons, List.length_nil, qxE] | (with_reducible refine cregF ?_))
 rw [ratio_divisor.p2_l]
 refine LX_inv gcF (fun x => 0 ≤ x.1 ∧ 0 ≤ x.2 ∧ Fits x.1 ∧ Fits x.2 ∧ gc x.1 x.2 = gc (ab z) (ab y)) (fun x => x.2.toNat) ?round (ab z, ab y) ⟨n1, n2, f1, f2, rfl⟩ ?start
 case start =>
  unfold gcF wc
  dsimp only
  rw [g1, g2, a1, a2]
  simp (disch := omega) only [sxE, ratio_divisor.E, Nat.reduceAdd, Nat.reduceEqDiff, Nat.reduceMul, Nat.reduceSub, Int.reduceAdd, Int.reduceSub, Int.reduceMul, Int.reduceNeg, Int.reduceLT, Int.reduceLE, Int.reduceEq, Int.reduceToNat, ↓reduceIte, Int.reducePow, Nat.reduceLeDiff, Nat.reduceLT, ne_eq, eq_self, List.length_cons, List.length_nil]
 case round =>
  rintro ⟨x, w⟩ ⟨h1, h2, h3, h4, h5⟩
  dsimp only at h1 h2 h3 h4 h5 ⊢
  rw [← h5]
  clear h5 f1 f2 n1 n2 g1 g2 a1 a2
  have hcm := cm_zero w
  unfold gcF wc
  dsimp only
  by_cases hw : w = 0
  ·subst hw
   rw [gc_zero x h1]
   have hc0 : cm 0 0 = 0 := rfl
   repeat' (first | simp (disch := omega) only [sxE, ratio_divisor.E, Nat.reduceAdd, Nat.reduceEqDiff, Nat.reduceMul, Nat.reduceSub, Int.reduceAdd, Int.reduceSub, Int.reduceMul, Int.reduceNeg, Int.reduceLT, Int.reduceLE, Int.reduceEq, Int.reduceToNat, ↓reduceIte, Int.reducePow, Nat.reduceLeDiff, Nat.reduceLT, ne_eq, eq_self, List.length_cons, List.length_nil, qxE, hc0] | (with_reducible refine Sx.call_at (f := 140) (fun W hW => gx_sign h4 W) ?_) | (with_reducible refine cregF ?_))
  ·have hc0 : cm w 0 ≠ 0 := by rw [hcm]; (repeat' split) <;> omega
   have hq := fits_emod (z := x) h4 hw
   have hm0 := Int.emod_nonneg x hw
   have hm1 := Int.emod_lt_of_pos x (show 0 < w by omega)
   have hgs := gc_step h1 (show 0 < w by omega)
   clear hcm
   repeat' (first | simp (disch := omega) only [sxE, ratio_divisor.E, Nat.reduceAdd, Nat.reduceEqDiff, Nat.reduceMul, Nat.reduceSub, Int.reduceAdd, Int.reduceSub, Int.reduceMul, Int.reduceNeg, Int.reduceLT, Int.reduceLE, Int.reduceEq, Int.reduceToNat, ↓reduceIte, Int.reducePow, Nat.reduceLeDiff, Nat.reduceLT, ne_eq, eq_self, List.length_cons, List.length_nil, qxE] | (with_reducible refine Sx.call_at (f := 140) (fun W hW => gx_sign h4 W) ?_) | (with_reducible refine Sx.call_at (f := 171) (fun W hW => gx_divmod h3 h4 hw W) ?_) | (with_reducible refine cregF ?_))
   exact ⟨(w, x % w), ⟨h2, hm0, h4, hq, hgs⟩, by dsimp only; omega, by repeat' (first | (with_reducible rfl) | (exact Or.inl rfl) | apply And.intro)⟩
theorem gc_le_ab (x y : Int) : gc x y ≤ ab x ∨ gc x y ≤ ab y := by
 by_cases h : y = 0
 ·left; subst h; rw [← gc_abs]; rw [show ab 0 = 0 from rfl, gc_zero _ (ab_nonneg x)]; exact Int.le_refl _
 ·right
  rw [← gc_abs]
  exact gc_le (by have := ab_nonneg y; have := ab_zero_iff (z := y); omega)
theorem fits_gc {x y : Int} (h : Fits x) (h' : Fits y) : Fits (gc x y) := by
 rcases gc_le_ab x y with e | e
 ·exact fits_le h (by rw [ab_pos (gc_nonneg x y)]; exact e)
 ·exact fits_le h' (by rw [ab_pos (gc_nonneg x y)]; exact e)
theorem fits_one : Fits 1 := rfl
theorem cm_pos (z : Int) : 0 < cm z 0 ↔ 0 < z := by rw [cm_zero]; (repeat' split) <;> omega
theorem i64_one : I64 1 := ⟨by decide, by decide⟩
set_option maxRecDepth 100000 in
theorem gx_rvalid {p q : Int} (h : Fits p) (h' : Fits q) (W : World) : Gives Tryz.prog 186 [RX p q] W (· = .bool (rok true p q)) := by
 have hg := fits_gc h h'
 refine gives_known en_ratio_Valid ?_
 have hcm := cm_pos q
 refine known_of (enter Tryz.func186 ratio_Valid.ok (args := [RX p q]) (by simp) ?_)
 repeat' (first | simp (disch := omega) only [sxE, ratio_Valid.E, Nat.reduceAdd, Nat.reduceEqDiff, Nat.reduceMul, Nat.reduceSub, Int.reduceAdd, Int.reduceSub, Int.reduceMul, Int.reduceNeg, Int.reduceLT, Int.reduceLE, Int.reduceEq, Int.reduceToNat, ↓reduceIte, Int.reducePow, Nat.reduceLeDiff, Nat.reduceLT, ne_eq, eq_self, List.length_cons, List.length_nil, qxE] | (with_reducible refine Sx.call_at (f := 176) (fun W hW => gx_valid h W) ?_) | (with_reducible refine Sx.call_at (f := 176) (fun W hW => gx_valid h' W) ?_) | (with_reducible refine Sx.call_at (f := 140) (fun W hW => gx_sign h' W) ?_) | (with_reducible refine Sx.call_at (f := 192) (fun W hW => gx_small h W) ?_) | (with_reducible refine Sx.call_at (f := 192) (fun W hW => gx_small h' W) ?_) | (with_reducible refine Sx.call_at (f := 191) (fun W hW => gx_divisor h h' W) ?_) | (with_reducible refine Sx.call_at (f := 81) (fun W hW => gx_of i64_one W) ?_) | ((with_reducible apply Sx.eq_is); (case h => exact fun W => eqx_run hg fits_one W); (case' hk => skip)) | ((with_reducible first | apply cond_beq | apply gd_beq) <;> (intro hc; first | simp only [beq_iff_eq.2 hc] | simp only [beq_eq_false_iff_ne.2 hc] | skip)) | ((with_reducible first | apply cond_dec | apply gd_dec) <;> (intro hc; first | simp only [decide_eq_true hc] | simp only [decide_eq_false hc] | skip)) | ((with_reducible first | apply cond_of | apply gd_of) <;> (intro hc; try simp only [hc])) | (with_reducible refine cregF ?_))
 all_goals (refine vb ?_; unfold rok; rw [Bool.eq_iff_iff]; simp_all <;> (intros; omega))
def BadR (v : Value) : Prop := (∃ q, Fits q ∧ v = .agg #[.bool true, .int .u64 0, .int .u64 0, .int .u64 0, .int .u64 0, .bool (sg q), .int .u64 (lb0 (ab q)), .int .u64 (lb1 (ab q)), .int .u64 (lb2 (ab q)), .int .u64 (lb3 (ab q))]) ∨
 (∃ p, Fits p ∧ v = .agg #[.bool (sg p), .int .u64 (lb0 (ab p)), .int .u64 (lb1 (ab p)), .int .u64 (lb2 (ab p)), .int .u64 (lb3 (ab p)), .bool true, .int .u64 0, .int .u64 0, .int .u64 0, .int .u64 0]) ∨
 v = .agg #[.bool true, .int .u64 0, .int .u64 0, .int .u64 0, .int .u64 0, .bool true, .int .u64 0, .int .u64 0, .int .u64 0, .int .u64 0]
theorem gx_rvalid0 {v : Value} (h : BadR v) (W : World) : Gives Tryz.prog 186 [v] W (· = .bool false) := by
 refine gives_known en_ratio_Valid ?_
 rcases h with ⟨q, h, rfl⟩ | ⟨p, h, rfl⟩ | rfl
 ·refine known_of (enter Tryz.func186 ratio_Valid.ok (args := [_]) (by simp) ?_)
  repeat' (first | simp (disch := omega) only [sxE, ratio_Valid.E, Nat.reduceAdd, Nat.reduceEqDiff, Nat.reduceMul, Nat.reduceSub, Int.reduceAdd, Int.reduceSub, Int.reduceMul, Int.reduceNeg, Int.reduceLT, Int.reduceLE, Int.reduceEq, Int.reduceToNat, ↓reduceIte, Int.reducePow, Nat.reduceLeDiff, Nat.reduceLT, ne_eq, eq_self, List.length_cons, List.length_nil, qxE] | (with_reducible refine Sx.call_at (f := 176) (fun W hW => gx_valid0 W) ?_) | (with_reducible refine cregF ?_))
 ·refine known_of (enter Tryz.func186 ratio_Valid.ok (args := [_]) (by simp) ?_)
  repeat' (first | simp (disch := omega) only [sxE, ratio_Valid.E, Nat.reduceAdd, Nat.reduceEqDiff, Nat.reduceMul, Nat.reduceSub, Int.reduceAdd, Int.reduceSub, Int.reduceMul, Int.reduceNeg, Int.reduceLT, Int.reduceLE, Int.reduceEq, Int.reduceToNat, ↓reduceIte, Int.reducePow, Nat.reduceLeDiff, Nat.reduceLT, ne_eq, eq_self, List.length_cons, List.length_nil, qxE] | (with_reducible refine Sx.call_at (f := 176) (fun W hW => gx_valid h W) ?_) | (with_reducible refine Sx.call_at (f := 176) (fun W hW => gx_valid0 W) ?_) | (with_reducible refine cregF ?_))
 ·refine known_of (enter Tryz.func186 ratio_Valid.ok (args := [_]) (by simp) ?_)
  repeat' (first | simp (disch := omega) only [sxE, ratio_Valid.E, Nat.reduceAdd, Nat.reduceEqDiff, Nat.reduceMul, Nat.reduceSub, Int.reduceAdd, Int.reduceSub, Int.reduceMul, Int.reduceNeg, Int.reduceLT, Int.reduceLE, Int.reduceEq, Int.reduceToNat, ↓reduceIte, Int.reducePow, Nat.reduceLeDiff, Nat.reduceLT, ne_eq, eq_self, List.length_cons, List.length_nil, qxE] | (with_reducible refine Sx.call_at (f := 176) (fun W hW => gx_valid0 W) ?_) | (with_reducible refine cregF ?_))
theorem gx_rof {z : Int} (h : I64 z) (W : World) : Gives Tryz.prog 180 [.int .i64 z] W (· = RX z 1) := by
 refine gives_known en_ratio_Of ?_
 refine known_of (enter Tryz.func180 ratio_Of.ok (args := [_]) (by simp) ?_)
 repeat' (first | simp (disch := omega) only [sxE, ratio_Of.E, Nat.reduceAdd, Nat.reduceEqDiff, Nat.reduceMul, Nat.reduceSub, Int.reduceAdd, Int.reduceSub, Int.reduceMul, Int.reduceNeg, Int.reduceLT, Int.reduceLE, Int.reduceEq, Int.reduceToNat, ↓reduceIte, Int.reducePow, Nat.reduceLeDiff, Nat.reduceLT, ne_eq, eq_self, List.length_cons, List.length_nil, qxE] | (with_reducible refine Sx.call_at (f := 81) (fun W hW => gx_of h W) ?_) | (with_reducible refine Sx.call_at (f := 81) (fun W hW => gx_of i64_one W) ?_) | (with_reducible refine cregF ?_))
def CQ (v : Value) (p q : Int) : Prop := (∃ x y, Fits x ∧ Fits y ∧ v = RX x y ∧ p = qn true x y ∧ q = qd true x y) ∨ (BadR v ∧ p = 0 ∧ q = 1)
theorem CQ.fq {v : Value} {p q : Int} (h : CQ v p q) : Fq p q := by
 rcases h with ⟨x, y, -, -, -, rfl, rfl⟩ | ⟨-, rfl, rfl⟩
 ·exact fq_clean _ _ _
 ·exact fq_zero
theorem Fq.cq {p q : Int} (h : Fq p q) : CQ (RX p q) p q := by
 have : rok true p q = true := rok_iff.2 ⟨rfl, h⟩
 exact .inl ⟨p, q, h.fp, h.fq, rfl, by unfold qn; rw [this]; rfl, by unfold qd; rw [this]; rfl⟩
set_option maxRecDepth 100000 in
theorem gx_rclean {v : Value} {p q : Int} (h : CQ v p q) (W : World) : Gives Tryz.prog 168 [v] W (· = RX p q) := by
 refine gives_known en_ratio_clean ?_
 rcases h with ⟨x, y, h1, h2, rfl, rfl, rfl⟩ | ⟨h, rfl, rfl⟩
 ·unfold qn qd
  cases hk : rok true x y
  ·refine known_of (enter Tryz.func168 ratio_clean.ok (args := [_]) (by simp) ?_)
   repeat' (first | simp (disch := omega) only [sxE, ratio_clean.E, Nat.reduceAdd, Nat.reduceEqDiff, Nat.reduceMul, Nat.reduceSub, Int.reduceAdd, Int.reduceSub, Int.reduceMul, Int.reduceNeg, Int.reduceLT, Int.reduceLE, Int.reduceEq, Int.reduceToNat, ↓reduceIte, Int.reducePow, Nat.reduceLeDiff, Nat.reduceLT, ne_eq, eq_self, List.length_cons, List.length_nil, qxE, hk] | (with_reducible refine Sx.call_at (f := 186) (fun W hW => gx_rvalid h1 h2 W) ?_) | (with_reducible refine Sx.call_at (f := 180) (fun W hW => gx_rof i64_zero W) ?_) | (with_reducible refine cregF ?_))
  ·refine known_of (enter Tryz.func168 ratio_clean.ok (args := [_]) (by simp) ?_)
   repeat' (first | simp (disch := omega) only [sxE, ratio_clean.E, Nat.reduceAdd, Nat.reduceEqDiff, Nat.reduceMul, Nat.reduceSub, Int.reduceAdd, Int.reduceSub, Int.reduceMul, Int.reduceNeg, Int.reduceLT, Int.reduceLE, Int.reduceEq, Int.reduceToNat, ↓reduceIte, Int.reducePow, Nat.reduceLeDiff, Nat.reduceLT, ne_eq, eq_self, List.length_cons, List.length_nil, qxE, hk] | (with_reducible refine Sx.call_at (f := 186) (fun W hW => gx_rvalid h1 h2 W) ?_) | (with_reducible refine Sx.call_at (f := 180) (fun W hW => gx_rof i64_zero W) ?_) | (with_reducible refine cregF ?_))
 ·have hv := fun W => gx_rvalid0 h W
  rcases h with ⟨q, h, rfl⟩ | ⟨p, h, rfl⟩ | rfl
  ·refine known_of (enter Tryz.func168 ratio_clean.ok (args := [_]) (by simp) ?_)
   repeat' (first | simp (disch := omega) only [sxE, ratio_clean.E, Nat.reduceAdd, Nat.reduceEqDiff, Nat.reduceMul, Nat.reduceSub, Int.reduceAdd, Int.reduceSub, Int.reduceMul, Int.reduceNeg, Int.reduceLT, Int.reduceLE, Int.reduceEq, Int.reduceToNat, ↓reduceIte, Int.reducePow, Nat.reduceLeDiff, Nat.reduceLT, ne_eq, eq_self, List.length_cons, List.length_nil, qxE] | (with_reducible refine Sx.call_at (f := 186) (fun W hW => hv W) ?_) | (with_reducible refine Sx.call_at (f := 180) (fun W hW => gx_rof i64_zero W) ?_) | (with_reducible refine cregF ?_))
  ·refine known_of (enter Tryz.func168 ratio_clean.ok (args := [_]) (by simp) ?_)
   repeat' (first | simp (disch := omega) only [sxE, ratio_clean.E, Nat.reduceAdd, Nat.reduceEqDiff, Nat.reduceMul, Nat.reduceSub, Int.reduceAdd, Int.reduceSub, Int.reduceMul, Int.reduceNeg, Int.reduceLT, Int.reduceLE, Int.reduceEq, Int.reduceToNat, ↓reduceIte, Int.reducePow, Nat.reduceLeDiff, Nat.reduceLT, ne_eq, eq_self, List.length_cons, List.length_nil, qxE] | (with_reducible refine Sx.call_at (f := 186) (fun W hW => hv W) ?_) | (with_reducible refine Sx.call_at (f := 180) (fun W hW => gx_rof i64_zero W) ?_) | (with_reducible refine cregF ?_))
  ·refine known_of (enter Tryz.func168 ratio_clean.ok (args := [_]) (by simp) ?_)
   repeat' (first | simp (disch := omega) only [sxE, ratio_clean.E, Nat.reduceAdd, Nat.reduceEqDiff, Nat.reduceMul, Nat.reduceSub, Int.reduceAdd, Int.reduceSub, Int.reduceMul, Int.reduceNeg, Int.reduceLT, Int.reduceLE, Int.reduceEq, Int.reduceToNat, ↓reduceIte, Int.reducePow, Nat.reduceLeDiff, Nat.reduceLT, ne_eq, eq_self, List.length_cons, List.length_nil, qxE] | (with_reducible refine Sx.call_at (f := 186) (fun W hW => hv W) ?_) | (with_reducible refine Sx.call_at (f := 180) (fun W hW => gx_rof i64_zero W) ?_) | (with_reducible refine cregF ?_))
end Go.Proofs.YtncmmbacoknefaaGreat

/- Ql: Plain laws of fractions. -/
namespace Go.Proofs.YtncmmbacoknefaaGreat
set_option linter.unusedVariables false
set_option linter.unusedSimpArgs false
theorem km_le (x y : Int) : cm x y ≤ 0 ↔ x ≤ y := by unfold cm; (repeat' split) <;> omega
theorem km_gt (x y : Int) : 0 < cm x y ↔ y < x := by unfold cm; (repeat' split) <;> omega
theorem km_lt (x y : Int) : cm x y < 0 ↔ x < y := by unfold cm; (repeat' split) <;> omega
theorem km_ge0 (x y : Int) : 0 ≤ cm x y ↔ y ≤ x := by unfold cm; (repeat' split) <;> omega
def cq (p q p' q' : Int) : Int := cm (p * q') (p' * q)
theorem mul_le_cancel {a x y : Int} (ha : 0 < a) (h : a * x ≤ a * y) : x ≤ y := Int.le_of_mul_le_mul_left h ha
theorem fl_le {x y : Int} (hy : 0 < y) : x / y * y ≤ x ∧ x < x / y * y + y := by
 have h1 := Int.mul_ediv_add_emod x y
 have h2 := Int.emod_nonneg x (Int.ne_of_gt hy)
 have h3 := Int.emod_lt_of_pos x hy
 rw [Int.mul_comm] at h1
 omega
theorem le_fl {x y z : Int} (hy : 0 < y) (h : z * y ≤ x) : z ≤ x / y := (Int.le_ediv_iff_mul_le hy).2 h
end Go.Proofs.YtncmmbacoknefaaGreat

/- Qb: What calls of the program's ratio give: Compare, Floor, Ceil, At, Make. -/
namespace Go.Proofs.YtncmmbacoknefaaGreat
open Go Go.RowKit Sx
set_option linter.unusedVariables false
set_option linter.unusedSimpArgs false
theorem CQ.ten {v : Value} {p q : Int} (h : CQ v p q) : ∃ c0 c1 c2 c3 c4 c5 c6 c7 c8 c9, v = .agg #[c0, c1, c2, c3, c4, c5, c6, c7, c8, c9] := by
 rcases h with ⟨x, y, -, -, rfl, -, -⟩ | ⟨⟨q, -, rfl⟩ | ⟨p, -, rfl⟩ | rfl, -, -⟩ <;> exact ⟨_, _, _, _, _, _, _, _, _, _, rfl⟩
theorem gx_product {x y : Int} (h : Fits x) (h' : Fits y) (hf : Fits (x * y)) (W : World) : Gives Tryz.prog 169 [WX x, WX y] W (· = WX (x * y)) := by
 refine gives_known en_ratio_product ?_
 refine known_of (enter Tryz.func169 ratio_product.ok (args := [_, _]) (by simp) ?_)
 repeat' (first | simp (disch := omega) only [sxE, ratio_product.E, Nat.reduceAdd, Nat.reduceEqDiff, Nat.reduceMul, Nat.reduceSub, Int.reduceAdd, Int.reduceSub, Int.reduceMul, Int.reduceNeg, Int.reduceLT, Int.reduceLE, Int.reduceEq, Int.reduceToNat, ↓reduceIte, Int.reducePow, Nat.reduceLeDiff, Nat.reduceLT, ne_eq, eq_self, List.length_cons, List.length_nil, qxE] | (with_reducible refine Sx.call_at (f := 126) (fun W hW => gx_mul h h' hf W) ?_) | (with_reducible refine cregF ?_))
theorem Fq.fm {p q p' q' : Int} (h : Fq p q) (h' : Fq p' q') : Fits (p * q') := (bd_mul h.bp h'.bq).fits
theorem gx_rcompare {v v' : Value} {p q p' q' : Int} (h : CQ v p q) (h' : CQ v' p' q') (W : World) : Gives Tryz.prog 179 [v, v'] W (· = .int .i64 (cq p q p' q')) := by
 obtain ⟨c0, c1, c2, c3, c4, c5, c6, c7, c8, c9, rfl⟩ := h.ten
 obtain ⟨d0, d1, d2, d3, d4, d5, d6, d7, d8, d9, rfl⟩ := h'.ten
 have f := h.fq
 have f' := h'.fq
 have m1 := f.fm f'
 have m2 := f'.fm f
 refine gives_known en_ratio_Compare ?_
 refine known_of (enter Tryz.func179 ratio_Compare.ok (args := [_, _]) (by simp) ?_)
 repeat' (first | simp (disch := omega) only [sxE, ratio_Compare.E, Nat.reduceAdd, Nat.reduceEqDiff, Nat.reduceMul, Nat.reduceSub, Int.reduceAdd, Int.reduceSub, Int.reduceMul, Int.reduceNeg, Int.reduceLT, Int.reduceLE, Int.reduceEq, Int.reduceToNat, ↓reduceIte, Int.reducePow, Nat.reduceLeDiff, Nat.reduceLT, ne_eq, eq_self, List.length_cons, List.length_nil, qxE] | (with_reducible refine Sx.call_at (f := 168) (fun W hW => gx_rclean h W) ?_) | (with_reducible refine Sx.call_at (f := 168) (fun W hW => gx_rclean h' W) ?_) | (with_reducible refine Sx.call_at (f := 169) (fun W hW => gx_product f.fp f'.fq m1 W) ?_) | (with_reducible refine Sx.call_at (f := 169) (fun W hW => gx_product f'.fp f.fq m2 W) ?_) | (with_reducible refine Sx.call_at (f := 193) (fun W hW => gx_compare m1 m2 W) ?_) | (with_reducible refine cregF ?_))
 rfl
theorem Fq.neg {p q : Int} (h : Fq p q) : Fq (-p) q := ⟨h.pos, bd_neg h.bp, h.bq, by rw [gc_neg]; exact h.gc⟩
def mkV (b : Bool) (z y : Int) : Value := if mok b z y then .tuple #[RX (mn z y) (mD z y), .bool true] else .tuple #[RX 0 0, .bool false]
theorem cm_zero_iff (z : Int) : cm z 0 = 0 ↔ z = 0 := by rw [cm_zero]; (repeat' split) <;> omega
theorem fits_neg {z : Int} (h : Fits z) : Fits (-z) := fits_le h (by rw [ab_neg]; exact Int.le_refl _)
theorem fits_mn {z y : Int} (h : Fits z) (hy : y ≠ 0) : Fits (mn z y) := by
 unfold mn
 split
 ·exact fits_ediv (fits_neg h) (by have := gc_pos (x := z) hy; omega)
 ·exact fits_ediv h (by have := gc_pos (x := z) hy; omega)
theorem fits_ab {z : Int} (h : Fits z) : Fits (ab z) := fits_le h (by rw [ab_ab]; exact Int.le_refl _)
theorem fits_mD {z y : Int} (h : Fits y) (hy : y ≠ 0) : Fits (mD z y) := fits_ediv (fits_ab h) (by have := gc_pos (x := z) hy; omega)
set_option maxRecDepth 100000 in
theorem gx_rmake {v v' : Value} {b b' : Bool} {z y : Int} (h : RW v b z) (h' : RW v' b' y) (W : World) : Gives Tryz.prog 178 [v, v'] W (· = mkV (b && b') z y) := by
 refine gives_known en_ratio_Make ?_
 have v1 := fun W => gy_valid h W
 have v2 := fun W => gy_valid h' W
 have s2 := fun W => g_sign h'.is W
 by_cases hbad : b = false ∨ b' = false ∨ y = 0
 ·have e : mkV (b && b') z y = .tuple #[RX 0 0, .bool false] := by
   unfold mkV mok
   rcases hbad with rfl | rfl | rfl
   ·rfl
   ·rw [Bool.and_false]; rfl
   ·rw [if_neg (by simp)]
  rw [e]
  obtain ⟨c0, c1, c2, c3, c4, rfl⟩ := h.five
  obtain ⟨d0, d1, d2, d3, d4, rfl⟩ := h'.five
  have hcm := cm_zero_iff y
  clear e h h'
  cases b
  ·refine known_of (enter Tryz.func178 ratio_Make.ok (args := [_, _]) (by simp) ?_)
   repeat' (first | simp (disch := omega) only [sxE, ratio_Make.E, Nat.reduceAdd, Nat.reduceEqDiff, Nat.reduceMul, Nat.reduceSub, Int.reduceAdd, Int.reduceSub, Int.reduceMul, Int.reduceNeg, Int.reduceLT, Int.reduceLE, Int.reduceEq, Int.reduceToNat, ↓reduceIte, Int.reducePow, Nat.reduceLeDiff, Nat.reduceLT, ne_eq, eq_self, List.length_cons, List.length_nil, qxE] | (with_reducible refine Sx.call_at (f := 176) (fun W hW => v1 W) ?_) | (with_reducible refine cregF ?_))
  ·cases b'
   ·refine known_of (enter Tryz.func178 ratio_Make.ok (args := [_, _]) (by simp) ?_)
    repeat' (first | simp (disch := omega) only [sxE, ratio_Make.E, Nat.reduceAdd, Nat.reduceEqDiff, Nat.reduceMul, Nat.reduceSub, Int.reduceAdd, Int.reduceSub, Int.reduceMul, Int.reduceNeg, Int.reduceLT, Int.reduceLE, Int.reduceEq, Int.reduceToNat, ↓reduceIte, Int.reducePow, Nat.reduceLeDiff, Nat.reduceLT, ne_eq, eq_self, List.length_cons, List.length_nil, qxE] | (with_reducible refine Sx.call_at (f := 176) (fun W hW => v1 W) ?_) | (with_reducible refine Sx.call_at (f := 176) (fun W hW => v2 W) ?_) | (with_reducible refine cregF ?_))
   ·have hc0 : cm y 0 = 0 := hcm.2 (by rcases hbad with h | h | h; cases h; cases h; exact h)
    clear hcm hbad
    refine known_of (enter Tryz.func178 ratio_Make.ok (args := [_, _]) (by simp) ?_)
    repeat' (first | simp (disch := omega) only [sxE, ratio_Make.E, Nat.reduceAdd, Nat.reduceEqDiff, Nat.reduceMul, Nat.reduceSub, Int.reduceAdd, Int.reduceSub, Int.reduceMul, Int.reduceNeg, Int.reduceLT, Int.reduceLE, Int.reduceEq, Int.reduceToNat, ↓reduceIte, Int.reducePow, Nat.reduceLeDiff, Nat.reduceLT, ne_eq, eq_self, List.length_cons, List.length_nil, qxE, hc0] | (with_reducible refine Sx.call_at (f := 176) (fun W hW => v1 W) ?_) | (with_reducible refine Sx.call_at (f := 176) (fun W hW => v2 W) ?_) | (with_reducible refine Sx.call_at (f := 140) (fun W hW => s2 W) ?_) | (with_reducible refine cregF ?_))
 ·obtain ⟨rfl, rfl⟩ : b = true ∧ b' = true := by
   cases b
   ·exact absurd (.inl rfl) hbad
   ·cases b'
    ·exact absurd (.inr (.inl rfl)) hbad
    ·exact ⟨rfl, rfl⟩
  have hy : y ≠ 0 := fun e => hbad (.inr (.inr e))
  rcases h with ⟨-, rfl, h⟩ | ⟨h, -, -⟩
  rotate_left
  ·cases h
  rcases h' with ⟨-, rfl, h'⟩ | ⟨h', -, -⟩
  rotate_left
  ·cases h'
  have hc0 : cm y 0 ≠ 0 := fun e => hy ((cm_zero_iff y).1 e)
  have f1 := fits_mn h hy
  have f2 := fits_mD (z := z) h' hy
  have hg := fits_gc h h'
  have hgp := gc_pos (x := z) hy
  have hgn : gc z y ≠ 0 := by omega
  have e : mkV (true && true) z y = if (decide (ab (mn z y) < ((2 ^ 127 : Nat) : Int)) && decide (ab (mD z y) < ((2 ^ 127 : Nat) : Int))) = true then .tuple #[RX (mn z y) (mD z y), .bool true] else .tuple #[RX 0 0, .bool false] := by
   unfold mkV mok
   rw [decide_eq_false hy]; rfl
  rw [e]
  have k1 := fun W => gx_small f1 W
  have k2 := fun W => gx_small f2 W
  generalize decide (ab (mn z y) < ((2 ^ 127 : Nat) : Int)) = t1 at *
  generalize decide (ab (mD z y) < ((2 ^ 127 : Nat) : Int)) = t2 at *
  clear e hbad
  by_cases hneg : y < 0
  ·have hs : sg y = true := decide_eq_true hneg
   have n1 := fits_neg h
   have n2 := fits_neg h'
   have e1 : -z / gc z y = mn z y := by unfold mn; rw [if_pos hneg]
   have e2 : -y / gc z y = mD z y := by unfold mD ab; rw [if_pos hneg]
   have d1 := fun W => gx_divmod n1 hg hgn W
   have d2 := fun W => gx_divmod n2 hg hgn W
   rw [e1] at d1
   rw [e2] at d2
   have g1 := fun W => gx_divisor n1 n2 W
   rw [gc_neg, gc_ngr] at g1
   generalize mn z y = N at *
   generalize mD z y = D at *
   generalize gc z y = G at *
   cases t1 <;> cases t2
   all_goals
    refine known_of (enter Tryz.func178 ratio_Make.ok (args := [_, _]) (by simp) ?_)
    repeat' (first | simp (disch := omega) only [sxE, ratio_Make.E, Nat.reduceAdd, Nat.reduceEqDiff, Nat.reduceMul, Nat.reduceSub, Int.reduceAdd, Int.reduceSub, Int.reduceMul, Int.reduceNeg, Int.reduceLT, Int.reduceLE, Int.reduceEq, Int.reduceToNat, ↓reduceIte, Int.reducePow, Nat.reduceLeDiff, Nat.reduceLT, ne_eq, eq_self, List.length_cons, List.length_nil, qxE] | (with_reducible refine Sx.call_at (f := 176) (fun W hW => v1 W) ?_) | (with_reducible refine Sx.call_at (f := 176) (fun W hW => v2 W) ?_) | (with_reducible refine Sx.call_at (f := 140) (fun W hW => s2 W) ?_) | (with_reducible refine Sx.call_at (f := 190) (fun W hW => gx_neg h W) ?_) | (with_reducible refine Sx.call_at (f := 190) (fun W hW => gx_neg h' W) ?_) | (with_reducible refine Sx.call_at (f := 191) (fun W hW => g1 W) ?_) | (with_reducible refine Sx.call_at (f := 171) (fun W hW => d1 W) ?_) | (with_reducible refine Sx.call_at (f := 171) (fun W hW => d2 W) ?_) | (with_reducible refine Sx.call_at (f := 192) (fun W hW => k1 W) ?_) | (with_reducible refine Sx.call_at (f := 192) (fun W hW => k2 W) ?_) | (with_reducible refine cregF ?_))
    try rfl
  ·have e1 : z / gc z y = mn z y := by unfold mn; rw [if_neg hneg]
   have e2 : y / gc z y = mD z y := by unfold mD ab; rw [if_neg hneg]
   have d1 := fun W => gx_divmod h hg hgn W
   have d2 := fun W => gx_divmod h' hg hgn W
   rw [e1] at d1
   rw [e2] at d2
   have g1 := fun W => gx_divisor h h' W
   generalize mn z y = N at *
   generalize mD z y = D at *
   generalize gc z y = G at *
   cases t1 <;> cases t2
   all_goals
    refine known_of (enter Tryz.func178 ratio_Make.ok (args := [_, _]) (by simp) ?_)
    repeat' (first | simp (disch := omega) only [sxE, ratio_Make.E, Nat.reduceAdd, Nat.reduceEqDiff, Nat.reduceMul, Nat.reduceSub, Int.reduceAdd, Int.reduceSub, Int.reduceMul, Int.reduceNeg, Int.reduceLT, Int.reduceLE, Int.reduceEq, Int.reduceToNat, ↓reduceIte, Int.reducePow, Nat.reduceLeDiff, Nat.reduceLT, ne_eq, eq_self, List.length_cons, List.length_nil, qxE] | (with_reducible refine Sx.call_at (f := 176) (fun W hW => v1 W) ?_) | (with_reducible refine Sx.call_at (f := 176) (fun W hW => v2 W) ?_) | (with_reducible refine Sx.call_at (f := 140) (fun W hW => s2 W) ?_) | (with_reducible refine Sx.call_at (f := 191) (fun W hW => g1 W) ?_) | (with_reducible refine Sx.call_at (f := 171) (fun W hW => d1 W) ?_) | (with_reducible refine Sx.call_at (f := 171) (fun W hW => d2 W) ?_) | (with_reducible refine Sx.call_at (f := 192) (fun W hW => k1 W) ?_) | (with_reducible refine Sx.call_at (f := 192) (fun W hW => k2 W) ?_) | (with_reducible refine cregF ?_))
    try rfl
end Go.Proofs.YtncmmbacoknefaaGreat

/- CdX: MADE BY PROGRAM (sxgen.py): the small code of some functions, points of it and their equations. -/
namespace Go.Proofs.YtncmmbacoknefaaGreat
open Go Go.RowKit Sx Sx.Q
set_option linter.unusedVariables false
variable (C : Cx) (R L1 L2 L3 L4 : St → Prop)
namespace r03_Compare
abbrev q0 := [2, 3]
abbrev r0 : List G := [e 2 (.box true 10 (t 0)), e 3 (.box true 10 (t 1)), Mi 4 0]
abbrev r1 : List G := [L 9 10 2, k1 10 115 9, L 11 10 3, k1 12 115 11]
abbrev t1 : List G := [V 10 2 10, V 10 3 12]
abbrev q1 := [2, 3, 5]
abbrev r2 : List G := [a 14 0 2, L 15 5 14, a 16 5 3, L 17 5 16, K2 18 76 15 17, m 13 18, x 19 13 0, x 20 13 1, e 5 (.new zW), V 5 5 19, m 6 20]
abbrev q2 := [5, 7]
abbrev r3 : List G := [a 22 0 3, L 23 5 22, a 24 5 2, L 25 5 24, K2 26 76 23 25, m 21 26, x 27 21 0, x 28 21 1, e 7 (.new zW), V 5 7 27, m 8 28]
abbrev r4 : List G := [L 29 5 5, L 30 5 7, K2 31 54 29 30, m 4 31]
abbrev c : MC := sq [g r0 q0, gd r1 t1 q0, g r2 q1, g r3 q2, g r4 [4], .ret]
theorem ok : compF Tryz.prog Tryz.f99 (an (rg 5) c [(1, 4, [], (up 4), [])]) = some (32, c, [(4, none)]) := by kernel_rfl
abbrev p1 := P C r4 [4] R
abbrev p2 := P C r3 q2 (p1 C R)
abbrev p3 := P C r2 q1 (p2 C R)
abbrev p4 := Pd C r1 t1 q0 (p3 C R)
abbrev p5 := P C r0 q0 (p4 C R)
theorem s (S : St) : X C c (retK R) S = p5 C R S := by kernel_rfl
theorem E : type_of% @s := @s
end r03_Compare
namespace r03_Make
abbrev q0 := [2, 3, 4]
abbrev r0 : List G := [e 2 (.box true 5 (t 0)), e 3 (.box true 5 (t 1)), e 4 (.new zR), Mb 5 false]
abbrev q1 := [2, 3, 4, 26]
abbrev r1 : List G := [L 14 5 2, K1 15 100 14, e 16 (.un .not (t 15)), m 17 16, n 18 17 (.ld true 5 (t 3)), n 19 17 (.call false 100 [(t 18)]), n 20 17 (.un .not (t 19)), o 21 17 20, m 22 21, n 23 22 (.ld true 5 (t 3)), n 24 22 (.call false 104 [(t 23)]), n 25 22 (.bin .eql (t 24) (i 0)), o 26 22 25]
abbrev q2 := [4, 5]
abbrev r2 : List G := [e 27 (.bd zR []), V 10 4 27, Mb 5 false]
abbrev q3 := [2, 3, 4, 6]
abbrev r3 : List G := [L 28 5 2, k1 29 107 28, L 30 5 3, k1 31 107 30, k2 32 106 29 31]
abbrev t3 : List G := [e 6 (.new zW), V 5 6 32]
abbrev q4 := [2, 3, 4, 6, 7]
abbrev r4 : List G := [L 34 5 2, k1 35 107 34, L 36 5 6, k2 37 116 35 36, m 33 37, x 38 33 0, x 39 33 1, x 40 33 2]
abbrev t4 : List G := [e 7 (.new zW), e 8 (.new zW), V 5 7 38, V 5 8 39, m 9 40]
abbrev q5 := [2, 3, 4, 7, 10]
abbrev r5 : List G := [L 42 5 3, k1 43 107 42, L 44 5 6, k2 45 116 43 44, m 41 45, x 46 41 0, x 47 41 1, x 48 41 2]
abbrev t5 : List G := [e 10 (.new zW), e 11 (.new zW), V 5 10 46, V 5 11 47, m 12 48]
abbrev q6 := [4, 7, 10, 53]
abbrev r6 : List G := [a 49 0 2, l 50 49, a 51 0 3, l 52 51, e 53 (.bq true (t 50) (t 52))]
abbrev q7 := [4, 7, 10]
abbrev r7 : List G := [L 54 5 7, K1 55 117 54, V 5 7 55]
abbrev q8 := [4, 13]
abbrev r8 : List G := [L 56 5 7, L 57 5 10, e 58 (.bd zR [(0, 5, (t 56)), (5, 5, (t 57))]), e 13 (.new zR), V 10 13 58]
abbrev q9 := [4, 13, 61]
abbrev r9 : List G := [L 59 10 13, K1 60 49 59, e 61 (.un .not (t 60))]
abbrev r10 : List G := [e 62 (.bd zR []), V 10 4 62, Mb 5 false]
abbrev r11 : List G := [L 63 10 13, V 10 4 63, Mb 5 true]
abbrev c : MC := sq [g r0 q0, sq [g r1 q1, ci 26 (sq [g r2 q2, .ret]) .skip], gd r3 t3 q3, gd r4 t4 q4, gd r5 t5 q5, sq [g r6 q6, ci 53 (g r7 q7) .skip], g r8 q8, sq [g r9 q9, ci 61 (sq [g r10 q2, .ret]) .skip], g r11 q2, .ret]
theorem ok : compF Tryz.prog Tryz.f77 (an (rg 12) c [(3, 6, [], (up 5), [5]), (4, 10, [6, 7], (up 6 ++ [(6, 2), (7, 2)]), [8, 9]), (5, 10, [6, 7], (up 6 ++ [(6, 2), (7, 2)]), [8, 9])]) = some (64, c, [(4, some (true, 10)), (5, none)]) := by kernel_rfl
abbrev p1 := P C r11 q2 R
abbrev p3 := P C r10 q2 R
abbrev p2 := cd (t 61) (p3 C R) (p1 C R)
abbrev p4 := P C r9 q9 (p2 C R)
abbrev p5 := P C r8 q8 (p4 C R)
abbrev p7 := P C r7 q7 (p5 C R)
abbrev p6 := cd (t 53) (p7 C R) (p5 C R)
abbrev p8 := P C r6 q6 (p6 C R)
abbrev p9 := Pd C r5 t5 q5 (p8 C R)
abbrev p10 := Pd C r4 t4 q4 (p9 C R)
abbrev p11 := Pd C r3 t3 q3 (p10 C R)
abbrev p13 := P C r2 q2 R
abbrev p12 := cd (t 26) (p13 C R) (p11 C R)
abbrev p14 := P C r1 q1 (p12 C R)
abbrev p15 := P C r0 q0 (p14 C R)
theorem s (S : St) : X C c (retK R) S = p15 C R S := by kernel_rfl
theorem E : type_of% @s := @s
end r03_Make
namespace r03_Of
abbrev q0 := [0, 2]
abbrev r0 : List G := [e 2 (.new zR)]
abbrev r1 : List G := [m 3 0, K1 4 50 3, K0 5 108, e 6 (.bd zR [(0, 5, (t 4)), (5, 5, (t 5))]), V 10 2 6]
abbrev c : MC := sq [g r0 q0, g r1 [2], .ret]
theorem ok : compF Tryz.prog Tryz.f78 (an (rg 2) c []) = some (7, c, [(2, some (true, 10))]) := by kernel_rfl
abbrev p1 := P C r1 [2] R
abbrev p2 := P C r0 q0 (p1 C R)
theorem s (S : St) : X C c (retK R) S = p2 C R S := by kernel_rfl
theorem E : type_of% @s := @s
end r03_Of
namespace r03_Valid
abbrev r0 : List G := [e 1 (.box true 10 (t 0)), Mb 2 false]
abbrev q0 := [1, 30]
abbrev r1 : List G := [a 3 0 1, L 4 5 3, K1 5 100 4, e 6 (.un .not (t 5)), m 7 6, na 8 7 5 1, n 9 7 (.ld true 5 (t 8)), n 10 7 (.call false 100 [(t 9)]), n 11 7 (.un .not (t 10)), o 12 7 11, m 13 12, na 14 13 5 1, n 15 13 (.ld true 5 (t 14)), n 16 13 (.call false 104 [(t 15)]), n 17 13 (.bin .leq (t 16) (i 0)), o 18 13 17, m 19 18, na 20 19 0 1, n 21 19 (.ld true 5 (t 20)), n 22 19 (.call false 105 [(t 21)]), n 23 19 (.un .not (t 22)), o 24 19 23, m 25 24, na 26 25 5 1, n 27 25 (.ld true 5 (t 26)), n 28 25 (.call false 105 [(t 27)]), n 29 25 (.un .not (t 28)), o 30 25 29]
abbrev r2 : List G := [Mb 2 false]
abbrev r3 : List G := [a 31 0 1, L 32 5 31, k1 33 107 32, a 34 5 1, L 35 5 34, k2 36 106 33 35, k0 37 108, e 38 (.eqg false 37 (t 36) (t 37))]
abbrev t3 : List G := [m 2 38]
abbrev c : MC := sq [g r0 [1], sq [g r1 q0, ci 30 (sq [g r2 [2], .ret]) .skip], gd r3 t3 [2], .ret]
theorem ok : compF Tryz.prog Tryz.f49 (an (rg 4) c [(3, 8, [], (up 8), [])]) = some (39, c, [(2, none)]) := by kernel_rfl
abbrev p1 := Pd C r3 t3 [2] R
abbrev p3 := P C r2 [2] R
abbrev p2 := cd (t 30) (p3 C R) (p1 C R)
abbrev p4 := P C r1 q0 (p2 C R)
abbrev p5 := P C r0 [1] (p4 C R)
theorem s (S : St) : X C c (retK R) S = p5 C R S := by kernel_rfl
theorem E : type_of% @s := @s
end r03_Valid
namespace r03_abs
abbrev q0 := [1, 2]
abbrev r0 : List G := [e 1 (.box true 5 (t 0)), e 2 (.new zW)]
abbrev r1 : List G := [a 3 0 1, z (.st false 1 (t 3) bf)]
abbrev r2 : List G := [L 4 5 1, V 5 2 4]
abbrev c : MC := sq [g r0 q0, g r1 q0, g r2 [2], .ret]
theorem ok : compF Tryz.prog Tryz.f107 (an (rg 3) c []) = some (5, c, [(2, some (true, 5))]) := by kernel_rfl
abbrev p1 := P C r2 [2] R
abbrev p2 := P C r1 q0 (p1 C R)
abbrev p3 := P C r0 q0 (p2 C R)
theorem s (S : St) : X C c (retK R) S = p3 C R S := by kernel_rfl
theorem E : type_of% @s := @s
end r03_abs
namespace r03_clean
abbrev q0 := [1, 2]
abbrev r0 : List G := [e 1 (.box true 10 (t 0)), e 2 (.new zR)]
abbrev q1 := [1, 2, 5]
abbrev r1 : List G := [L 3 10 1, K1 4 49 3, e 5 (.un .not (t 4))]
abbrev r2 : List G := [K0 6 108, e 7 (.bd zR [(5, 5, (t 6))]), V 10 2 7]
abbrev r3 : List G := [L 8 10 1, V 10 2 8]
abbrev c : MC := sq [g r0 q0, sq [g r1 q1, ci 5 (sq [g r2 [2], .ret]) .skip], g r3 [2], .ret]
theorem ok : compF Tryz.prog Tryz.f115 (an (rg 4) c []) = some (9, c, [(2, some (true, 10))]) := by kernel_rfl
abbrev p1 := P C r3 [2] R
abbrev p3 := P C r2 [2] R
abbrev p2 := cd (t 5) (p3 C R) (p1 C R)
abbrev p4 := P C r1 q1 (p2 C R)
abbrev p5 := P C r0 q0 (p4 C R)
theorem s (S : St) : X C c (retK R) S = p5 C R S := by kernel_rfl
theorem E : type_of% @s := @s
end r03_clean
namespace r03_gcd
abbrev q0 := [2, 3, 4]
abbrev r0 : List G := [e 2 (.box true 5 (t 0)), e 3 (.box true 5 (t 1)), e 4 (.new zW)]
abbrev q1 := [2, 3, 4, 14]
abbrev r1 : List G := [L 12 5 3, K1 13 104 12, bi 14 .neq 13 0]
abbrev q2 := [2, 3, 4, 5, 6]
abbrev r2 : List G := [L 16 5 2, K1 17 153 16, m 15 17, x 18 15 0, x 19 15 1, m 5 18, m 6 19]
abbrev q3 := [2, 3, 4, 5, 6, 7, 8]
abbrev r3 : List G := [L 21 5 3, K1 22 153 21, m 20 22, x 23 20 0, x 24 20 1, m 7 23, m 8 24]
abbrev q4 := [2, 3, 4, 5, 7, 28]
abbrev r4 : List G := [m 25 6, m 26 25, ym 27 26 8, w 28 26 27]
abbrev q5 := [4, 5, 7, 30]
abbrev r5 : List G := [m 29 7, bu 30 .neq 29 0]
abbrev q6 := [4, 5, 7]
abbrev r6 : List G := [m 31 7, m 32 5, m 33 7, b 34 .rem 32 33]
abbrev t6 : List G := [m 5 31, m 7 34]
abbrev r7 : List G := [m 35 5, K1 36 75 35, V 5 4 36]
abbrev q7 := [2, 3, 4, 10]
abbrev r8 : List G := [L 38 5 2, L 39 5 3, K2 40 116 38 39, m 37 40, x 41 37 0, x 42 37 1, x 43 37 2, e 9 (.new zW), e 10 (.new zW), V 5 9 41, V 5 10 42, m 11 43]
abbrev o9 : List (List G) := [[L 44 5 3, L 45 5 10, V 5 2 44, V 5 3 45], [L 44 5 3, V 5 2 44, L 45 5 10, V 5 3 45], [L 45 5 10, L 44 5 3, V 5 2 44, V 5 3 45]]
abbrev r10 : List G := [L 46 5 2, V 5 4 46]
abbrev c : MC := sq [g r0 q0, .block 0 (.loop (sq [sq [g r1 q1, ci 14 .skip (.exit 0)], .block 1 (sq [g r2 q2, g r3 q3, sq [g r4 q4, ci 28 (sq [.block 2 (.loop (sq [sq [g r5 q5, ci 30 .skip (.exit 2)], .block 3 (gd r6 t6 q6)])), g r7 [4], .ret]) .skip], g r8 q7, ga [] o9 q0])])), g r10 [4], .ret]
theorem ok : compF Tryz.prog Tryz.f106 (an (rg 11) c [(6, 4, [2, 3], [(0, 0), (1, 0), (2, 2), (3, 2)], []), (9, 99999, [], [], [])]) = some (47, c, [(4, some (true, 5))]) := by kernel_rfl
abbrev p1 := P C r10 [4] R
abbrev p3 := Pa C [] o9 q0 L1
abbrev p4 := P C r8 q7 (p3 C L1)
abbrev p6 := P C r7 [4] R
abbrev p8 := Pd C r6 t6 q6 L2
abbrev p9 := cd (t 30) (p8 C L2) (p6 C R)
abbrev p10 := P C r5 q5 (p9 C R L2)
def p7 (S : St) : Prop := LX C (fun L2 => (p10 C R L2)) S
theorem p7_l (S : St) : p7 C R S = LX C (fun L2 => (p10 C R L2)) S := rfl
abbrev p5 := cd (t 28) (p7 C R) (p4 C L1)
abbrev p11 := P C r4 q4 (p5 C R L1)
abbrev p12 := P C r3 q3 (p11 C R L1)
abbrev p13 := P C r2 q2 (p12 C R L1)
abbrev p14 := cd (t 14) (p13 C R L1) (p1 C R)
abbrev p15 := P C r1 q1 (p14 C R L1)
def p2 (S : St) : Prop := LX C (fun L1 => (p15 C R L1)) S
theorem p2_l (S : St) : p2 C R S = LX C (fun L1 => (p15 C R L1)) S := rfl
abbrev p16 := P C r0 q0 (p2 C R)
theorem s (S : St) : X C c (retK R) S = p16 C R S := by kernel_rfl
theorem E : type_of% @s := @s
end r03_gcd
namespace r03_one
abbrev r0 : List G := [e 0 (.new zW)]
abbrev r1 : List G := [e 1 (.call false 50 [(i 1)]), V 5 0 1]
abbrev c : MC := sq [g r0 [0], g r1 [0], .ret]
theorem ok : compF Tryz.prog Tryz.f108 (an (rg 2) c []) = some (2, c, [(0, some (true, 5))]) := by kernel_rfl
abbrev p1 := P C r1 [0] R
abbrev p2 := P C r0 [0] (p1 C R)
theorem s (S : St) : X C c (retK R) S = p2 C R S := by kernel_rfl
theorem E : type_of% @s := @s
end r03_one
namespace r03_small
abbrev r0 : List G := [e 1 (.box true 5 (t 0)), Mb 2 false]
abbrev r1 : List G := [a 3 1 1, e 4 (.ia 4 1 (t 3) (i 3)), l 5 4, bu 6 .eql 5 0, m 7 6, ya 8 7 1 1, y 9 7 (.ia 4 1 (t 8) (i 2)), yl 10 7 9, y 11 7 (.bin .eql (t 10) (u 0)), w 12 7 11, m 13 12, ya 14 13 1 1, y 15 13 (.ia 4 1 (t 14) (i 1)), yl 16 13 15, y 17 13 (.bin .lss (t 16) (u 9223372036854775808)), w 18 13 17, m 2 18]
abbrev c : MC := sq [g r0 [1], g r1 [2], .ret]
theorem ok : compF Tryz.prog Tryz.f105 (an (rg 2) c []) = some (19, c, [(2, none)]) := by kernel_rfl
abbrev p1 := P C r1 [2] R
abbrev p2 := P C r0 [1] (p1 C R)
theorem s (S : St) : X C c (retK R) S = p2 C R S := by kernel_rfl
theorem E : type_of% @s := @s
end r03_small
namespace r04_Between
abbrev q0 := [2, 3, 4]
abbrev r0 : List G := [e 2 (.box true 10 (t 0)), e 3 (.box true 10 (t 1)), e 4 (.new zR), Mb 5 false]
abbrev q1 := [2, 3, 4, 25]
abbrev r1 : List G := [L 12 10 2, K1 13 49 12, e 14 (.un .not (t 13)), m 15 14, n 16 15 (.ld true 10 (t 3)), n 17 15 (.call false 49 [(t 16)]), n 18 15 (.un .not (t 17)), o 19 15 18, m 20 19, n 21 20 (.ld true 10 (t 2)), n 22 20 (.ld true 10 (t 3)), n 23 20 (.call false 99 [(t 21), (t 22)]), n 24 20 (.bin .gtr (t 23) (i 0)), o 25 20 24]
abbrev q2 := [4, 5]
abbrev r2 : List G := [e 26 (.bd zR []), V 10 4 26, Mb 5 false]
abbrev q3 := [2, 3, 4, 36]
abbrev r3 : List G := [a 27 0 2, L 28 5 27, K1 29 104 28, bi 30 .leq 29 0, m 31 30, ya 32 31 0 3, y 33 31 (.ld true 5 (t 32)), y 34 31 (.call false 104 [(t 33)]), y 35 31 (.bin .geq (t 34) (i 0)), w 36 31 35]
abbrev r4 : List G := [e 37 (.call false 78 [(i 0)]), V 10 4 37, Mb 5 true]
abbrev q4 := [2, 3, 4, 41]
abbrev r5 : List G := [a 38 0 3, L 39 5 38, K1 40 104 39, bi 41 .lss 40 0]
abbrev q5 := [4, 6, 7]
abbrev o6 : List (List G) := [[L 42 10 3, L 43 10 2, e 6 (.new zR), e 7 (.new zR), V 10 6 42, V 10 7 43], [L 42 10 3, L 43 10 2, e 7 (.new zR), e 6 (.new zR), V 10 6 42, V 10 7 43], [L 42 10 3, e 6 (.new zR), L 43 10 2, e 7 (.new zR), V 10 6 42, V 10 7 43], [L 42 10 3, e 6 (.new zR), e 7 (.new zR), L 43 10 2, V 10 6 42, V 10 7 43], [L 42 10 3, e 6 (.new zR), e 7 (.new zR), V 10 6 42, L 43 10 2, V 10 7 43], [L 42 10 3, e 7 (.new zR), L 43 10 2, e 6 (.new zR), V 10 6 42, V 10 7 43], [L 42 10 3, e 7 (.new zR), e 6 (.new zR), L 43 10 2, V 10 6 42, V 10 7 43], [L 42 10 3, e 7 (.new zR), e 6 (.new zR), V 10 6 42, L 43 10 2, V 10 7 43], [L 43 10 2, L 42 10 3, e 6 (.new zR), e 7 (.new zR), V 10 6 42, V 10 7 43], [L 43 10 2, L 42 10 3, e 7 (.new zR), e 6 (.new zR), V 10 6 42, V 10 7 43], [L 43 10 2, e 6 (.new zR), L 42 10 3, e 7 (.new zR), V 10 6 42, V 10 7 43], [L 43 10 2, e 6 (.new zR), e 7 (.new zR), L 42 10 3, V 10 6 42, V 10 7 43], [L 43 10 2, e 7 (.new zR), L 42 10 3, e 6 (.new zR), V 10 6 42, V 10 7 43], [L 43 10 2, e 7 (.new zR), e 6 (.new zR), L 42 10 3, V 10 6 42, V 10 7 43], [e 6 (.new zR), L 42 10 3, L 43 10 2, e 7 (.new zR), V 10 6 42, V 10 7 43], [e 6 (.new zR), L 42 10 3, e 7 (.new zR), L 43 10 2, V 10 6 42, V 10 7 43], [e 6 (.new zR), L 42 10 3, e 7 (.new zR), V 10 6 42, L 43 10 2, V 10 7 43], [e 6 (.new zR), L 43 10 2, L 42 10 3, e 7 (.new zR), V 10 6 42, V 10 7 43], [e 6 (.new zR), L 43 10 2, e 7 (.new zR), L 42 10 3, V 10 6 42, V 10 7 43], [e 6 (.new zR), e 7 (.new zR), L 42 10 3, L 43 10 2, V 10 6 42, V 10 7 43], [e 6 (.new zR), e 7 (.new zR), L 42 10 3, V 10 6 42, L 43 10 2, V 10 7 43], [e 6 (.new zR), e 7 (.new zR), L 43 10 2, L 42 10 3, V 10 6 42, V 10 7 43], [e 7 (.new zR), L 42 10 3, L 43 10 2, e 6 (.new zR), V 10 6 42, V 10 7 43], [e 7 (.new zR), L 42 10 3, e 6 (.new zR), L 43 10 2, V 10 6 42, V 10 7 43], [e 7 (.new zR), L 42 10 3, e 6 (.new zR), V 10 6 42, L 43 10 2, V 10 7 43], [e 7 (.new zR), L 43 10 2, L 42 10 3, e 6 (.new zR), V 10 6 42, V 10 7 43], [e 7 (.new zR), L 43 10 2, e 6 (.new zR), L 42 10 3, V 10 6 42, V 10 7 43], [e 7 (.new zR), e 6 (.new zR), L 42 10 3, L 43 10 2, V 10 6 42, V 10 7 43], [e 7 (.new zR), e 6 (.new zR), L 42 10 3, V 10 6 42, L 43 10 2, V 10 7 43], [e 7 (.new zR), e 6 (.new zR), L 43 10 2, L 42 10 3, V 10 6 42, V 10 7 43]]
abbrev r7 : List G := [a 44 0 6, L 45 5 44, k1 46 117 45, a 47 0 7, L 48 5 47, k1 49 117 48, a 50 0 6]
abbrev t7 : List G := [V 5 50 46, a 51 0 7, V 5 51 49]
abbrev q6 := [4, 8, 9]
abbrev r8 : List G := [a 53 0 6, L 54 5 53, a 55 5 6, L 56 5 55, a 57 0 7, L 58 5 57, a 59 5 7, L 60 5 59, K4 61 150 54 56 58 60, m 52 61, x 62 52 0, x 63 52 1, e 8 (.new zW), e 9 (.new zW), V 5 8 62, V 5 9 63]
abbrev r9 : List G := [L 64 5 8, k1 65 117 64, L 66 5 9, e 67 (.bd zR [(0, 5, (t 65)), (5, 5, (t 66))])]
abbrev t9 : List G := [V 10 4 67, Mb 5 true]
abbrev q7 := [4, 10, 11]
abbrev r10 : List G := [a 69 0 2, L 70 5 69, a 71 5 2, L 72 5 71, a 73 0 3, L 74 5 73, a 75 5 3, L 76 5 75, K4 77 150 70 72 74 76, m 68 77, x 78 68 0, x 79 68 1, e 10 (.new zW), e 11 (.new zW), V 5 10 78, V 5 11 79]
abbrev r11 : List G := [L 80 5 10, L 81 5 11, e 82 (.bd zR [(0, 5, (t 80)), (5, 5, (t 81))]), V 10 4 82, Mb 5 true]
abbrev c : MC := sq [g r0 q0, sq [g r1 q1, ci 25 (sq [g r2 q2, .ret]) .skip], sq [g r3 q3, ci 36 (sq [g r4 q2, .ret]) .skip], sq [g r5 q4, ci 41 (sq [ga [6, 7] o6 q5, gd r7 t7 q5, g r8 q6, gd r9 t9 q2, .ret]) .skip], g r10 q7, g r11 q2, .ret]
theorem ok : compF Tryz.prog Tryz.f101 (an (rg 12) c [(6, 99999, [6, 7], [], []), (7, 7, [], (up 7), []), (9, 4, [], (up 4), [])]) = some (83, c, [(4, some (true, 10)), (5, none)]) := by kernel_rfl
abbrev p1 := P C r11 q2 R
abbrev p2 := P C r10 q7 (p1 C R)
abbrev p4 := Pd C r9 t9 q2 R
abbrev p5 := P C r8 q6 (p4 C R)
abbrev p6 := Pd C r7 t7 q5 (p5 C R)
abbrev p7 := Pa C [6, 7] o6 q5 (p6 C R)
abbrev p3 := cd (t 41) (p7 C R) (p2 C R)
abbrev p8 := P C r5 q4 (p3 C R)
abbrev p10 := P C r4 q2 R
abbrev p9 := cd (t 36) (p10 C R) (p8 C R)
abbrev p11 := P C r3 q3 (p9 C R)
abbrev p13 := P C r2 q2 R
abbrev p12 := cd (t 25) (p13 C R) (p11 C R)
abbrev p14 := P C r1 q1 (p12 C R)
abbrev p15 := P C r0 q0 (p14 C R)
theorem s (S : St) : X C c (retK R) S = p15 C R S := by kernel_rfl
theorem E : type_of% @s := @s
end r04_Between
namespace r04_positive
abbrev q0 := [4, 5, 6, 7, 8, 9]
abbrev r0 : List G := [e 4 (.box true 5 (t 0)), e 5 (.box true 5 (t 1)), e 6 (.box true 5 (t 2)), e 7 (.box true 5 (t 3)), e 8 (.new zW), e 9 (.new zW)]
abbrev q1 := [4, 5, 6, 7, 8, 9, 10, 11]
abbrev r1 : List G := [L 27 5 4, L 28 5 5, K2 29 116 27 28, m 26 29, x 30 26 0, x 31 26 1, x 32 26 2, e 10 (.new zW), e 11 (.new zW), V 5 10 30, V 5 11 31, m 12 32]
abbrev q2 := [4, 5, 6, 7, 8, 9, 10, 35]
abbrev r2 : List G := [L 33 5 11, K1 34 104 33, bi 35 .neq 34 0]
abbrev q3 := [4, 5, 6, 7, 8, 9, 10]
abbrev r3 : List G := [L 37 5 10, e 38 (.call true 50 [(i 1)]), k2 39 51 37 38, m 36 39, x 40 36 0, x 41 36 1]
abbrev t3 : List G := [V 5 10 40]
abbrev q4 := [4, 5, 6, 7, 8, 9, 10, 13]
abbrev r4 : List G := [L 43 5 10, L 44 5 7, K2 45 76 43 44, m 42 45, x 46 42 0, x 47 42 1, e 13 (.new zW), V 5 13 46, m 14 47]
abbrev q5 := [4, 5, 6, 7, 8, 9, 10, 51]
abbrev r5 : List G := [L 48 5 13, L 49 5 6, K2 50 54 48 49, bi 51 .leq 50 0]
abbrev q6 := [8, 9]
abbrev r6 : List G := [L 52 5 10, e 53 (.call true 50 [(i 1)])]
abbrev t6 : List G := [V 5 8 52, V 5 9 53]
abbrev q7 := [5, 6, 7, 8, 9, 15, 16]
abbrev r7 : List G := [L 55 5 4, L 56 5 5, K2 57 116 55 56, m 54 57, x 58 54 0, x 59 54 1, x 60 54 2, e 15 (.new zW), e 16 (.new zW), V 5 15 58, V 5 16 59, m 17 60]
abbrev q8 := [5, 6, 7, 8, 9, 15, 16, 18]
abbrev r8 : List G := [L 62 5 15, L 63 5 7, K2 64 76 62 63, m 61 64, x 65 61 0, x 66 61 1, e 18 (.new zW), V 5 18 65, m 19 66]
abbrev q9 := [5, 7, 8, 9, 15, 16, 20]
abbrev r9 : List G := [L 68 5 6, L 69 5 18, K2 70 53 68 69, m 67 70, x 71 67 0, x 72 67 1, e 20 (.new zW), V 5 20 71, m 21 72]
abbrev q10 := [8, 9, 15, 22, 23]
abbrev r10 : List G := [L 74 5 7, L 75 5 20, L 76 5 5, L 77 5 16, K4 78 150 74 75 76 77, m 73 78, x 79 73 0, x 80 73 1, e 22 (.new zW), e 23 (.new zW), V 5 22 79, V 5 23 80]
abbrev q11 := [8, 9, 22, 23, 24]
abbrev r11 : List G := [L 82 5 15, L 83 5 22, K2 84 76 82 83, m 81 84, x 85 81 0, x 86 81 1, e 24 (.new zW), V 5 24 85, m 25 86]
abbrev q12 := [8, 9, 22, 24]
abbrev r12 : List G := [L 88 5 24, L 89 5 23, K2 90 51 88 89, m 87 90, x 91 87 0, x 92 87 1, V 5 24 91]
abbrev o13 : List (List G) := [[L 93 5 24, L 94 5 22, V 5 8 93, V 5 9 94], [L 93 5 24, V 5 8 93, L 94 5 22, V 5 9 94], [L 94 5 22, L 93 5 24, V 5 8 93, V 5 9 94]]
abbrev c : MC := sq [g r0 q0, g r1 q1, sq [g r2 q2, ci 35 (gd r3 t3 q3) .skip], g r4 q4, sq [g r5 q5, ci 51 (sq [gd r6 t6 q6, .ret]) .skip], g r7 q7, g r8 q8, g r9 q9, g r10 q10, g r11 q11, g r12 q12, ga [] o13 q6, .ret]
theorem ok : compF Tryz.prog Tryz.f150 (an (rg 14) c [(3, 6, [5], (up 5 ++ [(5, 2)]), []), (6, 2, [], [(0, 0), (1, 0)], []), (13, 99999, [], [], [])]) = some (95, c, [(8, some (true, 5)), (9, some (true, 5))]) := by kernel_rfl
abbrev p1 := Pa C [] o13 q6 R
abbrev p2 := P C r12 q12 (p1 C R)
abbrev p3 := P C r11 q11 (p2 C R)
abbrev p4 := P C r10 q10 (p3 C R)
abbrev p5 := P C r9 q9 (p4 C R)
abbrev p6 := P C r8 q8 (p5 C R)
abbrev p7 := P C r7 q7 (p6 C R)
abbrev p9 := Pd C r6 t6 q6 R
abbrev p8 := cd (t 51) (p9 C R) (p7 C R)
abbrev p10 := P C r5 q5 (p8 C R)
abbrev p11 := P C r4 q4 (p10 C R)
abbrev p13 := Pd C r3 t3 q3 (p11 C R)
abbrev p12 := cd (t 35) (p13 C R) (p11 C R)
abbrev p14 := P C r2 q2 (p12 C R)
abbrev p15 := P C r1 q1 (p14 C R)
abbrev p16 := P C r0 q0 (p15 C R)
theorem s (S : St) : X C c (retK R) S = p16 C R S := by kernel_rfl
theorem E : type_of% @s := @s
end r04_positive
end Go.Proofs.YtncmmbacoknefaaGreat

/- Qc: What calls of the reference of ratio give. -/
namespace Go.Proofs.YtncmmbacoknefaaGreat
open Go Go.RowKit Sx
set_option linter.unusedVariables false
set_option linter.unusedSimpArgs false
theorem small_plain2 {m : Int} (h : A4 m) : m < ((2 ^ 127 : Nat) : Int) ↔ lb3 m = 0 ∧ lb2 m = 0 ∧ lb1 m < 9223372036854775808 := by
 rw [small_plain h]
 have := lb1_in m
 rw [Int.fdiv_eq_ediv_of_nonneg _ (by decide)]
 unfold U64 at this
 constructor
 ·rintro ⟨a, b, c⟩; exact ⟨a, b, by omega⟩
 ·rintro ⟨a, b, c⟩; exact ⟨a, b, by omega⟩
theorem rx_small {z : Int} (h : Fits z) (W : World) : Gives Tryz.prog 105 [WX z] W (· = .bool (decide (ab z < ((2 ^ 127 : Nat) : Int)))) := by
 have e := small_plain2 (m := ab z) ⟨ab_nonneg z, (fits_lt z).1 h⟩
 refine gives_known en_r03_small ?_
 rw [show decide (ab z < ((2 ^ 127 : Nat) : Int)) = (decide (lb3 (ab z) = 0) && (decide (lb2 (ab z) = 0) && decide (lb1 (ab z) < 9223372036854775808))) by rw [Bool.eq_iff_iff, decide_eq_true_iff, e]; simp]
 clear e h
 refine known_of (enter Tryz.func105 r03_small.ok (args := [WX z]) (by simp) ?_)
 repeat' (first | simp (disch := omega) only [sxE, r03_small.E, Nat.reduceAdd, Nat.reduceEqDiff, Nat.reduceMul, Nat.reduceSub, Int.reduceAdd, Int.reduceSub, Int.reduceMul, Int.reduceNeg, Int.reduceLT, Int.reduceLE, Int.reduceEq, Int.reduceToNat, ↓reduceIte, Int.reducePow, Nat.reduceLeDiff, Nat.reduceLT, ne_eq, eq_self, List.length_cons, List.length_nil, qxE] | ((with_reducible first | apply cond_beq | apply gd_beq) <;> (intro hc; first | simp only [beq_iff_eq.2 hc] | simp only [beq_eq_false_iff_ne.2 hc] | skip)) | ((with_reducible first | apply cond_dec | apply gd_dec) <;> (intro hc; first | simp only [decide_eq_true hc] | simp only [decide_eq_false hc] | skip)) | ((with_reducible first | apply cond_of | apply gd_of) <;> (intro hc; try simp only [hc])) | (with_reducible refine cregF ?_))
 all_goals (refine vb ?_; rw [Bool.eq_iff_iff]; simp_all)
theorem rx_abs {z : Int} (W : World) : Gives Tryz.prog 107 [WX z] W (· = WX (ab z)) := by
 refine gives_known en_r03_abs ?_
 refine known_of (enter Tryz.func107 r03_abs.ok (args := [_]) (by simp) ?_)
 repeat' (first | simp (disch := omega) only [sxE, r03_abs.E, Nat.reduceAdd, Nat.reduceEqDiff, Nat.reduceMul, Nat.reduceSub, Int.reduceAdd, Int.reduceSub, Int.reduceMul, Int.reduceNeg, Int.reduceLT, Int.reduceLE, Int.reduceEq, Int.reduceToNat, ↓reduceIte, Int.reducePow, Nat.reduceLeDiff, Nat.reduceLT, ne_eq, eq_self, List.length_cons, List.length_nil, qxE] | (with_reducible refine cregF ?_))
theorem rx_one (W : World) : Gives Tryz.prog 108 [] W (· = WX 1) := by
 refine gives_known en_r03_one ?_
 refine known_of (enter Tryz.func108 r03_one.ok (args := []) (by simp) ?_)
 repeat' (first | simp (disch := omega) only [sxE, r03_one.E, Nat.reduceAdd, Nat.reduceEqDiff, Nat.reduceMul, Nat.reduceSub, Int.reduceAdd, Int.reduceSub, Int.reduceMul, Int.reduceNeg, Int.reduceLT, Int.reduceLE, Int.reduceEq, Int.reduceToNat, ↓reduceIte, Int.reducePow, Nat.reduceLeDiff, Nat.reduceLT, ne_eq, eq_self, List.length_cons, List.length_nil, qxE] | (with_reducible refine Sx.call_at (f := 50) (fun W hW => rx_of i64_one W) ?_) | (with_reducible refine cregF ?_))
def gcF2 (x : Int × Int) : St := ⟨3, [(4, .p 2 0), (5, .v (.int .u64 x.1)), (7, .v (.int .u64 x.2))], [(2, [.bool false, .int .u64 0, .int .u64 0, .int .u64 0, .int .u64 0])], ext0⟩
set_option maxRecDepth 100000 in
theorem rx_gcd {z y : Int} (h : Fits z) (h' : Fits y) (n1 : 0 ≤ z) (n2 : 0 ≤ y) (W : World) : Gives Tryz.prog 106 [WX z, WX y] W (· = WX (gc z y)) := by
 refine gives_known en_r03_gcd ?_
 refine known_of (enter Tryz.func106 r03_gcd.ok (args := [WX z, WX y]) (by simp) ?_)
 repeat' (first | simp (disch := omega) only [sxE, r03_gcd.E, Nat.reduceAdd, Nat.reduceEqDiff, Nat.reduceMul, Nat.reduceSub, Int.reduceAdd, Int.reduceSub, Int.reduceMul, Int.reduceNeg, Int.reduceLT, Int.reduceLE, Int.reduceEq, Int.reduceToNat, ↓reduceIte, Int.reducePow, Nat.reduceLeDiff, Nat.reduceLT, ne_eq, eq_self, List.length_cons, List.length_nil, qxE] | (with_reducible refine cregF ?_))
 rw [r03_gcd.p2_l]
 refine LX_inv gcF (fun x => 0 ≤ x.1 ∧ 0 ≤ x.2 ∧ Fits x.1 ∧ Fits x.2 ∧ gc x.1 x.2 = gc z y) (fun x => x.2.toNat) ?round (z, y) ⟨n1, n2, h, h', rfl⟩ ?start
 case start =>
  unfold gcF wc
  dsimp only
  simp (disch := omega) only [sxE, r03_gcd.E, Nat.reduceAdd, Nat.reduceEqDiff, Nat.reduceMul, Nat.reduceSub, Int.reduceAdd, Int.reduceSub, Int.reduceMul, Int.reduceNeg, Int.reduceLT, Int.reduceLE, Int.reduceEq, Int.reduceToNat, ↓reduceIte, Int.reducePow, Nat.reduceLeDiff, Nat.reduceLT, ne_eq, eq_self, List.length_cons, List.length_nil]
 case round =>
  rintro ⟨x, w⟩ ⟨h1, h2, h3, h4, h5⟩
  dsimp only at h1 h2 h3 h4 h5 ⊢
  rw [← h5]
  clear h5 h h' n1 n2
  have hcm := cm_zero w
  unfold gcF wc
  dsimp only
  by_cases hw : w = 0
  ·subst hw
   rw [gc_zero x h1]
   have hc0 : cm 0 0 = 0 := rfl
   repeat' (first | simp (disch := omega) only [sxE, r03_gcd.E, Nat.reduceAdd, Nat.reduceEqDiff, Nat.reduceMul, Nat.reduceSub, Int.reduceAdd, Int.reduceSub, Int.reduceMul, Int.reduceNeg, Int.reduceLT, Int.reduceLE, Int.reduceEq, Int.reduceToNat, ↓reduceIte, Int.reducePow, Nat.reduceLeDiff, Nat.reduceLT, ne_eq, eq_self, List.length_cons, List.length_nil, qxE, hc0] | (with_reducible refine Sx.call_at (f := 104) (fun W hW => rx_sign h4 W) ?_) | (with_reducible refine cregF ?_))
  ·have hc0 : cm w 0 ≠ 0 := by rw [hcm]; (repeat' split) <;> omega
   have hq := fits_emod (z := x) h4 hw
   have hm0 := Int.emod_nonneg x hw
   have hm1 := Int.emod_lt_of_pos x (show 0 < w by omega)
   have hgs := gc_step h1 (show 0 < w by omega)
   clear hcm
   by_cases hu : x < 18446744073709551616 ∧ w < 18446744073709551616
   ·have u1 : unb x = true := decide_eq_true ⟨h1, hu.1⟩
    have u2 : unb w = true := decide_eq_true ⟨h2, hu.2⟩
    have u3 : unv x = x := by unfold unv; rw [u1]; rfl
    have u4 : unv w = w := by unfold unv; rw [u2]; rfl
    have k1 := fun W => rx_unsigned h3 W
    have k2 := fun W => rx_unsigned h4 W
    rw [u1, u3] at k1
    rw [u2, u4] at k2
    repeat' (first | simp (disch := omega) only [sxE, r03_gcd.E, Nat.reduceAdd, Nat.reduceEqDiff, Nat.reduceMul, Nat.reduceSub, Int.reduceAdd, Int.reduceSub, Int.reduceMul, Int.reduceNeg, Int.reduceLT, Int.reduceLE, Int.reduceEq, Int.reduceToNat, ↓reduceIte, Int.reducePow, Nat.reduceLeDiff, Nat.reduceLT, ne_eq, eq_self, List.length_cons, List.length_nil, qxE] | (with_reducible refine Sx.call_at (f := 104) (fun W hW => rx_sign h4 W) ?_) | (with_reducible refine Sx.call_at (f := 153) (fun W hW => k1 W) ?_) | (with_reducible refine Sx.call_at (f := 153) (fun W hW => k2 W) ?_) | (with_reducible refine cregF ?_))
    rw [r03_gcd.p7_l]
    obtain ⟨hu1, hu2⟩ := hu
    clear hgs hm0 hm1 hq hc0 hw u1 u2 u3 u4 k1 k2
    refine LX_inv gcF2 (fun t => U64 t.1 ∧ U64 t.2 ∧ gc t.1 t.2 = gc x w) (fun t => t.2.toNat) ?round2 (x, w) ⟨⟨h1, by omega⟩, ⟨h2, by omega⟩, rfl⟩ ?start2
    case start2 =>
     unfold gcF2
     dsimp only
     simp (disch := omega) only [sxE, r03_gcd.E, Nat.reduceAdd, Nat.reduceEqDiff, Nat.reduceMul, Nat.reduceSub, Int.reduceAdd, Int.reduceSub, Int.reduceMul, Int.reduceNeg, Int.reduceLT, Int.reduceLE, Int.reduceEq, Int.reduceToNat, ↓reduceIte, Int.reducePow, Nat.reduceLeDiff, Nat.reduceLT, ne_eq, eq_self, List.length_cons, List.length_nil]
    case round2 =>
     rintro ⟨s, t⟩ ⟨i1, i2, i3⟩
     dsimp only at i1 i2 i3 ⊢
     rw [← i3]
     unfold gcF2
     dsimp only
     by_cases ht : t = 0
     ·subst ht
      rw [gc_zero s i1.1]
      repeat' (first | simp (disch := omega) only [sxE, r03_gcd.E, Nat.reduceAdd, Nat.reduceEqDiff, Nat.reduceMul, Nat.reduceSub, Int.reduceAdd, Int.reduceSub, Int.reduceMul, Int.reduceNeg, Int.reduceLT, Int.reduceLE, Int.reduceEq, Int.reduceToNat, ↓reduceIte, Int.reducePow, Nat.reduceLeDiff, Nat.reduceLT, ne_eq, eq_self, List.length_cons, List.length_nil, qxE] | (with_reducible refine Sx.call_at (f := 75) (fun W hW => rx_ofU i1 W) ?_) | (with_reducible refine cregF ?_))
     ·have e1 : s.tmod t = s % t := Int.tmod_eq_emod_of_nonneg i1.1
      have j0 := Int.emod_nonneg s ht
      have j1 := Int.emod_lt_of_pos s (show 0 < t by have := i2.1; omega)
      have j2 := gc_step i1.1 (show 0 < t by have := i2.1; omega)
      have j3 := i2.2
      repeat' (first | simp (disch := omega) only [sxE, r03_gcd.E, Nat.reduceAdd, Nat.reduceEqDiff, Nat.reduceMul, Nat.reduceSub, Int.reduceAdd, Int.reduceSub, Int.reduceMul, Int.reduceNeg, Int.reduceLT, Int.reduceLE, Int.reduceEq, Int.reduceToNat, ↓reduceIte, Int.reducePow, Nat.reduceLeDiff, Nat.reduceLT, ne_eq, eq_self, List.length_cons, List.length_nil, qxE, e1] | (with_reducible refine cregF ?_))
      exact ⟨(t, s % t), ⟨i2, ⟨j0, by dsimp only; omega⟩, j2⟩, by dsimp only; omega, by repeat' (first | (with_reducible rfl) | (exact Or.inl rfl) | apply And.intro)⟩
   ·have u2 : unb x = false ∨ unb w = false := by
     rcases Int.lt_or_le x 18446744073709551616 with hl | hl
     ·right; exact decide_eq_false (by omega)
     ·left; exact decide_eq_false (by omega)
    have k1 := fun W => rx_unsigned h3 W
    have k2 := fun W => rx_unsigned h4 W
    generalize unb x = p1 at *
    generalize unb w = p2 at *
    generalize unv x = w1 at *
    generalize unv w = w2 at *
    clear hu
    cases p1
    ·repeat' (first | simp (disch := omega) only [sxE, r03_gcd.E, Nat.reduceAdd, Nat.reduceEqDiff, Nat.reduceMul, Nat.reduceSub, Int.reduceAdd, Int.reduceSub, Int.reduceMul, Int.reduceNeg, Int.reduceLT, Int.reduceLE, Int.reduceEq, Int.reduceToNat, ↓reduceIte, Int.reducePow, Nat.reduceLeDiff, Nat.reduceLT, ne_eq, eq_self, List.length_cons, List.length_nil, qxE] | (with_reducible refine Sx.call_at (f := 104) (fun W hW => rx_sign h4 W) ?_) | (with_reducible refine Sx.call_at (f := 153) (fun W hW => k1 W) ?_) | (with_reducible refine Sx.call_at (f := 153) (fun W hW => k2 W) ?_) | (with_reducible refine Sx.call_at (f := 116) (fun W hW => rx_divmod h3 h4 hw W) ?_) | (with_reducible refine cregF ?_))
     exact ⟨(w, x % w), ⟨h2, hm0, h4, hq, hgs⟩, by dsimp only; omega, by repeat' (first | (with_reducible rfl) | (exact Or.inl rfl) | apply And.intro)⟩
    ·obtain rfl : p2 = false := by rcases u2 with h | h; cases h; exact h
     repeat' (first | simp (disch := omega) only [sxE, r03_gcd.E, Nat.reduceAdd, Nat.reduceEqDiff, Nat.reduceMul, Nat.reduceSub, Int.reduceAdd, Int.reduceSub, Int.reduceMul, Int.reduceNeg, Int.reduceLT, Int.reduceLE, Int.reduceEq, Int.reduceToNat, ↓reduceIte, Int.reducePow, Nat.reduceLeDiff, Nat.reduceLT, ne_eq, eq_self, List.length_cons, List.length_nil, qxE] | (with_reducible refine Sx.call_at (f := 104) (fun W hW => rx_sign h4 W) ?_) | (with_reducible refine Sx.call_at (f := 153) (fun W hW => k1 W) ?_) | (with_reducible refine Sx.call_at (f := 153) (fun W hW => k2 W) ?_) | (with_reducible refine Sx.call_at (f := 116) (fun W hW => rx_divmod h3 h4 hw W) ?_) | (with_reducible refine cregF ?_))
     exact ⟨(w, x % w), ⟨h2, hm0, h4, hq, hgs⟩, by dsimp only; omega, by repeat' (first | (with_reducible rfl) | (exact Or.inl rfl) | apply And.intro)⟩
set_option maxRecDepth 100000 in
theorem rx_rvalid {p q : Int} (h : Fits p) (h' : Fits q) (W : World) : Gives Tryz.prog 49 [RX p q] W (· = .bool (rok true p q)) := by
 have hg := fits_gc h h'
 have hcm := cm_pos q
 have gq := fun (hq : 0 ≤ q) W => rx_gcd (fits_ab h) h' (ab_nonneg p) hq W
 rw [gc_abl] at gq
 refine gives_known en_r03_Valid ?_
 by_cases hq : 0 < q
 ·have gq := gq (by omega)
  have hc0 : ¬ cm q 0 ≤ 0 := by omega
  refine known_of (enter Tryz.func49 r03_Valid.ok (args := [RX p q]) (by simp) ?_)
  repeat' (first | simp (disch := omega) only [sxE, r03_Valid.E, Nat.reduceAdd, Nat.reduceEqDiff, Nat.reduceMul, Nat.reduceSub, Int.reduceAdd, Int.reduceSub, Int.reduceMul, Int.reduceNeg, Int.reduceLT, Int.reduceLE, Int.reduceEq, Int.reduceToNat, ↓reduceIte, Int.reducePow, Nat.reduceLeDiff, Nat.reduceLT, ne_eq, eq_self, List.length_cons, List.length_nil, qxE] | (with_reducible refine Sx.call_at (f := 100) (fun W hW => rx_valid h W) ?_) | (with_reducible refine Sx.call_at (f := 100) (fun W hW => rx_valid h' W) ?_) | (with_reducible refine Sx.call_at (f := 104) (fun W hW => rx_sign h' W) ?_) | (with_reducible refine Sx.call_at (f := 105) (fun W hW => rx_small h W) ?_) | (with_reducible refine Sx.call_at (f := 105) (fun W hW => rx_small h' W) ?_) | (with_reducible refine Sx.call_at (f := 107) (fun W hW => rx_abs W) ?_) | (with_reducible refine Sx.call_at (f := 106) (fun W hW => gq W) ?_) | (with_reducible refine Sx.call_at (f := 108) (fun W hW => rx_one W) ?_) | ((with_reducible apply Sx.eq_is); (case h => exact fun W => eqx_run hg fits_one W); (case' hk => skip)) | ((with_reducible first | apply cond_beq | apply gd_beq) <;> (intro hc; first | simp only [beq_iff_eq.2 hc] | simp only [beq_eq_false_iff_ne.2 hc] | skip)) | ((with_reducible first | apply cond_dec | apply gd_dec) <;> (intro hc; first | simp only [decide_eq_true hc] | simp only [decide_eq_false hc] | skip)) | ((with_reducible first | apply cond_of | apply gd_of) <;> (intro hc; try simp only [hc])) | (with_reducible refine cregF ?_))
  all_goals (refine vb ?_; unfold rok; rw [Bool.eq_iff_iff]; simp_all <;> (intros; omega))
 ·have hc0 : cm q 0 ≤ 0 := by omega
  have e : rok true p q = false := by unfold rok; rw [decide_eq_false hq]; rfl
  rw [e]
  refine known_of (enter Tryz.func49 r03_Valid.ok (args := [RX p q]) (by simp) ?_)
  repeat' (first | simp (disch := omega) only [sxE, r03_Valid.E, Nat.reduceAdd, Nat.reduceEqDiff, Nat.reduceMul, Nat.reduceSub, Int.reduceAdd, Int.reduceSub, Int.reduceMul, Int.reduceNeg, Int.reduceLT, Int.reduceLE, Int.reduceEq, Int.reduceToNat, ↓reduceIte, Int.reducePow, Nat.reduceLeDiff, Nat.reduceLT, ne_eq, eq_self, List.length_cons, List.length_nil, qxE] | (with_reducible refine Sx.call_at (f := 100) (fun W hW => rx_valid h W) ?_) | (with_reducible refine Sx.call_at (f := 100) (fun W hW => rx_valid h' W) ?_) | (with_reducible refine Sx.call_at (f := 104) (fun W hW => rx_sign h' W) ?_) | (with_reducible refine cregF ?_))
theorem rx_rvalid0 {v : Value} (h : BadR v) (W : World) : Gives Tryz.prog 49 [v] W (· = .bool false) := by
 refine gives_known en_r03_Valid ?_
 rcases h with ⟨q, h, rfl⟩ | ⟨p, h, rfl⟩ | rfl
 ·refine known_of (enter Tryz.func49 r03_Valid.ok (args := [_]) (by simp) ?_)
  repeat' (first | simp (disch := omega) only [sxE, r03_Valid.E, Nat.reduceAdd, Nat.reduceEqDiff, Nat.reduceMul, Nat.reduceSub, Int.reduceAdd, Int.reduceSub, Int.reduceMul, Int.reduceNeg, Int.reduceLT, Int.reduceLE, Int.reduceEq, Int.reduceToNat, ↓reduceIte, Int.reducePow, Nat.reduceLeDiff, Nat.reduceLT, ne_eq, eq_self, List.length_cons, List.length_nil, qxE] | (with_reducible refine Sx.call_at (f := 100) (fun W hW => rx_valid0 W) ?_) | (with_reducible refine cregF ?_))
 ·refine known_of (enter Tryz.func49 r03_Valid.ok (args := [_]) (by simp) ?_)
  repeat' (first | simp (disch := omega) only [sxE, r03_Valid.E, Nat.reduceAdd, Nat.reduceEqDiff, Nat.reduceMul, Nat.reduceSub, Int.reduceAdd, Int.reduceSub, Int.reduceMul, Int.reduceNeg, Int.reduceLT, Int.reduceLE, Int.reduceEq, Int.reduceToNat, ↓reduceIte, Int.reducePow, Nat.reduceLeDiff, Nat.reduceLT, ne_eq, eq_self, List.length_cons, List.length_nil, qxE] | (with_reducible refine Sx.call_at (f := 100) (fun W hW => rx_valid h W) ?_) | (with_reducible refine Sx.call_at (f := 100) (fun W hW => rx_valid0 W) ?_) | (with_reducible refine cregF ?_))
 ·refine known_of (enter Tryz.func49 r03_Valid.ok (args := [_]) (by simp) ?_)
  repeat' (first | simp (disch := omega) only [sxE, r03_Valid.E, Nat.reduceAdd, Nat.reduceEqDiff, Nat.reduceMul, Nat.reduceSub, Int.reduceAdd, Int.reduceSub, Int.reduceMul, Int.reduceNeg, Int.reduceLT, Int.reduceLE, Int.reduceEq, Int.reduceToNat, ↓reduceIte, Int.reducePow, Nat.reduceLeDiff, Nat.reduceLT, ne_eq, eq_self, List.length_cons, List.length_nil, qxE] | (with_reducible refine Sx.call_at (f := 100) (fun W hW => rx_valid0 W) ?_) | (with_reducible refine cregF ?_))
theorem rx_rof {z : Int} (h : I64 z) (W : World) : Gives Tryz.prog 78 [.int .i64 z] W (· = RX z 1) := by
 refine gives_known en_r03_Of ?_
 refine known_of (enter Tryz.func78 r03_Of.ok (args := [_]) (by simp) ?_)
 repeat' (first | simp (disch := omega) only [sxE, r03_Of.E, Nat.reduceAdd, Nat.reduceEqDiff, Nat.reduceMul, Nat.reduceSub, Int.reduceAdd, Int.reduceSub, Int.reduceMul, Int.reduceNeg, Int.reduceLT, Int.reduceLE, Int.reduceEq, Int.reduceToNat, ↓reduceIte, Int.reducePow, Nat.reduceLeDiff, Nat.reduceLT, ne_eq, eq_self, List.length_cons, List.length_nil, qxE] | (with_reducible refine Sx.call_at (f := 50) (fun W hW => rx_of h W) ?_) | (with_reducible refine Sx.call_at (f := 108) (fun W hW => rx_one W) ?_) | (with_reducible refine cregF ?_))
theorem x_foldR01 (q : Int) : Value.agg [.bool false, .int .u64 0, .int .u64 0, .int .u64 0, .int .u64 0, .bool (sg q), .int .u64 (lb0 (ab q)), .int .u64 (lb1 (ab q)), .int .u64 (lb2 (ab q)), .int .u64 (lb3 (ab q))].toArray = RX 0 q := rfl
set_option maxRecDepth 100000 in
theorem rx_rclean {v : Value} {p q : Int} (h : CQ v p q) (W : World) : Gives Tryz.prog 115 [v] W (· = RX p q) := by
 refine gives_known en_r03_clean ?_
 rcases h with ⟨x, y, h1, h2, rfl, rfl, rfl⟩ | ⟨h, rfl, rfl⟩
 ·unfold qn qd
  cases hk : rok true x y
  ·refine known_of (enter Tryz.func115 r03_clean.ok (args := [_]) (by simp) ?_)
   repeat' (first | simp (disch := omega) only [sxE, r03_clean.E, Nat.reduceAdd, Nat.reduceEqDiff, Nat.reduceMul, Nat.reduceSub, Int.reduceAdd, Int.reduceSub, Int.reduceMul, Int.reduceNeg, Int.reduceLT, Int.reduceLE, Int.reduceEq, Int.reduceToNat, ↓reduceIte, Int.reducePow, Nat.reduceLeDiff, Nat.reduceLT, ne_eq, eq_self, List.length_cons, List.length_nil, qxE, hk, x_foldR01] | (with_reducible refine Sx.call_at (f := 49) (fun W hW => rx_rvalid h1 h2 W) ?_) | (with_reducible refine Sx.call_at (f := 108) (fun W hW => rx_one W) ?_) | (with_reducible refine cregF ?_))
  ·refine known_of (enter Tryz.func115 r03_clean.ok (args := [_]) (by simp) ?_)
   repeat' (first | simp (disch := omega) only [sxE, r03_clean.E, Nat.reduceAdd, Nat.reduceEqDiff, Nat.reduceMul, Nat.reduceSub, Int.reduceAdd, Int.reduceSub, Int.reduceMul, Int.reduceNeg, Int.reduceLT, Int.reduceLE, Int.reduceEq, Int.reduceToNat, ↓reduceIte, Int.reducePow, Nat.reduceLeDiff, Nat.reduceLT, ne_eq, eq_self, List.length_cons, List.length_nil, qxE, hk] | (with_reducible refine Sx.call_at (f := 49) (fun W hW => rx_rvalid h1 h2 W) ?_) | (with_reducible refine cregF ?_))
 ·have hv := fun W => rx_rvalid0 h W
  rcases h with ⟨q, h, rfl⟩ | ⟨p, h, rfl⟩ | rfl
  ·refine known_of (enter Tryz.func115 r03_clean.ok (args := [_]) (by simp) ?_)
   repeat' (first | simp (disch := omega) only [sxE, r03_clean.E, Nat.reduceAdd, Nat.reduceEqDiff, Nat.reduceMul, Nat.reduceSub, Int.reduceAdd, Int.reduceSub, Int.reduceMul, Int.reduceNeg, Int.reduceLT, Int.reduceLE, Int.reduceEq, Int.reduceToNat, ↓reduceIte, Int.reducePow, Nat.reduceLeDiff, Nat.reduceLT, ne_eq, eq_self, List.length_cons, List.length_nil, qxE, x_foldR01] | (with_reducible refine Sx.call_at (f := 49) (fun W hW => hv W) ?_) | (with_reducible refine Sx.call_at (f := 108) (fun W hW => rx_one W) ?_) | (with_reducible refine cregF ?_))
  ·refine known_of (enter Tryz.func115 r03_clean.ok (args := [_]) (by simp) ?_)
   repeat' (first | simp (disch := omega) only [sxE, r03_clean.E, Nat.reduceAdd, Nat.reduceEqDiff, Nat.reduceMul, Nat.reduceSub, Int.reduceAdd, Int.reduceSub, Int.reduceMul, Int.reduceNeg, Int.reduceLT, Int.reduceLE, Int.reduceEq, Int.reduceToNat, ↓reduceIte, Int.reducePow, Nat.reduceLeDiff, Nat.reduceLT, ne_eq, eq_self, List.length_cons, List.length_nil, qxE, x_foldR01] | (with_reducible refine Sx.call_at (f := 49) (fun W hW => hv W) ?_) | (with_reducible refine Sx.call_at (f := 108) (fun W hW => rx_one W) ?_) | (with_reducible refine cregF ?_))
  ·refine known_of (enter Tryz.func115 r03_clean.ok (args := [_]) (by simp) ?_)
   repeat' (first | simp (disch := omega) only [sxE, r03_clean.E, Nat.reduceAdd, Nat.reduceEqDiff, Nat.reduceMul, Nat.reduceSub, Int.reduceAdd, Int.reduceSub, Int.reduceMul, Int.reduceNeg, Int.reduceLT, Int.reduceLE, Int.reduceEq, Int.reduceToNat, ↓reduceIte, Int.reducePow, Nat.reduceLeDiff, Nat.reduceLT, ne_eq, eq_self, List.length_cons, List.length_nil, qxE, x_foldR01] | (with_reducible refine Sx.call_at (f := 49) (fun W hW => hv W) ?_) | (with_reducible refine Sx.call_at (f := 108) (fun W hW => rx_one W) ?_) | (with_reducible refine cregF ?_))
theorem rx_rcompare {v v' : Value} {p q p' q' : Int} (h : CQ v p q) (h' : CQ v' p' q') (W : World) : Gives Tryz.prog 99 [v, v'] W (· = .int .i64 (cq p q p' q')) := by
 obtain ⟨c0, c1, c2, c3, c4, c5, c6, c7, c8, c9, rfl⟩ := h.ten
 obtain ⟨d0, d1, d2, d3, d4, d5, d6, d7, d8, d9, rfl⟩ := h'.ten
 have f := h.fq
 have f' := h'.fq
 have m1 := f.fm f'
 have m2 := f'.fm f
 refine gives_known en_r03_Compare ?_
 refine known_of (enter Tryz.func99 r03_Compare.ok (args := [_, _]) (by simp) ?_)
 repeat' (first | simp (disch := omega) only [sxE, r03_Compare.E, Nat.reduceAdd, Nat.reduceEqDiff, Nat.reduceMul, Nat.reduceSub, Int.reduceAdd, Int.reduceSub, Int.reduceMul, Int.reduceNeg, Int.reduceLT, Int.reduceLE, Int.reduceEq, Int.reduceToNat, ↓reduceIte, Int.reducePow, Nat.reduceLeDiff, Nat.reduceLT, ne_eq, eq_self, List.length_cons, List.length_nil, qxE] | (with_reducible refine Sx.call_at (f := 115) (fun W hW => rx_rclean h W) ?_) | (with_reducible refine Sx.call_at (f := 115) (fun W hW => rx_rclean h' W) ?_) | (with_reducible refine Sx.call_at (f := 76) (fun W hW => rx_mul f.fp f'.fq m1 W) ?_) | (with_reducible refine Sx.call_at (f := 76) (fun W hW => rx_mul f'.fp f.fq m2 W) ?_) | (with_reducible refine Sx.call_at (f := 54) (fun W hW => rx_compare m1 m2 W) ?_) | (with_reducible refine cregF ?_))
 rfl
theorem sg_beq (z y : Int) : (sg z == sg y) = decide ((z < 0) ↔ (y < 0)) := by
 unfold sg
 by_cases h : z < 0 <;> by_cases h' : y < 0 <;> simp [h, h']
theorem mn_sg {z y : Int} (hy : y ≠ 0) : ((z < 0 ↔ y < 0) → mn z y = ab z / gc z y) ∧ (¬ (z < 0 ↔ y < 0) → mn z y = -(ab z / gc z y)) := by
 have hd : gc z y ∣ z := gc_dvd_l z y
 unfold mn ab
 by_cases h : z < 0 <;> by_cases h' : y < 0 <;> simp only [h, h', if_true, if_false, iff_true, iff_false, not_true_eq_false, not_false_eq_true, false_implies, true_implies, and_true, true_and, forall_const]
 ·rw [Int.neg_ediv_of_dvd hd, Int.neg_neg]
 ·exact Int.neg_ediv_of_dvd hd
set_option maxRecDepth 100000 in
theorem rx_rmake {v v' : Value} {b b' : Bool} {z y : Int} (h : RW v b z) (h' : RW v' b' y) (W : World) : Gives Tryz.prog 77 [v, v'] W (· = mkV (b && b') z y) := by
 refine gives_known en_r03_Make ?_
 have v1 := fun W => ry_valid h W
 have v2 := fun W => ry_valid h' W
 have s2 := fun W => rg_sign h'.is W
 by_cases hbad : b = false ∨ b' = false ∨ y = 0
 ·have e : mkV (b && b') z y = .tuple #[RX 0 0, .bool false] := by
   unfold mkV mok
   rcases hbad with rfl | rfl | rfl
   ·rfl
   ·rw [Bool.and_false]; rfl
   ·rw [if_neg (by simp)]
  rw [e]
  obtain ⟨c0, c1, c2, c3, c4, rfl⟩ := h.five
  obtain ⟨d0, d1, d2, d3, d4, rfl⟩ := h'.five
  have hcm := cm_zero_iff y
  clear e h h'
  cases b
  ·refine known_of (enter Tryz.func77 r03_Make.ok (args := [_, _]) (by simp) ?_)
   repeat' (first | simp (disch := omega) only [sxE, r03_Make.E, Nat.reduceAdd, Nat.reduceEqDiff, Nat.reduceMul, Nat.reduceSub, Int.reduceAdd, Int.reduceSub, Int.reduceMul, Int.reduceNeg, Int.reduceLT, Int.reduceLE, Int.reduceEq, Int.reduceToNat, ↓reduceIte, Int.reducePow, Nat.reduceLeDiff, Nat.reduceLT, ne_eq, eq_self, List.length_cons, List.length_nil, qxE] | (with_reducible refine Sx.call_at (f := 100) (fun W hW => v1 W) ?_) | (with_reducible refine cregF ?_))
  ·cases b'
   ·refine known_of (enter Tryz.func77 r03_Make.ok (args := [_, _]) (by simp) ?_)
    repeat' (first | simp (disch := omega) only [sxE, r03_Make.E, Nat.reduceAdd, Nat.reduceEqDiff, Nat.reduceMul, Nat.reduceSub, Int.reduceAdd, Int.reduceSub, Int.reduceMul, Int.reduceNeg, Int.reduceLT, Int.reduceLE, Int.reduceEq, Int.reduceToNat, ↓reduceIte, Int.reducePow, Nat.reduceLeDiff, Nat.reduceLT, ne_eq, eq_self, List.length_cons, List.length_nil, qxE] | (with_reducible refine Sx.call_at (f := 100) (fun W hW => v1 W) ?_) | (with_reducible refine Sx.call_at (f := 100) (fun W hW => v2 W) ?_) | (with_reducible refine cregF ?_))
   ·have hc0 : cm y 0 = 0 := hcm.2 (by rcases hbad with h | h | h; cases h; cases h; exact h)
    clear hcm hbad
    refine known_of (enter Tryz.func77 r03_Make.ok (args := [_, _]) (by simp) ?_)
    repeat' (first | simp (disch := omega) only [sxE, r03_Make.E, Nat.reduceAdd, Nat.reduceEqDiff, Nat.reduceMul, Nat.reduceSub, Int.reduceAdd, Int.reduceSub, Int.reduceMul, Int.reduceNeg, Int.reduceLT, Int.reduceLE, Int.reduceEq, Int.reduceToNat, ↓reduceIte, Int.reducePow, Nat.reduceLeDiff, Nat.reduceLT, ne_eq, eq_self, List.length_cons, List.length_nil, qxE, hc0] | (with_reducible refine Sx.call_at (f := 100) (fun W hW => v1 W) ?_) | (with_reducible refine Sx.call_at (f := 100) (fun W hW => v2 W) ?_) | (with_reducible refine Sx.call_at (f := 104) (fun W hW => s2 W) ?_) | (with_reducible refine cregF ?_))
 ·obtain ⟨rfl, rfl⟩ : b = true ∧ b' = true := by
   cases b
   ·exact absurd (.inl rfl) hbad
   ·cases b'
    ·exact absurd (.inr (.inl rfl)) hbad
    ·exact ⟨rfl, rfl⟩
  have hy : y ≠ 0 := fun e => hbad (.inr (.inr e))
  rcases h with ⟨-, rfl, h⟩ | ⟨h, -, -⟩
  rotate_left
  ·cases h
  rcases h' with ⟨-, rfl, h'⟩ | ⟨h', -, -⟩
  rotate_left
  ·cases h'
  have hc0 : cm y 0 ≠ 0 := fun e => hy ((cm_zero_iff y).1 e)
  have f1 := fits_mn h hy
  have f2 := fits_mD (z := z) h' hy
  have a1 := fits_ab h
  have a2 := fits_ab h'
  have hg := fits_gc h h'
  have hgp := gc_pos (x := z) hy
  have hgn : gc z y ≠ 0 := by omega
  have e : mkV (true && true) z y = if rok true (mn z y) (mD z y) = true then .tuple #[RX (mn z y) (mD z y), .bool true] else .tuple #[RX 0 0, .bool false] := by
   unfold mkV mok rok
   rw [decide_eq_false hy, decide_eq_true (mk_pos hy), decide_eq_true (mk_gc hy)]
   simp only [Bool.and_true, Bool.true_and, Bool.not_false]
  rw [e]
  have k1 := fun W => rx_rvalid f1 f2 W
  generalize rok true (mn z y) (mD z y) = t at *
  clear e hbad
  have sb := sg_beq z y
  have gg := fun W => rx_gcd a1 a2 (ab_nonneg z) (ab_nonneg y) W
  rw [gc_abs] at gg
  have d1 := fun W => rx_divmod a1 hg hgn W
  have d2 := fun W => rx_divmod a2 hg hgn W
  have e2 : ab y / gc z y = mD z y := rfl
  rw [e2] at d2
  have f3 := fits_ediv a1 hgn
  obtain ⟨m1, m2⟩ := mn_sg (z := z) hy
  by_cases hs : (z < 0 ↔ y < 0)
  ·have e1 := m1 hs
   rw [e1] at k1 f1 ⊢
   rw [decide_eq_true hs] at sb
   clear m1 m2 e1 e2 hs
   generalize ab z / gc z y = N at *
   generalize mD z y = D at *
   generalize gc z y = G at *
   cases t
   all_goals
    refine known_of (enter Tryz.func77 r03_Make.ok (args := [_, _]) (by simp) ?_)
    repeat' (first | simp (disch := omega) only [sxE, r03_Make.E, Nat.reduceAdd, Nat.reduceEqDiff, Nat.reduceMul, Nat.reduceSub, Int.reduceAdd, Int.reduceSub, Int.reduceMul, Int.reduceNeg, Int.reduceLT, Int.reduceLE, Int.reduceEq, Int.reduceToNat, ↓reduceIte, Int.reducePow, Nat.reduceLeDiff, Nat.reduceLT, ne_eq, eq_self, List.length_cons, List.length_nil, qxE, sb] | (with_reducible refine Sx.call_at (f := 100) (fun W hW => v1 W) ?_) | (with_reducible refine Sx.call_at (f := 100) (fun W hW => v2 W) ?_) | (with_reducible refine Sx.call_at (f := 104) (fun W hW => s2 W) ?_) | (with_reducible refine Sx.call_at (f := 107) (fun W hW => rx_abs W) ?_) | (with_reducible refine Sx.call_at (f := 106) (fun W hW => gg W) ?_) | (with_reducible refine Sx.call_at (f := 116) (fun W hW => d1 W) ?_) | (with_reducible refine Sx.call_at (f := 116) (fun W hW => d2 W) ?_) | (with_reducible refine Sx.call_at (f := 49) (fun W hW => k1 W) ?_) | (with_reducible refine cregF ?_))
    try rfl
  ·have e1 := m2 hs
   rw [e1] at k1 f1 ⊢
   rw [decide_eq_false hs] at sb
   clear m1 m2 e1 e2 hs
   generalize ab z / gc z y = N at *
   generalize mD z y = D at *
   generalize gc z y = G at *
   cases t
   all_goals
    refine known_of (enter Tryz.func77 r03_Make.ok (args := [_, _]) (by simp) ?_)
    repeat' (first | simp (disch := omega) only [sxE, r03_Make.E, Nat.reduceAdd, Nat.reduceEqDiff, Nat.reduceMul, Nat.reduceSub, Int.reduceAdd, Int.reduceSub, Int.reduceMul, Int.reduceNeg, Int.reduceLT, Int.reduceLE, Int.reduceEq, Int.reduceToNat, ↓reduceIte, Int.reducePow, Nat.reduceLeDiff, Nat.reduceLT, ne_eq, eq_self, List.length_cons, List.length_nil, qxE, sb] | (with_reducible refine Sx.call_at (f := 100) (fun W hW => v1 W) ?_) | (with_reducible refine Sx.call_at (f := 100) (fun W hW => v2 W) ?_) | (with_reducible refine Sx.call_at (f := 104) (fun W hW => s2 W) ?_) | (with_reducible refine Sx.call_at (f := 107) (fun W hW => rx_abs W) ?_) | (with_reducible refine Sx.call_at (f := 106) (fun W hW => gg W) ?_) | (with_reducible refine Sx.call_at (f := 116) (fun W hW => d1 W) ?_) | (with_reducible refine Sx.call_at (f := 116) (fun W hW => d2 W) ?_) | (with_reducible refine Sx.call_at (f := 117) (fun W hW => rx_neg f3 W) ?_) | (with_reducible refine Sx.call_at (f := 49) (fun W hW => k1 W) ?_) | (with_reducible refine cregF ?_))
    try rfl
end Go.Proofs.YtncmmbacoknefaaGreat

/- Spl: Plain facts of the simplest fraction of an interval. -/
namespace Go.Proofs.YtncmmbacoknefaaGreat
set_option linter.unusedVariables false
set_option linter.unusedSimpArgs false
def sp : Nat → Int → Int → Int → Int → Int × Int
 | 0, _, _, _, _ => (0, 0)
 | n + 1, a, b, c, d =>
  if a % b = 0 then (a / b, 1)
  else if a / b < c / d then (a / b + 1, 1)
  else (a / b * (sp n d (c % d) b (a % b)).1 + (sp n d (c % d) b (a % b)).2, (sp n d (c % d) b (a % b)).1)
structure SpP (a b c d x y : Int) : Prop where
 px : 0 < x
 py : 0 < y
 gc : gc x y = 1
 lo : a * y ≤ x * b
 hi : x * d ≤ c * y
 least : ∀ u v, 0 < v → a * v ≤ u * b → u * d ≤ c * v → x ≤ u ∧ y ≤ v
theorem gc_one (x : Int) : gc x 1 = 1 := by unfold gc; rw [Int.gcd_one_right]; rfl
theorem gc_lin (q n m : Int) : gc (q * n + m) n = gc n m := by
 rw [gc_sym]
 unfold gc
 rw [Int.gcd_mul_right_add_right]
theorem sp_facts {a b c d : Int} (hb : 0 < b) (hd : 0 < d) (ha : 0 < a) (h : a * d ≤ c * b) (h1 : a % b ≠ 0) (h2 : ¬ a / b < c / d) :
  0 < a % b ∧ a % b < b ∧ 0 < c % d ∧ c % d < d ∧ a = a / b * b + a % b ∧ c = a / b * d + c % d ∧ 0 ≤ a / b ∧ d * (a % b) ≤ b * (c % d) := by
 have e1 := Int.mul_ediv_add_emod a b
 have e2 := Int.mul_ediv_add_emod c d
 have r1 := Int.emod_nonneg a (Int.ne_of_gt hb)
 have r2 := Int.emod_lt_of_pos a hb
 have r3 := Int.emod_nonneg c (Int.ne_of_gt hd)
 have r4 := Int.emod_lt_of_pos c hd
 have hq0 := Int.ediv_nonneg (Int.le_of_lt ha) (Int.le_of_lt hb)
 have hle : a / b ≤ c / d := by
  refine le_fl hd ?_
  refine mul_le_cancel hb ?_
  have := fl_le (x := a) hb
  have e3 : b * (a / b * d) = a / b * b * d := by rw [Int.mul_left_comm, Int.mul_assoc]
  have e4 := Int.mul_le_mul_of_nonneg_right this.1 (Int.le_of_lt hd)
  rw [e3, Int.mul_comm b c]
  omega
 have heq : c / d = a / b := by omega
 rw [Int.mul_comm] at e1 e2
 rw [heq] at e2
 generalize a / b = q at *
 generalize a % b = r at *
 generalize c % d = s at *
 have key : d * r ≤ b * s := by
  have h3 : (q * b + r) * d ≤ (q * d + s) * b := by rw [e1, e2]; exact h
  rw [Int.add_mul, Int.add_mul, Int.mul_right_comm q d b, Int.mul_comm r d, Int.mul_comm s b] at h3
  omega
 refine ⟨by omega, r2, ?_, r4, e1.symm, e2.symm, hq0, key⟩
 rcases Int.lt_or_eq_of_le r3 with h | h
 ·exact h
 ·rw [← h, Int.mul_zero] at key
  have : 0 < d * r := Int.mul_pos hd (by omega)
  omega
theorem sp_spec : ∀ (n : Nat) (a b c d : Int), 0 < b → 0 < d → 0 < a → a * d ≤ c * b → b + d ≤ n → SpP a b c d (sp n a b c d).1 (sp n a b c d).2
 | 0, a, b, c, d, hb, hd, _, _, hn => by omega
 | n + 1, a, b, c, d, hb, hd, ha, h, hn => by
  unfold sp
  have fa := fl_le (x := a) hb
  have fc := fl_le (x := c) hd
  have hq0 := Int.ediv_nonneg (Int.le_of_lt ha) (Int.le_of_lt hb)
  by_cases h1 : a % b = 0
  ·rw [if_pos h1]
   have e1 := Int.mul_ediv_add_emod a b
   rw [h1, Int.add_zero, Int.mul_comm] at e1
   generalize a / b = q at *
   have hq : 0 < q := by
    rcases Int.lt_or_eq_of_le hq0 with h | h
    ·exact h
    ·rw [← h, Int.zero_mul] at e1; omega
   refine ⟨hq, Int.one_pos, gc_one q, ?_, ?_, fun u v hv h3 h4 => ?_⟩
   ·show a * 1 ≤ q * b
    omega
   ·show q * d ≤ c * 1
    refine mul_le_cancel hb ?_
    rw [← e1] at h
    rw [Int.mul_left_comm, Int.mul_one, ← Int.mul_assoc, Int.mul_comm b c]
    exact h
   ·refine ⟨?_, by show (1 : Int) ≤ v; omega⟩
    show q ≤ u
    have h5 : q * v ≤ u := by
     refine mul_le_cancel hb ?_
     rw [← e1] at h3
     rw [Int.mul_left_comm, ← Int.mul_assoc, Int.mul_comm b u]
     exact h3
    have h6 := Int.mul_le_mul_of_nonneg_left (show 1 ≤ v by omega) (Int.le_of_lt hq)
    omega
  ·rw [if_neg h1]
   have e1 := Int.mul_ediv_add_emod a b
   have r1 := Int.emod_nonneg a (Int.ne_of_gt hb)
   rw [Int.mul_comm] at e1
   by_cases h2 : a / b < c / d
   ·rw [if_pos h2]
    refine ⟨?_, Int.one_pos, gc_one _, ?_, ?_, fun u v hv h3 h4 => ⟨?_, by show (1 : Int) ≤ v; omega⟩⟩
    ·show 0 < a / b + 1
     omega
    ·show a * 1 ≤ (a / b + 1) * b
     rw [Int.add_mul]; omega
    ·show (a / b + 1) * d ≤ c * 1
     have := Int.mul_le_mul_of_nonneg_right (show a / b + 1 ≤ c / d by omega) (Int.le_of_lt hd)
     omega
    ·show a / b + 1 ≤ u
     have h5 : a / b * v < u := by
      rcases Int.lt_or_le (a / b * v) u with h6 | h6
      ·exact h6
      ·exfalso
       have h7 := Int.mul_le_mul_of_nonneg_right h6 (Int.le_of_lt hb)
       have h8 : a * v = a / b * v * b + a % b * v := by
        have e2 : (a / b * b + a % b) * v = a * v := by rw [e1]
        rw [← e2, Int.add_mul, Int.mul_right_comm]
       have h9 : 0 < a % b * v := Int.mul_pos (by omega) hv
       omega
     have h6 := Int.mul_le_mul_of_nonneg_left (show 1 ≤ v by omega) hq0
     omega
   ·rw [if_neg h2]
    obtain ⟨f1, f2, f3, f4, f5, f6, f7, f8⟩ := sp_facts hb hd ha h h1 h2
    have ih := sp_spec n d (c % d) b (a % b) f3 f1 hd f8 (by omega)
    generalize hQ : a / b = q at *
    generalize a % b = r at *
    generalize c % d = s at *
    generalize (sp n d s b r).1 = x at *
    generalize (sp n d s b r).2 = y at *
    obtain ⟨i1, i2, i3, i4, i5, i6⟩ := ih
    have hqx := Int.mul_nonneg f7 (Int.le_of_lt i1)
    refine ⟨?_, i1, ?_, ?_, ?_, fun u v hv h3 h4 => ?_⟩
    ·show 0 < q * x + y
     omega
    ·show gc (q * x + y) x = 1
     rw [gc_lin]; exact i3
    ·show a * x ≤ (q * x + y) * b
     rw [f5, Int.add_mul, Int.add_mul, Int.mul_right_comm q b x, Int.mul_comm r x, Int.mul_comm y b]
     omega
    ·show (q * x + y) * d ≤ c * x
     rw [f6, Int.add_mul, Int.add_mul, Int.mul_right_comm q d x, Int.mul_comm y d, Int.mul_comm s x]
     omega
    ·have e3 : a * v = q * v * b + r * v := by rw [f5, Int.add_mul, Int.mul_right_comm]
     have e4 : c * v = q * v * d + s * v := by rw [f6, Int.add_mul, Int.mul_right_comm]
     have e5 : (u - q * v) * b = u * b - q * v * b := Int.sub_mul _ _ _
     have e6 : (u - q * v) * d = u * d - q * v * d := Int.sub_mul _ _ _
     have hr : 0 < r * v := Int.mul_pos f1 hv
     have hu : 0 < u - q * v := by
      rcases Int.lt_or_le 0 (u - q * v) with h6 | h6
      ·exact h6
      ·exfalso
       have := Int.mul_le_mul_of_nonneg_right h6 (Int.le_of_lt hb)
       omega
     have k := i6 v (u - q * v) hu (by rw [Int.mul_comm d, Int.mul_comm v s]; omega) (by rw [Int.mul_comm v r, Int.mul_comm b]; omega)
     refine ⟨?_, k.1⟩
     show q * x + y ≤ u
     have := Int.mul_le_mul_of_nonneg_left k.1 f7
     omega
def spx (p q p' q' : Int) : Int × Int := sp (q + q').toNat p q p' q'
def btx (p q p' q' : Int) : Int × Int := if p' < 0 then (-(spx (-p') q' (-p) q).1, (spx (-p') q' (-p) q).2) else if p ≤ 0 then (0, 1) else spx p q p' q'
theorem spx_spec {p q p' q' : Int} (hq : 0 < q) (hq' : 0 < q') (hp : 0 < p) (h : p * q' ≤ p' * q) : SpP p q p' q' (spx p q p' q').1 (spx p q p' q').2 := sp_spec _ _ _ _ _ hq hq' hp h (by omega)
structure BtP (p q p' q' x y : Int) : Prop where
 fq : Fq x y
 lo : p * y ≤ x * q
 hi : x * q' ≤ p' * y
 least : ∀ u v, 0 < v → p * v ≤ u * q → u * q' ≤ p' * v → ab x ≤ ab u ∧ y ≤ v
theorem btx_spec {p q p' q' : Int} (f : Fq p q) (f' : Fq p' q') (h : p * q' ≤ p' * q) : BtP p q p' q' (btx p q p' q').1 (btx p q p' q').2 := by
 unfold btx
 have hq := f.pos
 have hq' := f'.pos
 by_cases h1 : p' < 0
 ·rw [if_pos h1]
  have h2 : -p' * q ≤ -p * q' := by rw [Int.neg_mul, Int.neg_mul]; omega
  have s := spx_spec hq' hq (show 0 < -p' by omega) h2
  generalize (spx (-p') q' (-p) q).1 = x at *
  generalize (spx (-p') q' (-p) q).2 = y at *
  obtain ⟨i1, i2, i3, i4, i5, i6⟩ := s
  have k := i6 (-p') q' hq' (Int.le_refl _) h2
  dsimp only
  rw [Int.neg_mul] at i4 i5
  refine ⟨⟨i2, bd_of_le f'.bp ?_, bd_of_le f'.bq ?_, ?_⟩, ?_, ?_, fun u v hv h3 h4 => ?_⟩
  ·unfold ab; (repeat' split) <;> omega
  ·rw [ab_pos (Int.le_of_lt i2), ab_pos (Int.le_of_lt hq')]; exact k.2
  ·rw [gc_neg]; exact i3
  ·rw [Int.neg_mul]; omega
  ·rw [Int.neg_mul]; omega
  ·have := i6 (-u) v hv (by simp only [Int.neg_mul]; omega) (by simp only [Int.neg_mul]; omega)
   refine ⟨?_, this.2⟩
   have hu := this.1
   unfold ab; (repeat' split) <;> omega
 ·rw [if_neg h1]
  by_cases h2 : p ≤ 0
  ·rw [if_pos h2]
   dsimp only
   refine ⟨fq_zero, by rw [Int.mul_one, Int.zero_mul]; exact h2, by rw [Int.mul_one, Int.zero_mul]; omega, fun u v hv _ _ => ⟨?_, by omega⟩⟩
   rw [show ab 0 = 0 from rfl]; exact ab_nonneg u
  ·rw [if_neg h2]
   have s := spx_spec hq hq' (by omega) h
   generalize (spx p q p' q').1 = x at *
   generalize (spx p q p' q').2 = y at *
   obtain ⟨i1, i2, i3, i4, i5, i6⟩ := s
   have k := i6 p q hq (Int.le_refl _) h
   refine ⟨⟨i2, bd_of_le f.bp ?_, bd_of_le f.bq ?_, i3⟩, i4, i5, fun u v hv h3 h4 => ?_⟩
   ·rw [ab_pos (Int.le_of_lt i1), ab_pos (show 0 ≤ p by omega)]; exact k.1
   ·rw [ab_pos (Int.le_of_lt i2), ab_pos (Int.le_of_lt hq)]; exact k.2
   ·have := i6 u v hv h3 h4
    exact ⟨by unfold ab; (repeat' split) <;> omega, this.2⟩
theorem frac_trans {a b c d e f : Int} (hb : 0 < b) (hd : 0 < d) (hf : 0 < f) (h1 : a * d ≤ c * b) (h2 : c * f ≤ e * d) : a * f ≤ e * b := by
 refine mul_le_cancel hd ?_
 have e1 := Int.mul_le_mul_of_nonneg_right h1 (Int.le_of_lt hf)
 have e2 := Int.mul_le_mul_of_nonneg_right h2 (Int.le_of_lt hb)
 have a1 : d * (a * f) = a * d * f := by rw [Int.mul_left_comm, Int.mul_assoc]
 have a2 : c * f * b = c * b * f := Int.mul_right_comm _ _ _
 have a3 : d * (e * b) = e * d * b := by rw [Int.mul_left_comm, Int.mul_assoc]
 rw [a1, a3]
 omega
end Go.Proofs.YtncmmbacoknefaaGreat

/- Sq: What calls of simplest and of its reference give. -/
namespace Go.Proofs.YtncmmbacoknefaaGreat
open Go Go.RowKit Sx
set_option linter.unusedVariables false
set_option linter.unusedSimpArgs false
theorem bd_nn {k : Nat} {x y : Int} (h : Bd k x) (h0 : 0 ≤ y) (hle : y ≤ x) : Bd k y := bd_of_le h (by rw [ab_pos h0, ab_pos (by omega)]; exact hle)
theorem Fq.v1 {p q : Int} (f : Fq p q) (W : World) : Gives Tryz.prog 186 [RX p q] W (· = .bool true) := by
 have := gx_rvalid f.fp f.fq W
 rwa [show rok true p q = true from rok_iff.2 ⟨rfl, f⟩] at this
theorem Fq.v2 {p q : Int} (f : Fq p q) (W : World) : Gives Tryz.prog 49 [RX p q] W (· = .bool true) := by
 have := rx_rvalid f.fp f.fq W
 rwa [show rok true p q = true from rok_iff.2 ⟨rfl, f⟩] at this
def btV (t : Bool) (p q p' q' : Int) : Value := if t && decide (p * q' ≤ p' * q) then .tuple #[RX (btx p q p' q').1 (btx p q p' q').2, .bool true] else .tuple #[RX 0 0, .bool false]
theorem fits_spx {p q p' q' : Int} (f : Fq p q) (f' : Fq p' q') (hp : 0 < p) (h : p * q' ≤ p' * q) : Fits (spx p q p' q').1 ∧ Fits (spx p q p' q').2 := by
 have s := spx_spec f.pos f'.pos hp h
 have k := s.least p q f.pos (Int.le_refl _) h
 exact ⟨(bd_nn f.bp (Int.le_of_lt s.px) k.1).fits, (bd_nn f.bq (Int.le_of_lt s.py) k.2).fits⟩
set_option maxRecDepth 100000 in
theorem rx_positive : ∀ (n : Nat) {a b c d : Int}, Bd 127 a → Bd 127 b → Bd 127 c → Bd 127 d → 0 < b → 0 < d → 0 < a → a * d ≤ c * b → b + d ≤ n → ∀ W, Gives Tryz.prog 150 [WX a, WX b, WX c, WX d] W (· = .tuple #[WX (sp n a b c d).1, WX (sp n a b c d).2])
 | 0, a, b, c, d, _, _, _, _, hb, hd, _, _, hn => fun W => by omega
 | n + 1, a, b, c, d, ba, bb, bc, bd, hb, hd, ha, h, hn => fun W => by
  have hbn : b ≠ 0 := by omega
  have m1 := fun W => rx_divmod ba.fits bb.fits hbn W
  have fr := fits_emod (z := a) bb.fits hbn
  have fq := fits_ediv ba.fits hbn
  have hc := cm_zero_iff (a % b)
  have hq0 := Int.ediv_nonneg (Int.le_of_lt ha) (Int.le_of_lt hb)
  have bq : Bd 127 (a / b) := bd_nn ba hq0 (Int.ediv_le_self _ (Int.le_of_lt ha))
  have bs : Bd 128 (a / b + 1) := bd_add bq (bd_le bd_one (show 1 ≤ 127 by decide)) (by decide) (by decide)
  have fs := bs.fits
  have ft : Fits ((a / b + 1) * d) := (bd_mul bs bd).fits
  have ft0 : Fits (a / b * d) := (bd_mul bq bd).fits
  have fls := fl_le (x := c) hd
  have e1 := Int.mul_ediv_add_emod a b
  rw [Int.mul_comm] at e1
  refine gives_known en_r04_positive ?_
  unfold sp
  by_cases h1 : a % b = 0
  ·rw [if_pos h1]
   have hc0 := hc.2 h1
   have hle : cm (a / b * d) c ≤ 0 := by
    rw [km_le]
    refine mul_le_cancel hb ?_
    rw [h1, Int.add_zero] at e1
    have e2 : b * (a / b * d) = a / b * b * d := by rw [Int.mul_left_comm, Int.mul_assoc]
    rw [e2, e1, Int.mul_comm b c]
    exact h
   clear hc fls e1
   refine known_of (enter Tryz.func150 r04_positive.ok (args := [_, _, _, _]) (by simp) ?_)
   repeat' (first | simp (disch := omega) only [sxE, r04_positive.E, Nat.reduceAdd, Nat.reduceEqDiff, Nat.reduceMul, Nat.reduceSub, Int.reduceAdd, Int.reduceSub, Int.reduceMul, Int.reduceNeg, Int.reduceLT, Int.reduceLE, Int.reduceEq, Int.reduceToNat, ↓reduceIte, Int.reducePow, Nat.reduceLeDiff, Nat.reduceLT, ne_eq, eq_self, List.length_cons, List.length_nil, qxE, hc0] | (with_reducible refine Sx.call_at (f := 116) (fun W hW => m1 W) ?_) | (with_reducible refine Sx.call_at (f := 104) (fun W hW => rx_sign fr W) ?_) | (with_reducible refine Sx.call_at (f := 50) (fun W hW => rx_of i64_one W) ?_) | (with_reducible refine Sx.call_at (f := 76) (fun W hW => rx_mul fq bd.fits ft0 W) ?_) | (with_reducible refine Sx.call_at (f := 54) (fun W hW => rx_compare ft0 bc.fits W) ?_) | (with_reducible refine cregF ?_))
  ·rw [if_neg h1]
   have hc0 : cm (a % b) 0 ≠ 0 := fun e => h1 (hc.1 e)
   clear hc
   by_cases h2 : a / b < c / d
   ·rw [if_pos h2]
    have hle : cm ((a / b + 1) * d) c ≤ 0 := by
     rw [km_le]
     have := Int.mul_le_mul_of_nonneg_right (show a / b + 1 ≤ c / d by omega) (Int.le_of_lt hd)
     omega
    clear fls e1
    refine known_of (enter Tryz.func150 r04_positive.ok (args := [_, _, _, _]) (by simp) ?_)
    repeat' (first | simp (disch := omega) only [sxE, r04_positive.E, Nat.reduceAdd, Nat.reduceEqDiff, Nat.reduceMul, Nat.reduceSub, Int.reduceAdd, Int.reduceSub, Int.reduceMul, Int.reduceNeg, Int.reduceLT, Int.reduceLE, Int.reduceEq, Int.reduceToNat, ↓reduceIte, Int.reducePow, Nat.reduceLeDiff, Nat.reduceLT, ne_eq, eq_self, List.length_cons, List.length_nil, qxE] | (with_reducible refine Sx.call_at (f := 116) (fun W hW => m1 W) ?_) | (with_reducible refine Sx.call_at (f := 104) (fun W hW => rx_sign fr W) ?_) | (with_reducible refine Sx.call_at (f := 50) (fun W hW => rx_of i64_one W) ?_) | (with_reducible refine Sx.call_at (f := 51) (fun W hW => rx_add fq fits_one fs W) ?_) | (with_reducible refine Sx.call_at (f := 76) (fun W hW => rx_mul fs bd.fits ft W) ?_) | (with_reducible refine Sx.call_at (f := 54) (fun W hW => rx_compare ft bc.fits W) ?_) | (with_reducible refine cregF ?_))
   ·rw [if_neg h2]
    obtain ⟨f1, f2, f3, f4, f5, f6, f7, f8⟩ := sp_facts hb hd ha h h1 h2
    have hle : ¬ cm ((a / b + 1) * d) c ≤ 0 := by
     rw [km_le, Int.add_mul, Int.one_mul]
     omega
    have b1 := bd_nn bb (Int.le_of_lt f1) (Int.le_of_lt f2)
    have b2 := bd_nn bd (Int.le_of_lt f3) (Int.le_of_lt f4)
    have es : c - a / b * d = c % d := by omega
    have fsub : Fits (c - a / b * d) := by rw [es]; exact b2.fits
    have msub := fun W => rx_sub bc.fits ft0 fsub W
    rw [es] at msub
    have ih := rx_positive n bd b2 bb b1 f3 f1 hd f8 (by omega)
    have hsp := sp_spec n d (c % d) b (a % b) f3 f1 hd f8 (by omega)
    generalize (sp n d (c % d) b (a % b)).1 = x at *
    generalize (sp n d (c % d) b (a % b)).2 = y at *
    have k := hsp.least d (c % d) f3 (Int.le_refl _) f8
    have k2 := hsp.least b (a % b) f1 f8 (Int.le_refl _)
    have px := hsp.px
    have py := hsp.py
    have fx := (bd_nn bd (Int.le_of_lt px) k.1).fits
    have fy := (bd_nn b2 (Int.le_of_lt py) k.2).fits
    have hmx := Int.mul_nonneg f7 (Int.le_of_lt px)
    have hmb := Int.mul_le_mul_of_nonneg_left k2.1 f7
    have fm : Fits (a / b * x) := (bd_nn ba hmx (by omega)).fits
    have fs2 : Fits (a / b * x + y) := (bd_nn ba (by omega) (by omega)).fits
    clear hsp k k2 hmx hmb b1 b2 f1 f2 f3 f4 f5 f6 f7 f8 hq0 fls e1 es
    refine known_of (enter Tryz.func150 r04_positive.ok (args := [_, _, _, _]) (by simp) ?_)
    repeat' (first | simp (disch := omega) only [sxE, r04_positive.E, Nat.reduceAdd, Nat.reduceEqDiff, Nat.reduceMul, Nat.reduceSub, Int.reduceAdd, Int.reduceSub, Int.reduceMul, Int.reduceNeg, Int.reduceLT, Int.reduceLE, Int.reduceEq, Int.reduceToNat, ↓reduceIte, Int.reducePow, Nat.reduceLeDiff, Nat.reduceLT, ne_eq, eq_self, List.length_cons, List.length_nil, qxE] | (with_reducible refine Sx.call_at (f := 116) (fun W hW => m1 W) ?_) | (with_reducible refine Sx.call_at (f := 104) (fun W hW => rx_sign fr W) ?_) | (with_reducible refine Sx.call_at (f := 50) (fun W hW => rx_of i64_one W) ?_) | (with_reducible refine Sx.call_at (f := 51) (fun W hW => rx_add fq fits_one fs W) ?_) | (with_reducible refine Sx.call_at (f := 76) (fun W hW => rx_mul fs bd.fits ft W) ?_) | (with_reducible refine Sx.call_at (f := 76) (fun W hW => rx_mul fq bd.fits ft0 W) ?_) | (with_reducible refine Sx.call_at (f := 76) (fun W hW => rx_mul fq fx fm W) ?_) | (with_reducible refine Sx.call_at (f := 54) (fun W hW => rx_compare ft bc.fits W) ?_) | (with_reducible refine Sx.call_at (f := 53) (fun W hW => msub W) ?_) | (with_reducible refine Sx.call_at (f := 150) (fun W hW => ih W) ?_) | (with_reducible refine Sx.call_at (f := 51) (fun W hW => rx_add fm fy fs2 W) ?_) | (with_reducible refine cregF ?_))
theorem rx_spx {p q p' q' : Int} (f : Fq p q) (f' : Fq p' q') (hp : 0 < p) (h : p * q' ≤ p' * q) (W : World) : Gives Tryz.prog 150 [WX p, WX q, WX p', WX q'] W (· = .tuple #[WX (spx p q p' q').1, WX (spx p q p' q').2]) :=
 rx_positive _ f.bp f.bq f'.bp f'.bq f.pos f'.pos hp h (by have := f.pos; have := f'.pos; omega) W
set_option maxRecDepth 100000 in
theorem rx_between {v v' : Value} {p q p' q' : Int} {t t' : Bool} (h : CQ v p q) (h' : CQ v' p' q') (v1 : ∀ W, Gives Tryz.prog 49 [v] W (· = .bool t)) (v2 : ∀ W, Gives Tryz.prog 49 [v'] W (· = .bool t')) (e1 : t = true → v = RX p q) (e2 : t' = true → v' = RX p' q') (W : World) :
  Gives Tryz.prog 101 [v, v'] W (· = btV (t && t') p q p' q') := by
 obtain ⟨c0, c1, c2, c3, c4, c5, c6, c7, c8, c9, rfl⟩ := h.ten
 obtain ⟨d0, d1, d2, d3, d4, d5, d6, d7, d8, d9, rfl⟩ := h'.ten
 have f := h.fq
 have f' := h'.fq
 have cmp := fun W => rx_rcompare h h' W
 refine gives_known en_r04_Between ?_
 cases t
 ·have e : btV (false && t') p q p' q' = .tuple #[RX 0 0, .bool false] := rfl
  rw [e]
  refine known_of (enter Tryz.func101 r04_Between.ok (args := [_, _]) (by simp) ?_)
  repeat' (first | simp (disch := omega) only [sxE, r04_Between.E, Nat.reduceAdd, Nat.reduceEqDiff, Nat.reduceMul, Nat.reduceSub, Int.reduceAdd, Int.reduceSub, Int.reduceMul, Int.reduceNeg, Int.reduceLT, Int.reduceLE, Int.reduceEq, Int.reduceToNat, ↓reduceIte, Int.reducePow, Nat.reduceLeDiff, Nat.reduceLT, ne_eq, eq_self, List.length_cons, List.length_nil, qxE] | (with_reducible refine Sx.call_at (f := 49) (fun W hW => v1 W) ?_) | (with_reducible refine cregF ?_))
 ·cases t'
  ·have e : btV (true && false) p q p' q' = .tuple #[RX 0 0, .bool false] := rfl
   rw [e]
   refine known_of (enter Tryz.func101 r04_Between.ok (args := [_, _]) (by simp) ?_)
   repeat' (first | simp (disch := omega) only [sxE, r04_Between.E, Nat.reduceAdd, Nat.reduceEqDiff, Nat.reduceMul, Nat.reduceSub, Int.reduceAdd, Int.reduceSub, Int.reduceMul, Int.reduceNeg, Int.reduceLT, Int.reduceLE, Int.reduceEq, Int.reduceToNat, ↓reduceIte, Int.reducePow, Nat.reduceLeDiff, Nat.reduceLT, ne_eq, eq_self, List.length_cons, List.length_nil, qxE] | (with_reducible refine Sx.call_at (f := 49) (fun W hW => v1 W) ?_) | (with_reducible refine Sx.call_at (f := 49) (fun W hW => v2 W) ?_) | (with_reducible refine cregF ?_))
  ·have e1 := e1 rfl
   have e2 := e2 rfl
   unfold btV
   have hgt := km_gt (p * q') (p' * q)
   by_cases hle : p * q' ≤ p' * q
   ·rw [decide_eq_true hle]
    have hg : ¬ 0 < cq p q p' q' := fun hh => by have := hgt.1 hh; omega
    rw [e1] at v1 cmp
    rw [e2] at v2 cmp
    rw [e1, e2]
    have s1 := cm_zero p'
    have s2 := cm_zero p
    unfold btx
    by_cases hneg : p' < 0
    ·rw [if_pos hneg]
     have hs : cm p' 0 < 0 := by rw [s1, if_pos hneg]; decide
     have hs3 : ¬ 0 ≤ cm p' 0 := by omega
     have fn := f.neg
     have fn' := f'.neg
     have hle2 : -p' * q ≤ -p * q' := by rw [Int.neg_mul, Int.neg_mul]; omega
     have sp := fun W => rx_spx fn' fn (by omega) hle2 W
     have ft := fits_spx fn' fn (by omega) hle2
     have hpn : p < 0 := by
      rcases Int.lt_or_le p 0 with hh | hh
      ·exact hh
      ·exfalso
       have h5 := Int.mul_nonneg hh (Int.le_of_lt f'.pos)
       have h6 := Int.mul_neg_of_neg_of_pos hneg f.pos
       omega
     have hs4 : cm p 0 ≤ 0 := by rw [s2, if_pos hpn]; decide
     generalize (spx (-p') q' (-p) q).1 = x at *
     generalize (spx (-p') q' (-p) q).2 = y at *
     refine known_of (enter Tryz.func101 r04_Between.ok (args := [_, _]) (by simp) ?_)
     repeat' (first | simp (disch := omega) only [sxE, r04_Between.E, Nat.reduceAdd, Nat.reduceEqDiff, Nat.reduceMul, Nat.reduceSub, Int.reduceAdd, Int.reduceSub, Int.reduceMul, Int.reduceNeg, Int.reduceLT, Int.reduceLE, Int.reduceEq, Int.reduceToNat, ↓reduceIte, Int.reducePow, Nat.reduceLeDiff, Nat.reduceLT, ne_eq, eq_self, List.length_cons, List.length_nil, qxE] | (with_reducible refine Sx.call_at (f := 49) (fun W hW => v1 W) ?_) | (with_reducible refine Sx.call_at (f := 49) (fun W hW => v2 W) ?_) | (with_reducible refine Sx.call_at (f := 99) (fun W hW => cmp W) ?_) | (with_reducible refine Sx.call_at (f := 104) (fun W hW => rx_sign f'.fp W) ?_) | (with_reducible refine Sx.call_at (f := 104) (fun W hW => rx_sign f.fp W) ?_) | (with_reducible refine Sx.call_at (f := 117) (fun W hW => rx_neg f'.fp W) ?_) | (with_reducible refine Sx.call_at (f := 117) (fun W hW => rx_neg f.fp W) ?_) | (with_reducible refine Sx.call_at (f := 117) (fun W hW => rx_neg ft.1 W) ?_) | (with_reducible refine Sx.call_at (f := 150) (fun W hW => sp W) ?_) | (with_reducible refine cregF ?_))
     try rfl
    ·rw [if_neg hneg]
     have hs : ¬ cm p' 0 < 0 := by rw [s1, if_neg hneg]; split <;> decide
     have hs3 : 0 ≤ cm p' 0 := by omega
     by_cases hz : p ≤ 0
     ·rw [if_pos hz]
      have hs2 : cm p 0 ≤ 0 := by rw [s2]; (repeat' split) <;> omega
      refine known_of (enter Tryz.func101 r04_Between.ok (args := [_, _]) (by simp) ?_)
      repeat' (first | simp (disch := omega) only [sxE, r04_Between.E, Nat.reduceAdd, Nat.reduceEqDiff, Nat.reduceMul, Nat.reduceSub, Int.reduceAdd, Int.reduceSub, Int.reduceMul, Int.reduceNeg, Int.reduceLT, Int.reduceLE, Int.reduceEq, Int.reduceToNat, ↓reduceIte, Int.reducePow, Nat.reduceLeDiff, Nat.reduceLT, ne_eq, eq_self, List.length_cons, List.length_nil, qxE] | (with_reducible refine Sx.call_at (f := 49) (fun W hW => v1 W) ?_) | (with_reducible refine Sx.call_at (f := 49) (fun W hW => v2 W) ?_) | (with_reducible refine Sx.call_at (f := 99) (fun W hW => cmp W) ?_) | (with_reducible refine Sx.call_at (f := 104) (fun W hW => rx_sign f'.fp W) ?_) | (with_reducible refine Sx.call_at (f := 104) (fun W hW => rx_sign f.fp W) ?_) | (with_reducible refine Sx.call_at (f := 78) (fun W hW => rx_rof i64_zero W) ?_) | (with_reducible refine cregF ?_))
      try rfl
     ·rw [if_neg hz]
      have hs2 : ¬ cm p 0 ≤ 0 := by rw [s2]; (repeat' split) <;> omega
      have sp := fun W => rx_spx f f' (by omega) hle W
      generalize (spx p q p' q').1 = x at *
      generalize (spx p q p' q').2 = y at *
      refine known_of (enter Tryz.func101 r04_Between.ok (args := [_, _]) (by simp) ?_)
      repeat' (first | simp (disch := omega) only [sxE, r04_Between.E, Nat.reduceAdd, Nat.reduceEqDiff, Nat.reduceMul, Nat.reduceSub, Int.reduceAdd, Int.reduceSub, Int.reduceMul, Int.reduceNeg, Int.reduceLT, Int.reduceLE, Int.reduceEq, Int.reduceToNat, ↓reduceIte, Int.reducePow, Nat.reduceLeDiff, Nat.reduceLT, ne_eq, eq_self, List.length_cons, List.length_nil, qxE] | (with_reducible refine Sx.call_at (f := 49) (fun W hW => v1 W) ?_) | (with_reducible refine Sx.call_at (f := 49) (fun W hW => v2 W) ?_) | (with_reducible refine Sx.call_at (f := 99) (fun W hW => cmp W) ?_) | (with_reducible refine Sx.call_at (f := 104) (fun W hW => rx_sign f'.fp W) ?_) | (with_reducible refine Sx.call_at (f := 104) (fun W hW => rx_sign f.fp W) ?_) | (with_reducible refine Sx.call_at (f := 150) (fun W hW => sp W) ?_) | (with_reducible refine cregF ?_))
      try rfl
   ·rw [decide_eq_false hle]
    have hg : 0 < cq p q p' q' := hgt.2 (by omega)
    refine known_of (enter Tryz.func101 r04_Between.ok (args := [_, _]) (by simp) ?_)
    repeat' (first | simp (disch := omega) only [sxE, r04_Between.E, Nat.reduceAdd, Nat.reduceEqDiff, Nat.reduceMul, Nat.reduceSub, Int.reduceAdd, Int.reduceSub, Int.reduceMul, Int.reduceNeg, Int.reduceLT, Int.reduceLE, Int.reduceEq, Int.reduceToNat, ↓reduceIte, Int.reducePow, Nat.reduceLeDiff, Nat.reduceLT, ne_eq, eq_self, List.length_cons, List.length_nil, qxE] | (with_reducible refine Sx.call_at (f := 49) (fun W hW => v1 W) ?_) | (with_reducible refine Sx.call_at (f := 49) (fun W hW => v2 W) ?_) | (with_reducible refine Sx.call_at (f := 99) (fun W hW => cmp W) ?_) | (with_reducible refine cregF ?_))
    try rfl
theorem btV_yes {p q p' q' : Int} (h : p * q' ≤ p' * q) : btV true p q p' q' = .tuple #[RX (btx p q p' q').1 (btx p q p' q').2, .bool true] := by unfold btV; rw [decide_eq_true h]; rfl
theorem rx_bt {p q p' q' : Int} (f : Fq p q) (f' : Fq p' q') (h : p * q' ≤ p' * q) (W : World) : Gives Tryz.prog 101 [RX p q, RX p' q'] W (· = .tuple #[RX (btx p q p' q').1 (btx p q p' q').2, .bool true]) :=
 gives_eq (rx_between f.cq f'.cq f.v2 f'.v2 (fun _ => rfl) (fun _ => rfl) W) (btV_yes h)
end Go.Proofs.YtncmmbacoknefaaGreat

/- CdT: MADE BY PROGRAM (sxgen.py): the small code of some functions, points of it and their equations. -/
namespace Go.Proofs.YtncmmbacoknefaaGreat
open Go Go.RowKit Sx Sx.Q
set_option linter.unusedVariables false
variable (C : Cx) (R L1 L2 L3 L4 : St → Prop)
namespace m_Tape__Ratio
abbrev q0 := [0, 2]
abbrev r0 : List G := [e 2 (.new zR)]
abbrev q1 := [0, 2, 3, 4]
abbrev r1 : List G := [m 7 0, e 8 (.call false 20 [(t 7), (i 200)]), bi 9 .sub 8 100, K1 10 50 9, m 11 0, e 12 (.call false 20 [(t 11), (i 60)]), e 13 (.bin .add (i 1) (t 12)), K1 14 50 13, e 3 (.new zW), e 4 (.new zW), V 5 3 10, V 5 4 14]
abbrev q2 := [0, 2, 3, 4, 16]
abbrev r2 : List G := [m 15 0, e 16 (.call false 69 [(t 15), (i 4)])]
abbrev r3 : List G := [m 17 0, K1 18 68 17, K1 19 50 18, m 20 0, K1 21 70 20, bu 22 .or 21 1, K1 23 75 22, V 5 3 19, V 5 4 23]
abbrev q3 := [2, 3, 4, 25]
abbrev r4 : List G := [m 24 0, e 25 (.call false 69 [(t 24), (i 8)])]
abbrev q4 := [2, 3, 4]
abbrev r5 : List G := [L 27 5 3, e 28 (.call true 50 [(i 4611686018427387904)]), k2 29 76 27 28, m 26 29, x 30 26 0, x 31 26 1]
abbrev t5 : List G := [V 5 3 30]
abbrev q5 := [2, 5, 6]
abbrev r6 : List G := [L 33 5 3, L 34 5 4, K2 35 77 33 34, m 32 35, x 36 32 0, x 37 32 1, e 5 (.new zR), V 10 5 36, m 6 37]
abbrev q6 := [2, 5, 39]
abbrev r7 : List G := [m 38 6, e 39 (.un .not (t 38))]
abbrev r8 : List G := [e 40 (.call false 78 [(i 1)]), V 10 2 40]
abbrev r9 : List G := [L 41 10 5, V 10 2 41]
abbrev c : MC := sq [g r0 q0, g r1 q1, sq [g r2 q2, ci 16 (g r3 q1) .skip], sq [g r4 q3, ci 25 (gd r5 t5 q4) .skip], g r6 q5, sq [g r7 q6, ci 39 (sq [g r8 [2], .ret]) .skip], g r9 [2], .ret]
theorem ok : compF Tryz.prog Tryz.f21 (an (rg 10) c [(5, 6, [5], (up 5 ++ [(5, 2)]), [])]) = some (42, c, [(2, some (true, 10))]) := by kernel_rfl
abbrev p1 := P C r9 [2] R
abbrev p3 := P C r8 [2] R
abbrev p2 := cd (t 39) (p3 C R) (p1 C R)
abbrev p4 := P C r7 q6 (p2 C R)
abbrev p5 := P C r6 q5 (p4 C R)
abbrev p7 := Pd C r5 t5 q4 (p5 C R)
abbrev p6 := cd (t 25) (p7 C R) (p5 C R)
abbrev p8 := P C r4 q3 (p6 C R)
abbrev p10 := P C r3 q1 (p8 C R)
abbrev p9 := cd (t 16) (p10 C R) (p8 C R)
abbrev p11 := P C r2 q2 (p9 C R)
abbrev p12 := P C r1 q1 (p11 C R)
abbrev p13 := P C r0 q0 (p12 C R)
theorem s (S : St) : X C c (retK R) S = p13 C R S := by kernel_rfl
theorem E : type_of% @s := @s
end m_Tape__Ratio
end Go.Proofs.YtncmmbacoknefaaGreat

/- Tr: What a call of the tape's Ratio gives. -/
namespace Go.Proofs.YtncmmbacoknefaaGreat
open Go Go.RowKit Sx
set_option linter.unusedVariables false
set_option linter.unusedSimpArgs false
theorem mkV_cases {b : Bool} {z y : Int} : (mok b z y = true ∧ mkV b z y = .tuple #[RX (mn z y) (mD z y), .bool true]) ∨ (mok b z y = false ∧ mkV b z y = .tuple #[RX 0 0, .bool false]) := by
 unfold mkV
 cases h : mok b z y
 ·exact .inr ⟨rfl, rfl⟩
 ·exact .inl ⟨rfl, rfl⟩
theorem or_one {x : Int} (h : U64 x) : U64 (IntKind.u64.wrap (BitVec.ofInt IntKind.u64.bits x ||| BitVec.ofInt IntKind.u64.bits 1).toNat) ∧ IntKind.u64.wrap (BitVec.ofInt IntKind.u64.bits x ||| BitVec.ofInt IntKind.u64.bits 1).toNat ≠ 0 := by
 have hlt := (BitVec.ofInt IntKind.u64.bits x ||| BitVec.ofInt IntKind.u64.bits 1).isLt
 have hne : (BitVec.ofInt IntKind.u64.bits x ||| BitVec.ofInt IntKind.u64.bits 1).toNat ≠ 0 := by
  intro e
  rw [BitVec.toNat_or] at e
  have h2 := Nat.or_eq_zero_iff.1 e
  have : (BitVec.ofInt IntKind.u64.bits 1).toNat = 1 := by decide
  omega
 generalize (BitVec.ofInt IntKind.u64.bits x ||| BitVec.ofInt IntKind.u64.bits 1).toNat = n at *
 have hb : (n : Int) < 18446744073709551616 := by
  have : (2 : Nat) ^ IntKind.u64.bits = 18446744073709551616 := by decide
  rw [this] at hlt; omega
 have e : IntKind.u64.wrap (n : Int) = n := IntWalk.u64_in _ (by omega)
 rw [e]
 exact ⟨⟨by omega, by omega⟩, by omega⟩
def IsR (v : Value) : Prop := ∃ x : Int × Int, Fq x.1 x.2 ∧ v = RX x.1 x.2
set_option maxRecDepth 100000 in
theorem t_ratio (tb : Nat) : TpC 21 [.pointer (some ⟨tb, 0, none⟩)] tb (fun x : Int × Int => Fq x.1 x.2) (fun x => RX x.1 x.2) := by
 intro B Bm w ht
 refine Calls.mono (enterG Tryz.func21 m_Tape__Ratio.ok (args := [.pointer (some ⟨tb, 0, none⟩)]) (w0 := cut w tb) (T := kX (cut w tb).heap.size [.g (hK w tb B Bm)]) (R := fun v X => (IsR) v ∧ X = kX (cut w tb).heap.size [.g (hK w tb B Bm)]) (by simp) (below_cut (Nat.le_of_lt ht.lt)) (hK_start ht).1 (kX_stab (Sx.cx _ (cut w tb) _) _) (hK_start ht).2 ?run) ?fin; have hk := tpk_h' ht
 case fin =>
  rintro e w' ⟨v, X, rfl, ⟨⟨x, hx, rfl⟩, rfl⟩, hX, hb, -⟩
  obtain ⟨h1, h2⟩ := hK_end hX (List.mem_singleton.2 rfl) hb
  exact ⟨x, hx, rfl, h1, h2⟩
 case run =>
  try dsimp only
  repeat' (first | simp (disch := omega) only [sxE, m_Tape__Ratio.E, Nat.reduceAdd, Nat.reduceEqDiff, Nat.reduceMul, Nat.reduceSub, Int.reduceAdd, Int.reduceSub, Int.reduceMul, Int.reduceNeg, Int.reduceLT, Int.reduceLE, Int.reduceEq, Int.reduceToNat, ↓reduceIte, Int.reducePow, Nat.reduceLeDiff, Nat.reduceLT, ne_eq, eq_self, List.length_cons, List.length_nil, qxE] | (with_reducible refine cregF ?_))
  refine asks_tc rfl (hk) (t_next tb (by decide) (by decide)) en_m_Tape__Next rfl (by first | exact List.mem_singleton.2 rfl | simp) rfl (by first | exact fun j hj => .inl (List.mem_singleton.1 hj) | simp) ?_
  intro r1 ⟨a1, a2⟩
  have i1 : I64 (r1 - 100) := ⟨by omega, by omega⟩
  repeat' (first | simp (disch := omega) only [sxE, m_Tape__Ratio.E, Nat.reduceAdd, Nat.reduceEqDiff, Nat.reduceMul, Nat.reduceSub, Int.reduceAdd, Int.reduceSub, Int.reduceMul, Int.reduceNeg, Int.reduceLT, Int.reduceLE, Int.reduceEq, Int.reduceToNat, ↓reduceIte, Int.reducePow, Nat.reduceLeDiff, Nat.reduceLT, ne_eq, eq_self, List.length_cons, List.length_nil, qxE] | (with_reducible refine Sx.call_at (f := 50) (fun W hW => rx_of i1 W) ?_) | (with_reducible refine cregF ?_))
  refine asks_tc rfl (hk) (t_next tb (by decide) (by decide)) en_m_Tape__Next rfl (by first | exact List.mem_singleton.2 rfl | simp) rfl (by first | exact fun j hj => .inl (List.mem_singleton.1 hj) | simp) ?_
  intro r2 ⟨b1, b2⟩
  have i2 : I64 (1 + r2) := ⟨by omega, by omega⟩
  have f1 := (bd_i64 i1).fits
  have f2 := (bd_i64 i2).fits
  repeat' (first | simp (disch := omega) only [sxE, m_Tape__Ratio.E, Nat.reduceAdd, Nat.reduceEqDiff, Nat.reduceMul, Nat.reduceSub, Int.reduceAdd, Int.reduceSub, Int.reduceMul, Int.reduceNeg, Int.reduceLT, Int.reduceLE, Int.reduceEq, Int.reduceToNat, ↓reduceIte, Int.reducePow, Nat.reduceLeDiff, Nat.reduceLT, ne_eq, eq_self, List.length_cons, List.length_nil, qxE] | (with_reducible refine Sx.call_at (f := 50) (fun W hW => rx_of i2 W) ?_) | (with_reducible refine cregF ?_))
  have bN := bd_i64 i1
  have bD := bd_i64 i2
  have dne : 1 + r2 ≠ 0 := by omega
  refine asks_tc rfl (hk) (t_bool tb (by decide) (by decide)) en_m_Tape__Bool rfl (by first | exact List.mem_singleton.2 rfl | simp) rfl (by first | exact fun j hj => .inl (List.mem_singleton.1 hj) | simp) ?_
  rintro (_ | _) -
  case' true =>
   repeat' (first | simp (disch := omega) only [sxE, m_Tape__Ratio.E, Nat.reduceAdd, Nat.reduceEqDiff, Nat.reduceMul, Nat.reduceSub, Int.reduceAdd, Int.reduceSub, Int.reduceMul, Int.reduceNeg, Int.reduceLT, Int.reduceLE, Int.reduceEq, Int.reduceToNat, ↓reduceIte, Int.reducePow, Nat.reduceLeDiff, Nat.reduceLT, ne_eq, eq_self, List.length_cons, List.length_nil, qxE] | (with_reducible refine cregF ?_))
   refine asks_tc rfl (hk) (t_int tb) en_m_Tape__Int rfl (by first | exact List.mem_singleton.2 rfl | simp) rfl (by first | exact fun j hj => .inl (List.mem_singleton.1 hj) | simp) ?_
   intro z hz
   clear bN bD dne i1 i2 f1 f2 a1 a2 b1 b2
   repeat' (first | simp (disch := omega) only [sxE, m_Tape__Ratio.E, Nat.reduceAdd, Nat.reduceEqDiff, Nat.reduceMul, Nat.reduceSub, Int.reduceAdd, Int.reduceSub, Int.reduceMul, Int.reduceNeg, Int.reduceLT, Int.reduceLE, Int.reduceEq, Int.reduceToNat, ↓reduceIte, Int.reducePow, Nat.reduceLeDiff, Nat.reduceLT, ne_eq, eq_self, List.length_cons, List.length_nil, qxE] | (with_reducible refine Sx.call_at (f := 50) (fun W hW => rx_of hz W) ?_) | (with_reducible refine cregF ?_))
   refine asks_tc rfl (hk) (t_word tb) en_m_Tape__Word rfl (by first | exact List.mem_singleton.2 rfl | simp) rfl (by first | exact fun j hj => .inl (List.mem_singleton.1 hj) | simp) ?_
   intro y hy
   obtain ⟨o1, o2⟩ := or_one hy
   have bN := bd_i64 hz
   have bD := bd_u64 o1
   have dne := o2
   have i1 : True := trivial
   have i2 : True := trivial
   have a1 : True := trivial
   have a2 : True := trivial
   have b1 : True := trivial
   have b2 : True := trivial
   have f1 := bN.fits
   have f2 := bD.fits
   repeat' (first | simp (disch := omega) only [sxE, m_Tape__Ratio.E, Nat.reduceAdd, Nat.reduceEqDiff, Nat.reduceMul, Nat.reduceSub, Int.reduceAdd, Int.reduceSub, Int.reduceMul, Int.reduceNeg, Int.reduceLT, Int.reduceLE, Int.reduceEq, Int.reduceToNat, ↓reduceIte, Int.reducePow, Nat.reduceLeDiff, Nat.reduceLT, ne_eq, eq_self, List.length_cons, List.length_nil, qxE] | (with_reducible refine cregF ?_))
   generalize IntKind.u64.wrap (BitVec.ofInt IntKind.u64.bits y ||| BitVec.ofInt IntKind.u64.bits 1).toNat = D at *
   repeat' (first | simp (disch := omega) only [sxE, m_Tape__Ratio.E, Nat.reduceAdd, Nat.reduceEqDiff, Nat.reduceMul, Nat.reduceSub, Int.reduceAdd, Int.reduceSub, Int.reduceMul, Int.reduceNeg, Int.reduceLT, Int.reduceLE, Int.reduceEq, Int.reduceToNat, ↓reduceIte, Int.reducePow, Nat.reduceLeDiff, Nat.reduceLT, ne_eq, eq_self, List.length_cons, List.length_nil, qxE] | (with_reducible refine Sx.call_at (f := 75) (fun W hW => rx_ofU o1 W) ?_) | (with_reducible refine cregF ?_))
  case' false =>
   repeat' (first | simp (disch := omega) only [sxE, m_Tape__Ratio.E, Nat.reduceAdd, Nat.reduceEqDiff, Nat.reduceMul, Nat.reduceSub, Int.reduceAdd, Int.reduceSub, Int.reduceMul, Int.reduceNeg, Int.reduceLT, Int.reduceLE, Int.reduceEq, Int.reduceToNat, ↓reduceIte, Int.reducePow, Nat.reduceLeDiff, Nat.reduceLT, ne_eq, eq_self, List.length_cons, List.length_nil, qxE] | (with_reducible refine cregF ?_))
  all_goals
   clear i1 i2 a1 a2 b1 b2
   refine asks_tc rfl (hk) (t_bool tb (by decide) (by decide)) en_m_Tape__Bool rfl (by first | exact List.mem_singleton.2 rfl | simp) rfl (by first | exact fun j hj => .inl (List.mem_singleton.1 hj) | simp) ?_
   rintro (_ | _) -
   case' true =>
    have i62 : I64 4611686018427387904 := ⟨by decide, by decide⟩
    have f3 := (bd_mul bN (bd_i64 i62)).fits
    have f62 := (bd_i64 i62).fits
    repeat' (first | simp (disch := omega) only [sxE, m_Tape__Ratio.E, Nat.reduceAdd, Nat.reduceEqDiff, Nat.reduceMul, Nat.reduceSub, Int.reduceAdd, Int.reduceSub, Int.reduceMul, Int.reduceNeg, Int.reduceLT, Int.reduceLE, Int.reduceEq, Int.reduceToNat, ↓reduceIte, Int.reducePow, Nat.reduceLeDiff, Nat.reduceLT, ne_eq, eq_self, List.length_cons, List.length_nil, qxE] | (with_reducible refine Sx.call_at (f := 50) (fun W hW => rx_of i62 W) ?_) | (with_reducible refine Sx.call_at (f := 76) (fun W hW => rx_mul f1 f62 f3 W) ?_) | (with_reducible refine cregF ?_))
    clear f1 bN i62 f62
    have f1 := f3
    clear f3
    have bN := True.intro
   case' false =>
    repeat' (first | simp (disch := omega) only [sxE, m_Tape__Ratio.E, Nat.reduceAdd, Nat.reduceEqDiff, Nat.reduceMul, Nat.reduceSub, Int.reduceAdd, Int.reduceSub, Int.reduceMul, Int.reduceNeg, Int.reduceLT, Int.reduceLE, Int.reduceEq, Int.reduceToNat, ↓reduceIte, Int.reducePow, Nat.reduceLeDiff, Nat.reduceLT, ne_eq, eq_self, List.length_cons, List.length_nil, qxE] | (with_reducible refine cregF ?_))
   all_goals
    clear bN
    have mk1 := fun W => rx_rmake f1.rw f2.rw W
    rcases mkV_cases (b := true && true) with ⟨hm, e⟩ | ⟨hm, e⟩
    ·rw [e] at mk1
     have hq := mok_fq hm
     clear e hm
     repeat' (first | simp (disch := omega) only [sxE, m_Tape__Ratio.E, Nat.reduceAdd, Nat.reduceEqDiff, Nat.reduceMul, Nat.reduceSub, Int.reduceAdd, Int.reduceSub, Int.reduceMul, Int.reduceNeg, Int.reduceLT, Int.reduceLE, Int.reduceEq, Int.reduceToNat, ↓reduceIte, Int.reducePow, Nat.reduceLeDiff, Nat.reduceLT, ne_eq, eq_self, List.length_cons, List.length_nil, qxE] | (with_reducible refine Sx.call_at (f := 77) (fun W hW => mk1 W) ?_) | (with_reducible refine cregF ?_))
     exact ⟨(_, _), hq, rfl⟩
    ·rw [e] at mk1
     clear e hm
     repeat' (first | simp (disch := omega) only [sxE, m_Tape__Ratio.E, Nat.reduceAdd, Nat.reduceEqDiff, Nat.reduceMul, Nat.reduceSub, Int.reduceAdd, Int.reduceSub, Int.reduceMul, Int.reduceNeg, Int.reduceLT, Int.reduceLE, Int.reduceEq, Int.reduceToNat, ↓reduceIte, Int.reducePow, Nat.reduceLeDiff, Nat.reduceLT, ne_eq, eq_self, List.length_cons, List.length_nil, qxE] | (with_reducible refine Sx.call_at (f := 77) (fun W hW => mk1 W) ?_) | (with_reducible refine Sx.call_at (f := 78) (fun W hW => rx_rof i64_one W) ?_) | (with_reducible refine cregF ?_))
     exact ⟨(1, 1), fq_int (bd_le bd_one (by decide)), rfl⟩
end Go.Proofs.YtncmmbacoknefaaGreat

/- Rw: Make on atoms; raw Wides and Ratios as arguments. -/
namespace Go.Proofs.YtncmmbacoknefaaGreat
open Go Go.RowKit Sx
set_option linter.unusedVariables false
set_option linter.unusedSimpArgs false
theorem gx_make {z y : Int} (h : Fits z) (h' : Fits y) (W : World) : Gives Tryz.prog 178 [WX z, WX y] W (· = mkV true z y) := gx_rmake h.rw h'.rw W
theorem rx_make {z y : Int} (h : Fits z) (h' : Fits y) (W : World) : Gives Tryz.prog 77 [WX z, WX y] W (· = mkV true z y) := rx_rmake h.rw h'.rw W
theorem mkV_yes {z y : Int} (h : mok true z y = true) : mkV true z y = .tuple #[RX (mn z y) (mD z y), .bool true] := by unfold mkV; rw [if_pos h]
end Go.Proofs.YtncmmbacoknefaaGreat
