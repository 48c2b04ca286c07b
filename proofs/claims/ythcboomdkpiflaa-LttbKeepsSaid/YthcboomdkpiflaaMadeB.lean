/- The tape of tscodecmade, continued: Times, Samples and Values: lists in new memory. -/
import Derived.Test.YthcboomdkpiflaaRows
import Derived.Test.YthcboomdkpiflaaMade
import Derived.WalkKit
import Derived.ProofKit
import Derived.WalkLawsBesides
import Derived.WalkSpells
import Derived.Outline
import Derived.OwnWalk
namespace Go.Proofs.Ythcboomdkpiflaa
open Go.ChangeShapes Go.WideShapes Go.ChangeAt Go.RowKit
set_option linter.unusedVariables false
set_option linter.unusedSimpArgs false

theorem info_i64 : (Try.prog.info? 2).map (fun i => (i.zero, i.size, i.bytes)) = some (some (.int .i64 0), 1, 8) := by kernel_rfl

/-- A strictly increasing list of int64 numbers, all less than x. -/
def IncL (zs : List Int) (x : Int) : Prop := zs.Pairwise (· < ·) ∧ ∀ z ∈ zs, z < x ∧ I64 z
theorem IncL.nil (x : Int) : IncL [] x := ⟨List.Pairwise.nil, by simp⟩
theorem IncL.snoc {zs : List Int} {x y : Int} (h : IncL zs x) (hx : I64 x) (hxy : x < y) : IncL (zs ++ [x]) y := by
  refine ⟨List.pairwise_append.2 ⟨h.1, List.pairwise_singleton _ _, fun a ha b hb => ?_⟩, fun z hz => ?_⟩
  · simp at hb; subst hb; exact (h.2 a ha).1
  · rcases List.mem_append.1 hz with hz | hz
    · have := h.2 z hz; exact ⟨by omega, this.2⟩
    · simp at hz; subst hz; exact ⟨hxy, hx⟩
def Inc (zs : List Int) : Prop := zs.Pairwise (· < ·) ∧ ∀ z ∈ zs, I64 z
theorem IncL.inc {zs : List Int} {x : Int} (h : IncL zs x) : Inc zs := ⟨h.1, fun z hz => (h.2 z hz).2⟩

theorem times_gap (x : Int) (hx : I64 x) : IntKind.u64.wrap (9223372036854775807 - IntKind.u64.wrap x) = 9223372036854775807 - x := by
  obtain ⟨h1, h2⟩ := hx
  rw [IntKind.wrap_u64, IntKind.wrap_u64]; omega
theorem times_step (x d : Int) (hx : I64 x) (h1 : 1 ≤ d) (h : d ≤ 9223372036854775807 - x) : wrap64 (IntKind.u64.wrap (IntKind.u64.wrap x + d)) = x + d ∧ I64 (x + d) := by
  obtain ⟨x1, x2⟩ := hx
  have hi : I64 (x + d) := ⟨by omega, by omega⟩
  refine ⟨?_, hi⟩
  have e : wrap64 (IntKind.u64.wrap (IntKind.u64.wrap x + d)) = wrap64 (x + d) := by simp only [wrap64, IntKind.wrap_u64]; omega
  rw [e, wrap64_id _ hi]
theorem shr_d (u s : Int) (u1 : 0 ≤ u) (u2 : u ≤ 18446744073709551615) (s1 : 1 ≤ s) : 1 ≤ 1 + u / 2 ^ s.toNat ∧ 1 + u / 2 ^ s.toNat ≤ 9223372036854775808 := by
  have e : s.toNat = 1 + (s - 1).toNat := by omega
  have hp : (0 : Int) < 2 ^ (s - 1).toNat := Int.pow_pos (by decide)
  have e2 : u / 2 ^ s.toNat = u / 2 / 2 ^ (s - 1).toNat := by
    rw [e, Int.pow_add, Int.ediv_ediv_of_nonneg (by decide)]; rfl
  have h4 : u / 2 ≤ 9223372036854775807 := by omega
  have h0 : 0 ≤ u / 2 := by omega
  have h1 := Int.ediv_nonneg h0 (Int.le_of_lt hp)
  have h2 := Int.ediv_le_self (2 ^ (s - 1).toNat) h0
  rw [e2]
  generalize u / 2 / 2 ^ (s - 1).toNat = q at *
  exact ⟨by omega, by omega⟩

/-- A list of int64 numbers in new memory. -/
def LPost (B : Nat) (b : Nat) (w : World) (Q : List Int → Prop) (e : Ending) (w' : World) : Prop :=
  ∃ (v : Value) (zs : List Int), Q zs ∧ e = .returned v ∧ w'.ownsRow w.heap.size 2 1 v zs.length (zs.map (Value.int .i64)) ∧ TapeOk B w' b ∧ w.grownBy w' (some b)

theorem own_row {w : World} {e : TypeId} {size n : Nat} {v : Value} {xs : List Value} {base : Nat} (h : w.ownsRow base e size v n xs) : ∀ k, v.ownBlock = some k → base ≤ k := fun k hk => (h.lt k hk).1
theorem own_ne {w : World} {e : TypeId} {size n : Nat} {v : Value} {xs : List Value} {base b : Nat} (h : w.ownsRow base e size v n xs) (hb : b < base) : v.ownBlock = none ∨ v.ownBlock ≠ some b := by
  cases hv : v.ownBlock with
  | none => exact .inl rfl
  | some k => exact .inr (fun e => by have := own_row h k hv; cases e; omega)
theorem one_cell (w : World) (x : Value) (t : TypeId) (j : Nat) (u : Value) (h : [x][j]? = some u) : (w.alloc (.cells #[x] t)).cell? ((⟨w.heap.size, 0, none⟩ : Addr).add j) = some u := by
  match j, h with
  | 0, h => simp at h; subst h; simp [Addr.add]

theorem shr_w (u s : Int) (u1 : 0 ≤ u) (u2 : u ≤ 18446744073709551615) (s1 : 1 ≤ s) : 1 ≤ IntKind.u64.wrap (1 + u / 2 ^ s.toNat) := by
  have h := shr_d u s u1 u2 s1
  rw [u64_wrap_id _ ⟨by omega, by omega⟩]; exact h.1
theorem own_snoc {w : World} {zs : List Int} {x : Int} {v : Value} {base : Nat} {e : TypeId} (h : w.ownsRow base e 1 v (zs.length + 1) (zs.map (Value.int .i64) ++ [.int .i64 x])) : w.ownsRow base e 1 v (zs ++ [x]).length ((zs ++ [x]).map (Value.int .i64)) := by
  rw [List.length_append, List.map_append]; exact h
theorem times_close {B b base : Nat} {e : TypeId} {w wz : World} {zs : List Int} {x D k k0 : Int} {v : Value} (hx : I64 x) (hD : 1 ≤ D) (hle : D ≤ IntKind.u64.wrap (9223372036854775807 - IntKind.u64.wrap x)) (hk : 0 < k) (hlen : (zs.length : Int) + k = k0) (hinc : IncL zs x)
    (hown : wz.ownsRow base e 1 v (zs.length + 1) (zs.map (Value.int .i64) ++ [.int .i64 x])) (ht : TapeOk B wz b) (hg : w.grownBy wz (some b)) :
    ∃ (zs' : List Int) (x' k' : Int), Value.int .i64 (wrap64 (IntKind.u64.wrap (IntKind.u64.wrap x + D))) = .int .i64 x' ∧ Value.int .i64 (k - 1) = .int .i64 k' ∧ I64 x' ∧ 0 ≤ k' ∧ (zs'.length : Int) + k' = k0 ∧ IncL zs' x' ∧
      wz.ownsRow base e 1 v zs'.length (zs'.map (Value.int .i64)) ∧ TapeOk B wz b ∧ w.grownBy wz (some b) := by
  rw [times_gap x hx] at hle
  obtain ⟨e1, e2⟩ := times_step x D hx hD hle
  exact ⟨zs ++ [x], x + D, k - 1, by rw [e1], rfl, e2, by omega, by simp; omega, hinc.snoc hx (by omega), own_snoc hown, ht, hg⟩

set_option maxHeartbeats 1600000 in
set_option maxRecDepth 100000 in
theorem times_any {B : Nat} (b : Nat) (n : Int) (n0 : 0 ≤ n) (hn : n ≤ 1000) (w : World) (ht0 : TapeOk B w b) :
    Calls Try.prog 53 #[.pointer (some ⟨b, 0, none⟩), .int .i64 n] w (LPost B b w fun zs => Inc zs ∧ (zs.length : Int) ≤ n) := by
  obtain ⟨i0, hi, hz0, hz1, hz2⟩ := info_parts info_i64
  have hB := ht0.leB
  have hbl := ht0.lt
  go_enter Try.func53, Try.ntmps53
  go_wp2_with fail
  refine (next_any b 5 ⟨by decide, by decide⟩ _ ht0).mono ?_
  rintro e w1 ⟨kd, ⟨kd1, kd2, _⟩, rfl, t1, g1⟩
  go_wp2_with fail
  refine (int_any b _ t1).mono ?_
  rintro e w2 ⟨x0, hx0, rfl, t2, g2⟩
  go_wp2_with fail
  refine (next_any b 50 ⟨by decide, by decide⟩ _ t2).mono ?_
  rintro e w3 ⟨st, ⟨st1, st2, _⟩, rfl, t3, g3⟩
  go_wp2_with fail
  refine (next_any b (n + 1) ⟨by omega, by omega⟩ _ t3).mono ?_
  rintro e w4 ⟨k0, ⟨k01, k02, _⟩, rfl, t4, g4⟩
  have hkn : k0 ≤ n := by omega
  have G4 := hid (grown_trans (grown_trans (grown_trans g1 g2) g3) g4)
  have st3 : st < 50 := st2 (by decide)
  clear g1 g2 g3 g4 t1 t2 t3 k02 kd2 st2
  go_wp2
  go_loopw [5, 7, 9] (fun l at_ i wr => ∃ (zs : List Int) (x k : Int), at_ = .int .i64 x ∧ i = .int .i64 k ∧ I64 x ∧ 0 ≤ k ∧ (zs.length : Int) + k = k0 ∧ IncL zs x ∧ wr.ownsRow w.heap.size 2 1 l zs.length (zs.map (Value.int .i64)) ∧ TapeOk B wr b ∧ w.grownBy wr (some b)) (fun _ _ i _ => (intOf i).toNat)
  case atStart => exact ⟨[], x0, k0, rfl, rfl, hx0, k01, by simp, IncL.nil _, World.ownsRow_nil _ _ _ _, t4, G4.out⟩
  case round =>
    obtain ⟨zs, x, k, rfl, rfl, hx, hk0, hlen, hinc, hown, ht, hg⟩ := hrel
    have HLEN := hid hlen
    clear hlen t4
    have hlen1 : (zs.length : Int) ≤ 1000 := by have := HLEN.out; omega
    have hk1 : k ≤ 1000 := by have := HLEN.out; omega
    by_cases hlt : 0 < k
    · have hx1 := hx.1
      have hx2 := hx.2
      have GAP := times_gap x hx
      go_wp2_with (first | (at_builtin; refine wpList_append_own _ rfl _ _ 77 rfl w.heap.size 2 i0 (.int .i64 0) 1 8 Try.underlying77 hi hz0 hz1 hz2 rfl (by decide) _ _ _ rfl (hown.alloc _) ⟨wr.heap.size, 0, none⟩ 1 1 [.int .i64 x] rfl rfl ?c1 ?c2 ?c3 ?c4 ?c5 ?_) | fail)
      case c1 => exact fun j u h => one_cell _ _ _ j u h
      case c2 => intro u hu; simp at hu; subst hu; rfl
      case c3 => unfold maxLen; omega
      case c4 => omega
      case c5 => have := hg.size; simp; omega
      intro v' w5 hown' hgrow _
      have hrow := own_row hown
      have T5 : TapeOk B w5 b := (ht.alloc _).grown hgrow (fun j hj => Nat.le_trans hB (hrow j hj))
      have G5 := grown_own (grown_alloc hg _) hgrow hrow
      have K5 := hid (fun (wz : World) (hz : w5.grownBy wz (some b)) => hown'.kept hz (own_ne hown' hbl))
      clear hgrow hrow hown' hown ht hg
      have G := hid GAP
      clear GAP
      go_wp2_with (first | (go_at_call 14; refine (next_any b _ (by exact ⟨by omega, by omega⟩) _ (by assumption)).mono ?_; rintro e w' ⟨r, ⟨r1, r2, r3⟩, rfl, ht, hg⟩) | (go_at_call 35; refine (word_any b _ (by assumption)).mono ?_; rintro e w' ⟨u, ⟨u1, u2⟩, rfl, ht, hg⟩) | (go_at_call 36; refine (bool_any b 4 (by decide) (by decide) _ (by assumption)).mono ?_; rintro e w' ⟨r, rfl, ht, hg⟩))
      all_goals first
        | (go_roundw
           case rel => exact times_close hx (by first | omega | exact shr_w _ _ u1 u2 (by omega)) (by assumption) hlt HLEN.out hinc (K5.out _ (by repeat (first | exact grown_refl _ _ | assumption | refine grown_trans ?_ (by assumption)))) (by assumption) (grown_trans G5 (by repeat (first | exact grown_refl _ _ | assumption | refine grown_trans ?_ (by assumption))))
           case measure => simp [intOf]; omega)
        | (go_ret
           exact ⟨_, zs ++ [x], ⟨(hinc.snoc (y := x + 1) hx (by omega)).inc, by have := HLEN.out; simp; omega⟩, rfl, own_snoc (K5.out _ (by repeat (first | exact grown_refl _ _ | assumption | refine grown_trans ?_ (by assumption)))), by assumption, grown_trans G5 (by repeat (first | exact grown_refl _ _ | assumption | refine grown_trans ?_ (by assumption)))⟩)
    · go_wp2
      go_ret
      exact ⟨_, zs, ⟨hinc.inc, by have := HLEN.out; omega⟩, rfl, hown, ht, hg⟩
theorem own_base {w : World} {base base' size n : Nat} {e : TypeId} {v : Value} {xs : List Value} (h : w.ownsRow base e size v n xs) (hb : base' ≤ base) : w.ownsRow base' e size v n xs := by
  obtain ⟨h1, h2⟩ := h
  refine ⟨h1, ?_⟩
  rcases h2 with h2 | ⟨g, cap, cur, h2, h3, h4⟩
  · exact .inl h2
  · exact .inr ⟨g, cap, cur, h2, Nat.le_trans hb h3, h4⟩
/-- An owned row, as a slice whose cells are known. -/
theorem own_slice {w : World} {base size n : Nat} {e : TypeId} {v : Value} {xs : List Value} (h : w.ownsRow base e size v n xs) (hn : n * size = xs.length) :
    ∃ (a : Option Addr) (cap : Nat), v = .slice a n cap ∧ n ≤ cap ∧ cap ≤ maxLen ∧ (0 < n → ∃ g, a = some ⟨g, 0, none⟩ ∧ base ≤ g ∧ g < w.heap.size ∧ ∀ j u, xs[j]? = some u → w.cell? ⟨g, j, none⟩ = some u) := by
  have hc : ∀ g, v.ownBlock = some g → ∀ j u, xs[j]? = some u → w.cell? ((⟨g, 0, none⟩ : Addr).add j) = some u := fun g hg => h.cells hg
  have hlt := h.lt
  obtain ⟨h1, h2⟩ := h
  rcases h2 with ⟨rfl, rfl⟩ | ⟨g, cap, cur, rfl, h3, h4, h5, h6, h7⟩
  · exact ⟨none, 0, rfl, Nat.le_refl _, by simp [maxLen], fun h => absurd h (by omega)⟩
  · refine ⟨_, cap, rfl, h5, h6, fun _ => ⟨g, rfl, h3, (hlt g rfl).2, fun j u hj => ?_⟩⟩
    have := hc g rfl j u hj
    simpa [Go.WideShapes.add_plain] using this

def scell (s : Int × Int) : List Value := [.int .i64 s.1, .int .i64 s.2]
def scells (ss : List (Int × Int)) : List Value := ss.flatMap scell
theorem scells_len (ss : List (Int × Int)) : (scells ss).length = ss.length * 2 := by
  induction ss with
  | nil => rfl
  | cons s ss ih => simp [scells, scell] at ih ⊢; omega
theorem scells_at (ss : List (Int × Int)) : ∀ (i : Nat), i < ss.length → (scells ss)[2 * i]? = some (.int .i64 (ss.getD i (0, 0)).1) ∧ (scells ss)[2 * i + 1]? = some (.int .i64 (ss.getD i (0, 0)).2) := by
  induction ss with
  | nil => intro i hi; simp at hi
  | cons s ss ih =>
    intro i hi
    cases i with
    | zero => simp [scells, scell]
    | succ i =>
      have := ih i (by simpa using hi)
      have e : scells (s :: ss) = [.int .i64 s.1, .int .i64 s.2] ++ scells ss := rfl
      rw [e]
      refine ⟨?_, ?_⟩
      · rw [List.getElem?_append_right (by simp; omega)]; simpa [show 2 * (i + 1) - 2 = 2 * i by omega] using this.1
      · rw [List.getElem?_append_right (by simp; omega)]; simpa [show 2 * (i + 1) + 1 - 2 = 2 * i + 1 by omega] using this.2
theorem two_cells (w : World) (x y : Value) (t : TypeId) (j : Nat) (u : Value) (h : [x, y][j]? = some u) : (w.alloc (.cells #[x, y] t)).cell? ((⟨w.heap.size, 0, none⟩ : Addr).add j) = some u := by
  match j, h with
  | 0, h => simp at h; subst h; simp [Addr.add]
  | 1, h => simp at h; subst h; simp [Addr.add]

/-- A list of samples in new memory. -/
def SPost (B : Nat) (b : Nat) (w : World) (Q : List (Int × Int) → Prop) (e : Ending) (w' : World) : Prop :=
  ∃ (v : Value) (ss : List (Int × Int)), Q ss ∧ e = .returned v ∧ w'.ownsRow w.heap.size 23 2 v ss.length (scells ss) ∧ TapeOk B w' b ∧ w.grownBy w' (some b)
/-- Samples with strictly increasing times, all numbers int64. -/
def Smp (ss : List (Int × Int)) : Prop := Inc (ss.map (·.1)) ∧ ∀ s ∈ ss, I64 s.2

theorem samp_step {B b base : Nat} {e : TypeId} {w wz : World} {zs : List Int} {ss : List (Int × Int)} {x y : Int} {v : Value} (hss : ss.map (·.1) = zs.take ss.length) (hk : ss.length < zs.length) (hv : ∀ s ∈ ss, I64 s.2) (hx : I64 x) (hy : I64 y)
    (hown : wz.ownsRow base e 2 v (ss.length + 1) (scells ss ++ [.int .i64 (zs[ss.length]'hk), .int .i64 y])) (ht : TapeOk B wz b) (hg : w.grownBy wz (some b)) :
    ∃ (ss' : List (Int × Int)) (x' : Int), Value.int .i64 x = .int .i64 x' ∧ I64 x' ∧ Value.int .i64 ((ss.length : Int) + 1) = .int .i64 ss'.length ∧ ss'.length ≤ zs.length ∧ ss'.map (·.1) = zs.take ss'.length ∧ (∀ s ∈ ss', I64 s.2) ∧
      wz.ownsRow base e 2 v ss'.length (scells ss') ∧ TapeOk B wz b ∧ w.grownBy wz (some b) := by
  refine ⟨ss ++ [(zs.getD ss.length 0, y)], x, rfl, hx, by simp, by simp; omega, ?_, ?_, ?_, ht, hg⟩
  · rw [List.map_append, hss, List.length_append, List.length_singleton, List.take_succ_eq_append_getElem hk, List.getD_eq_getElem?_getD, List.getElem?_eq_getElem hk]; rfl
  · intro s hs
    rcases List.mem_append.1 hs with hs | hs
    · exact hv s hs
    · simp at hs; subst hs; exact hy
  · rw [List.length_append]
    have e2 : scells (ss ++ [(zs.getD ss.length 0, y)]) = scells ss ++ [.int .i64 (zs[ss.length]'hk), .int .i64 y] := by simp [scells, scell, List.getD_eq_getElem?_getD, List.getElem?_eq_getElem hk]
    rw [e2]; exact hown

theorem info_sample : (Try.prog.info? 23).map (fun i => (i.zero, i.size, i.bytes)) = some (some (.agg #[.int .i64 0, .int .i64 0]), 2, 16) := by kernel_rfl

set_option maxHeartbeats 3200000 in
set_option maxRecDepth 100000 in
theorem samples_any {B : Nat} (b : Nat) (n : Int) (n0 : 0 ≤ n) (hn : n ≤ 1000) (w : World) (ht0 : TapeOk B w b) :
    Calls Try.prog 26 #[.pointer (some ⟨b, 0, none⟩), .int .i64 n] w (SPost B b w fun ss => Smp ss ∧ (ss.length : Int) ≤ n) := by
  obtain ⟨i0, hi, hz0, hz1, hz2⟩ := info_parts info_sample
  have hB := ht0.leB
  have hbl := ht0.lt
  go_enter Try.func26, Try.ntmps26
  go_wp2_with fail
  refine (times_any b n n0 hn _ ht0).mono ?_
  rintro e w1 ⟨vt, zs, ⟨hinc, hzl⟩, rfl, hownt, t1, g1⟩
  obtain ⟨at_, cap, rfl, hcap1, hcap2, hcell⟩ := own_slice hownt (by simp)
  clear hownt
  go_wp2_with fail
  refine (next_any b 7 ⟨by decide, by decide⟩ _ t1).mono ?_
  rintro e w2 ⟨kd, ⟨kd1, kd2, _⟩, rfl, t2, g2⟩
  go_wp2_with fail
  refine (int_any b _ t2).mono ?_
  rintro e w3 ⟨x0, hx0, rfl, t3, g3⟩
  go_wp2_with fail
  refine (next_any b 41 ⟨by decide, by decide⟩ _ t3).mono ?_
  rintro e w4 ⟨sl, ⟨sl1, sl2, _⟩, rfl, t4, g4⟩
  have hsl : sl < 41 := sl2 (by decide)
  have G4 := hid (grown_trans (grown_trans g2 g3) g4)
  have G1 := hid g1
  have hs1 := g1.size
  have hL : zs.length ≤ 1000 := by omega
  have HC := hid hcell
  have hb1 := t1.lt
  have hB1 := t1.leB
  clear g1 g2 g3 g4 t1 t2 t3 kd2 sl2 hcell
  go_wp2
  go_loopw [6, 8, 10] (fun l v i wr => ∃ (ss : List (Int × Int)) (x : Int), v = .int .i64 x ∧ I64 x ∧ i = .int .i64 ss.length ∧ ss.length ≤ zs.length ∧ ss.map (·.1) = zs.take ss.length ∧ (∀ s ∈ ss, I64 s.2) ∧
      wr.ownsRow w1.heap.size 23 2 l ss.length (scells ss) ∧ TapeOk B wr b ∧ w1.grownBy wr (some b)) (fun _ _ i _ => zs.length - (intOf i).toNat)
  case atStart => exact ⟨[], x0, rfl, hx0, rfl, Nat.zero_le _, by simp, by simp, World.ownsRow_nil _ _ _ _, t4, G4.out⟩
  case round =>
    obtain ⟨ss, x, rfl, hx, rfl, hle, hss, hv, hown, ht, hg⟩ := hrel
    have HSS := hid hss
    have HV := hid hv
    clear hss hv t4
    by_cases hlt : ss.length < zs.length
    · obtain ⟨g, rfl, hgb, hgl, hgc⟩ := HC.out (by omega)
      have hgne : g ≠ b := by omega
      have hcell : ∀ wz : World, w1.grownBy wz (some b) → wz.cell? ⟨g, ss.length, none⟩ = some (.int .i64 (zs.getD ss.length 0)) := fun wz hz => hz.cell (hgc ss.length _ (by rw [List.getElem?_map, List.getElem?_eq_getElem hlt, List.getD_eq_getElem?_getD, List.getElem?_eq_getElem hlt]; rfl)) (by simp; omega)
      have HCE := hid hcell
      have hx1 := hx.1
      have hx2 := hx.2
      have hll : ss.length ≤ 1000 := by omega
      have HR := hid (own_row hown)
      have HO := hid (fun (wz : World) (hz : wr.grownBy wz (some b)) => hown.kept hz (own_ne hown hb1))
      have hcl0 := HCE.out wr hg
      have HG := hid hg
      have hws := hg.size
      clear hcell hgc hown hg
      go_wp2_with (first | (go_at_call 14; refine (next_any b _ (by exact ⟨by omega, by omega⟩) _ (by assumption)).mono ?_; rintro e w' ⟨r, ⟨r1, r2, r3⟩, rfl, ht, hg⟩; have hcl := HCE.out w' (grown_trans HG.out (by repeat (first | exact grown_refl _ _ | assumption | refine grown_trans ?_ (by assumption)))); have hsz := hg.size) | (go_at_call 34; refine (int_any b _ (by assumption)).mono ?_; rintro e w' ⟨u, hu, rfl, ht, hg⟩; have hcl := HCE.out w' (grown_trans HG.out (by repeat (first | exact grown_refl _ _ | assumption | refine grown_trans ?_ (by assumption)))); have hsz := hg.size) | (go_at_call 36; refine (bool_any b 5 (by decide) (by decide) _ (by assumption)).mono ?_; rintro e w' ⟨r, rfl, ht, hg⟩; have hcl := HCE.out w' (grown_trans HG.out (by repeat (first | exact grown_refl _ _ | assumption | refine grown_trans ?_ (by assumption)))); have hsz := hg.size) | (at_builtin; refine wpList_append_own _ rfl _ _ 47 rfl w1.heap.size 23 i0 (.agg #[.int .i64 0, .int .i64 0]) 2 16 Try.underlying47 hi hz0 hz1 hz2 rfl (by decide) _ _ _ rfl ((HO.out _ (by repeat (first | exact grown_refl _ _ | assumption | refine grown_trans ?_ (by assumption)))).alloc _) ⟨_, 0, none⟩ 1 1 _ rfl rfl (fun j u h => two_cells _ _ _ _ j u h) (by intro u hu; simp at hu; rcases hu with rfl | rfl <;> rfl) (by unfold maxLen; omega) (by omega) (by simp; omega) ?_; intro v' w5 hown' hgrow _))
      all_goals
        have T5 := TapeOk.grown (B := B) (b := b) (TapeOk.alloc (by assumption) _) hgrow (fun j hj => Nat.le_trans hB1 (HR.out j hj))
        have G5 := grown_own (grown_alloc (grown_trans HG.out (by repeat (first | exact grown_refl _ _ | assumption | refine grown_trans ?_ (by assumption)))) _) hgrow HR.out
        clear hgrow
        go_roundw
        case rel => exact samp_step HSS.out hlt HV.out (by first | assumption | exact i64_wrap_in _) (by first | assumption | exact i64_wrap_in _ | exact ⟨by omega, by omega⟩) hown' T5 G5
        case measure => simp [intOf]; omega
    · go_wp2
      go_ret
      have hll : ss.length = zs.length := by omega
      refine ⟨u6, ss, ⟨⟨?_, HV.out⟩, by omega⟩, rfl, own_base hown hs1, ht, grown_trans G1.out hg⟩
      rw [HSS.out, hll, List.take_length]; exact hinc
theorem val_step {B b base : Nat} {e : TypeId} {w wz : World} {ss : List (Int × Int)} {k : Nat} {y : Int} {v : Value} (hk : k < ss.length) (hy : (ss.getD k (0, 0)).2 = y)
    (hown : wz.ownsRow base e 1 v (k + 1) ((ss.take k).map (fun s => Value.int .i64 s.2) ++ [.int .i64 y])) (ht : TapeOk B wz b) (hg : w.grownBy wz (some b)) :
    ∃ k' : Nat, Value.int .i64 ((k : Int) + 1) = .int .i64 k' ∧ k' ≤ ss.length ∧ wz.ownsRow base e 1 v k' ((ss.take k').map (fun s => Value.int .i64 s.2)) ∧ TapeOk B wz b ∧ w.grownBy wz (some b) := by
  refine ⟨k + 1, by simp, by omega, ?_, ht, hg⟩
  have e2 : (ss.take (k + 1)).map (fun s => Value.int .i64 s.2) = (ss.take k).map (fun s => Value.int .i64 s.2) ++ [.int .i64 y] := by
    rw [List.take_succ_eq_append_getElem hk, List.map_append, ← hy, List.getD_eq_getElem?_getD, List.getElem?_eq_getElem hk]; rfl
  rw [e2]; exact hown

def I64s (zs : List Int) : Prop := ∀ z ∈ zs, I64 z


end Go.Proofs.Ythcboomdkpiflaa
