/- The reference of wide, continued: sums, differences, products of lists of words. -/
import Derived.Test.YthcboomdkpiflaaRows
import Derived.Test.YthcboomdkpiflaaRefA
import Derived.Test.YthcboomdkpiflaaWideM
import Derived.WalkKit
import Derived.ProofKit
import Derived.WalkLawsBesides
import Derived.WalkSpells
import Derived.RegionTactic
import Derived.ChangeAlike
import Derived.BigRegion
import Derived.Outline
import Derived.Handy
namespace Go.Proofs.Ythcboomdkpiflaa
open Go.ChangeShapes Go.WideShapes Go.ChangeAt Go.RowKit
set_option linter.unusedVariables false
set_option linter.unusedSimpArgs false

theorem OwnU.slice {w : World} {base : Nat} {v : Value} {ws : List Int} (h : OwnU w base v ws) : ∃ a cap, v = .slice a ws.length cap := by
  rcases h.form with ⟨rfl, rfl⟩ | ⟨g, cap, rfl, _⟩
  · exact ⟨none, 0, rfl⟩
  · exact ⟨_, cap, rfl⟩
theorem OwnU.at_ {w : World} {base : Nat} {a : Option Addr} {n cap : Nat} {ws : List Int} (h : OwnU w base (.slice a n cap) ws) (hp : 0 < ws.length) :
    ∃ g, a = some ⟨g, 0, none⟩ ∧ n = ws.length ∧ base ≤ g ∧ g < w.heap.size ∧ n ≤ cap ∧ cap ≤ 9223372036854775807 ∧ (∀ j, j < ws.length → w.cell? ⟨g, j, none⟩ = some (.int .u64 (ws.getD j 0))) ∧ (∀ j, w.frozen? ⟨g, j, none⟩ = false) := by
  rcases h.form with ⟨_, rfl⟩ | ⟨g, cap', e, h1, h2, h3, h4, h5, h6⟩
  · simp at hp
  · injection e with e1 e2 e3
    subst e1 e2 e3
    exact ⟨g, rfl, rfl, h1, h2, h3, by simpa [maxLen] using h4, h5, h6⟩
theorem SlU.at_ {w : World} {a : Option Addr} {n cap : Nat} {ws : List Int} (h : SlU w (.slice a n cap) ws) {i : Nat} (hi : i < n) :
    ∃ b off, a = some ⟨b, off, none⟩ ∧ b < w.heap.size ∧ n ≤ cap ∧ cap ≤ 9223372036854775807 ∧ w.cell? ⟨b, off + i, none⟩ = some (.int .u64 (ws.getD i 0)) := by
  obtain ⟨a', len, cap', e, h1, h2, h3, h4, h5⟩ := h
  cases e
  obtain ⟨b, off, rfl, hlt, hc⟩ := h5 (by omega)
  exact ⟨b, off, rfl, hlt, h2, h3, hc i hi⟩
theorem SlU.len {w : World} {a : Option Addr} {n cap : Nat} {ws : List Int} (h : SlU w (.slice a n cap) ws) : ws.length = n ∧ n ≤ cap ∧ cap ≤ 9223372036854775807 := by
  obtain ⟨a', len, cap', e, h1, h2, h3, h4, h5⟩ := h
  cases e
  exact ⟨h1, h2, h3⟩

/-- After i rounds of the sum. -/
def AddI (A B os : List Int) (i : Nat) (c : Int) : Prop := Bit c ∧ os.length = A.length ∧ VL (os.take i) + pw i * c = TV A i + TV B i ∧ ∀ j, i ≤ j → os.getD j 0 = A.getD j 0
theorem take_set_succ (os : List Int) {i : Nat} (hi : i < os.length) (s : Int) : (os.set i s).take (i + 1) = os.take i ++ [s] := by
  rw [take_snocD _ i (by rw [List.length_set]; exact hi), List.take_set_of_le (Nat.le_refl _)]
  congr 1
  rw [List.getD_eq_getElem?_getD, List.getElem?_set_self hi]; rfl
theorem getD_set_gt (os : List Int) {i j : Nat} (h : i < j) (s : Int) : (os.set i s).getD j 0 = os.getD j 0 := by
  rw [List.getD_eq_getElem?_getD, List.getD_eq_getElem?_getD, List.getElem?_set_ne (by omega)]
theorem AddI.step {A B os : List Int} {i : Nat} {c : Int} (hA : Ws A) (hB : Ws B) (h : AddI A B os i c) (hi : i < A.length) : AddI A B (os.set i (s64 (os.getD i 0) (B.getD i 0) c)) (i + 1) (c64 (os.getD i 0) (B.getD i 0) c) := by
  obtain ⟨h1, h2, h3, h4⟩ := h
  have e := h4 i (Nat.le_refl _)
  refine ⟨c64_bit (by rw [e]; exact hA.getD i) (hB.getD i) h1, by rw [List.length_set]; exact h2, ?_, fun j hj => by rw [getD_set_gt os (by omega)]; exact h4 j (by omega)⟩
  rw [take_set_succ os (by omega), VL_snoc, List.length_take, Nat.min_eq_left (by omega), TV_succ, TV_succ, pw_succ]
  have := add_round (s64_sum (os.getD i 0) (B.getD i 0) c) h3
  rw [e] at this ⊢
  exact this
theorem AddI.done {A B os : List Int} {c : Int} (h : AddI A B os A.length c) (hl : B.length ≤ A.length) : VL (os ++ [c]) = VL A + VL B := by
  obtain ⟨h1, h2, h3, h4⟩ := h
  rw [VL_snoc, h2, ← TV_all A A.length (Nat.le_refl _), ← TV_all B A.length hl]
  rw [List.take_of_length_le (by omega)] at h3
  exact h3

set_option maxHeartbeats 1000000 in
set_option maxRecDepth 100000 in
theorem radd_any (a a' : Option Addr) (len cap len' cap' : Nat) (m n : Int) (hm : 0 ≤ m) (hn : 0 ≤ n) (hs : len ≤ 1000) (hs' : len' ≤ 1000) (w : World) (h : SlU w (.slice a len cap) (wl m)) (h' : SlU w (.slice a' len' cap') (wl n)) :
    Calls Try.prog 50 #[.slice a len cap, .slice a' len' cap'] w (MagP w (m + n)) := by
  obtain ⟨i0, hi, hz0, hz1, hz2⟩ := info_u
  obtain ⟨l1, l2, l3⟩ := h.len
  obtain ⟨g1, g2, g3⟩ := h'.len
  by_cases hlt : len < len'
  · have t1 : decide ((len : Int) < (len' : Int)) = true := dT (by omega)
    have t2 : decide (len < len') = true := dT hlt
    have H := hid (And.intro h' (And.intro h (And.intro g1 (And.intro l1 (And.intro l2 (And.intro l3 (And.intro g2 g3)))))))
    clear h h' l1 g1 l2 l3 g2 g3
    go_enter Try.func50, Try.ntmps50
    go_wp2_with (at_builtin; (refine wpList_append_u (ws := []) (ms := wl n) (v := .slice (some ⟨w.heap.size, 0, none⟩) 0 0) (src := .slice a' len' cap') _ rfl (.tmp 16) (.tmp 17) 73 73 rfl w.heap.size Try.underlying73 Try.underlying73 hi hz0 hz1 hz2 rfl rfl ?own ?src ?small ?base ?_); rotate_right; intro v1 w1 hown hg hat)
    case own => exact OwnU.empty w _ rfl rfl (Nat.le_refl _)
    case src => exact H.out.1.alloc _
    case small => have := H.out.2.2.1; simp only [List.length_nil]; omega
    case base => simp
    have hb1 : Below w.heap.size w w1 := ((Below.refl _ w).alloc (Nat.le_refl _) _).grown hg (by simp) (fun k e => by simp [Value.ownBlock] at e; omega)
    clear hg hat
    simp only [List.nil_append] at hown
    obtain ⟨a1, c1, rfl⟩ := hown.slice
    rw [H.out.2.2.1] at hown ⊢
    have HO := hid (And.intro hown hb1)
    clear hown hb1
    have hxl : (0 : Int) ≤ (len' : Int) := Int.natCast_nonneg _
    go_loopw [6, 7, 8] (fun c i x wr => ∃ (q : Nat) (cy : Int) (os : List Int), q ≤ len' ∧ c = .int .u64 cy ∧ i = .int .i64 q ∧ Hid (AddI (wl n) (wl m) os q cy ∧ OwnU wr w.heap.size (.slice a1 len' c1) os ∧ Below w.heap.size w wr)) (fun _ i _ _ => len' - (intOf i).toNat)
    case atStart => exact ⟨0, 0, wl n, Nat.zero_le _, rfl, rfl, hid ⟨⟨Bit.zero, rfl, by simp [TV_zero, pw, VL], fun j _ => rfl⟩, HO.out.1, HO.out.2⟩⟩
    case round =>
      obtain ⟨q, cy, os, hq, rfl, rfl, HI⟩ := hrel
      by_cases hql : q < len'
      · obtain ⟨hI, hown, hb0⟩ := HI.out
        have hol : os.length = len' := hI.2.1.trans H.out.2.2.1
        obtain ⟨g, rfl, -, e3, e4, e5, e6, e7, e8⟩ := hown.at_ (by omega)
        have hc := e7 q (by omega)
        have hf := e8 q
        clear e7 e8
        have hq0 : (0 : Int) ≤ (q : Int) := Int.natCast_nonneg _
        have hq1 : (q : Int) < (len' : Int) := by omega
        have hST := hI.step (wl_words _) (wl_words _) (by rw [H.out.2.2.1]; exact hql)
        have A1 := fun W => add64 (x := os.getD q 0) (y := (wl m).getD q 0) (c := cy) (hown.2.getD q) ((wl_words _).getD q) hI.1 W
        have hOS := hown.stored (x := s64 (os.getD q 0) ((wl m).getD q 0) cy) (by omega) q (by omega) (s64_in _ _ _)
        have HN := hid (And.intro hST (And.intro hOS hb0))
        clear hST hOS hI hown hol
        by_cases hqy : q < len
        · obtain ⟨b, off, rfl, f1, f2, f3, f4⟩ := (H.out.2.1).at_ hqy
          have hcy := (hb0.cell (p := ⟨b, off + q, none⟩) f1).trans f4
          have hq2 : (q : Int) < (len : Int) := by omega
          clear f4
          generalize s64 (os.getD q 0) ((wl m).getD q 0) cy = s at *
          generalize c64 (os.getD q 0) ((wl m).getD q 0) cy = cz at *
          generalize os.getD q 0 = x at *
          generalize (wl m).getD q 0 = y at *
          clear hb0
          go_wp2
          go_roundw
          case rel => exact ⟨q + 1, _, os.set q s, by omega, rfl, by go_num, hid ⟨HN.out.1, HN.out.2.1, by have hb0 := HN.out.2.2; (repeat' (first | (with_reducible assumption) | (with_reducible exact Below.refl _ _) | (with_reducible refine Below.alloc ?_ ?_ _) | (with_reducible refine Below.setCell ?_ ?_ _) | (with_reducible refine Below.drew ?_) | (with_reducible refine below_more ?_ (by with_reducible assumption)) | go_size | omega | (with_reducible refine below_drewN ?_)))⟩⟩
          case measure => simp [intOf]; omega
        · have e0 : (wl m).getD q 0 = 0 := by
            rw [List.getD_eq_getElem?_getD, List.getElem?_eq_none (by rw [H.out.2.2.2.1]; omega)]; rfl
          rw [e0] at A1 HN
          clear e0 hb0
          have hq2 : decide ((q : Int) < (len : Int)) = false := dF (by omega)
          have hq3 : decide (q < len) = false := dF (by omega)
          generalize s64 (os.getD q 0) 0 cy = s at *
          generalize c64 (os.getD q 0) 0 cy = cz at *
          generalize os.getD q 0 = x at *
          go_wp2
          go_roundw
          case rel => exact ⟨q + 1, _, os.set q s, by omega, rfl, by go_num, hid ⟨HN.out.1, HN.out.2.1, by have hb0 := HN.out.2.2; (repeat' (first | (with_reducible assumption) | (with_reducible exact Below.refl _ _) | (with_reducible refine Below.alloc ?_ ?_ _) | (with_reducible refine Below.setCell ?_ ?_ _) | (with_reducible refine Below.drew ?_) | (with_reducible refine below_more ?_ (by with_reducible assumption)) | go_size | omega | (with_reducible refine below_drewN ?_)))⟩⟩
          case measure => simp [intOf]; omega
      · obtain rfl : q = len' := by omega
        obtain ⟨hI, hown, hb0⟩ := HI.out
        have hol : os.length = q := hI.2.1.trans H.out.2.2.1
        have hbit := hI.1
        have eV : VL (os ++ [cy]) = m + n := by
          rw [AddI.done (A := wl n) (B := wl m) (by rw [H.out.2.2.1]; exact hI) (by rw [H.out.2.2.1, H.out.2.2.2.1]; omega), VL_wl (by omega), VL_wl (by omega)]
          try omega
        have HV := hid (And.intro eV hol)
        have HO2 := hid (And.intro hown (And.intro hb0 hbit))
        clear eV hol
        have hsz := hb0.size
        clear HO HI hI hown hb0 hbit
        go_wp2_with (at_builtin; (refine wpList_append_u (ws := os) (ms := [cy]) (v := .slice a1 q c1) (src := .slice (some ⟨wr.heap.size, 0, none⟩) 1 1) _ rfl (.tmp 46) (.tmp 48) 73 73 rfl w.heap.size Try.underlying73 Try.underlying73 hi hz0 hz1 hz2 rfl rfl ?own ?src ?small ?base ?_); rotate_right; intro v2 w2 hown hg hat)
        case own => exact HO2.out.1.below ((Below.refl _ _).alloc (Nat.le_refl _) _)
        case src => exact (OwnU.lit wr [cy] (Ws.one ⟨by have := HO2.out.2.2.1; omega, by have := HO2.out.2.2.2; omega⟩) _ rfl (by simp [maxLen])).sl
        case small => have := HV.out.2; simp; omega
        case base => simp; omega
        have hb2 : Below w.heap.size w w2 := ((HO2.out.2.1).alloc hsz _).grown hg (by simp; omega) (fun k e => by
          have := ((HO2.out.1).1.lt k e).1; exact this)
        clear hg hat
        obtain ⟨a2, c2, rfl⟩ := hown.slice
        have hs2 := hown.sl
        have eV := HV.out.1
        have HC := hid (And.intro hs2.canon (And.intro hb2 eV))
        clear hown hb2 eV HV HO2
        (repeat' (first | (go_big_may; (first | (go_at_call 65; refine (rtrim_any _ _ _ _ _ hs2).mono ?_; rintro e w' ⟨rfl, rfl⟩))) | go_values | go_skip | go_guarded | go_step | go_upon | (simp only [Int.not_lt, Int.not_le] at *; go_simp) | (go_values <;> (try go_simp)) | (go_ite <;> go_prune <;> (try go_simp)) | (split <;> (first | (rename_i hx; exact (hx _ rfl).elim) | go_prune))))
        go_ret
        obtain ⟨hc, hb2, eV⟩ := HC.out
        refine ⟨.slice a2 (wl (VL (os ++ [cy]))).length c2, rfl, ?_, hb2⟩
        rw [eV] at hc ⊢
        exact hc
  · have t1 : decide ((len : Int) < (len' : Int)) = false := dF (by omega)
    have t2 : decide (len < len') = false := dF hlt
    have H := hid (And.intro h (And.intro h' (And.intro l1 (And.intro g1 (And.intro l2 (And.intro l3 (And.intro g2 g3)))))))
    clear h h' l1 g1 l2 l3 g2 g3
    go_enter Try.func50, Try.ntmps50
    go_wp2_with (at_builtin; (refine wpList_append_u (ws := []) (ms := wl m) (v := .slice (some ⟨w.heap.size, 0, none⟩) 0 0) (src := .slice a len cap) _ rfl (.tmp 16) (.tmp 17) 73 73 rfl w.heap.size Try.underlying73 Try.underlying73 hi hz0 hz1 hz2 rfl rfl ?own ?src ?small ?base ?_); rotate_right; intro v1 w1 hown hg hat)
    case own => exact OwnU.empty w _ rfl rfl (Nat.le_refl _)
    case src => exact H.out.1.alloc _
    case small => have := H.out.2.2.1; simp only [List.length_nil]; omega
    case base => simp
    have hb1 : Below w.heap.size w w1 := ((Below.refl _ w).alloc (Nat.le_refl _) _).grown hg (by simp) (fun k e => by simp [Value.ownBlock] at e; omega)
    clear hg hat
    simp only [List.nil_append] at hown
    obtain ⟨a1, c1, rfl⟩ := hown.slice
    rw [H.out.2.2.1] at hown ⊢
    have HO := hid (And.intro hown hb1)
    clear hown hb1
    have hxl : (0 : Int) ≤ (len : Int) := Int.natCast_nonneg _
    go_loopw [6, 7, 8] (fun c i x wr => ∃ (q : Nat) (cy : Int) (os : List Int), q ≤ len ∧ c = .int .u64 cy ∧ i = .int .i64 q ∧ Hid (AddI (wl m) (wl n) os q cy ∧ OwnU wr w.heap.size (.slice a1 len c1) os ∧ Below w.heap.size w wr)) (fun _ i _ _ => len - (intOf i).toNat)
    case atStart => exact ⟨0, 0, wl m, Nat.zero_le _, rfl, rfl, hid ⟨⟨Bit.zero, rfl, by simp [TV_zero, pw, VL], fun j _ => rfl⟩, HO.out.1, HO.out.2⟩⟩
    case round =>
      obtain ⟨q, cy, os, hq, rfl, rfl, HI⟩ := hrel
      by_cases hql : q < len
      · obtain ⟨hI, hown, hb0⟩ := HI.out
        have hol : os.length = len := hI.2.1.trans H.out.2.2.1
        obtain ⟨g, rfl, -, e3, e4, e5, e6, e7, e8⟩ := hown.at_ (by omega)
        have hc := e7 q (by omega)
        have hf := e8 q
        clear e7 e8
        have hq0 : (0 : Int) ≤ (q : Int) := Int.natCast_nonneg _
        have hq1 : (q : Int) < (len : Int) := by omega
        have hST := hI.step (wl_words _) (wl_words _) (by rw [H.out.2.2.1]; exact hql)
        have A1 := fun W => add64 (x := os.getD q 0) (y := (wl n).getD q 0) (c := cy) (hown.2.getD q) ((wl_words _).getD q) hI.1 W
        have hOS := hown.stored (x := s64 (os.getD q 0) ((wl n).getD q 0) cy) (by omega) q (by omega) (s64_in _ _ _)
        have HN := hid (And.intro hST (And.intro hOS hb0))
        clear hST hOS hI hown hol
        by_cases hqy : q < len'
        · obtain ⟨b, off, rfl, f1, f2, f3, f4⟩ := (H.out.2.1).at_ hqy
          have hcy := (hb0.cell (p := ⟨b, off + q, none⟩) f1).trans f4
          have hq2 : (q : Int) < (len' : Int) := by omega
          clear f4
          generalize s64 (os.getD q 0) ((wl n).getD q 0) cy = s at *
          generalize c64 (os.getD q 0) ((wl n).getD q 0) cy = cz at *
          generalize os.getD q 0 = x at *
          generalize (wl n).getD q 0 = y at *
          clear hb0
          go_wp2
          go_roundw
          case rel => exact ⟨q + 1, _, os.set q s, by omega, rfl, by go_num, hid ⟨HN.out.1, HN.out.2.1, by have hb0 := HN.out.2.2; (repeat' (first | (with_reducible assumption) | (with_reducible exact Below.refl _ _) | (with_reducible refine Below.alloc ?_ ?_ _) | (with_reducible refine Below.setCell ?_ ?_ _) | (with_reducible refine Below.drew ?_) | (with_reducible refine below_more ?_ (by with_reducible assumption)) | go_size | omega | (with_reducible refine below_drewN ?_)))⟩⟩
          case measure => simp [intOf]; omega
        · have e0 : (wl n).getD q 0 = 0 := by
            rw [List.getD_eq_getElem?_getD, List.getElem?_eq_none (by rw [H.out.2.2.2.1]; omega)]; rfl
          rw [e0] at A1 HN
          clear e0 hb0
          have hq2 : decide ((q : Int) < (len' : Int)) = false := dF (by omega)
          have hq3 : decide (q < len') = false := dF (by omega)
          generalize s64 (os.getD q 0) 0 cy = s at *
          generalize c64 (os.getD q 0) 0 cy = cz at *
          generalize os.getD q 0 = x at *
          go_wp2
          go_roundw
          case rel => exact ⟨q + 1, _, os.set q s, by omega, rfl, by go_num, hid ⟨HN.out.1, HN.out.2.1, by have hb0 := HN.out.2.2; (repeat' (first | (with_reducible assumption) | (with_reducible exact Below.refl _ _) | (with_reducible refine Below.alloc ?_ ?_ _) | (with_reducible refine Below.setCell ?_ ?_ _) | (with_reducible refine Below.drew ?_) | (with_reducible refine below_more ?_ (by with_reducible assumption)) | go_size | omega | (with_reducible refine below_drewN ?_)))⟩⟩
          case measure => simp [intOf]; omega
      · obtain rfl : q = len := by omega
        obtain ⟨hI, hown, hb0⟩ := HI.out
        have hol : os.length = q := hI.2.1.trans H.out.2.2.1
        have hbit := hI.1
        have eV : VL (os ++ [cy]) = m + n := by
          rw [AddI.done (A := wl m) (B := wl n) (by rw [H.out.2.2.1]; exact hI) (by rw [H.out.2.2.1, H.out.2.2.2.1]; omega), VL_wl (by omega), VL_wl (by omega)]
          try omega
        have HV := hid (And.intro eV hol)
        have HO2 := hid (And.intro hown (And.intro hb0 hbit))
        clear eV hol
        have hsz := hb0.size
        clear HO HI hI hown hb0 hbit
        go_wp2_with (at_builtin; (refine wpList_append_u (ws := os) (ms := [cy]) (v := .slice a1 q c1) (src := .slice (some ⟨wr.heap.size, 0, none⟩) 1 1) _ rfl (.tmp 46) (.tmp 48) 73 73 rfl w.heap.size Try.underlying73 Try.underlying73 hi hz0 hz1 hz2 rfl rfl ?own ?src ?small ?base ?_); rotate_right; intro v2 w2 hown hg hat)
        case own => exact HO2.out.1.below ((Below.refl _ _).alloc (Nat.le_refl _) _)
        case src => exact (OwnU.lit wr [cy] (Ws.one ⟨by have := HO2.out.2.2.1; omega, by have := HO2.out.2.2.2; omega⟩) _ rfl (by simp [maxLen])).sl
        case small => have := HV.out.2; simp; omega
        case base => simp; omega
        have hb2 : Below w.heap.size w w2 := ((HO2.out.2.1).alloc hsz _).grown hg (by simp; omega) (fun k e => by
          have := ((HO2.out.1).1.lt k e).1; exact this)
        clear hg hat
        obtain ⟨a2, c2, rfl⟩ := hown.slice
        have hs2 := hown.sl
        have eV := HV.out.1
        have HC := hid (And.intro hs2.canon (And.intro hb2 eV))
        clear hown hb2 eV HV HO2
        (repeat' (first | (go_big_may; (first | (go_at_call 65; refine (rtrim_any _ _ _ _ _ hs2).mono ?_; rintro e w' ⟨rfl, rfl⟩))) | go_values | go_skip | go_guarded | go_step | go_upon | (simp only [Int.not_lt, Int.not_le] at *; go_simp) | (go_values <;> (try go_simp)) | (go_ite <;> go_prune <;> (try go_simp)) | (split <;> (first | (rename_i hx; exact (hx _ rfl).elim) | go_prune))))
        go_ret
        obtain ⟨hc, hb2, eV⟩ := HC.out
        refine ⟨.slice a2 (wl (VL (os ++ [cy]))).length c2, rfl, ?_, hb2⟩
        rw [eV] at hc ⊢
        exact hc

/-! ### Differences -/
def SubI (A B os : List Int) (i : Nat) (c : Int) : Prop := Bit c ∧ os.length = A.length ∧ VL (os.take i) - pw i * c = TV A i - TV B i ∧ ∀ j, i ≤ j → os.getD j 0 = A.getD j 0
theorem SubI.step {A B os : List Int} {i : Nat} {c : Int} (hA : Ws A) (hB : Ws B) (h : SubI A B os i c) (hi : i < A.length) : SubI A B (os.set i (d64 (os.getD i 0) (B.getD i 0) c)) (i + 1) (b64 (os.getD i 0) (B.getD i 0) c) := by
  obtain ⟨h1, h2, h3, h4⟩ := h
  have e := h4 i (Nat.le_refl _)
  refine ⟨b64_bit _ _ _, by rw [List.length_set]; exact h2, ?_, fun j hj => by rw [getD_set_gt os (by omega)]; exact h4 j (by omega)⟩
  rw [take_set_succ os (by omega), VL_snoc, List.length_take, Nat.min_eq_left (by omega), TV_succ, TV_succ, pw_succ]
  have hu : U64 (os.getD i 0) := by rw [e]; exact hA.getD i
  have := sub_round (d64_diff hu (hB.getD i) h1) h3
  rw [e] at this ⊢
  exact this
theorem SubI.done {A B os : List Int} {c : Int} (hw : Ws os) (h : SubI A B os A.length c) (hl : B.length ≤ A.length) (hle : VL B ≤ VL A) : VL os = VL A - VL B := by
  obtain ⟨⟨c0, c1⟩, h2, h3, h4⟩ := h
  rw [TV_all A A.length (Nat.le_refl _), TV_all B A.length hl, List.take_of_length_le (by omega)] at h3
  have h5 := VL_lt hw
  rw [h2] at h5
  rcases (show c = 0 ∨ c = 1 by omega) with rfl | rfl
  · rw [Int.mul_zero] at h3; omega
  · rw [Int.mul_one] at h3; omega

set_option maxHeartbeats 1000000 in
set_option maxRecDepth 100000 in
theorem rsub_any (a a' : Option Addr) (len cap len' cap' : Nat) (m n : Int) (hn : 0 ≤ n) (hle : n ≤ m) (hs : len ≤ 1000) (w : World) (h : SlU w (.slice a len cap) (wl m)) (h' : SlU w (.slice a' len' cap') (wl n)) :
    Calls Try.prog 52 #[.slice a len cap, .slice a' len' cap'] w (MagP w (m - n)) := by
  obtain ⟨i0, hi, hz0, hz1, hz2⟩ := info_u
  obtain ⟨l1, l2, l3⟩ := h.len
  obtain ⟨g1, g2, g3⟩ := h'.len
  have hll : len' ≤ len := by
    have h1 := (wl_len_lt (show 0 ≤ m by omega) len).1 (by omega)
    have h2 := (wl_len_lt hn len).2 (by omega)
    omega
  have H := hid (And.intro h (And.intro h' (And.intro l1 (And.intro g1 (And.intro l2 (And.intro l3 (And.intro g2 g3)))))))
  clear h h' l1 g1 l2 l3 g2 g3
  go_enter Try.func52, Try.ntmps52
  go_wp2_with (at_builtin; (refine wpList_append_u (ws := []) (ms := wl m) (v := .slice (some ⟨w.heap.size, 0, none⟩) 0 0) (src := .slice a len cap) _ rfl (.tmp 9) (.tmp 10) 73 73 rfl w.heap.size Try.underlying73 Try.underlying73 hi hz0 hz1 hz2 rfl rfl ?own ?src ?small ?base ?_); rotate_right; intro v1 w1 hown hg hat)
  case own => exact OwnU.empty w _ rfl rfl (Nat.le_refl _)
  case src => exact H.out.1.alloc _
  case small => have := H.out.2.2.1; simp only [List.length_nil]; omega
  case base => simp
  have hb1 : Below w.heap.size w w1 := ((Below.refl _ w).alloc (Nat.le_refl _) _).grown hg (by simp) (fun k e => by simp [Value.ownBlock] at e; omega)
  clear hg hat
  simp only [List.nil_append] at hown
  obtain ⟨a1, c1, rfl⟩ := hown.slice
  rw [H.out.2.2.1] at hown ⊢
  have HO := hid (And.intro hown hb1)
  clear hown hb1
  have hxl : (0 : Int) ≤ (len : Int) := Int.natCast_nonneg _
  go_loopw [6, 7, 8] (fun c i x wr => ∃ (q : Nat) (cy : Int) (os : List Int), q ≤ len ∧ c = .int .u64 cy ∧ i = .int .i64 q ∧ Hid (SubI (wl m) (wl n) os q cy ∧ OwnU wr w.heap.size (.slice a1 len c1) os ∧ Below w.heap.size w wr)) (fun _ i _ _ => len - (intOf i).toNat)
  case atStart => exact ⟨0, 0, wl m, Nat.zero_le _, rfl, rfl, hid ⟨⟨Bit.zero, rfl, by simp [TV_zero, pw, VL], fun j _ => rfl⟩, HO.out.1, HO.out.2⟩⟩
  case round =>
    obtain ⟨q, cy, os, hq, rfl, rfl, HI⟩ := hrel
    by_cases hql : q < len
    · obtain ⟨hI, hown, hb0⟩ := HI.out
      have hol : os.length = len := hI.2.1.trans H.out.2.2.1
      obtain ⟨g, rfl, -, e3, e4, e5, e6, e7, e8⟩ := hown.at_ (by omega)
      have hc := e7 q (by omega)
      have hf := e8 q
      clear e7 e8
      have hq0 : (0 : Int) ≤ (q : Int) := Int.natCast_nonneg _
      have hq1 : (q : Int) < (len : Int) := by omega
      have hST := hI.step (wl_words _) (wl_words _) (by rw [H.out.2.2.1]; exact hql)
      have A1 := fun W => sub64 (x := os.getD q 0) (y := (wl n).getD q 0) (b := cy) (hown.2.getD q) ((wl_words _).getD q) hI.1 W
      have hOS := hown.stored (x := d64 (os.getD q 0) ((wl n).getD q 0) cy) (by omega) q (by omega) (d64_in _ _ _)
      have HN := hid (And.intro hST (And.intro hOS hb0))
      clear hST hOS hI hown hol
      by_cases hqy : q < len'
      · obtain ⟨b, off, rfl, f1, f2, f3, f4⟩ := (H.out.2.1).at_ hqy
        have hcy := (hb0.cell (p := ⟨b, off + q, none⟩) f1).trans f4
        have hq2 : (q : Int) < (len' : Int) := by omega
        clear f4
        generalize d64 (os.getD q 0) ((wl n).getD q 0) cy = s at *
        generalize b64 (os.getD q 0) ((wl n).getD q 0) cy = cz at *
        generalize os.getD q 0 = x at *
        generalize (wl n).getD q 0 = y at *
        clear hb0
        go_wp2
        go_roundw
        case rel => exact ⟨q + 1, _, os.set q s, by omega, rfl, by go_num, hid ⟨HN.out.1, HN.out.2.1, by have hb0 := HN.out.2.2; (repeat' (first | (with_reducible assumption) | (with_reducible exact Below.refl _ _) | (with_reducible refine Below.alloc ?_ ?_ _) | (with_reducible refine Below.setCell ?_ ?_ _) | (with_reducible refine Below.drew ?_) | (with_reducible refine below_more ?_ (by with_reducible assumption)) | go_size | omega | (with_reducible refine below_drewN ?_)))⟩⟩
        case measure => simp [intOf]; omega
      · have e0 : (wl n).getD q 0 = 0 := by
          rw [List.getD_eq_getElem?_getD, List.getElem?_eq_none (by rw [H.out.2.2.2.1]; omega)]; rfl
        rw [e0] at A1 HN
        clear e0 hb0
        have hq2 : decide ((q : Int) < (len' : Int)) = false := dF (by omega)
        have hq3 : decide (q < len') = false := dF (by omega)
        generalize d64 (os.getD q 0) 0 cy = s at *
        generalize b64 (os.getD q 0) 0 cy = cz at *
        generalize os.getD q 0 = x at *
        go_wp2
        go_roundw
        case rel => exact ⟨q + 1, _, os.set q s, by omega, rfl, by go_num, hid ⟨HN.out.1, HN.out.2.1, by have hb0 := HN.out.2.2; (repeat' (first | (with_reducible assumption) | (with_reducible exact Below.refl _ _) | (with_reducible refine Below.alloc ?_ ?_ _) | (with_reducible refine Below.setCell ?_ ?_ _) | (with_reducible refine Below.drew ?_) | (with_reducible refine below_more ?_ (by with_reducible assumption)) | go_size | omega | (with_reducible refine below_drewN ?_)))⟩⟩
        case measure => simp [intOf]; omega
    · obtain rfl : q = len := by omega
      obtain ⟨hI, hown, hb0⟩ := HI.out
      have eV : VL os = m - n := by
        rw [SubI.done (A := wl m) (B := wl n) hown.2 (by rw [H.out.2.2.1]; exact hI) (by rw [H.out.2.2.1, H.out.2.2.2.1]; omega) (by rw [VL_wl hn, VL_wl (show 0 ≤ m by omega)]; exact hle), VL_wl (show 0 ≤ m by omega), VL_wl hn]
      have hs2 := hown.sl
      have HC := hid (And.intro hs2.canon (And.intro hb0 eV))
      clear HO HI hI hown hb0 eV
      (repeat' (first | (go_big_may; (first | (go_at_call 65; refine (rtrim_any _ _ _ _ _ hs2).mono ?_; rintro e w' ⟨rfl, rfl⟩))) | go_values | go_skip | go_guarded | go_step | go_upon | (simp only [Int.not_lt, Int.not_le] at *; go_simp) | (go_values <;> (try go_simp)) | (go_ite <;> go_prune <;> (try go_simp)) | (split <;> (first | (rename_i hx; exact (hx _ rfl).elim) | go_prune))))
      go_ret
      obtain ⟨hc, hb2, eV⟩ := HC.out
      refine ⟨.slice a1 (wl (VL os)).length c1, rfl, ?_, hb2⟩
      rw [eV] at hc ⊢
      exact hc

/-! ### Products -/
theorem quiet_l {P : Program} {f : FuncId} {args : Array Value} {w : World} {n : Nat} {v : Value} (h : Calls P f args (w.drewN n) fun e w' => e = .returned v ∧ w.drewN n = w') : Calls P f args (w.drewN n) fun e w' => e = .returned v ∧ ∃ m, w' = w.drewN m :=
  h.mono fun _ _ ⟨he, hm⟩ => ⟨he, n, hm.symm⟩
theorem OwnU.zeros {w : World} {base n : Nat} {v : Value} (h : w.ownsRow base 24 1 v n (madeCells (Value.int .u64 0).cells (n * 1)).toList) : OwnU w base v (List.replicate n 0) := by
  have e : (madeCells (Value.int .u64 0).cells (n * 1)).toList = uw (List.replicate n 0) := by
    rw [show (Value.int .u64 0).cells = #[Value.int .u64 0] from rfl, toList_madeCells_one, Nat.mul_one]
    simp [uw]
  rw [e] at h
  exact ⟨by rw [List.length_replicate]; exact h, Ws.zeros n⟩
theorem rstep {x y acc cy : Int} (hx : U64 x) (hy : U64 y) (ha : U64 acc) (hc : U64 cy) : ∃ r0 c0 h1 r1 c1 cy' : Int, U64 r1 ∧ U64 cy' ∧ r1 + 18446744073709551616 * cy' = x * y + acc + cy ∧ IntKind.u64.wrap (hi64 x y + c0) = h1 ∧ IntKind.u64.wrap (h1 + c1) = cy' ∧
    (∀ W, (callFunc 67 #[.int .u64 (lo64 x y), .int .u64 acc, .int .u64 0]).run Try.prog W = .ok (.value (.tuple #[.int .u64 r0, .int .u64 c0])) W) ∧
    (∀ W, (callFunc 67 #[.int .u64 r0, .int .u64 cy, .int .u64 0]).run Try.prog W = .ok (.value (.tuple #[.int .u64 r1, .int .u64 c1])) W) := by
  have hl : U64 (lo64 x y) := ⟨by unfold lo64; omega, by unfold lo64; omega⟩
  have A1 := fun W => add64 hl ha Bit.zero W
  have e1 : s64 (lo64 x y) acc 0 = s64 acc (lo64 x y) 0 := by unfold s64; rw [Int.add_comm (lo64 x y) acc]
  have e2 : c64 (lo64 x y) acc 0 = c64 acc (lo64 x y) 0 := by unfold c64; rw [Int.add_comm (lo64 x y) acc]
  rw [e1, e2] at A1
  obtain ⟨r0, c0, h1, r1, c1, cy', m1, m2, m3, m4, m5, m6, m7⟩ := mstep hx hy ha hc
  have A2 := fun W => add64 ha hl Bit.zero W
  have k : r0 = s64 acc (lo64 x y) 0 ∧ c0 = c64 acc (lo64 x y) 0 := by
    have := (m6 default).symm.trans (A2 default)
    simp at this
    exact this
  obtain ⟨rfl, rfl⟩ := k
  exact ⟨_, _, h1, r1, c1, cy', m1, m2, m3, m4, m5, A1, m7⟩

/-- After i rows of the product; after k words of row i. -/
def MulO (A B os : List Int) (i : Nat) : Prop := os.length = A.length + B.length + 1 ∧ VL os = TV A i * VL B ∧ ∀ j, i + B.length ≤ j → os.getD j 0 = 0
def MulK (A B os : List Int) (i k : Nat) (c : Int) : Prop := U64 c ∧ os.length = A.length + B.length + 1 ∧ VL os + pw (i + k) * c = TV A i * VL B + pw i * A.getD i 0 * TV B k ∧ ∀ j, i + B.length ≤ j → os.getD j 0 = 0
theorem MulK.start {A B os : List Int} {i : Nat} (h : MulO A B os i) : MulK A B os i 0 0 :=
  ⟨U64.zero, h.1, by rw [TV_zero, Int.mul_zero, Int.mul_zero, h.2.1], h.2.2⟩
theorem MulK.step {A B os : List Int} {i k : Nat} {c r c' : Int} (h : MulK A B os i k c) (hk : k < B.length) (hi : i < A.length) (hc : U64 c') (e : r + 18446744073709551616 * c' = A.getD i 0 * B.getD k 0 + os.getD (i + k) 0 + c) : MulK A B (os.set (i + k) r) i (k + 1) c' := by
  obtain ⟨h1, h2, h3, h4⟩ := h
  refine ⟨hc, by rw [List.length_set]; exact h2, ?_, fun j hj => by rw [getD_set_gt os (by omega)]; exact h4 j hj⟩
  rw [VL_set os (i + k) (by omega), TV_succ, show i + (k + 1) = (i + k) + 1 by omega, pw_succ, Int.mul_add, ← Int.add_assoc, ← h3]
  generalize os.getD (i + k) 0 = o at *
  generalize A.getD i 0 = x at *
  generalize B.getD k 0 = y at *
  have e3 : pw i * x * (pw k * y) = pw (i + k) * (x * y) := by rw [pw_add]; simp only [Int.mul_assoc]; rw [Int.mul_left_comm x (pw k) y]
  rw [e3]
  generalize pw (i + k) = p
  have e4 : p * (r - o) + 18446744073709551616 * p * c' = p * (r + 18446744073709551616 * c' - o) := by
    rw [Int.mul_sub, Int.mul_sub, Int.mul_add, Int.mul_comm 18446744073709551616 p, Int.mul_assoc]; omega
  rw [e] at e4
  have e5 : p * (x * y + o + c - o) = p * (x * y) + p * c := by rw [← Int.mul_add]; congr 1; omega
  omega
theorem MulK.done {A B os : List Int} {i : Nat} {c : Int} (h : MulK A B os i B.length c) (hi : i < A.length) : MulO A B (os.set (i + B.length) c) (i + 1) := by
  obtain ⟨h1, h2, h3, h4⟩ := h
  refine ⟨by rw [List.length_set]; exact h2, ?_, fun j hj => by rw [getD_set_gt os (by omega)]; exact h4 j (by omega)⟩
  rw [VL_set os _ (by omega), h4 _ (Nat.le_refl _), Int.sub_zero, h3, TV_all B B.length (Nat.le_refl _), TV_succ, Int.add_mul]
theorem MulO.start (A B : List Int) : MulO A B (List.replicate (A.length + B.length + 1) 0) 0 :=
  ⟨by simp, by rw [VL_zeros, TV_zero, Int.zero_mul], fun j hj => by
    rw [List.getD_eq_getElem?_getD]
    rcases Nat.lt_or_ge j (A.length + B.length + 1) with h | h
    · rw [List.getElem?_replicate, if_pos h]; rfl
    · rw [List.getElem?_eq_none (by simpa using h)]; rfl⟩

set_option maxHeartbeats 1000000 in
set_option maxRecDepth 100000 in
theorem rmul_any (a a' : Option Addr) (len cap len' cap' : Nat) (m n : Int) (hm : 0 ≤ m) (hn : 0 ≤ n) (hs : len ≤ 1000) (hs' : len' ≤ 1000) (w : World) (h : SlU w (.slice a len cap) (wl m)) (h' : SlU w (.slice a' len' cap') (wl n)) :
    Calls Try.prog 48 #[.slice a len cap, .slice a' len' cap'] w (MagP w (m * n)) := by
  obtain ⟨i0, hi, hz0, hz1, hz2⟩ := info_u
  obtain ⟨l1, l2, l3⟩ := h.len
  obtain ⟨g1, g2, g3⟩ := h'.len
  obtain ⟨w1, hmk, hown, hg1⟩ := run_make_full (P := Try.prog) w w.heap.size 73 24 i0 (.int .u64 0) 1 Try.underlying73 hi hz0 hz1 .i64 .i64 (len + len' + 1) (by rw [hz2]; omega) (by unfold maxLen; omega) (Nat.le_refl _)
  have hcast : ((len + len' + 1 : Nat) : Int) = (len : Int) + (len' : Int) + 1 := by omega
  rw [hcast] at hmk
  have H := hid (And.intro h (And.intro h' (And.intro l1 (And.intro g1 (And.intro l2 (And.intro l3 (And.intro g2 g3)))))))
  have HO := hid (And.intro (OwnU.zeros hown) (below_gt hg1))
  clear h h' l1 g1 l2 l3 g2 g3 hown hg1 hcast
  go_enter Try.func48, Try.ntmps48
  go_wp2_with fail
  clear hmk
  go_loopw [6, 7, 8, 9, 10, 11] (fun i c k h l cc wr => ∃ (q : Nat) (os : List Int), q ≤ len ∧ i = .int .i64 q ∧ Hid (MulO (wl m) (wl n) os q ∧ OwnU wr w.heap.size (.slice (some ⟨w.heap.size, 0, none⟩) (len + len' + 1) (len + len' + 1)) os ∧ Below w.heap.size w wr)) (fun i _ _ _ _ _ _ => len - (intOf i).toNat)
  case atStart => exact ⟨0, _, Nat.zero_le _, rfl, hid ⟨by have := MulO.start (wl m) (wl n); rw [H.out.2.2.1, H.out.2.2.2.1] at this; exact this, HO.out.1, HO.out.2⟩⟩
  case round =>
    obtain ⟨q, os, hq, rfl, HI⟩ := hrel
    have hq0 : (0 : Int) ≤ (q : Int) := Int.natCast_nonneg _
    by_cases hql : q < len
    · have hq1 : (q : Int) < (len : Int) := by omega
      go_wp2
      obtain ⟨wo, rfl⟩ : ∃ wo : World, wo = wr := ⟨_, rfl⟩
      go_loopw [7, 8, 9, 10, 11] (fun c k h l cc wr => ∃ (p : Nat) (cy : Int) (os : List Int), p ≤ len' ∧ k = .int .i64 p ∧ c = .int .u64 cy ∧ Hid (MulK (wl m) (wl n) os q p cy ∧ OwnU wr w.heap.size (.slice (some ⟨w.heap.size, 0, none⟩) (len + len' + 1) (len + len' + 1)) os ∧ Below w.heap.size w wr)) (fun _ k _ _ _ _ => len' - (intOf k).toNat)
      case atStart => exact ⟨0, 0, os, Nat.zero_le _, rfl, rfl, hid ⟨MulK.start HI.out.1, HI.out.2.1, HI.out.2.2⟩⟩
      case round =>
        obtain ⟨p, cy, os, hp, rfl, rfl, HK⟩ := hrel
        have hp0 : (0 : Int) ≤ (p : Int) := Int.natCast_nonneg _
        obtain ⟨hK, hown, hb0⟩ := HK.out
        have hol : os.length = len + len' + 1 := by rw [hK.2.1, H.out.2.2.1, H.out.2.2.2.1]
        obtain ⟨g, e0, -, e3, e4, e5, e6, e7, e8⟩ := hown.at_ (by omega)
        obtain rfl : w.heap.size = g := by simpa using e0
        clear e0
        by_cases hpl : p < len'
        · have hp1 : (p : Int) < (len' : Int) := by omega
          have ho := e7 (q + p) (by omega)
          have hf := e8 (q + p)
          clear e7 e8
          obtain ⟨b, off, rfl, f1, f2, f3, f4⟩ := (H.out.1).at_ hql
          obtain ⟨b', off', rfl, k1, k2, k3, k4⟩ := (H.out.2.1).at_ hpl
          have hcx := (hb0.cell (p := ⟨b, off + q, none⟩) f1).trans f4
          have hcy := (hb0.cell (p := ⟨b', off' + p, none⟩) k1).trans k4
          clear f4 k4
          obtain ⟨r0, c0, h1, r1, c1, cy', m1, m2, m3, m4, m5, m6, m7⟩ := rstep ((wl_words m).getD q) ((wl_words n).getD p) (hown.2.getD (q + p)) hK.1
          have hux := (wl_words m).getD q
          have huy := (wl_words n).getD p
          have hN := hK.step (r := r1) (by rw [H.out.2.2.2.1]; exact hpl) (by rw [H.out.2.2.1]; exact hql) m2 m3
          have hOS := hown.stored (x := r1) (by omega) (q + p) (by omega) m1
          have HN := hid (And.intro hN (And.intro hOS (And.intro hb0 (And.intro hux huy))))
          clear hN hOS hK hown hol m1 m2 m3 hux huy
          generalize (wl m).getD q 0 = x at *
          generalize (wl n).getD p 0 = y at *
          generalize os.getD (q + p) 0 = acc at *
          have i1 : (0 : Int) ≤ (q : Int) + (p : Int) := by omega
          have i2 : (q : Int) + (p : Int) < (len : Int) + (len' : Int) + 1 := by omega
          have i3 : ((q : Int) + (p : Int)).toNat = q + p := by omega
          have i4 : (q : Int) + (p : Int) ≤ 9223372036854775807 := by omega
          clear hb0
          go_wp2
          go_quiet ((go_at_call 66; exact quiet_l (wmul64_any x y HN.out.2.2.2.1 HN.out.2.2.2.2 _)))
          go_wp2
          go_roundw
          case rel => exact ⟨p + 1, _, os.set (q + p) r1, by omega, by go_num, rfl, hid ⟨HN.out.1, HN.out.2.1, by have hb0 := HN.out.2.2.1; (repeat' (first | (with_reducible assumption) | (with_reducible exact Below.refl _ _) | (with_reducible refine Below.alloc ?_ ?_ _) | (with_reducible refine Below.setCell ?_ ?_ _) | (with_reducible refine Below.drew ?_) | (with_reducible refine below_more ?_ (by with_reducible assumption)) | go_size | omega | (with_reducible refine below_drewN ?_)))⟩⟩
          case measure => simp [intOf]; omega
        · obtain rfl : p = len' := by omega
          have ho := e7 (q + p) (by omega)
          have hf := e8 (q + p)
          clear e7 e8
          have hN := MulK.done (A := wl m) (B := wl n) (os := os) (i := q) (c := cy) (by rw [H.out.2.2.2.1]; exact hK) (by rw [H.out.2.2.1]; exact hql)
          rw [H.out.2.2.2.1] at hN
          have hOS := hown.stored (x := cy) (by omega) (q + p) (by omega) hK.1
          have HN := hid (And.intro hN (And.intro hOS hb0))
          clear hN hOS hK hown hol hb0
          generalize os.getD (q + p) 0 = acc at *
          have i1 : (0 : Int) ≤ (q : Int) + (p : Int) := by omega
          have i2 : (q : Int) + (p : Int) < (len : Int) + (p : Int) + 1 := by omega
          have i3 : ((q : Int) + (p : Int)).toNat = q + p := by omega
          have i4 : (q : Int) + (p : Int) ≤ 9223372036854775807 := by omega
          go_wp2
          go_roundw
          case rel => exact ⟨q + 1, os.set (q + p) cy, by omega, by go_num, hid ⟨HN.out.1, HN.out.2.1, by have hb0 := HN.out.2.2; (repeat' (first | (with_reducible assumption) | (with_reducible exact Below.refl _ _) | (with_reducible refine Below.alloc ?_ ?_ _) | (with_reducible refine Below.setCell ?_ ?_ _) | (with_reducible refine Below.drew ?_) | (with_reducible refine below_more ?_ (by with_reducible assumption)) | go_size | omega | (with_reducible refine below_drewN ?_)))⟩⟩
          case measure => simp [intOf]; omega
    · obtain rfl : q = len := by omega
      obtain ⟨hO, hown, hb0⟩ := HI.out
      have eV : VL os = m * n := by
        rw [hO.2.1, ← H.out.2.2.1, TV_all _ _ (Nat.le_refl _), VL_wl hm, VL_wl hn]
      have hol : os.length = q + len' + 1 := by rw [hO.1, H.out.2.2.1, H.out.2.2.2.1]
      have hs2 : SlU wr (.slice (some ⟨w.heap.size, 0, none⟩) (q + len' + 1) (q + len' + 1)) os := hown.sl
      have HC := hid (And.intro hs2.canon (And.intro hb0 eV))
      clear HI hO hown hb0 eV hol
      (repeat' (first | (go_big_may; (first | (go_at_call 65; refine (rtrim_any _ _ _ _ _ hs2).mono ?_; rintro e w' ⟨rfl, rfl⟩))) | go_values | go_skip | go_guarded | go_step | go_upon | (simp only [Int.not_lt, Int.not_le] at *; go_simp) | (go_values <;> (try go_simp)) | (go_ite <;> go_prune <;> (try go_simp)) | (split <;> (first | (rename_i hx; exact (hx _ rfl).elim) | go_prune))))
      go_ret
      obtain ⟨hc, hb2, eV⟩ := HC.out
      refine ⟨.slice (some ⟨w.heap.size, 0, none⟩) (wl (VL os)).length (q + len' + 1), rfl, ?_, hb2⟩
      rw [eV] at hc ⊢
      exact hc
end Go.Proofs.Ythcboomdkpiflaa
