/- The reference of wide: lists of words. What its functions return, as exact integers. -/
import Derived.Test.YthcboomdkpiflaaRows
import Derived.Test.YthcboomdkpiflaaRPlain
import Derived.Test.YthcboomdkpiflaaSlice
import Derived.Test.YthcboomdkpiflaaWideB
import Derived.Test.YthcboomdkpiflaaTool
import Derived.Test.YthcboomdkpiflaaDrift
import Derived.WalkKit
import Derived.ProofKit
import Derived.WalkLawsBesides
import Derived.WalkSpells
import Derived.RegionTactic
import Derived.ChangeAlike
import Derived.BigRegion
import Derived.Deep.QuietTactic
import Derived.BigQuiet
import Derived.Outline
import Derived.Handy
namespace Go.Proofs.Ythcboomdkpiflaa
open Go.ChangeShapes Go.WideShapes Go.ChangeAt Go.RowKit
set_option linter.unusedVariables false
set_option linter.unusedSimpArgs false

theorem trim_done {a : Option Addr} {cap k : Nat} {ws : List Int} (h4 : Ws ws) (hk : k ≤ ws.length) (hz : ∀ j, k ≤ j → ws.getD j 0 = 0) (hl : 0 < k → ws.getD (k - 1) 0 ≠ 0) :
    Ending.returned (.slice a k cap) = Ending.returned (.slice a (wl (VL ws)).length cap) := by rw [(wl_take h4 hk hz hl).2]

theorem rtrim_any (a : Option Addr) (len cap : Nat) (ws : List Int) (w : World) (h : SlU w (.slice a len cap) ws) :
    Calls Try.prog 65 #[.slice a len cap] w fun e w' => e = .returned (.slice a (wl (VL ws)).length cap) ∧ w = w' := by
  obtain ⟨a', len', cap', e, h1, h2, h3, h4, h5⟩ := h
  cases e
  have H5 := hid h5
  have H4 := hid h4
  clear h5 h4
  go_enter Try.func65, Try.ntmps65
  go_wp2
  go_loop [0] (fun s => ∃ k : Nat, k ≤ len ∧ s = .slice a k cap ∧ Hid (∀ j, k ≤ j → ws.getD j 0 = 0)) (fun s => slLen s)
  case atStart => exact ⟨len, Nat.le_refl _, rfl, hid (fun j hj => by rw [List.getD_eq_getElem?_getD, List.getElem?_eq_none (by omega)]; rfl)⟩
  case round =>
    obtain ⟨k, hk, rfl, hz⟩ := hrel
    rcases Nat.eq_zero_or_pos k with h0 | h0
    · subst h0
      go_wp2
      go_ret
      exact ⟨trim_done H4.out (by omega) hz.out (by omega), rfl⟩
    · obtain ⟨m, rfl⟩ : ∃ m, k = m + 1 := ⟨k - 1, by omega⟩
      obtain ⟨b, off, rfl, hlt, hcell⟩ := H5.out (by omega)
      have hc := hcell m (by omega)
      clear hcell
      have e1 : ((m + 1 : Nat) : Int) - 1 = (m : Int) := by omega
      by_cases hz0 : ws.getD m 0 = 0
      · rw [hz0] at hc
        have HZ0 := hid hz0
        clear hz0
        go_wp2
        all_goals
          go_round
          case rel => exact ⟨m, by omega, by simp, hid (fun j hj => (Nat.eq_or_lt_of_le hj).elim (fun e => e ▸ HZ0.out) (fun e => hz.out j e))⟩
          case measure => simp [slLen]
      · generalize hx : ws.getD m 0 = x at *
        have T : (x == 0) = false := beq_eq_false_iff_ne.2 hz0
        have HX := hid (And.intro hx hz0)
        clear hx hz0
        go_wp2
        go_ret
        exact ⟨trim_done H4.out (by omega) hz.out (fun _ => by simp only [Nat.add_sub_cancel]; rw [HX.out.1]; exact HX.out.2), rfl⟩

theorem info_u : ∃ i, Try.prog.info? 24 = some i ∧ i.zero = some (.int .u64 0) ∧ i.size = 1 ∧ i.bytes = 8 := by
  obtain ⟨i0, hi, hz0, hz1, hz2⟩ := info_parts info_u64
  exact ⟨i0, hi, hz0, hz1, hz2⟩

/-- A slice in new memory that is this number in canonical words. -/
def MagP (w : World) (m : Int) (e : Ending) (w' : World) : Prop := ∃ v, e = .returned v ∧ SlU w' v (wl m) ∧ Below w.heap.size w w'

theorem rof_any (n : Bool) (a b c d : Int) (ha : U64 a) (hb : U64 b) (hc : U64 c) (hd : U64 d) (w : World) :
    Calls Try.prog 49 #[WV n a b c d] w (MagP w (MV a b c d)) := by
  obtain ⟨i0, hi, hz0, hz1, hz2⟩ := info_u
  have hw : Ws [a, b, c, d] := by
    intro x hx
    simp at hx
    rcases hx with rfl | rfl | rfl | rfl <;> assumption
  have HW := hid hw
  clear hw ha hb hc hd
  go_enter Try.func49, Try.ntmps49
  go_wp2_with (at_builtin; (refine wpList_append_u (ws := []) (ms := [a, b, c, d]) (v := .slice (some ⟨w.heap.size + 1, 0, none⟩) 0 0) (src := .slice (some ⟨w.heap.size, 1, none⟩) 4 4) _ rfl (.tmp 3) (.tmp 5) 73 66 rfl w.heap.size Try.underlying73 Try.underlying66 hi hz0 hz1 hz2 rfl rfl ?own ?src ?small ?base ?_); rotate_right; intro v1 w1 hown hg hat)
  case own =>
    exact OwnU.empty (w.alloc _) _ rfl (by simp) (by simp)
  case src =>
    refine ⟨_, 4, 4, rfl, rfl, Nat.le_refl _, by decide, HW.out, fun _ => ⟨w.heap.size, 1, rfl, by go_size, fun i hi => ?_⟩⟩
    match i, hi with
    | 0, _ => simp [go_sem]
    | 1, _ => simp [go_sem]
    | 2, _ => simp [go_sem]
    | 3, _ => simp [go_sem]
  case small => simp
  case base => go_size
  have hb1 : Below w.heap.size w w1 := (((Below.refl _ w).alloc (Nat.le_refl _) _).alloc (by simp) _).grown hg (by simp; omega) (fun k e => by simp [Value.ownBlock] at e; omega)
  clear hg hat HW
  simp only [List.nil_append] at hown
  rcases hown.form with ⟨rfl, h0⟩ | ⟨g, cap, rfl, h1, h2, h3, h4, h5, h6⟩
  · simp at h0
  have hs := hown.sl
  have e : VL [a, b, c, d] = MV a b c d := VL4 a b c d
  clear h1 h2 h3 h4 h5 h6
  have H := hid (And.intro hs (And.intro hb1 e))
  have HC := hid hs.canon
  clear hown hb1 e
  (repeat' (first | (go_big_may; (first | (go_at_call 65; refine (rtrim_any _ _ _ _ _ hs).mono ?_; rintro e w' ⟨rfl, rfl⟩))) | go_values | go_skip | go_guarded | go_step | go_upon | (simp only [Int.not_lt, Int.not_le] at *; go_simp) | (go_values <;> (try go_simp)) | (go_ite <;> go_prune <;> (try go_simp)) | (split <;> (first | (rename_i hx; exact (hx _ rfl).elim) | go_prune))))
  go_ret
  obtain ⟨hs, hb1, e⟩ := H.out
  have h2 := HC.out
  refine ⟨.slice (some ⟨g, 0, none⟩) (wl (VL [a, b, c, d])).length cap, rfl, ?_, hb1⟩
  rw [e] at h2 ⊢
  exact h2

/-- The cells of a Wide with these words. -/
def mcells (nb : Bool) (l : List Int) : Array Value := #[.bool nb, .int .u64 (l.getD 0 0), .int .u64 (l.getD 1 0), .int .u64 (l.getD 2 0), .int .u64 (l.getD 3 0)]
theorem mcells_nil (nb : Bool) : mcells nb [] = #[.bool nb, .int .u64 0, .int .u64 0, .int .u64 0, .int .u64 0] := rfl
theorem getD_takeD (ws : List Int) (i j : Nat) : (ws.take i).getD j 0 = if j < i then ws.getD j 0 else 0 := by
  rw [List.getD_eq_getElem?_getD, List.getD_eq_getElem?_getD, List.getElem?_take]
  split <;> rfl
theorem mcells_at (nb : Bool) (ws : List Int) {i : Nat} (h : i < 4) : (mcells nb (ws.take i))[1 + i]? = some (.int .u64 0) := by
  unfold mcells
  simp only [getD_takeD]
  match i, h with
  | 0, _ => simp
  | 1, _ => simp
  | 2, _ => simp
  | 3, _ => simp
theorem mcells_set (nb : Bool) (ws : List Int) {i : Nat} (h : i < 4) : (mcells nb (ws.take i)).setIfInBounds (1 + i) (.int .u64 (ws.getD i 0)) = mcells nb (ws.take (i + 1)) := by
  unfold mcells
  simp only [getD_takeD]
  match i, h with
  | 0, _ => simp
  | 1, _ => simp
  | 2, _ => simp
  | 3, _ => simp
theorem cn_pos (neg : Bool) {m : Int} (h0 : 0 ≤ m) (h : up4 m = 0) : cn neg (lb0 m) (lb1 m) (lb2 m) (lb3 m) = (neg && decide (0 < (wl m).length)) := by
  have e : mz (lb0 m) (lb1 m) (lb2 m) (lb3 m) = !decide (0 < (wl m).length) := by
    have h1 := mz_iff (lb0_in m) (lb1_in m) (lb2_in m) (lb3_in m)
    rw [mv_lb4 h] at h1
    by_cases hm : m = 0
    · rw [h1.2 hm, hm, wl_nil (Int.le_refl _)]; rfl
    · have h2 : (wl m).length ≠ 0 := fun h => wl_ne (show 0 < m by omega) (List.length_eq_zero_iff.1 h)
      have h3 : mz (lb0 m) (lb1 m) (lb2 m) (lb3 m) = false := by
        cases hz : mz (lb0 m) (lb1 m) (lb2 m) (lb3 m)
        · rfl
        · exact absurd (h1.1 hz) hm
      rw [h3]
      have h4 : decide (0 < (wl m).length) = true := dT (by omega)
      rw [h4]; rfl
  unfold cn; rw [e, Bool.not_not]
theorem we_mcells (neg : Bool) {m : Int} (h0 : 0 ≤ m) (h : up4 m = 0) : Value.agg (mcells (neg && decide (0 < (wl m).length)) (wl m)) = WE (sv neg m) := by
  obtain ⟨e0, e1, e2, e3, _⟩ := getD_wl4 h0 h
  rw [← sv_signed h0 h, cn_pos neg h0 h]
  unfold mcells
  rw [e0, e1, e2, e3]

set_option maxRecDepth 100000 in
theorem rwide_any (neg : Bool) (a : Option Addr) (len cap : Nat) (ws : List Int) (w : World) (h : SlU w (.slice a len cap) ws) :
    Calls Try.prog 47 #[.bool neg, .slice a len cap] w fun e w' => e = .returned (.tuple #[WE (cl (sv neg (VL ws))), .bool (fb (sv neg (VL ws)))]) ∧ Below w.heap.size w w' := by
  generalize hR : Value.tuple #[WE (cl (sv neg (VL ws))), .bool (fb (sv neg (VL ws)))] = R
  have HR := hid hR
  clear hR
  have hm := VL_nonneg h.ws
  have h' := h.alloc (.cells #[.bool false, .int .u64 0, .int .u64 0, .int .u64 0, .int .u64 0] 27 (0, 0))
  have hcan := h.canon
  have hlen := wl_fit hm
  have hlo := wl_words (VL ws)
  generalize hM : VL ws = m at *
  by_cases hu : up4 m = 0
  · have hl4 : (wl m).length ≤ 4 := hlen.2 hu
    have hf : Fits (sv neg m) := (fits_sv hm).2 hu
    have E := hid (And.intro ((we_mcells neg hm hu).trans (by rw [cl_fit hf]) : _ = WE (cl (sv neg m))) (by rw [fb_fit hf] : true = fb (sv neg m)))
    obtain ⟨a', len', cap', e, h1, h2, h3, h4, h5⟩ := hcan
    cases e
    have H5 := hid h5
    have HM := hid hM
    clear h5 hf hlen h4 h1 hM
    generalize hnb : (neg && decide (0 < (wl m).length)) = nb at *
    have HNB := hid hnb
    generalize hk : (wl m).length = k at *
    have HK := hid hk
    clear hk
    have hk' : decide ((4 : Int) < (k : Int)) = false := dF (by omega)
    cases neg
    · simp only [Bool.false_and, Bool.true_and] at hnb
      subst hnb
      go_enter Try.func47, Try.ntmps47
      go_wp2_with (go_at_call 65; refine (rtrim_any a len cap ws _ h').mono ?_; rintro e w' ⟨rfl, rfl⟩; rw [HM.out, HK.out])
      clear h'
      go_loopw [7] (fun s wr => ∃ i : Nat, i ≤ k ∧ s = .int .i64 i ∧ Below w.heap.size w wr ∧ w.heap.size + 2 ≤ wr.heap.size ∧ Bx wr w.heap.size #[.bool false, .int .u64 0, .int .u64 0, .int .u64 0, .int .u64 0] ∧ Bx wr (w.heap.size + 1) (mcells false ((wl m).take i))) (fun s _ => k - (intOf s).toNat)
      case atStart =>
        exact ⟨0, Nat.zero_le _, rfl, by (repeat' (first | (with_reducible assumption) | (with_reducible exact Below.refl _ _) | (with_reducible refine Below.alloc ?_ ?_ _) | (with_reducible refine Below.setCell ?_ ?_ _) | (with_reducible refine Below.drew ?_) | (with_reducible refine below_more ?_ (by with_reducible assumption)) | go_size | omega | (with_reducible refine below_drewN ?_))), by go_size, Bx.of (by (repeat' (first | (with_reducible assumption) | ((with_reducible refine HB.new _ _ _ ?_) <;> (go_size; done)) | (with_reducible refine HB.old (by go_size) ?_) | (with_reducible refine HB.drew ?_) | (with_reducible refine HB.over5 ?_) | (with_reducible refine HB.over4 ?_) | (with_reducible refine HB.setne (by first | go_size | (dsimp only; omega)) ?_) | (with_reducible refine HN.set ?_) | (with_reducible refine HN.setne (by first | go_size | (dsimp only; omega)) ?_) | (with_reducible refine HN.drew ?_) | (with_reducible refine HN.old (by go_size) ?_) | (with_reducible exact HN.of5 (by assumption)) | (with_reducible exact HN.new5 _ _ (by go_size)) | (with_reducible exact HN.of4 (by assumption)) | (with_reducible exact HN.new4 _ _ (by go_size))))), Bx.of (by rw [List.take_zero, mcells_nil]; (repeat' (first | (with_reducible assumption) | ((with_reducible refine HB.new _ _ _ ?_) <;> (go_size; done)) | (with_reducible refine HB.old (by go_size) ?_) | (with_reducible refine HB.drew ?_) | (with_reducible refine HB.over5 ?_) | (with_reducible refine HB.over4 ?_) | (with_reducible refine HB.setne (by first | go_size | (dsimp only; omega)) ?_) | (with_reducible refine HN.set ?_) | (with_reducible refine HN.setne (by first | go_size | (dsimp only; omega)) ?_) | (with_reducible refine HN.drew ?_) | (with_reducible refine HN.old (by go_size) ?_) | (with_reducible exact HN.of5 (by assumption)) | (with_reducible exact HN.new5 _ _ (by go_size)) | (with_reducible exact HN.of4 (by assumption)) | (with_reducible exact HN.new4 _ _ (by go_size)))))⟩
      case round =>
        obtain ⟨i, hi, rfl, hb0, hn0, ⟨B1, B1c, B1f, B1l⟩, ⟨B2, B2c, B2f, B2l⟩⟩ := hrel
        by_cases hlt : i < k
        · obtain ⟨b, off, rfl, hbl, hcell⟩ := H5.out (by omega)
          have hc := (hb0.cell (p := ⟨b, off + i, none⟩) hbl).trans (hcell i hlt)
          have hi4 : i < 4 := by omega
          have hm0 : wr.cell? ⟨w.heap.size + 1, 1 + i, none⟩ = some (.int .u64 0) := (B2c (1 + i)).trans (mcells_at _ _ hi4)
          clear hcell
          generalize hx : (wl m).getD i 0 = x at *
          have HX := hid hx
          clear hx B2c B1c
          go_wp2
          go_roundw
          case rel => exact ⟨i + 1, by omega, by go_num, by (repeat' (first | (with_reducible assumption) | (with_reducible exact Below.refl _ _) | (with_reducible refine Below.alloc ?_ ?_ _) | (with_reducible refine Below.setCell ?_ ?_ _) | (with_reducible refine Below.drew ?_) | (with_reducible refine below_more ?_ (by with_reducible assumption)) | go_size | omega | (with_reducible refine below_drewN ?_))), by (first | go_size | omega), Bx.of (by (repeat' (first | (with_reducible assumption) | ((with_reducible refine HB.new _ _ _ ?_) <;> (go_size; done)) | (with_reducible refine HB.old (by go_size) ?_) | (with_reducible refine HB.drew ?_) | (with_reducible refine HB.over5 ?_) | (with_reducible refine HB.over4 ?_) | (with_reducible refine HB.setne (by first | go_size | (dsimp only; omega)) ?_) | (with_reducible refine HN.set ?_) | (with_reducible refine HN.setne (by first | go_size | (dsimp only; omega)) ?_) | (with_reducible refine HN.drew ?_) | (with_reducible refine HN.old (by go_size) ?_) | (with_reducible exact HN.of5 (by assumption)) | (with_reducible exact HN.new5 _ _ (by go_size)) | (with_reducible exact HN.of4 (by assumption)) | (with_reducible exact HN.new4 _ _ (by go_size))))), Bx.of (HB.set B2 (by rw [← HX.out]; exact mcells_set _ _ hi4))⟩
          case measure => simp [intOf]; try omega
        · obtain rfl : i = k := by omega
          have E2 : mcells false ((wl m).take i) = mcells false (wl m) := by rw [List.take_of_length_le (by rw [HK.out]; exact Nat.le_refl _)]
          rw [E2] at B2 B2c
          clear E2
          have e0 : (mcells false (wl m))[0]? = some (.bool false) := rfl
          have e1 : (mcells false (wl m))[1]? = some (.int .u64 ((wl m).getD 0 0)) := rfl
          have e2 : (mcells false (wl m))[2]? = some (.int .u64 ((wl m).getD 1 0)) := rfl
          have e3 : (mcells false (wl m))[3]? = some (.int .u64 ((wl m).getD 2 0)) := rfl
          have e4 : (mcells false (wl m))[4]? = some (.int .u64 ((wl m).getD 3 0)) := rfl
          (repeat' (first | go_values | go_skip | go_guarded | go_step | go_upon | (simp only [Int.not_lt, Int.not_le] at *; go_simp) | (go_values <;> (try go_simp)) | (go_ite <;> go_prune <;> (try go_simp)) | (split <;> (first | (rename_i hx; exact (hx _ rfl).elim) | go_prune))))
          refine bodyPost_ret (v := .tuple #[_, .bool true]) ?_ rfl ⟨congrArg Ending.returned ((ret_w E.out.1 E.out.2).trans HR.out), by (repeat' (first | (with_reducible assumption) | (with_reducible exact Below.refl _ _) | (with_reducible refine Below.alloc ?_ ?_ _) | (with_reducible refine Below.setCell ?_ ?_ _) | (with_reducible refine Below.drew ?_) | (with_reducible refine below_more ?_ (by with_reducible assumption)) | go_size | omega | (with_reducible refine below_drewN ?_)))⟩
          simp [results, Try.results47, go_sem, B1c, B1f, B1l, mcells]
    · simp only [Bool.false_and, Bool.true_and] at hnb
      subst hnb
      go_enter Try.func47, Try.ntmps47
      go_wp2_with (go_at_call 65; refine (rtrim_any a len cap ws _ h').mono ?_; rintro e w' ⟨rfl, rfl⟩; rw [HM.out, HK.out])
      clear h'
      go_loopw [7] (fun s wr => ∃ i : Nat, i ≤ k ∧ s = .int .i64 i ∧ Below w.heap.size w wr ∧ w.heap.size + 2 ≤ wr.heap.size ∧ Bx wr w.heap.size #[.bool false, .int .u64 0, .int .u64 0, .int .u64 0, .int .u64 0] ∧ Bx wr (w.heap.size + 1) (mcells (decide (0 < k)) ((wl m).take i))) (fun s _ => k - (intOf s).toNat)
      case atStart =>
        exact ⟨0, Nat.zero_le _, rfl, by (repeat' (first | (with_reducible assumption) | (with_reducible exact Below.refl _ _) | (with_reducible refine Below.alloc ?_ ?_ _) | (with_reducible refine Below.setCell ?_ ?_ _) | (with_reducible refine Below.drew ?_) | (with_reducible refine below_more ?_ (by with_reducible assumption)) | go_size | omega | (with_reducible refine below_drewN ?_))), by go_size, Bx.of (by (repeat' (first | (with_reducible assumption) | ((with_reducible refine HB.new _ _ _ ?_) <;> (go_size; done)) | (with_reducible refine HB.old (by go_size) ?_) | (with_reducible refine HB.drew ?_) | (with_reducible refine HB.over5 ?_) | (with_reducible refine HB.over4 ?_) | (with_reducible refine HB.setne (by first | go_size | (dsimp only; omega)) ?_) | (with_reducible refine HN.set ?_) | (with_reducible refine HN.setne (by first | go_size | (dsimp only; omega)) ?_) | (with_reducible refine HN.drew ?_) | (with_reducible refine HN.old (by go_size) ?_) | (with_reducible exact HN.of5 (by assumption)) | (with_reducible exact HN.new5 _ _ (by go_size)) | (with_reducible exact HN.of4 (by assumption)) | (with_reducible exact HN.new4 _ _ (by go_size))))), Bx.of (by rw [List.take_zero, mcells_nil]; (repeat' (first | (with_reducible assumption) | ((with_reducible refine HB.new _ _ _ ?_) <;> (go_size; done)) | (with_reducible refine HB.old (by go_size) ?_) | (with_reducible refine HB.drew ?_) | (with_reducible refine HB.over5 ?_) | (with_reducible refine HB.over4 ?_) | (with_reducible refine HB.setne (by first | go_size | (dsimp only; omega)) ?_) | (with_reducible refine HN.set ?_) | (with_reducible refine HN.setne (by first | go_size | (dsimp only; omega)) ?_) | (with_reducible refine HN.drew ?_) | (with_reducible refine HN.old (by go_size) ?_) | (with_reducible exact HN.of5 (by assumption)) | (with_reducible exact HN.new5 _ _ (by go_size)) | (with_reducible exact HN.of4 (by assumption)) | (with_reducible exact HN.new4 _ _ (by go_size)))))⟩
      case round =>
        obtain ⟨i, hi, rfl, hb0, hn0, ⟨B1, B1c, B1f, B1l⟩, ⟨B2, B2c, B2f, B2l⟩⟩ := hrel
        by_cases hlt : i < k
        · obtain ⟨b, off, rfl, hbl, hcell⟩ := H5.out (by omega)
          have hc := (hb0.cell (p := ⟨b, off + i, none⟩) hbl).trans (hcell i hlt)
          have hi4 : i < 4 := by omega
          have hm0 : wr.cell? ⟨w.heap.size + 1, 1 + i, none⟩ = some (.int .u64 0) := (B2c (1 + i)).trans (mcells_at _ _ hi4)
          clear hcell
          generalize hx : (wl m).getD i 0 = x at *
          have HX := hid hx
          clear hx B2c B1c
          go_wp2
          go_roundw
          case rel => exact ⟨i + 1, by omega, by go_num, by (repeat' (first | (with_reducible assumption) | (with_reducible exact Below.refl _ _) | (with_reducible refine Below.alloc ?_ ?_ _) | (with_reducible refine Below.setCell ?_ ?_ _) | (with_reducible refine Below.drew ?_) | (with_reducible refine below_more ?_ (by with_reducible assumption)) | go_size | omega | (with_reducible refine below_drewN ?_))), by (first | go_size | omega), Bx.of (by (repeat' (first | (with_reducible assumption) | ((with_reducible refine HB.new _ _ _ ?_) <;> (go_size; done)) | (with_reducible refine HB.old (by go_size) ?_) | (with_reducible refine HB.drew ?_) | (with_reducible refine HB.over5 ?_) | (with_reducible refine HB.over4 ?_) | (with_reducible refine HB.setne (by first | go_size | (dsimp only; omega)) ?_) | (with_reducible refine HN.set ?_) | (with_reducible refine HN.setne (by first | go_size | (dsimp only; omega)) ?_) | (with_reducible refine HN.drew ?_) | (with_reducible refine HN.old (by go_size) ?_) | (with_reducible exact HN.of5 (by assumption)) | (with_reducible exact HN.new5 _ _ (by go_size)) | (with_reducible exact HN.of4 (by assumption)) | (with_reducible exact HN.new4 _ _ (by go_size))))), Bx.of (HB.set B2 (by rw [← HX.out]; exact mcells_set _ _ hi4))⟩
          case measure => simp [intOf]; try omega
        · obtain rfl : i = k := by omega
          have E2 : mcells (decide (0 < i)) ((wl m).take i) = mcells (decide (0 < i)) (wl m) := by rw [List.take_of_length_le (by rw [HK.out]; exact Nat.le_refl _)]
          rw [E2] at B2 B2c
          clear E2
          have e0 : (mcells (decide (0 < i)) (wl m))[0]? = some (.bool (decide (0 < i))) := rfl
          have e1 : (mcells (decide (0 < i)) (wl m))[1]? = some (.int .u64 ((wl m).getD 0 0)) := rfl
          have e2 : (mcells (decide (0 < i)) (wl m))[2]? = some (.int .u64 ((wl m).getD 1 0)) := rfl
          have e3 : (mcells (decide (0 < i)) (wl m))[3]? = some (.int .u64 ((wl m).getD 2 0)) := rfl
          have e4 : (mcells (decide (0 < i)) (wl m))[4]? = some (.int .u64 ((wl m).getD 3 0)) := rfl
          (repeat' (first | go_values | go_skip | go_guarded | go_step | go_upon | (simp only [Int.not_lt, Int.not_le] at *; go_simp) | (go_values <;> (try go_simp)) | (go_ite <;> go_prune <;> (try go_simp)) | (split <;> (first | (rename_i hx; exact (hx _ rfl).elim) | go_prune))))
          refine bodyPost_ret (v := .tuple #[_, .bool true]) ?_ rfl ⟨congrArg Ending.returned ((ret_w E.out.1 E.out.2).trans HR.out), by (repeat' (first | (with_reducible assumption) | (with_reducible exact Below.refl _ _) | (with_reducible refine Below.alloc ?_ ?_ _) | (with_reducible refine Below.setCell ?_ ?_ _) | (with_reducible refine Below.drew ?_) | (with_reducible refine below_more ?_ (by with_reducible assumption)) | go_size | omega | (with_reducible refine below_drewN ?_)))⟩
          simp [results, Try.results47, go_sem, B1c, B1f, B1l, mcells]
  · have hf : ¬Fits (sv neg m) := fun h => hu ((fits_sv hm).1 h)
    have E := hid (And.intro (we_zero.symm.trans (by rw [cl_not hf]) : WV false 0 0 0 0 = WE (cl (sv neg m))) (by rw [fb_not hf] : false = fb (sv neg m)))
    have hl4 : 4 < (wl m).length := by
      rcases Nat.lt_or_ge 4 (wl m).length with h | h
      · exact h
      · exact absurd (hlen.1 h) hu
    have HM := hid hM
    clear hf hlen hM hcan h hu
    generalize hk : (wl m).length = k at *
    have HK := hid hk
    clear hk
    have hk' : decide ((4 : Int) < (k : Int)) = true := dT (by omega)
    go_enter Try.func47, Try.ntmps47
    (repeat' (first | (go_big_may; (first | (go_at_call 65; refine (rtrim_any a len cap ws _ h').mono ?_; rintro e w' ⟨rfl, rfl⟩; rw [HM.out, HK.out]))) | go_values | go_skip | go_guarded | go_step | go_upon | (simp only [Int.not_lt, Int.not_le] at *; go_simp) | (go_values <;> (try go_simp)) | (go_ite <;> go_prune <;> (try go_simp)) | (split <;> (first | (rename_i hx; exact (hx _ rfl).elim) | go_prune))))
    refine bodyPost_ret (v := .tuple #[WV false 0 0 0 0, .bool false]) ?_ rfl ⟨congrArg Ending.returned ((ret_w E.out.1 E.out.2).trans HR.out), by (repeat' (first | (with_reducible assumption) | (with_reducible exact Below.refl _ _) | (with_reducible refine Below.alloc ?_ ?_ _) | (with_reducible refine Below.setCell ?_ ?_ _) | (with_reducible refine Below.drew ?_) | (with_reducible refine below_more ?_ (by with_reducible assumption)) | go_size | omega | (with_reducible refine below_drewN ?_)))⟩
    simp [results, Try.results47, go_sem]

/-! ### Order -/
def Eqs (A B : List Int) (i : Nat) : Prop := ∀ j, i ≤ j → A.getD j 0 = B.getD j 0
theorem drewN_two (w : World) (a b : Nat) : (w.drewN a).drewN b = w.drewN (a + b) := by simp [World.drewN, Nat.add_assoc]
theorem ret_cm {m n k : Int} (h : k = cm m n) : Ending.returned (.int .i64 k) = Ending.returned (.int .i64 (cm m n)) := by rw [h]
set_option maxRecDepth 100000 in
theorem rcompare_any (a a' : Option Addr) (len cap len' cap' : Nat) (m n : Int) (hm : 0 ≤ m) (hn : 0 ≤ n) (w : World) (h : SlU w (.slice a len cap) (wl m)) (h' : SlU w (.slice a' len' cap') (wl n)) :
    Calls Try.prog 51 #[.slice a len cap, .slice a' len' cap'] w fun e w' => e = .returned (.int .i64 (cm m n)) ∧ ∃ d, w' = w.drewN d := by
  obtain ⟨a0, l0, c0, e, h1, h2, h3, h4, h5⟩ := h
  cases e
  obtain ⟨a1, l1, c1, e, g1, g2, g3, g4, g5⟩ := h'
  cases e
  generalize hR : cm m n = R
  have HR := hid hR
  clear hR
  by_cases hl : len = len'
  · subst hl
    have eA := VL_wl hm
    have eB := VL_wl hn
    have H5 := hid (And.intro h5 g5)
    have H4 := hid (And.intro (And.intro h1 g1) (And.intro (And.intro eA eB) (And.intro h4 g4)))
    clear h5 g5 h4 g4 h1 g1 eA eB
    generalize wl m = A at *
    generalize wl n = B at *
    have tl : decide ((len : Int) < (len : Int)) = false := dF (by omega)
    go_enter Try.func51, Try.ntmps51
    go_wp2
    go_loopw [5] (fun s wr => ∃ (i d : Nat), i ≤ len ∧ s = .int .i64 ((i : Int) - 1) ∧ wr = w.drewN d ∧ Hid (Eqs A B i)) (fun s _ => (intOf s + 1).toNat)
    case atStart => exact ⟨len, 0, Nat.le_refl _, rfl, rfl, hid (fun j hj => by rw [List.getD_eq_getElem?_getD, List.getD_eq_getElem?_getD, List.getElem?_eq_none (by rw [H4.out.1.1]; exact hj), List.getElem?_eq_none (by rw [H4.out.1.2]; exact hj)])⟩
    case round =>
      obtain ⟨i, d, hi, rfl, rfl, he⟩ := hrel
      rcases Nat.eq_zero_or_pos i with h0 | h0
      · subst h0
        go_wp2
        go_ret
        obtain ⟨⟨l1, l2⟩, ⟨e1, e2⟩, _⟩ := H4.out
        have := VL_same (l1.trans l2.symm) (fun j => he.out j (Nat.zero_le _))
        refine ⟨?_, d, rfl⟩
        rw [← HR.out]
        rw [this, e2] at e1
        rw [← e1, cm_eq]; rfl
      · obtain ⟨q, rfl⟩ : ∃ q, i = q + 1 := ⟨i - 1, by omega⟩
        have hql : q < len := by omega
        obtain ⟨⟨l1, l2⟩, ⟨e1, e2⟩, w1, w2⟩ := H4.out
        obtain ⟨b, off, rfl, hbl, hcell⟩ := H5.out.1 (by omega)
        obtain ⟨b', off', rfl, hbl', hcell'⟩ := H5.out.2 (by omega)
        have hc := hcell q hql
        have hc' := hcell' q hql
        clear hcell hcell' H5
        have T3 : A.getD q 0 < B.getD q 0 → cm m n = -1 := fun h => by
          have := VL_top w1 w2 (l1.trans l2.symm) (by omega) (fun j hj => he.out j hj) h
          rw [e1, e2] at this; exact cm_lt this
        have T4 : B.getD q 0 < A.getD q 0 → cm m n = 1 := fun h => by
          have := VL_top w2 w1 (l2.trans l1.symm) (by omega) (fun j hj => (he.out j hj).symm) h
          rw [e1, e2] at this; exact cm_gt this
        have T5 : A.getD q 0 = B.getD q 0 → Eqs A B q := fun h j hj => (Nat.eq_or_lt_of_le hj).elim (fun e => e ▸ h) (fun e => he.out j e)
        generalize A.getD q 0 = x at *
        generalize B.getD q 0 = y at *
        have H3 := hid (And.intro T3 (And.intro T4 T5))
        clear T3 T4 T5 l1 l2 e1 e2 w1 w2 H4
        have e1 : ((q + 1 : Nat) : Int) - 1 = (q : Int) := by omega
        have hq0 : (0 : Int) ≤ (q : Int) := Int.natCast_nonneg _
        have hq1 : (q : Int) < (len : Int) := by omega
        simp only [e1]
        clear e1
        rcases Int.lt_trichotomy x y with hxy | hxy | hxy
        · have t1 : decide (x < y) = true := dT hxy
          go_wp2
          go_quiet (fail)
          go_wp2
          go_ret
          exact ⟨ret_i (by rw [← HR.out, H3.out.1 hxy]), _, drewN_two _ _ _⟩
        · subst hxy
          have t1 : decide (x < x) = false := dF (by omega)
          go_wp2
          go_quiet (fail)
          go_wp2
          go_quiet (fail)
          go_wp2
          go_roundw
          case rel => exact ⟨q, _, by omega, rfl, rfl, hid (H3.out.2.2 (by trivial))⟩
          case measure => simp [intOf]; try omega
        · have t1 : decide (x < y) = false := dF (by omega)
          have t2 : decide (y < x) = true := dT hxy
          go_wp2
          go_quiet (fail)
          go_wp2
          go_quiet (fail)
          go_wp2
          go_ret
          exact ⟨ret_i (by rw [← HR.out, H3.out.2.1 hxy]), _, by rw [drewN_two, drewN_two]⟩
  · have T3 : len < len' → cm m n = -1 := fun h => cm_lt (wl_lt_of_len hm hn (by rw [h1, g1]; exact h))
    have T4 : len' < len → cm m n = 1 := fun h => cm_gt (wl_lt_of_len hn hm (by rw [h1, g1]; exact h))
    have H3 := hid (And.intro T3 T4)
    clear T3 T4 h5 g5 h4 g4 h1 g1
    have t0 : ((len : Int) != (len' : Int)) = true := bne_iff_ne.2 (by omega)
    rcases Nat.lt_or_ge len len' with hlt | hge
    · have t1 : decide (len < len') = true := dT hlt
      have t2 : decide ((len : Int) < (len' : Int)) = true := dT (by omega)
      go_enter Try.func51, Try.ntmps51
      go_wp2
      go_ret
      exact ⟨ret_i (by rw [← HR.out, H3.out.1 hlt]), 0, rfl⟩
    · have hlt : len' < len := by omega
      have t1 : decide (len < len') = false := dF (by omega)
      have t2 : decide ((len : Int) < (len' : Int)) = false := dF (by omega)
      go_enter Try.func51, Try.ntmps51
      go_wp2
      go_ret
      exact ⟨ret_i (by rw [← HR.out, H3.out.2 hlt]), 0, rfl⟩
end Go.Proofs.Ythcboomdkpiflaa
