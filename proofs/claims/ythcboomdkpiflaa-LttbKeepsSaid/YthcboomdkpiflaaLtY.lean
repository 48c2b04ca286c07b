/- tscodecref25.Indexes: the same indexes as the program's. -/
import Derived.Test.YthcboomdkpiflaaRows
import Derived.Test.YthcboomdkpiflaaLtX
import Derived.Test.YthcboomdkpiflaaDriftS
import Derived.Test.YthcboomdkpiflaaLtD
import Derived.Test.YthcboomdkpiflaaDriftO
import Derived.WalkKit
import Derived.ProofKit
import Derived.WalkLawsBesides
import Derived.WalkSpells
import Derived.RegionTactic
import Derived.ChangeAlike
import Derived.BigRegion
import Derived.Outline
import Derived.Handy
import Derived.Deep.QuietTactic
import Derived.BigQuiet
namespace Go.Proofs.Ythcboomdkpiflaa
open Go.ChangeShapes Go.WideShapes Go.ChangeAt Go.RowKit
set_option linter.unusedVariables false
set_option linter.unusedSimpArgs false

/-- The reference's best index and its area after t samples. -/
def bestr (f : Nat → Int) (fr t : Nat) : Int := if t = 0 then -1 else ((fr + (lg f t).1 : Nat) : Int)
def mostr (f : Nat → Int) (t : Nat) : Int := if t = 0 then 0 else (lg f t).2
theorem bestr_zero (f : Nat → Int) (fr : Nat) : bestr f fr 0 = -1 := rfl
theorem mostr_zero (f : Nat → Int) : mostr f 0 = 0 := rfl
theorem br_first (f : Nat → Int) (fr : Nat) (h : 0 ≤ f 0) : bestr f fr 1 = (fr : Int) ∧ mostr f 1 = f 0 := by
  have e : lg f 1 = if (-1 : Int) < f 0 then (0, f 0) else (0, -1) := rfl
  simp [bestr, mostr, e, show (-1 : Int) < f 0 by omega]
theorem br_more (f : Nat → Int) (fr t : Nat) (ht : t ≠ 0) (h : mostr f t < f t) : bestr f fr (t + 1) = ((fr + t : Nat) : Int) ∧ mostr f (t + 1) = f t := by
  unfold bestr mostr at *
  rw [if_neg ht] at h
  have e : lg f (t + 1) = if (lg f t).2 < f t then (t, f t) else lg f t := rfl
  rw [e, if_pos h]; simp
theorem br_less (f : Nat → Int) (fr t : Nat) (ht : t ≠ 0) (h : ¬ mostr f t < f t) : bestr f fr (t + 1) = bestr f fr t ∧ mostr f (t + 1) = mostr f t := by
  unfold bestr mostr at *
  rw [if_neg ht] at h
  have e : lg f (t + 1) = if (lg f t).2 < f t then (t, f t) else lg f t := rfl
  rw [e, if_neg h, if_neg ht]; simp [ht]
theorem bestr_pos (f : Nat → Int) (fr t : Nat) (ht : t ≠ 0) : 0 ≤ bestr f fr t := by
  unfold bestr; rw [if_neg ht]; omega
theorem fits_mostr (f : Nat → Int) (h : ∀ k, Fits (f k)) (t : Nat) : Fits (mostr f t) := by
  unfold mostr
  split
  · unfold Fits; decide
  · induction t with
    | zero => contradiction
    | succ t ih =>
      show Fits (if (lg f t).2 < f t then (t, f t) else lg f t).2
      split
      · exact h t
      · by_cases e : t = 0
        · subst e; exact fits_minus
        · exact ih e

set_option maxHeartbeats 16000000 in
set_option maxRecDepth 100000 in
theorem rindexes_any {v : Value} {ss : Smps} (k : Int) (hk : I64 k) (w : World) (hs : SlS w v ss) (hn : ss.length ≤ 1000) : Calls Try.prog 54 #[v, .int .i64 k] w (IxP ss k w) := by
  have CC := rcheck_any w hs hn
  have CB := fun W => rbounds_any ss.length hn k hk W
  unfold IxP BndP at *
  obtain ⟨a, cap, rfl, -⟩ := id hs
  unfold ixs ixe
  cases hI : incr ss
  · rw [hI] at CC
    clear hI CB
    simp only [Bool.false_eq_true, if_false] at CC ⊢
    go_enter Try.func54, Try.ntmps54
    (repeat' (first | go_values | go_skip | go_guarded | go_step | go_upon | (simp only [Int.not_lt, Int.not_le] at *; go_simp) | (go_values <;> (try go_simp)) | (go_ite <;> go_prune <;> (try go_simp)) | (split <;> (first | (rename_i hx; exact (hx _ rfl).elim) | go_prune))))
    refine CC.mono ?_
    rintro e w1 ⟨rfl, hb1⟩
    (repeat' (first | go_values | go_skip | go_guarded | go_step | go_upon | (simp only [Int.not_lt, Int.not_le] at *; go_simp) | (go_values <;> (try go_simp)) | (go_ite <;> go_prune <;> (try go_simp)) | (split <;> (first | (rename_i hx; exact (hx _ rfl).elim) | go_prune))))
    refine bodyPost_ret (v := .tuple #[.slice none 0 0, .int .i64 7]) ?_ rfl ⟨_, rfl, World.ownsRow_nil _ _ _ _, by (repeat' (first | (with_reducible assumption) | (with_reducible exact Below.refl _ _) | (with_reducible refine Below.alloc ?_ ?_ _) | (with_reducible refine Below.setCell ?_ ?_ _) | (with_reducible refine Below.drew ?_) | (with_reducible refine below_more ?_ (by with_reducible assumption)) | go_size | omega | (with_reducible refine below_drewN ?_)))⟩
    simp [results, Try.results54, go_sem]
  · rw [hI] at CC
    simp only [if_true] at CC ⊢
    rcases bok_cases ss.length k with ⟨h, h1, h2, h3⟩ | ⟨h, hc⟩
    · rw [h] at CB
      simp only [h, if_true] at CB ⊢
      clear h h3 hk hI
      obtain ⟨K, rfl⟩ : ∃ K : Nat, k = K := ⟨k.toNat, by omega⟩
      have h1' : 3 ≤ K := by omega
      have h2' : K ≤ ss.length := by omega
      rw [Int.toNat_natCast] at CB ⊢
      obtain ⟨i0, hi, hz0, hz1, hz2⟩ := info_parts info_int
      go_enter Try.func54, Try.ntmps54
      (repeat' (first | go_values | go_skip | go_guarded | go_step | go_upon | (simp only [Int.not_lt, Int.not_le] at *; go_simp) | (go_values <;> (try go_simp)) | (go_ite <;> go_prune <;> (try go_simp)) | (split <;> (first | (rename_i hx; exact (hx _ rfl).elim) | go_prune))))
      refine CC.mono ?_
      rintro e w1 ⟨rfl, hb1⟩
      clear CC
      (repeat' (first | go_values | go_skip | go_guarded | go_step | go_upon | (simp only [Int.not_lt, Int.not_le] at *; go_simp) | (go_values <;> (try go_simp)) | (go_ite <;> go_prune <;> (try go_simp)) | (split <;> (first | (rename_i hx; exact (hx _ rfl).elim) | go_prune))))
      go_at_call 30
      refine (CB _).mono ?_
      rintro e w2 ⟨⟨vb, rfl, hvb⟩, hb2⟩
      clear CB
      have hBw2 : Below w.heap.size w w2 := by (repeat' (first | (with_reducible assumption) | (with_reducible exact Below.refl _ _) | (with_reducible refine Below.alloc ?_ ?_ _) | (with_reducible refine Below.setCell ?_ ?_ _) | (with_reducible refine Below.drew ?_) | (with_reducible refine below_more ?_ (by with_reducible assumption)) | go_size | omega | (with_reducible refine below_drewN ?_)))
      have hvz : SlZ w2 .i64 vb (bks ss.length K) := slz_own (by rw [bks_len]; exact hvb) (fun z hz => by
        unfold bks at hz
        obtain ⟨i, hi, rfl⟩ := List.mem_map.1 hz
        have := bk_le h1' h2' (j := i) (by have := List.mem_range.1 hi; omega)
        exact ⟨by omega, by omega⟩)
      have hs2 := hs.below hBw2
      obtain ⟨avb, lvb, cb, rfl, hbl, hbc, hbm, -, hbcell⟩ := hvz
      rw [bks_len] at hbl
      subst hbl
      obtain ⟨gb, ob, rfl, hgb, hbcs⟩ := hbcell (by omega)
      have HBC := hid (fun (j : Nat) (h : j < K - 1) (W : World) (hW : Below w2.heap.size w2 W) => (hW.cell (p := ⟨gb, ob + j, none⟩) hgb).trans (bks_get (n := ss.length) h ▸ hbcs j h))
      obtain ⟨a', cap', e, hlc, hcm, hin, hcell⟩ := id hs2
      cases e
      obtain ⟨b, off, rfl, hb, hcs⟩ := hcell (by omega)
      have HCS := hid (fun (i : Nat) (h : i < ss.length) (W : World) (hW : Below w2.heap.size w2 W) => And.intro ((hW.cell (p := ⟨b, off + i * 2, none⟩) hb).trans (hcs i h).1) ((hW.cell (p := ⟨b, off + i * 2 + 1, none⟩) hb).trans (hcs i h).2))
      have HI := hid hin
      have HS := hid hs2
      have hsz2 := hBw2.size
      have hcapm : cap ≤ 9223372036854775807 := by simpa [maxLen] using hcm
      clear hvb hs hbcell hbcs hcell hcs hin hs2 hb1 hb2 hcm hbm
      (repeat' (first | go_values | go_skip | go_guarded | go_step | go_upon | (simp only [Int.not_lt, Int.not_le] at *; go_simp) | (go_values <;> (try go_simp)) | (go_ite <;> go_prune <;> (try go_simp)) | (split <;> (first | (rename_i hx; exact (hx _ rfl).elim) | go_prune))))
      go_loopw [9, 10] (fun out i wr => ∃ j : Nat, i = .int .i64 j ∧ j ≤ K - 2 ∧ wr.ownsRow w2.heap.size 3 1 out (j + 1) ((chs ss K j).map (Value.int .i64)) ∧ Below w2.heap.size w2 wr) (fun _ i _ => K - 2 - (intOf i).toNat)
      case atStart => exact ⟨0, rfl, Nat.zero_le _, World.ownsRow_lit _ #[.int .i64 0] 1 (Nat.le_refl _) (by decide) rfl, by (repeat' (first | (with_reducible assumption) | (with_reducible exact Below.refl _ _) | (with_reducible refine Below.alloc ?_ ?_ _) | (with_reducible refine Below.setCell ?_ ?_ _) | (with_reducible refine Below.drew ?_) | (with_reducible refine below_more ?_ (by with_reducible assumption)) | go_size | omega | (with_reducible refine below_drewN ?_)))⟩
      case round =>
        obtain ⟨j, rfl, hj, hO, hB⟩ := hrel
        by_cases hlt : j < K - 2
        · obtain ⟨fr, tt, en, at_, bi, efr, ett, een, eat, h3, h4, h5, h6, h7, hbi, h8, hch, h9, h10⟩ := round_plain h1' h2' hlt
          have fb1 : ∀ Wz : World, Below wr.heap.size wr Wz → Wz.cell? ⟨gb, ob + j, none⟩ = some (.int .i64 fr) := fun Wz hz => efr ▸ HBC.out j (by omega) Wz (hB.trans (hz.mono hB.size))
          have fb2 : ∀ Wz : World, Below wr.heap.size wr Wz → Wz.cell? ⟨gb, ob + (j + 1), none⟩ = some (.int .i64 tt) := fun Wz hz => ett ▸ HBC.out (j + 1) (by omega) Wz (hB.trans (hz.mono hB.size))
          have f2 := fb2 wr (Below.refl _ _)
          have f3 : j + 2 < K - 1 → wr.cell? ⟨gb, ob + (j + 2), none⟩ = some (.int .i64 en) := fun h => by rw [HBC.out (j + 2) h wr hB, h9 h]
          have hltt : ¬ j + 2 < K - 1 → tt = ss.length - 1 := fun h => by rw [← ett, show j + 1 = K - 2 by omega, bk_last h1' h2']
          obtain ⟨ao, co, rfl, hoc, -, hocell⟩ := own_slice hO (by rw [List.length_map, chs_len, Nat.mul_one])
          obtain ⟨go, rfl, hgo1, hgo2, hgoc⟩ := hocell (by omega)
          have g1 : ∀ Wz : World, Below wr.heap.size wr Wz → Wz.cell? ⟨go, j, none⟩ = some (.int .i64 at_) := fun Wz hz => (hz.cell (p := ⟨go, j, none⟩) hgo2).trans (hgoc j _ (by rw [List.getElem?_map, List.getElem?_eq_getElem (by rw [chs_len]; omega)]; show some (Value.int .i64 _) = _; rw [← cnt_get ss eat, List.getD_eq_getElem?_getD, List.getElem?_eq_getElem (by rw [chs_len]; omega)]; rfl))
          obtain ⟨xy, hx⟩ : ∃ xy, ss.getD at_ (0, 0) = xy := ⟨_, rfl⟩
          have hq := smp_i64 HI.out at_
          rw [hx] at hq hbi
          have g23 : ∀ Wz : World, Below wr.heap.size wr Wz → Wz.cell? ⟨b, off + at_ * 2, none⟩ = some (.int .i64 xy.1) ∧ Wz.cell? ⟨b, off + at_ * 2 + 1, none⟩ = some (.int .i64 xy.2) := fun Wz hz => hx ▸ HCS.out at_ h6 Wz (hB.trans (hz.mono hB.size))
          have HNX : Hid (∀ W, Below wr.heap.size wr W → SlS W (.slice (some ⟨b, off + tt * 2, none⟩) (en - tt) (cap - tt)) (cut ss tt en)) := hid fun W hW => (HS.out.below (hB.trans (hW.mono hB.size))).cut h4 h5
          obtain ⟨xa, ya⟩ := xy
          dsimp only at g23 hq
          have g2 := fun Wz hz => (g23 Wz hz).1
          have g3 := fun Wz hz => (g23 Wz hz).2
          have HCH := hid hch
          have hj1 : ((j : Int) + 1).toNat = j + 1 := by omega
          have hj2 : ((j : Int) + 2).toNat = j + 2 := by omega
          have hj3 : (j : Int) + 1 < (K - 1 : Nat) := by omega
          have hjj : (j : Int) < (j : Int) + 1 := by omega
          have hbs : (K : Int) ≤ 1000 := by omega
          have s2 : fr ≤ tt := by omega
          have s3 : ¬ cap = fr := by omega
          have s4 : en ≤ cap := by omega
          have s5 : tt ≤ en := by omega
          have s6 : ¬ cap = tt := by omega
          have hn1 : ((ss.length : Int) - 1).toNat = ss.length - 1 := by omega
          have hn2 : ¬ cap = ss.length - 1 := by omega
          clear efr ett een eat hocell hgoc hx hch h9 g23
          by_cases hlast : j + 2 < K - 1
          · have hl2 : (j : Int) + 2 < (K - 1 : Nat) := by omega
            have f4 := f3 hlast
            clear f3 h10 hltt
            (repeat' (first | go_values | go_skip | go_guarded | go_step | go_upon | (simp only [Int.not_lt, Int.not_le] at *; go_simp) | (go_values <;> (try go_simp)) | (go_ite <;> go_prune <;> (try go_simp)) | (split <;> (first | (rename_i hx; exact (hx _ rfl).elim) | go_prune))))
            go_quiet (fail)
            clear f2 f4
            (repeat' (first | go_values | go_skip | go_guarded | go_step | go_upon | (simp only [Int.not_lt, Int.not_le] at *; go_simp) | (go_values <;> (try go_simp)) | (go_ite <;> go_prune <;> (try go_simp)) | (split <;> (first | (rename_i hx; exact (hx _ rfl).elim) | go_prune))))
            go_at_call 70
            refine (rsums_any _ (HNX.out _ (by (repeat' (first | (with_reducible assumption) | (with_reducible exact Below.refl _ _) | (with_reducible refine Below.alloc ?_ ?_ _) | (with_reducible refine Below.setCell ?_ ?_ _) | (with_reducible refine Below.drew ?_) | (with_reducible refine below_more ?_ (by with_reducible assumption)) | go_size | omega | (with_reducible refine below_drewN ?_)))))).mono ?_
            rintro e w3 ⟨rfl, hbw3⟩
            have hW3 : Below wr.heap.size wr w3 := by (repeat' (first | (with_reducible assumption) | (with_reducible exact Below.refl _ _) | (with_reducible refine Below.alloc ?_ ?_ _) | (with_reducible refine Below.setCell ?_ ?_ _) | (with_reducible refine Below.drew ?_) | (with_reducible refine below_more ?_ (by with_reducible assumption)) | go_size | omega | (with_reducible refine below_drewN ?_)))
            have hB3 : Below w2.heap.size w2 w3 := hB.trans (hW3.mono hB.size)
            have hO3 := hO.kept (gt_below hW3 none) (Classical.em _)
            have hsz3 := hW3.size
            have hsz2 := hB.size
            have FT := fits_wsum Prod.fst (cut ss tt en) (cut ss tt en).length
            have FV := fits_wsum Prod.snd (cut ss tt en) (cut ss tt en).length
            obtain ⟨T, hT0⟩ : ∃ T, wsum Prod.fst (cut ss tt en) (cut ss tt en).length = T := ⟨_, rfl⟩
            obtain ⟨V, hV0⟩ : ∃ V, wsum Prod.snd (cut ss tt en) (cut ss tt en).length = V := ⟨_, rfl⟩
            rw [hT0] at FT
            rw [hV0] at FV
            have hbi2 := hbi
            unfold best at hbi2
            rw [hT0, hV0, cut_len h5, cut_len (show tt ≤ ss.length by omega)] at hbi2
            simp only [hT0, hV0]
            obtain ⟨f, hf⟩ : ∃ f : Nat → Int, (fun i => area (xa, ya) ((cut ss fr tt).getD i (0, 0)) T V ((en - tt : Nat) : Int)) = f := ⟨_, rfl⟩
            rw [hf] at hbi2
            have hfn : ∀ i, 0 ≤ f i := fun i => by rw [← hf]; exact area_nonneg _ _ _ _ _
            have hff : ∀ i, Fits (f i) := fun i => by rw [← hf]; exact fits_area (p := (xa, ya)) hq (smp_i64 (fun s hs => HI.out s (List.mem_of_mem_take (List.mem_of_mem_drop hs))) i) FT FV
            have hfi : ∀ t, t < tt - fr → f t = area (xa, ya) (ss.getD (fr + t) (0, 0)) T V ((en - tt : Nat) : Int) := fun t ht => by rw [← hf]; exact congrArg (fun z => area (xa, ya) z T V ((en - tt : Nat) : Int)) (cut_get (by omega) ht)
            have WA := fun (q : Int × Int) (hq2 : I64 q.1 ∧ I64 q.2) W => rarea_any (p := (xa, ya)) hq hq2 FT FV ((en - tt : Nat) : Int) W
            dsimp only at WA
            have HFM := hid (fits_mostr f hff)
            have HFI := hid hfi
            have HFF := hid hff
            have HFN := hid hfn
            have HWA := hid WA
            have fe1 : ∀ o1 o2 o3 : Obj, (((w3.alloc o1).alloc o2).alloc o3).cell? ⟨gb, ob + j, none⟩ = some (.int .i64 fr) := fun o1 o2 o3 => fb1 _ (by (repeat' (first | (with_reducible assumption) | (with_reducible exact Below.refl _ _) | (with_reducible refine Below.alloc ?_ ?_ _) | (with_reducible refine Below.setCell ?_ ?_ _) | (with_reducible refine Below.drew ?_) | (with_reducible refine below_more ?_ (by with_reducible assumption)) | go_size | omega | (with_reducible refine below_drewN ?_))))
            have hg3 : gb < w3.heap.size := by omega
            have HB2 := hid hbi2
            have HGG1 := hid (fun Wz (hz : Below w3.heap.size w3 Wz) => g1 Wz (hW3.trans (hz.mono hsz3)))
            have HGG2 := hid (fun Wz (hz : Below w3.heap.size w3 Wz) => g2 Wz (hW3.trans (hz.mono hsz3)))
            have HGG3 := hid (fun Wz (hz : Below w3.heap.size w3 Wz) => g3 Wz (hW3.trans (hz.mono hsz3)))
            have HFB2 := hid (fun Wz (hz : Below w3.heap.size w3 Wz) => fb2 Wz (hW3.trans (hz.mono hsz3)))
            clear hT0 hV0 hf hfn hff hfi WA FT FV hbi2 hbi fb1 fb2 g1 g2 g3 HNX hbw3
            (repeat' (first | go_values | go_skip | go_guarded | go_step | go_upon | (simp only [Int.not_lt, Int.not_le] at *; go_simp) | (go_values <;> (try go_simp)) | (go_ite <;> go_prune <;> (try go_simp)) | (split <;> (first | (rename_i hx; exact (hx _ rfl).elim) | go_prune))))
            clear fe1
            go_loopw [14, 16] (fun bb i wi => ∃ t : Nat, bb = .int .i64 (bestr f fr t) ∧ i = .int .i64 ((fr + t : Nat) : Int) ∧ t ≤ tt - fr ∧ HB wi w3.heap.size #[.bool (sg (T)), .int .u64 (lb0 (ab (T))), .int .u64 (lb1 (ab (T))), .int .u64 (lb2 (ab (T))), .int .u64 (lb3 (ab (T)))] ∧ HB wi (w3.heap.size + 1) #[.bool (sg (V)), .int .u64 (lb0 (ab (V))), .int .u64 (lb1 (ab (V))), .int .u64 (lb2 (ab (V))), .int .u64 (lb3 (ab (V)))] ∧ HB wi (w3.heap.size + 1 + 1) #[.bool (sg (mostr f t)), .int .u64 (lb0 (ab (mostr f t))), .int .u64 (lb1 (ab (mostr f t))), .int .u64 (lb2 (ab (mostr f t))), .int .u64 (lb3 (ab (mostr f t)))] ∧ Below w3.heap.size w3 wi) (fun _ i _ => tt - (intOf i).toNat)
            case atStart => exact ⟨0, rfl, rfl, Nat.zero_le _, by (repeat' (first | (with_reducible assumption) | ((with_reducible refine HB.new _ _ _ ?_) <;> (go_size; done)) | (with_reducible refine HB.old (by go_size) ?_) | (with_reducible refine HB.drew ?_) | (with_reducible refine HB.over5 ?_) | (with_reducible refine HB.over4 ?_) | (with_reducible refine HB.setne (by first | go_size | (dsimp only; omega)) ?_) | (with_reducible refine HN.set ?_) | (with_reducible refine HN.setne (by first | go_size | (dsimp only; omega)) ?_) | (with_reducible refine HN.drew ?_) | (with_reducible refine HN.old (by go_size) ?_) | (with_reducible exact HN.of5 (by assumption)) | (with_reducible exact HN.new5 _ _ (by go_size)) | (with_reducible exact HN.of4 (by assumption)) | (with_reducible exact HN.new4 _ _ (by go_size)))), by (repeat' (first | (with_reducible assumption) | ((with_reducible refine HB.new _ _ _ ?_) <;> (go_size; done)) | (with_reducible refine HB.old (by go_size) ?_) | (with_reducible refine HB.drew ?_) | (with_reducible refine HB.over5 ?_) | (with_reducible refine HB.over4 ?_) | (with_reducible refine HB.setne (by first | go_size | (dsimp only; omega)) ?_) | (with_reducible refine HN.set ?_) | (with_reducible refine HN.setne (by first | go_size | (dsimp only; omega)) ?_) | (with_reducible refine HN.drew ?_) | (with_reducible refine HN.old (by go_size) ?_) | (with_reducible exact HN.of5 (by assumption)) | (with_reducible exact HN.new5 _ _ (by go_size)) | (with_reducible exact HN.of4 (by assumption)) | (with_reducible exact HN.new4 _ _ (by go_size)))), by show HB _ _ #[.bool false, .int .u64 0, .int .u64 0, .int .u64 0, .int .u64 0]; (repeat' (first | (with_reducible assumption) | ((with_reducible refine HB.new _ _ _ ?_) <;> (go_size; done)) | (with_reducible refine HB.old (by go_size) ?_) | (with_reducible refine HB.drew ?_) | (with_reducible refine HB.over5 ?_) | (with_reducible refine HB.over4 ?_) | (with_reducible refine HB.setne (by first | go_size | (dsimp only; omega)) ?_) | (with_reducible refine HN.set ?_) | (with_reducible refine HN.setne (by first | go_size | (dsimp only; omega)) ?_) | (with_reducible refine HN.drew ?_) | (with_reducible refine HN.old (by go_size) ?_) | (with_reducible exact HN.of5 (by assumption)) | (with_reducible exact HN.new5 _ _ (by go_size)) | (with_reducible exact HN.of4 (by assumption)) | (with_reducible exact HN.new4 _ _ (by go_size)))), by (repeat' (first | (with_reducible assumption) | (with_reducible exact Below.refl _ _) | (with_reducible refine Below.alloc ?_ ?_ _) | (with_reducible refine Below.setCell ?_ ?_ _) | (with_reducible refine Below.drew ?_) | (with_reducible refine below_more ?_ (by with_reducible assumption)) | go_size | omega | (with_reducible refine below_drewN ?_)))⟩
            case round =>
              obtain ⟨t, rfl, rfl, ht, hT, hV, hM, hBi⟩ := hrel
              have fe2 := HFB2.out _ hBi
              have hszi := hM.lt
              have hgi : gb < wr.heap.size := by omega
              have hBB := hB3.trans (hBi.mono hB3.size)
              by_cases htt : t < tt - fr
              · obtain ⟨q, hqt⟩ : ∃ q : Nat, fr + t = q := ⟨_, rfl⟩
                have hq5 : q < ss.length := by omega
                have hqtt : (q : Int) < tt := by omega
                have hqs : (q : Int) < ss.length := by omega
                have hmf := HFM.out t
                have har2 := HFI.out t htt
                have hfa := HFF.out t
                have hf0 := HFN.out t
                have HN : (t = 0 → bestr f fr t = -1 ∧ bestr f fr (t + 1) = ((fr + t : Nat) : Int) ∧ mostr f (t + 1) = f t) ∧ (t ≠ 0 → 0 ≤ bestr f fr t ∧ (mostr f t < f t → bestr f fr (t + 1) = ((fr + t : Nat) : Int) ∧ mostr f (t + 1) = f t) ∧ (¬ mostr f t < f t → bestr f fr (t + 1) = bestr f fr t ∧ mostr f (t + 1) = mostr f t)) := by
                  refine ⟨fun h => ?_, fun h => ⟨bestr_pos f fr t h, br_more f fr t h, br_less f fr t h⟩⟩
                  subst h
                  exact ⟨rfl, br_first f fr (HFN.out 0)⟩
                obtain ⟨mo, hmo⟩ : ∃ mo, mostr f t = mo := ⟨_, rfl⟩
                obtain ⟨be, hbe⟩ : ∃ be, bestr f fr t = be := ⟨_, rfl⟩
                obtain ⟨ar, har⟩ : ∃ ar, f t = ar := ⟨_, rfl⟩
                rw [har] at hfa hf0 har2 HN
                rw [hmo] at hM hmf HN
                rw [hbe] at HN
                rw [hqt] at har2 HN
                rw [hqt, hbe]
                obtain ⟨xy2, hx2⟩ : ∃ xy2, ss.getD q (0, 0) = xy2 := ⟨_, rfl⟩
                have hqq := smp_i64 HI.out q
                rw [hx2] at har2 hqq
                have WB := fun W => HWA.out xy2 hqq W
                rw [← har2] at WB
                have gs : ∀ Wz : World, Below wr.heap.size wr Wz → Wz.cell? ⟨b, off + q * 2, none⟩ = some (.int .i64 xy2.1) ∧ Wz.cell? ⟨b, off + q * 2 + 1, none⟩ = some (.int .i64 xy2.2) := fun Wz hz => hx2 ▸ HCS.out q hq5 Wz (hBB.trans (hz.mono hBB.size))
                obtain ⟨x, y⟩ := xy2
                dsimp only at gs WB
                have gs1 := fun Wz hz => (gs Wz hz).1
                have gs2 := fun Wz hz => (gs Wz hz).2
                have gg1 := fun Wz (hz : Below wr.heap.size wr Wz) => HGG1.out Wz (hBi.trans (hz.mono hBi.size))
                have gg2 := fun Wz (hz : Below wr.heap.size wr Wz) => HGG2.out Wz (hBi.trans (hz.mono hBi.size))
                have gg3 := fun Wz (hz : Below wr.heap.size wr Wz) => HGG3.out Wz (hBi.trans (hz.mono hBi.size))
                have CM := fun W => rcompare_we hfa hmf W
                have hcm := cm_pos ar mo
                generalize cm ar mo = c at CM hcm
                have HNN := hid HN
                have HQ := hid hqt
                have hBig := hid hBB
                clear hbe hmo har har2 hx2 hqq gs HN hqt hBB hfa hf0 hmf
                (repeat' (first | go_values | go_skip | go_guarded | go_step | go_upon | (simp only [Int.not_lt, Int.not_le] at *; go_simp) | (go_values <;> (try go_simp)) | (go_ite <;> go_prune <;> (try go_simp)) | (split <;> (first | (rename_i hx; exact (hx _ rfl).elim) | go_prune))))
                
                (refine wp_region_dq (row := none) (S := (fun Wz => Below wr.heap.size wr Wz ∧ wr.heap.size ≤ Wz.heap.size ∧ Bx Wz (w3.heap.size) (#[.bool (sg (T)), .int .u64 (lb0 (ab (T))), .int .u64 (lb1 (ab (T))), .int .u64 (lb2 (ab (T))), .int .u64 (lb3 (ab (T)))]) ∧ Bx Wz (w3.heap.size + 1) (#[.bool (sg (V)), .int .u64 (lb0 (ab (V))), .int .u64 (lb1 (ab (V))), .int .u64 (lb2 (ab (V))), .int .u64 (lb3 (ab (V)))]) ∧ Bx Wz (w3.heap.size + 1 + 1) (#[.bool (sg (mo)), .int .u64 (lb0 (ab (mo))), .int .u64 (lb1 (ab (mo))), .int .u64 (lb2 (ab (mo))), .int .u64 (lb3 (ab (mo)))]))) (n0 := wr.heap.size) 17 [] [(0, 0), (1, 0), (2, 0), (3, 0), (4, 0), (5, 0), (6, 0), (7, 0), (8, 0), (9, 0), (10, 0), (11, 0), (12, 0), (13, 0), (14, 0), (15, 0)] [(16, 17, #[.bool false, .int .u64 0, .int .u64 0, .int .u64 0, .int .u64 0])] (by kernel_rfl) (by kernel_rfl) (fun _ _ d _ _ h => by cases d <;> exact h) (by refine ⟨?dob1, ?don1, ?_, ?_, ?_⟩; (case dob1 => (repeat' (first | (with_reducible assumption) | (with_reducible exact Below.refl _ _) | (with_reducible refine Below.alloc ?_ ?_ _) | (with_reducible refine Below.setCell ?_ ?_ _) | (with_reducible refine Below.drew ?_) | (with_reducible refine below_more ?_ (by with_reducible assumption)) | go_size | omega | (with_reducible refine below_drewN ?_)))); (case don1 => (first | go_size | omega)); all_goals (first | done | (refine Bx.of ?_; (repeat' (first | (with_reducible assumption) | ((with_reducible refine HB.new _ _ _ ?_) <;> (go_size; done)) | (with_reducible refine HB.old (by go_size) ?_) | (with_reducible refine HB.drew ?_) | (with_reducible refine HB.over5 ?_) | (with_reducible refine HB.over4 ?_) | (with_reducible refine HB.setne (by first | go_size | (dsimp only; omega)) ?_) | (with_reducible refine HN.set ?_) | (with_reducible refine HN.setne (by first | go_size | (dsimp only; omega)) ?_) | (with_reducible refine HN.drew ?_) | (with_reducible refine HN.old (by go_size) ?_) | (with_reducible exact HN.of5 (by assumption)) | (with_reducible exact HN.new5 _ _ (by go_size)) | (with_reducible exact HN.of4 (by assumption)) | (with_reducible exact HN.new4 _ _ (by go_size))))))) (fun _ _ h g => keep3 h (below_gt g) rfl) (fun _ h => h.2.1) (fun _ h => by cases h) (by intro x hx; simp only [List.mem_cons, List.not_mem_nil, or_false] at hx; rcases hx with rfl <;> exact ⟨_, rfl, rfl, rfl, rfl, fun ρ w => ⟨27, by kernel_rfl⟩⟩) ?_)
                refine dqo_start ?_
                intro af0 hA
                have Z := size_lit (n := 117) hA (by rfl)
                have D := defers_lit hA
                have F0 := ev_lit (t := 0) hA (by rfl)
                have F9 := ev_lit (t := 9) hA (by rfl)
                have F10 := ev_lit (t := 10) hA (by rfl)
                have F11 := ev_lit (t := 11) hA (by rfl)
                have F12 := ev_lit (t := 12) hA (by rfl)
                have F13 := ev_lit (t := 13) hA (by rfl)
                have F16 := ev_lit (t := 16) hA (by rfl)
                have SB := same_start af0
                refine' dqo_pure (d := 81) (by rfl) (by rfl) Z (by rfl) (wanted_not (by rfl)) ?hv1 ?rest1
                case hv1 => (intro ρ hρ; have E0 := (hρ.1 0).trans F0; have Ec := hρ.2.1; have Ef := hρ.2.2.1; clear hρ; intro w hw; (try dsimp only at hw); go_split_ands; go_simp; try with_reducible rfl)
                case' rest1 => intro af1 Zn Nx
                replace F0 := (Nx.2.2.1 0 rfl).trans F0
                replace F9 := (Nx.2.2.1 9 rfl).trans F9
                replace F10 := (Nx.2.2.1 10 rfl).trans F10
                replace F11 := (Nx.2.2.1 11 rfl).trans F11
                replace F12 := (Nx.2.2.1 12 rfl).trans F12
                replace F13 := (Nx.2.2.1 13 rfl).trans F13
                replace F16 := (Nx.2.2.1 16 rfl).trans F16
                have F81 := Nx.2.1
                replace SB := SB.next Nx
                replace D := Nx.2.2.2.trans D
                clear Z Nx
                have Z := Zn
                clear Zn
                refine' dqo_pure (d := 82) (by rfl) (by rfl) Z (by rfl) (wanted_not (by rfl)) ?hv2 ?rest2
                case hv2 => (intro ρ hρ; have E9 := (hρ.1 9).trans F9; have Ec := hρ.2.1; have Ef := hρ.2.2.1; clear hρ; intro w hw; (try dsimp only at hw); go_split_ands; go_simp; try with_reducible rfl)
                case' rest2 => intro af2 Zn Nx
                replace F0 := (Nx.2.2.1 0 rfl).trans F0
                clear F9
                replace F10 := (Nx.2.2.1 10 rfl).trans F10
                replace F11 := (Nx.2.2.1 11 rfl).trans F11
                replace F12 := (Nx.2.2.1 12 rfl).trans F12
                replace F13 := (Nx.2.2.1 13 rfl).trans F13
                replace F16 := (Nx.2.2.1 16 rfl).trans F16
                replace F81 := (Nx.2.2.1 81 rfl).trans F81
                have F82 := Nx.2.1
                replace SB := SB.next Nx
                replace D := Nx.2.2.2.trans D
                clear Z Nx
                have Z := Zn
                clear Zn af1
                refine' dqo_pure (d := 83) (by rfl) (by rfl) Z (by rfl) (wanted_not (by rfl)) ?hv3 ?rest3
                case hv3 => (intro ρ hρ; have E10 := (hρ.1 10).trans F10; have Ec := hρ.2.1; have Ef := hρ.2.2.1; clear hρ; intro w hw; (try dsimp only at hw); go_split_ands; go_simp; try with_reducible rfl)
                case' rest3 => intro af3 Zn Nx
                replace F0 := (Nx.2.2.1 0 rfl).trans F0
                clear F10
                replace F11 := (Nx.2.2.1 11 rfl).trans F11
                replace F12 := (Nx.2.2.1 12 rfl).trans F12
                replace F13 := (Nx.2.2.1 13 rfl).trans F13
                replace F16 := (Nx.2.2.1 16 rfl).trans F16
                replace F81 := (Nx.2.2.1 81 rfl).trans F81
                replace F82 := (Nx.2.2.1 82 rfl).trans F82
                have F83 := Nx.2.1
                replace SB := SB.next Nx
                replace D := Nx.2.2.2.trans D
                clear Z Nx
                have Z := Zn
                clear Zn af2
                refine' dqo_pure (d := 84) (by rfl) (by rfl) Z (by rfl) (wanted_not (by rfl)) ?hv4 ?rest4
                case hv4 => (intro ρ hρ; have E82 := (hρ.1 82).trans F82; have E83 := (hρ.1 83).trans F83; have Ec := hρ.2.1; have Ef := hρ.2.2.1; clear hρ; intro w hw; (try dsimp only at hw); go_split_ands; go_simp; try with_reducible rfl)
                case' rest4 => intro af4 Zn Nx
                replace F0 := (Nx.2.2.1 0 rfl).trans F0
                replace F11 := (Nx.2.2.1 11 rfl).trans F11
                replace F12 := (Nx.2.2.1 12 rfl).trans F12
                replace F13 := (Nx.2.2.1 13 rfl).trans F13
                replace F16 := (Nx.2.2.1 16 rfl).trans F16
                replace F81 := (Nx.2.2.1 81 rfl).trans F81
                clear F82
                clear F83
                have F84 := Nx.2.1
                replace SB := SB.next Nx
                replace D := Nx.2.2.2.trans D
                clear Z Nx
                have Z := Zn
                clear Zn af3
                refine' dqo_pure (d := 85) (by rfl) (by rfl) Z (by rfl) (wanted_not (by rfl)) ?hv5 ?rest5
                case hv5 => (intro ρ hρ; have E84 := (hρ.1 84).trans F84; have Ec := hρ.2.1; have Ef := hρ.2.2.1; clear hρ; intro w hw; (try dsimp only at hw); go_split_ands; go_simp; try with_reducible rfl)
                case' rest5 => intro af5 Zn Nx
                replace F0 := (Nx.2.2.1 0 rfl).trans F0
                replace F11 := (Nx.2.2.1 11 rfl).trans F11
                replace F12 := (Nx.2.2.1 12 rfl).trans F12
                replace F13 := (Nx.2.2.1 13 rfl).trans F13
                replace F16 := (Nx.2.2.1 16 rfl).trans F16
                replace F81 := (Nx.2.2.1 81 rfl).trans F81
                clear F84
                have F85 := Nx.2.1
                replace SB := SB.next Nx
                replace D := Nx.2.2.2.trans D
                clear Z Nx
                have Z := Zn
                clear Zn af4
                refine' dqo_pure (d := 86) (by rfl) (by rfl) Z (by rfl) (wanted_not (by rfl)) ?hv6 ?rest6
                case hv6 => (intro ρ hρ; have E81 := (hρ.1 81).trans F81; have E85 := (hρ.1 85).trans F85; have Ec := hρ.2.1; have Ef := hρ.2.2.1; clear hρ; intro w hw; (try dsimp only at hw); go_split_ands; go_simp; try with_reducible rfl)
                case' rest6 => intro af6 Zn Nx
                replace F0 := (Nx.2.2.1 0 rfl).trans F0
                replace F11 := (Nx.2.2.1 11 rfl).trans F11
                replace F12 := (Nx.2.2.1 12 rfl).trans F12
                replace F13 := (Nx.2.2.1 13 rfl).trans F13
                replace F16 := (Nx.2.2.1 16 rfl).trans F16
                clear F81
                clear F85
                have F86 := Nx.2.1
                replace SB := SB.next Nx
                replace D := Nx.2.2.2.trans D
                clear Z Nx
                have Z := Zn
                clear Zn af5
                refine' dqo_pure (d := 87) (by rfl) (by rfl) Z (by rfl) (wanted_not (by rfl)) ?hv7 ?rest7
                case hv7 => (intro ρ hρ; have E86 := (hρ.1 86).trans F86; have Ec := hρ.2.1; have Ef := hρ.2.2.1; clear hρ; intro w hw; (try dsimp only at hw); go_split_ands; go_simp; try with_reducible rfl)
                case' rest7 => intro af7 Zn Nx
                replace F0 := (Nx.2.2.1 0 rfl).trans F0
                replace F11 := (Nx.2.2.1 11 rfl).trans F11
                replace F12 := (Nx.2.2.1 12 rfl).trans F12
                replace F13 := (Nx.2.2.1 13 rfl).trans F13
                replace F16 := (Nx.2.2.1 16 rfl).trans F16
                clear F86
                have F87 := Nx.2.1
                replace SB := SB.next Nx
                replace D := Nx.2.2.2.trans D
                clear Z Nx
                have Z := Zn
                clear Zn af6
                refine' dqo_pure (d := 88) (by rfl) (by rfl) Z (by rfl) (wanted_not (by rfl)) ?hv8 ?rest8
                case hv8 => (intro ρ hρ; have E0 := (hρ.1 0).trans F0; have Ec := hρ.2.1; have Ef := hρ.2.2.1; clear hρ; intro w hw; (try dsimp only at hw); go_split_ands; go_simp; try with_reducible rfl)
                case' rest8 => intro af8 Zn Nx
                clear F0
                replace F11 := (Nx.2.2.1 11 rfl).trans F11
                replace F12 := (Nx.2.2.1 12 rfl).trans F12
                replace F13 := (Nx.2.2.1 13 rfl).trans F13
                replace F16 := (Nx.2.2.1 16 rfl).trans F16
                replace F87 := (Nx.2.2.1 87 rfl).trans F87
                have F88 := Nx.2.1
                replace SB := SB.next Nx
                replace D := Nx.2.2.2.trans D
                clear Z Nx
                have Z := Zn
                clear Zn af7
                refine' dqo_pure (d := 89) (by rfl) (by rfl) Z (by rfl) (wanted_not (by rfl)) ?hv9 ?rest9
                case hv9 => (intro ρ hρ; have E16 := (hρ.1 16).trans F16; have Ec := hρ.2.1; have Ef := hρ.2.2.1; clear hρ; intro w hw; (try dsimp only at hw); go_split_ands; go_simp; try with_reducible rfl)
                case' rest9 => intro af9 Zn Nx
                replace F11 := (Nx.2.2.1 11 rfl).trans F11
                replace F12 := (Nx.2.2.1 12 rfl).trans F12
                replace F13 := (Nx.2.2.1 13 rfl).trans F13
                clear F16
                replace F87 := (Nx.2.2.1 87 rfl).trans F87
                replace F88 := (Nx.2.2.1 88 rfl).trans F88
                have F89 := Nx.2.1
                replace SB := SB.next Nx
                replace D := Nx.2.2.2.trans D
                clear Z Nx
                have Z := Zn
                clear Zn af8
                refine' dqo_pure (d := 90) (by rfl) (by rfl) Z (by rfl) (wanted_not (by rfl)) ?hv10 ?rest10
                case hv10 => (intro ρ hρ; have E88 := (hρ.1 88).trans F88; have E89 := (hρ.1 89).trans F89; have Ec := hρ.2.1; have Ef := hρ.2.2.1; clear hρ; intro w hw; (try dsimp only at hw); go_split_ands; go_simp; try with_reducible rfl)
                case' rest10 => intro af10 Zn Nx
                replace F11 := (Nx.2.2.1 11 rfl).trans F11
                replace F12 := (Nx.2.2.1 12 rfl).trans F12
                replace F13 := (Nx.2.2.1 13 rfl).trans F13
                replace F87 := (Nx.2.2.1 87 rfl).trans F87
                clear F88
                clear F89
                have F90 := Nx.2.1
                replace SB := SB.next Nx
                replace D := Nx.2.2.2.trans D
                clear Z Nx
                have Z := Zn
                clear Zn af9
                refine' dqo_pure (d := 91) (by rfl) (by rfl) Z (by rfl) (wanted_not (by rfl)) ?hv11 ?rest11
                case hv11 => (intro ρ hρ; have E90 := (hρ.1 90).trans F90; have Ec := hρ.2.1; have Ef := hρ.2.2.1; clear hρ; intro w hw; (try dsimp only at hw); go_split_ands; go_simp; try with_reducible rfl)
                case' rest11 => intro af11 Zn Nx
                replace F11 := (Nx.2.2.1 11 rfl).trans F11
                replace F12 := (Nx.2.2.1 12 rfl).trans F12
                replace F13 := (Nx.2.2.1 13 rfl).trans F13
                replace F87 := (Nx.2.2.1 87 rfl).trans F87
                clear F90
                have F91 := Nx.2.1
                replace SB := SB.next Nx
                replace D := Nx.2.2.2.trans D
                clear Z Nx
                have Z := Zn
                clear Zn af10
                refine' dqo_pure (d := 92) (by rfl) (by rfl) Z (by rfl) (wanted_not (by rfl)) ?hv12 ?rest12
                case hv12 => (intro ρ hρ; have E12 := (hρ.1 12).trans F12; have Ec := hρ.2.1; have Ef := hρ.2.2.1; clear hρ; intro w hw; (try dsimp only at hw); go_split_ands; go_simp; try with_reducible rfl)
                case' rest12 => intro af12 Zn Nx
                replace F11 := (Nx.2.2.1 11 rfl).trans F11
                clear F12
                replace F13 := (Nx.2.2.1 13 rfl).trans F13
                replace F87 := (Nx.2.2.1 87 rfl).trans F87
                replace F91 := (Nx.2.2.1 91 rfl).trans F91
                have F92 := Nx.2.1
                replace SB := SB.next Nx
                replace D := Nx.2.2.2.trans D
                clear Z Nx
                have Z := Zn
                clear Zn af11
                refine' dqo_pure (d := 93) (by rfl) (by rfl) Z (by rfl) (wanted_not (by rfl)) ?hv13 ?rest13
                case hv13 => (intro ρ hρ; have E13 := (hρ.1 13).trans F13; have Ec := hρ.2.1; have Ef := hρ.2.2.1; clear hρ; intro w hw; (try dsimp only at hw); go_split_ands; go_simp; try with_reducible rfl)
                case' rest13 => intro af13 Zn Nx
                replace F11 := (Nx.2.2.1 11 rfl).trans F11
                clear F13
                replace F87 := (Nx.2.2.1 87 rfl).trans F87
                replace F91 := (Nx.2.2.1 91 rfl).trans F91
                replace F92 := (Nx.2.2.1 92 rfl).trans F92
                have F93 := Nx.2.1
                replace SB := SB.next Nx
                replace D := Nx.2.2.2.trans D
                clear Z Nx
                have Z := Zn
                clear Zn af12
                refine' dqo_pure (d := 94) (by rfl) (by rfl) Z (by rfl) (wanted_not (by rfl)) ?hv14 ?rest14
                case hv14 => (intro ρ hρ; have E11 := (hρ.1 11).trans F11; have Ec := hρ.2.1; have Ef := hρ.2.2.1; clear hρ; intro w hw; (try dsimp only at hw); go_split_ands; go_simp; try with_reducible rfl)
                case' rest14 => intro af14 Zn Nx
                clear F11
                replace F87 := (Nx.2.2.1 87 rfl).trans F87
                replace F91 := (Nx.2.2.1 91 rfl).trans F91
                replace F92 := (Nx.2.2.1 92 rfl).trans F92
                replace F93 := (Nx.2.2.1 93 rfl).trans F93
                have F94 := Nx.2.1
                replace SB := SB.next Nx
                replace D := Nx.2.2.2.trans D
                clear Z Nx
                have Z := Zn
                clear Zn af13
                refine' dqo_pure (d := 95) (by rfl) (by rfl) Z (by rfl) (wanted_not (by rfl)) ?hv15 ?rest15
                case hv15 => (intro ρ hρ; have E94 := (hρ.1 94).trans F94; have Ec := hρ.2.1; have Ef := hρ.2.2.1; clear hρ; intro w hw; (try dsimp only at hw); go_split_ands; go_simp; try with_reducible rfl)
                case' rest15 => intro af15 Zn Nx
                replace F87 := (Nx.2.2.1 87 rfl).trans F87
                replace F91 := (Nx.2.2.1 91 rfl).trans F91
                replace F92 := (Nx.2.2.1 92 rfl).trans F92
                replace F93 := (Nx.2.2.1 93 rfl).trans F93
                clear F94
                have F95 := Nx.2.1
                replace SB := SB.next Nx
                replace D := Nx.2.2.2.trans D
                clear Z Nx
                have Z := Zn
                clear Zn af14
                refine' dqo_call (d := 96) (by rfl) (by rfl) Z (by rfl) (wanted_not (by rfl)) ?hv16 ?hc16 ?rest16
                case hv16 => (intro ρ hρ; have E87 := (hρ.1 87).trans F87; have E91 := (hρ.1 91).trans F91; have E92 := (hρ.1 92).trans F92; have E93 := (hρ.1 93).trans F93; have E95 := (hρ.1 95).trans F95; have Ec := hρ.2.1; have Ef := hρ.2.2.1; clear hρ; intro w; go_simp; exact ⟨rfl, rfl⟩)
                case hc16 => exact (fun w hw => calls_gt (WB _))
                case' rest16 => intro af16 Zn Nx
                clear F87
                clear F91
                clear F92
                clear F93
                clear F95
                have F96 := Nx.2.1
                replace SB := SB.next Nx
                replace D := Nx.2.2.2.trans D
                clear Z Nx
                have Z := Zn
                clear Zn af15
                refine dq_nil ?_
                refine fa_box Z (by rfl) ?_
                intro p17 hp17 hd17 af17 Zn Nx
                replace F96 := (Nx.2.2.1 96 rfl).trans F96
                have F17 := Nx.2.1
                replace SB := SB.next Nx
                replace D := Nx.2.2.2.trans D
                clear Z Nx
                have Z := Zn
                clear Zn af16
                refine fa_nil ?_
                rintro W ⟨⟨hb0, hn0, ⟨B1, B1c, B1f, B1l⟩, ⟨B2, B2c, B2f, B2l⟩, ⟨B3, B3c, B3f, B3l⟩⟩, hgl⟩ hbs
                obtain ⟨P17, P17c, P17f, P17l⟩ := Bx.of (hbs (p17, #[.bool false, .int .u64 0, .int .u64 0, .int .u64 0, .int .u64 0]) (by simp))
                clear hd17
                clear hbs hgl
                obtain ⟨ρ, hρ⟩ := rho_of af17
                have F0 := SB.ev (t := 0) hA (by rfl) (by rfl)
                have F1 := SB.ev (t := 1) hA (by rfl) (by rfl)
                have F2 := SB.ev (t := 2) hA (by rfl) (by rfl)
                have F3 := SB.ev (t := 3) hA (by rfl) (by rfl)
                have F4 := SB.ev (t := 4) hA (by rfl) (by rfl)
                have F5 := SB.ev (t := 5) hA (by rfl) (by rfl)
                have F6 := SB.ev (t := 6) hA (by rfl) (by rfl)
                have F7 := SB.ev (t := 7) hA (by rfl) (by rfl)
                have F8 := SB.ev (t := 8) hA (by rfl) (by rfl)
                have F9 := SB.ev (t := 9) hA (by rfl) (by rfl)
                have F10 := SB.ev (t := 10) hA (by rfl) (by rfl)
                have F11 := SB.ev (t := 11) hA (by rfl) (by rfl)
                have F12 := SB.ev (t := 12) hA (by rfl) (by rfl)
                have F13 := SB.ev (t := 13) hA (by rfl) (by rfl)
                have F14 := SB.ev (t := 14) hA (by rfl) (by rfl)
                have F15 := SB.ev (t := 15) hA (by rfl) (by rfl)
                have F16 := SB.ev (t := 16) hA (by rfl) (by rfl)
                have F18 := SB.ev (t := 18) hA (by rfl) (by rfl)
                have F19 := SB.ev (t := 19) hA (by rfl) (by rfl)
                have F20 := SB.ev (t := 20) hA (by rfl) (by rfl)
                have F21 := SB.ev (t := 21) hA (by rfl) (by rfl)
                have F22 := SB.ev (t := 22) hA (by rfl) (by rfl)
                have F23 := SB.ev (t := 23) hA (by rfl) (by rfl)
                have F24 := SB.ev (t := 24) hA (by rfl) (by rfl)
                have F25 := SB.ev (t := 25) hA (by rfl) (by rfl)
                have F26 := SB.ev (t := 26) hA (by rfl) (by rfl)
                have F27 := SB.ev (t := 27) hA (by rfl) (by rfl)
                have F28 := SB.ev (t := 28) hA (by rfl) (by rfl)
                have F29 := SB.ev (t := 29) hA (by rfl) (by rfl)
                have F30 := SB.ev (t := 30) hA (by rfl) (by rfl)
                have F31 := SB.ev (t := 31) hA (by rfl) (by rfl)
                have F32 := SB.ev (t := 32) hA (by rfl) (by rfl)
                have F33 := SB.ev (t := 33) hA (by rfl) (by rfl)
                have F34 := SB.ev (t := 34) hA (by rfl) (by rfl)
                have F35 := SB.ev (t := 35) hA (by rfl) (by rfl)
                have F36 := SB.ev (t := 36) hA (by rfl) (by rfl)
                have F37 := SB.ev (t := 37) hA (by rfl) (by rfl)
                have F38 := SB.ev (t := 38) hA (by rfl) (by rfl)
                have F39 := SB.ev (t := 39) hA (by rfl) (by rfl)
                have F40 := SB.ev (t := 40) hA (by rfl) (by rfl)
                have F41 := SB.ev (t := 41) hA (by rfl) (by rfl)
                have F42 := SB.ev (t := 42) hA (by rfl) (by rfl)
                have F43 := SB.ev (t := 43) hA (by rfl) (by rfl)
                have F44 := SB.ev (t := 44) hA (by rfl) (by rfl)
                have F45 := SB.ev (t := 45) hA (by rfl) (by rfl)
                have F46 := SB.ev (t := 46) hA (by rfl) (by rfl)
                have F47 := SB.ev (t := 47) hA (by rfl) (by rfl)
                have F48 := SB.ev (t := 48) hA (by rfl) (by rfl)
                have F49 := SB.ev (t := 49) hA (by rfl) (by rfl)
                have F50 := SB.ev (t := 50) hA (by rfl) (by rfl)
                have F51 := SB.ev (t := 51) hA (by rfl) (by rfl)
                have F52 := SB.ev (t := 52) hA (by rfl) (by rfl)
                have F53 := SB.ev (t := 53) hA (by rfl) (by rfl)
                have F54 := SB.ev (t := 54) hA (by rfl) (by rfl)
                have F55 := SB.ev (t := 55) hA (by rfl) (by rfl)
                have F56 := SB.ev (t := 56) hA (by rfl) (by rfl)
                have F57 := SB.ev (t := 57) hA (by rfl) (by rfl)
                have F58 := SB.ev (t := 58) hA (by rfl) (by rfl)
                have F59 := SB.ev (t := 59) hA (by rfl) (by rfl)
                have F60 := SB.ev (t := 60) hA (by rfl) (by rfl)
                have F61 := SB.ev (t := 61) hA (by rfl) (by rfl)
                have F62 := SB.ev (t := 62) hA (by rfl) (by rfl)
                have F63 := SB.ev (t := 63) hA (by rfl) (by rfl)
                have F64 := SB.ev (t := 64) hA (by rfl) (by rfl)
                have F65 := SB.ev (t := 65) hA (by rfl) (by rfl)
                have F66 := SB.ev (t := 66) hA (by rfl) (by rfl)
                have F67 := SB.ev (t := 67) hA (by rfl) (by rfl)
                have F68 := SB.ev (t := 68) hA (by rfl) (by rfl)
                have F69 := SB.ev (t := 69) hA (by rfl) (by rfl)
                have F70 := SB.ev (t := 70) hA (by rfl) (by rfl)
                have F71 := SB.ev (t := 71) hA (by rfl) (by rfl)
                have F72 := SB.ev (t := 72) hA (by rfl) (by rfl)
                have F73 := SB.ev (t := 73) hA (by rfl) (by rfl)
                have F74 := SB.ev (t := 74) hA (by rfl) (by rfl)
                have F75 := SB.ev (t := 75) hA (by rfl) (by rfl)
                have F76 := SB.ev (t := 76) hA (by rfl) (by rfl)
                have F77 := SB.ev (t := 77) hA (by rfl) (by rfl)
                have F78 := SB.ev (t := 78) hA (by rfl) (by rfl)
                have F79 := SB.ev (t := 79) hA (by rfl) (by rfl)
                have F80 := SB.ev (t := 80) hA (by rfl) (by rfl)
                have F97 := SB.ev (t := 97) hA (by rfl) (by rfl)
                have F98 := SB.ev (t := 98) hA (by rfl) (by rfl)
                have F99 := SB.ev (t := 99) hA (by rfl) (by rfl)
                have F100 := SB.ev (t := 100) hA (by rfl) (by rfl)
                have F101 := SB.ev (t := 101) hA (by rfl) (by rfl)
                have F102 := SB.ev (t := 102) hA (by rfl) (by rfl)
                have F103 := SB.ev (t := 103) hA (by rfl) (by rfl)
                have F104 := SB.ev (t := 104) hA (by rfl) (by rfl)
                have F105 := SB.ev (t := 105) hA (by rfl) (by rfl)
                have F106 := SB.ev (t := 106) hA (by rfl) (by rfl)
                have F107 := SB.ev (t := 107) hA (by rfl) (by rfl)
                have F108 := SB.ev (t := 108) hA (by rfl) (by rfl)
                have F109 := SB.ev (t := 109) hA (by rfl) (by rfl)
                have F110 := SB.ev (t := 110) hA (by rfl) (by rfl)
                have F111 := SB.ev (t := 111) hA (by rfl) (by rfl)
                have F112 := SB.ev (t := 112) hA (by rfl) (by rfl)
                have F113 := SB.ev (t := 113) hA (by rfl) (by rfl)
                have F114 := SB.ev (t := 114) hA (by rfl) (by rfl)
                have F115 := SB.ev (t := 115) hA (by rfl) (by rfl)
                have F116 := SB.ev (t := 116) hA (by rfl) (by rfl)
                clear SB hA
                have hL := act_lit (l := [_, _, _, _, _, _, _, _, _, _, _, _, _, _, _, _, _, _, _, _, _, _, _, _, _, _, _, _, _, _, _, _, _, _, _, _, _, _, _, _, _, _, _, _, _, _, _, _, _, _, _, _, _, _, _, _, _, _, _, _, _, _, _, _, _, _, _, _, _, _, _, _, _, _, _, _, _, _, _, _, _, ρ (.tmp 81), ρ (.tmp 82), ρ (.tmp 83), ρ (.tmp 84), ρ (.tmp 85), ρ (.tmp 86), ρ (.tmp 87), ρ (.tmp 88), ρ (.tmp 89), ρ (.tmp 90), ρ (.tmp 91), ρ (.tmp 92), ρ (.tmp 93), ρ (.tmp 94), ρ (.tmp 95), _, _, _, _, _, _, _, _, _, _, _, _, _, _, _, _, _, _, _, _, _]) Z D (by rfl) ⟨F0, F1, F2, F3, F4, F5, F6, F7, F8, F9, F10, F11, F12, F13, F14, F15, F16, F17, F18, F19, F20, F21, F22, F23, F24, F25, F26, F27, F28, F29, F30, F31, F32, F33, F34, F35, F36, F37, F38, F39, F40, F41, F42, F43, F44, F45, F46, F47, F48, F49, F50, F51, F52, F53, F54, F55, F56, F57, F58, F59, F60, F61, F62, F63, F64, F65, F66, F67, F68, F69, F70, F71, F72, F73, F74, F75, F76, F77, F78, F79, F80, hρ 81, hρ 82, hρ 83, hρ 84, hρ 85, hρ 86, hρ 87, hρ 88, hρ 89, hρ 90, hρ 91, hρ 92, hρ 93, hρ 94, hρ 95, F96, F97, F98, F99, F100, F101, F102, F103, F104, F105, F106, F107, F108, F109, F110, F111, F112, F113, F114, F115, F116, trivial⟩
                clear hρ Z D F17 F96 F0 F1 F2 F3 F4 F5 F6 F7 F8 F9 F10 F11 F12 F13 F14 F15 F16 F18 F19 F20 F21 F22 F23 F24 F25 F26 F27 F28 F29 F30 F31 F32 F33 F34 F35 F36 F37 F38 F39 F40 F41 F42 F43 F44 F45 F46 F47 F48 F49 F50 F51 F52 F53 F54 F55 F56 F57 F58 F59 F60 F61 F62 F63 F64 F65 F66 F67 F68 F69 F70 F71 F72 F73 F74 F75 F76 F77 F78 F79 F80 F97 F98 F99 F100 F101 F102 F103 F104 F105 F106 F107 F108 F109 F110 F111 F112 F113 F114 F115 F116
                subst hL
                simp only [List.drop_succ_cons, List.drop_zero]
                dsimp only at P17 P17c P17f P17l
                have hBW : Below w3.heap.size w3 W := hBi.trans (hb0.mono hBi.size)
                have hp17' : w3.heap.size + 1 + 1 < p17 := by omega
                obtain ⟨n1, n2⟩ := HNN.out
                clear HNN gs1 gs2 gg1 gg2 gg3 WB hT hV hM hBi
                by_cases ht0 : t = 0
                · obtain ⟨hb1, hb2, hb3⟩ := n1 ht0
                  subst hb1
                  have hN2 := hid hb2
                  have hN3 := hid hb3
                  clear n1 n2 CM hcm hb2 hb3
                  (repeat' (first | go_values | go_skip | go_guarded | go_step | go_upon | (simp only [Int.not_lt, Int.not_le] at *; go_simp) | (go_values <;> (try go_simp)) | (go_ite <;> go_prune <;> (try go_simp)) | (split <;> (first | (rename_i hx; exact (hx _ rfl).elim) | go_prune))))
                  go_region
                  all_goals (repeat' (first | go_values | go_skip | go_guarded | go_step | go_upon | (simp only [Int.not_lt, Int.not_le] at *; go_simp) | (go_values <;> (try go_simp)) | (go_ite <;> go_prune <;> (try go_simp)) | (split <;> (first | (rename_i hx; exact (hx _ rfl).elim) | go_prune))))
                  all_goals go_roundw
                  all_goals (first | (case rel => exact ⟨t + 1, by rw [hN2.out], by rw [show ((fr + (t + 1) : Nat) : Int) = (q : Int) + 1 by have := HQ.out; omega], by omega, by (repeat' (first | (with_reducible assumption) | ((with_reducible refine HB.new _ _ _ ?_) <;> (go_size; done)) | (with_reducible refine HB.old (by go_size) ?_) | (with_reducible refine HB.drew ?_) | (with_reducible refine HB.over5 ?_) | (with_reducible refine HB.over4 ?_) | (with_reducible refine HB.setne (by first | go_size | (dsimp only; omega)) ?_) | (with_reducible refine HN.set ?_) | (with_reducible refine HN.setne (by first | go_size | (dsimp only; omega)) ?_) | (with_reducible refine HN.drew ?_) | (with_reducible refine HN.old (by go_size) ?_) | (with_reducible exact HN.of5 (by assumption)) | (with_reducible exact HN.new5 _ _ (by go_size)) | (with_reducible exact HN.of4 (by assumption)) | (with_reducible exact HN.new4 _ _ (by go_size)))), by (repeat' (first | (with_reducible assumption) | ((with_reducible refine HB.new _ _ _ ?_) <;> (go_size; done)) | (with_reducible refine HB.old (by go_size) ?_) | (with_reducible refine HB.drew ?_) | (with_reducible refine HB.over5 ?_) | (with_reducible refine HB.over4 ?_) | (with_reducible refine HB.setne (by first | go_size | (dsimp only; omega)) ?_) | (with_reducible refine HN.set ?_) | (with_reducible refine HN.setne (by first | go_size | (dsimp only; omega)) ?_) | (with_reducible refine HN.drew ?_) | (with_reducible refine HN.old (by go_size) ?_) | (with_reducible exact HN.of5 (by assumption)) | (with_reducible exact HN.new5 _ _ (by go_size)) | (with_reducible exact HN.of4 (by assumption)) | (with_reducible exact HN.new4 _ _ (by go_size)))), by rw [hN3.out]; (repeat' (first | (with_reducible assumption) | ((with_reducible refine HB.new _ _ _ ?_) <;> (go_size; done)) | (with_reducible refine HB.old (by go_size) ?_) | (with_reducible refine HB.drew ?_) | (with_reducible refine HB.over5 ?_) | (with_reducible refine HB.over4 ?_) | (with_reducible refine HB.setne (by first | go_size | (dsimp only; omega)) ?_) | (with_reducible refine HN.set ?_) | (with_reducible refine HN.setne (by first | go_size | (dsimp only; omega)) ?_) | (with_reducible refine HN.drew ?_) | (with_reducible refine HN.old (by go_size) ?_) | (with_reducible exact HN.of5 (by assumption)) | (with_reducible exact HN.new5 _ _ (by go_size)) | (with_reducible exact HN.of4 (by assumption)) | (with_reducible exact HN.new4 _ _ (by go_size)))), by (repeat' (first | (with_reducible assumption) | (with_reducible exact Below.refl _ _) | (with_reducible refine Below.alloc ?_ ?_ _) | (with_reducible refine Below.setCell ?_ ?_ _) | (with_reducible refine Below.drew ?_) | (with_reducible refine below_more ?_ (by with_reducible assumption)) | go_size | omega | (with_reducible refine below_drewN ?_)))⟩) | (case measure => simp [intOf]; omega))
                · obtain ⟨hb1, hb2, hb3⟩ := n2 ht0
                  have hbn : ¬ be < 0 := by omega
                  have hN2 := hid hb2
                  have hN3 := hid hb3
                  have hcm2 := hid hcm
                  clear n1 n2 hb2 hb3 hb1 hcm
                  (repeat' (first | go_values | go_skip | go_guarded | go_step | go_upon | (simp only [Int.not_lt, Int.not_le] at *; go_simp) | (go_values <;> (try go_simp)) | (go_ite <;> go_prune <;> (try go_simp)) | (split <;> (first | (rename_i hx; exact (hx _ rfl).elim) | go_prune))))
                  go_at_call 33
                  refine (CM _).mono ?_
                  rintro e w9 ⟨rfl, hbw9⟩
                  have hT : HB w9 w3.heap.size #[.bool (sg (T)), .int .u64 (lb0 (ab (T))), .int .u64 (lb1 (ab (T))), .int .u64 (lb2 (ab (T))), .int .u64 (lb3 (ab (T)))] := by refine HB.below ?_ hbw9; (repeat' (first | (with_reducible assumption) | ((with_reducible refine HB.new _ _ _ ?_) <;> (go_size; done)) | (with_reducible refine HB.old (by go_size) ?_) | (with_reducible refine HB.drew ?_) | (with_reducible refine HB.over5 ?_) | (with_reducible refine HB.over4 ?_) | (with_reducible refine HB.setne (by first | go_size | (dsimp only; omega)) ?_) | (with_reducible refine HN.set ?_) | (with_reducible refine HN.setne (by first | go_size | (dsimp only; omega)) ?_) | (with_reducible refine HN.drew ?_) | (with_reducible refine HN.old (by go_size) ?_) | (with_reducible exact HN.of5 (by assumption)) | (with_reducible exact HN.new5 _ _ (by go_size)) | (with_reducible exact HN.of4 (by assumption)) | (with_reducible exact HN.new4 _ _ (by go_size))))
                  have hV : HB w9 (w3.heap.size + 1) #[.bool (sg (V)), .int .u64 (lb0 (ab (V))), .int .u64 (lb1 (ab (V))), .int .u64 (lb2 (ab (V))), .int .u64 (lb3 (ab (V)))] := by refine HB.below ?_ hbw9; (repeat' (first | (with_reducible assumption) | ((with_reducible refine HB.new _ _ _ ?_) <;> (go_size; done)) | (with_reducible refine HB.old (by go_size) ?_) | (with_reducible refine HB.drew ?_) | (with_reducible refine HB.over5 ?_) | (with_reducible refine HB.over4 ?_) | (with_reducible refine HB.setne (by first | go_size | (dsimp only; omega)) ?_) | (with_reducible refine HN.set ?_) | (with_reducible refine HN.setne (by first | go_size | (dsimp only; omega)) ?_) | (with_reducible refine HN.drew ?_) | (with_reducible refine HN.old (by go_size) ?_) | (with_reducible exact HN.of5 (by assumption)) | (with_reducible exact HN.new5 _ _ (by go_size)) | (with_reducible exact HN.of4 (by assumption)) | (with_reducible exact HN.new4 _ _ (by go_size))))
                  have hM : HB w9 (w3.heap.size + 1 + 1) #[.bool (sg (mo)), .int .u64 (lb0 (ab (mo))), .int .u64 (lb1 (ab (mo))), .int .u64 (lb2 (ab (mo))), .int .u64 (lb3 (ab (mo)))] := by refine HB.below ?_ hbw9; (repeat' (first | (with_reducible assumption) | ((with_reducible refine HB.new _ _ _ ?_) <;> (go_size; done)) | (with_reducible refine HB.old (by go_size) ?_) | (with_reducible refine HB.drew ?_) | (with_reducible refine HB.over5 ?_) | (with_reducible refine HB.over4 ?_) | (with_reducible refine HB.setne (by first | go_size | (dsimp only; omega)) ?_) | (with_reducible refine HN.set ?_) | (with_reducible refine HN.setne (by first | go_size | (dsimp only; omega)) ?_) | (with_reducible refine HN.drew ?_) | (with_reducible refine HN.old (by go_size) ?_) | (with_reducible exact HN.of5 (by assumption)) | (with_reducible exact HN.new5 _ _ (by go_size)) | (with_reducible exact HN.of4 (by assumption)) | (with_reducible exact HN.new4 _ _ (by go_size))))
                  have hN : HB w9 p17 #[.bool (sg (ar)), .int .u64 (lb0 (ab (ar))), .int .u64 (lb1 (ab (ar))), .int .u64 (lb2 (ab (ar))), .int .u64 (lb3 (ab (ar)))] := by refine HB.below ?_ hbw9; (repeat' (first | (with_reducible assumption) | ((with_reducible refine HB.new _ _ _ ?_) <;> (go_size; done)) | (with_reducible refine HB.old (by go_size) ?_) | (with_reducible refine HB.drew ?_) | (with_reducible refine HB.over5 ?_) | (with_reducible refine HB.over4 ?_) | (with_reducible refine HB.setne (by first | go_size | (dsimp only; omega)) ?_) | (with_reducible refine HN.set ?_) | (with_reducible refine HN.setne (by first | go_size | (dsimp only; omega)) ?_) | (with_reducible refine HN.drew ?_) | (with_reducible refine HN.old (by go_size) ?_) | (with_reducible exact HN.of5 (by assumption)) | (with_reducible exact HN.new5 _ _ (by go_size)) | (with_reducible exact HN.of4 (by assumption)) | (with_reducible exact HN.new4 _ _ (by go_size))))
                  have hB9 : Below w3.heap.size w3 w9 := by (repeat' (first | (with_reducible assumption) | (with_reducible exact Below.refl _ _) | (with_reducible refine Below.alloc ?_ ?_ _) | (with_reducible refine Below.setCell ?_ ?_ _) | (with_reducible refine Below.drew ?_) | (with_reducible refine below_more ?_ (by with_reducible assumption)) | go_size | omega | (with_reducible refine below_drewN ?_)))
                  clear P17 P17c P17f P17l B1 B1c B1f B1l B2 B2c B2f B2l B3 B3c B3f B3l hbw9 CM hb0
                  by_cases hma : mo < ar
                  · have hc0 : 0 < c := hcm2.out.2 hma
                    have hN4 := hid (hN2.out hma)
                    clear hN2 hN3 hcm2
                    obtain ⟨N1, N1c, N1f, N1l⟩ := Bx.of hN
                    obtain ⟨R1, R1c, R1f, R1l⟩ := Bx.of hM
                    have hmx : Try.prog.follows .mixedOrders = true := by kernel_rfl
                    (repeat' (first | go_values | go_skip | go_guarded | go_step | go_upon | (simp only [Int.not_lt, Int.not_le] at *; go_simp) | (go_values <;> (try go_simp)) | (go_ite <;> go_prune <;> (try go_simp)) | (split <;> (first | (rename_i hx; exact (hx _ rfl).elim) | go_prune))))
                    go_region
                    all_goals (repeat' (first | go_values | go_skip | go_guarded | go_step | go_upon | (simp only [Int.not_lt, Int.not_le] at *; go_simp) | (go_values <;> (try go_simp)) | (go_ite <;> go_prune <;> (try go_simp)) | (split <;> (first | (rename_i hx; exact (hx _ rfl).elim) | go_prune))))
                    all_goals go_roundw
                    all_goals (first | (case rel => exact ⟨t + 1, by rw [hN4.out.1], by rw [show ((fr + (t + 1) : Nat) : Int) = (q : Int) + 1 by have := HQ.out; omega], by omega, by (repeat' (first | (with_reducible assumption) | ((with_reducible refine HB.new _ _ _ ?_) <;> (go_size; done)) | (with_reducible refine HB.old (by go_size) ?_) | (with_reducible refine HB.drew ?_) | (with_reducible refine HB.over5 ?_) | (with_reducible refine HB.over4 ?_) | (with_reducible refine HB.setne (by first | go_size | (dsimp only; omega)) ?_) | (with_reducible refine HN.set ?_) | (with_reducible refine HN.setne (by first | go_size | (dsimp only; omega)) ?_) | (with_reducible refine HN.drew ?_) | (with_reducible refine HN.old (by go_size) ?_) | (with_reducible exact HN.of5 (by assumption)) | (with_reducible exact HN.new5 _ _ (by go_size)) | (with_reducible exact HN.of4 (by assumption)) | (with_reducible exact HN.new4 _ _ (by go_size)))), by (repeat' (first | (with_reducible assumption) | ((with_reducible refine HB.new _ _ _ ?_) <;> (go_size; done)) | (with_reducible refine HB.old (by go_size) ?_) | (with_reducible refine HB.drew ?_) | (with_reducible refine HB.over5 ?_) | (with_reducible refine HB.over4 ?_) | (with_reducible refine HB.setne (by first | go_size | (dsimp only; omega)) ?_) | (with_reducible refine HN.set ?_) | (with_reducible refine HN.setne (by first | go_size | (dsimp only; omega)) ?_) | (with_reducible refine HN.drew ?_) | (with_reducible refine HN.old (by go_size) ?_) | (with_reducible exact HN.of5 (by assumption)) | (with_reducible exact HN.new5 _ _ (by go_size)) | (with_reducible exact HN.of4 (by assumption)) | (with_reducible exact HN.new4 _ _ (by go_size)))), by rw [hN4.out.2]; (repeat' (first | (with_reducible assumption) | ((with_reducible refine HB.new _ _ _ ?_) <;> (go_size; done)) | (with_reducible refine HB.old (by go_size) ?_) | (with_reducible refine HB.drew ?_) | (with_reducible refine HB.over5 ?_) | (with_reducible refine HB.over4 ?_) | (with_reducible refine HB.setne (by first | go_size | (dsimp only; omega)) ?_) | (with_reducible refine HN.set ?_) | (with_reducible refine HN.setne (by first | go_size | (dsimp only; omega)) ?_) | (with_reducible refine HN.drew ?_) | (with_reducible refine HN.old (by go_size) ?_) | (with_reducible exact HN.of5 (by assumption)) | (with_reducible exact HN.new5 _ _ (by go_size)) | (with_reducible exact HN.of4 (by assumption)) | (with_reducible exact HN.new4 _ _ (by go_size)))), by (repeat' (first | (with_reducible assumption) | (with_reducible exact Below.refl _ _) | (with_reducible refine Below.alloc ?_ ?_ _) | (with_reducible refine Below.setCell ?_ ?_ _) | (with_reducible refine Below.drew ?_) | (with_reducible refine below_more ?_ (by with_reducible assumption)) | go_size | omega | (with_reducible refine below_drewN ?_)))⟩) | (case measure => simp [intOf]; omega))
                  · have hc0 : ¬ 0 < c := fun h => hma (hcm2.out.1 h)
                    have hN4 := hid (hN3.out (by omega))
                    clear hN2 hN3 hcm2
                    (repeat' (first | go_values | go_skip | go_guarded | go_step | go_upon | (simp only [Int.not_lt, Int.not_le] at *; go_simp) | (go_values <;> (try go_simp)) | (go_ite <;> go_prune <;> (try go_simp)) | (split <;> (first | (rename_i hx; exact (hx _ rfl).elim) | go_prune))))
                    go_roundw
                    case rel => exact ⟨t + 1, by rw [hN4.out.1], by rw [show ((fr + (t + 1) : Nat) : Int) = (q : Int) + 1 by have := HQ.out; omega], by omega, by (repeat' (first | (with_reducible assumption) | ((with_reducible refine HB.new _ _ _ ?_) <;> (go_size; done)) | (with_reducible refine HB.old (by go_size) ?_) | (with_reducible refine HB.drew ?_) | (with_reducible refine HB.over5 ?_) | (with_reducible refine HB.over4 ?_) | (with_reducible refine HB.setne (by first | go_size | (dsimp only; omega)) ?_) | (with_reducible refine HN.set ?_) | (with_reducible refine HN.setne (by first | go_size | (dsimp only; omega)) ?_) | (with_reducible refine HN.drew ?_) | (with_reducible refine HN.old (by go_size) ?_) | (with_reducible exact HN.of5 (by assumption)) | (with_reducible exact HN.new5 _ _ (by go_size)) | (with_reducible exact HN.of4 (by assumption)) | (with_reducible exact HN.new4 _ _ (by go_size)))), by (repeat' (first | (with_reducible assumption) | ((with_reducible refine HB.new _ _ _ ?_) <;> (go_size; done)) | (with_reducible refine HB.old (by go_size) ?_) | (with_reducible refine HB.drew ?_) | (with_reducible refine HB.over5 ?_) | (with_reducible refine HB.over4 ?_) | (with_reducible refine HB.setne (by first | go_size | (dsimp only; omega)) ?_) | (with_reducible refine HN.set ?_) | (with_reducible refine HN.setne (by first | go_size | (dsimp only; omega)) ?_) | (with_reducible refine HN.drew ?_) | (with_reducible refine HN.old (by go_size) ?_) | (with_reducible exact HN.of5 (by assumption)) | (with_reducible exact HN.new5 _ _ (by go_size)) | (with_reducible exact HN.of4 (by assumption)) | (with_reducible exact HN.new4 _ _ (by go_size)))), by rw [hN4.out.2]; (repeat' (first | (with_reducible assumption) | ((with_reducible refine HB.new _ _ _ ?_) <;> (go_size; done)) | (with_reducible refine HB.old (by go_size) ?_) | (with_reducible refine HB.drew ?_) | (with_reducible refine HB.over5 ?_) | (with_reducible refine HB.over4 ?_) | (with_reducible refine HB.setne (by first | go_size | (dsimp only; omega)) ?_) | (with_reducible refine HN.set ?_) | (with_reducible refine HN.setne (by first | go_size | (dsimp only; omega)) ?_) | (with_reducible refine HN.drew ?_) | (with_reducible refine HN.old (by go_size) ?_) | (with_reducible exact HN.of5 (by assumption)) | (with_reducible exact HN.new5 _ _ (by go_size)) | (with_reducible exact HN.of4 (by assumption)) | (with_reducible exact HN.new4 _ _ (by go_size)))), by (repeat' (first | (with_reducible assumption) | (with_reducible exact Below.refl _ _) | (with_reducible refine Below.alloc ?_ ?_ _) | (with_reducible refine Below.setCell ?_ ?_ _) | (with_reducible refine Below.drew ?_) | (with_reducible refine below_more ?_ (by with_reducible assumption)) | go_size | omega | (with_reducible refine below_drewN ?_)))⟩
                    case measure => simp [intOf]; omega
              · obtain rfl : t = tt - fr := by omega
                have hbv : bestr f fr (tt - fr) = ((fr + bi : Nat) : Int) := by unfold bestr; rw [if_neg (by omega), HB2.out]
                rw [hbv, show fr + (tt - fr) = tt by omega]
                have hO4 := hO3.kept (gt_below hBi none) (Classical.em _)
                have hszW := hBB.size
                clear hbv
                (repeat' (first | (go_big_may; (first | (at_builtin; refine wpList_append_own _ rfl _ _ 28 rfl w2.heap.size 3 i0 (.int .i64 0) 1 8 Try.underlying28 hi hz0 hz1 hz2 rfl (by decide) _ _ _ rfl (hO4.alloc _) ⟨_, 0, none⟩ 1 1 _ rfl rfl (fun j u h => one_cell _ _ _ j u h) (by intro u hu; simp at hu; subst hu; rfl) (by unfold maxLen; omega) (by omega) (by simp; omega) ?_; intro v' w5 hown' hgrow _))) | go_values | go_skip | go_guarded | go_step | go_upon | (simp only [Int.not_lt, Int.not_le] at *; go_simp) | (go_values <;> (try go_simp)) | (go_ite <;> go_prune <;> (try go_simp)) | (split <;> (first | (rename_i hx; exact (hx _ rfl).elim) | go_prune))))
                have hb5 : Below w2.heap.size w2 w5 := (hBB.alloc hszW _).trans (app_below (hO4.alloc _) hgrow (Nat.le_refl _) (by simp; omega))
                clear hgrow
                go_roundw
                case rel => exact ⟨j + 1, by simp, by omega, by rw [HCH.out, List.map_append]; exact hown', hb5⟩
                case measure => simp [intOf]; omega
          · have hl2 : ¬ (j : Int) + 2 < (K - 1 : Nat) := by omega
            have e10 := hid (h10 hlast)
            have e11 := hid (hltt hlast)
            clear f3 h10 hltt
            (repeat' (first | go_values | go_skip | go_guarded | go_step | go_upon | (simp only [Int.not_lt, Int.not_le] at *; go_simp) | (go_values <;> (try go_simp)) | (go_ite <;> go_prune <;> (try go_simp)) | (split <;> (first | (rename_i hx; exact (hx _ rfl).elim) | go_prune))))
            rw [show ss.length - 1 = tt from e11.out.symm, show ss.length - tt = en - tt by rw [e10.out]]
            clear f2
            go_at_call 70
            refine (rsums_any _ (HNX.out _ (by (repeat' (first | (with_reducible assumption) | (with_reducible exact Below.refl _ _) | (with_reducible refine Below.alloc ?_ ?_ _) | (with_reducible refine Below.setCell ?_ ?_ _) | (with_reducible refine Below.drew ?_) | (with_reducible refine below_more ?_ (by with_reducible assumption)) | go_size | omega | (with_reducible refine below_drewN ?_)))))).mono ?_
            rintro e w3 ⟨rfl, hbw3⟩
            have hW3 : Below wr.heap.size wr w3 := by (repeat' (first | (with_reducible assumption) | (with_reducible exact Below.refl _ _) | (with_reducible refine Below.alloc ?_ ?_ _) | (with_reducible refine Below.setCell ?_ ?_ _) | (with_reducible refine Below.drew ?_) | (with_reducible refine below_more ?_ (by with_reducible assumption)) | go_size | omega | (with_reducible refine below_drewN ?_)))
            have hB3 : Below w2.heap.size w2 w3 := hB.trans (hW3.mono hB.size)
            have hO3 := hO.kept (gt_below hW3 none) (Classical.em _)
            have hsz3 := hW3.size
            have hsz2 := hB.size
            have FT := fits_wsum Prod.fst (cut ss tt en) (cut ss tt en).length
            have FV := fits_wsum Prod.snd (cut ss tt en) (cut ss tt en).length
            obtain ⟨T, hT0⟩ : ∃ T, wsum Prod.fst (cut ss tt en) (cut ss tt en).length = T := ⟨_, rfl⟩
            obtain ⟨V, hV0⟩ : ∃ V, wsum Prod.snd (cut ss tt en) (cut ss tt en).length = V := ⟨_, rfl⟩
            rw [hT0] at FT
            rw [hV0] at FV
            have hbi2 := hbi
            unfold best at hbi2
            rw [hT0, hV0, cut_len h5, cut_len (show tt ≤ ss.length by omega)] at hbi2
            simp only [hT0, hV0]
            obtain ⟨f, hf⟩ : ∃ f : Nat → Int, (fun i => area (xa, ya) ((cut ss fr tt).getD i (0, 0)) T V ((en - tt : Nat) : Int)) = f := ⟨_, rfl⟩
            rw [hf] at hbi2
            have hfn : ∀ i, 0 ≤ f i := fun i => by rw [← hf]; exact area_nonneg _ _ _ _ _
            have hff : ∀ i, Fits (f i) := fun i => by rw [← hf]; exact fits_area (p := (xa, ya)) hq (smp_i64 (fun s hs => HI.out s (List.mem_of_mem_take (List.mem_of_mem_drop hs))) i) FT FV
            have hfi : ∀ t, t < tt - fr → f t = area (xa, ya) (ss.getD (fr + t) (0, 0)) T V ((en - tt : Nat) : Int) := fun t ht => by rw [← hf]; exact congrArg (fun z => area (xa, ya) z T V ((en - tt : Nat) : Int)) (cut_get (by omega) ht)
            have WA := fun (q : Int × Int) (hq2 : I64 q.1 ∧ I64 q.2) W => rarea_any (p := (xa, ya)) hq hq2 FT FV ((en - tt : Nat) : Int) W
            dsimp only at WA
            have HFM := hid (fits_mostr f hff)
            have HFI := hid hfi
            have HFF := hid hff
            have HFN := hid hfn
            have HWA := hid WA
            have fe1 : ∀ o1 o2 o3 : Obj, (((w3.alloc o1).alloc o2).alloc o3).cell? ⟨gb, ob + j, none⟩ = some (.int .i64 fr) := fun o1 o2 o3 => fb1 _ (by (repeat' (first | (with_reducible assumption) | (with_reducible exact Below.refl _ _) | (with_reducible refine Below.alloc ?_ ?_ _) | (with_reducible refine Below.setCell ?_ ?_ _) | (with_reducible refine Below.drew ?_) | (with_reducible refine below_more ?_ (by with_reducible assumption)) | go_size | omega | (with_reducible refine below_drewN ?_))))
            have hg3 : gb < w3.heap.size := by omega
            have HB2 := hid hbi2
            have HGG1 := hid (fun Wz (hz : Below w3.heap.size w3 Wz) => g1 Wz (hW3.trans (hz.mono hsz3)))
            have HGG2 := hid (fun Wz (hz : Below w3.heap.size w3 Wz) => g2 Wz (hW3.trans (hz.mono hsz3)))
            have HGG3 := hid (fun Wz (hz : Below w3.heap.size w3 Wz) => g3 Wz (hW3.trans (hz.mono hsz3)))
            have HFB2 := hid (fun Wz (hz : Below w3.heap.size w3 Wz) => fb2 Wz (hW3.trans (hz.mono hsz3)))
            clear hT0 hV0 hf hfn hff hfi WA FT FV hbi2 hbi fb1 fb2 g1 g2 g3 HNX hbw3
            (repeat' (first | go_values | go_skip | go_guarded | go_step | go_upon | (simp only [Int.not_lt, Int.not_le] at *; go_simp) | (go_values <;> (try go_simp)) | (go_ite <;> go_prune <;> (try go_simp)) | (split <;> (first | (rename_i hx; exact (hx _ rfl).elim) | go_prune))))
            clear fe1
            go_loopw [14, 16] (fun bb i wi => ∃ t : Nat, bb = .int .i64 (bestr f fr t) ∧ i = .int .i64 ((fr + t : Nat) : Int) ∧ t ≤ tt - fr ∧ HB wi w3.heap.size #[.bool (sg (T)), .int .u64 (lb0 (ab (T))), .int .u64 (lb1 (ab (T))), .int .u64 (lb2 (ab (T))), .int .u64 (lb3 (ab (T)))] ∧ HB wi (w3.heap.size + 1) #[.bool (sg (V)), .int .u64 (lb0 (ab (V))), .int .u64 (lb1 (ab (V))), .int .u64 (lb2 (ab (V))), .int .u64 (lb3 (ab (V)))] ∧ HB wi (w3.heap.size + 1 + 1) #[.bool (sg (mostr f t)), .int .u64 (lb0 (ab (mostr f t))), .int .u64 (lb1 (ab (mostr f t))), .int .u64 (lb2 (ab (mostr f t))), .int .u64 (lb3 (ab (mostr f t)))] ∧ Below w3.heap.size w3 wi) (fun _ i _ => tt - (intOf i).toNat)
            case atStart => exact ⟨0, rfl, rfl, Nat.zero_le _, by (repeat' (first | (with_reducible assumption) | ((with_reducible refine HB.new _ _ _ ?_) <;> (go_size; done)) | (with_reducible refine HB.old (by go_size) ?_) | (with_reducible refine HB.drew ?_) | (with_reducible refine HB.over5 ?_) | (with_reducible refine HB.over4 ?_) | (with_reducible refine HB.setne (by first | go_size | (dsimp only; omega)) ?_) | (with_reducible refine HN.set ?_) | (with_reducible refine HN.setne (by first | go_size | (dsimp only; omega)) ?_) | (with_reducible refine HN.drew ?_) | (with_reducible refine HN.old (by go_size) ?_) | (with_reducible exact HN.of5 (by assumption)) | (with_reducible exact HN.new5 _ _ (by go_size)) | (with_reducible exact HN.of4 (by assumption)) | (with_reducible exact HN.new4 _ _ (by go_size)))), by (repeat' (first | (with_reducible assumption) | ((with_reducible refine HB.new _ _ _ ?_) <;> (go_size; done)) | (with_reducible refine HB.old (by go_size) ?_) | (with_reducible refine HB.drew ?_) | (with_reducible refine HB.over5 ?_) | (with_reducible refine HB.over4 ?_) | (with_reducible refine HB.setne (by first | go_size | (dsimp only; omega)) ?_) | (with_reducible refine HN.set ?_) | (with_reducible refine HN.setne (by first | go_size | (dsimp only; omega)) ?_) | (with_reducible refine HN.drew ?_) | (with_reducible refine HN.old (by go_size) ?_) | (with_reducible exact HN.of5 (by assumption)) | (with_reducible exact HN.new5 _ _ (by go_size)) | (with_reducible exact HN.of4 (by assumption)) | (with_reducible exact HN.new4 _ _ (by go_size)))), by show HB _ _ #[.bool false, .int .u64 0, .int .u64 0, .int .u64 0, .int .u64 0]; (repeat' (first | (with_reducible assumption) | ((with_reducible refine HB.new _ _ _ ?_) <;> (go_size; done)) | (with_reducible refine HB.old (by go_size) ?_) | (with_reducible refine HB.drew ?_) | (with_reducible refine HB.over5 ?_) | (with_reducible refine HB.over4 ?_) | (with_reducible refine HB.setne (by first | go_size | (dsimp only; omega)) ?_) | (with_reducible refine HN.set ?_) | (with_reducible refine HN.setne (by first | go_size | (dsimp only; omega)) ?_) | (with_reducible refine HN.drew ?_) | (with_reducible refine HN.old (by go_size) ?_) | (with_reducible exact HN.of5 (by assumption)) | (with_reducible exact HN.new5 _ _ (by go_size)) | (with_reducible exact HN.of4 (by assumption)) | (with_reducible exact HN.new4 _ _ (by go_size)))), by (repeat' (first | (with_reducible assumption) | (with_reducible exact Below.refl _ _) | (with_reducible refine Below.alloc ?_ ?_ _) | (with_reducible refine Below.setCell ?_ ?_ _) | (with_reducible refine Below.drew ?_) | (with_reducible refine below_more ?_ (by with_reducible assumption)) | go_size | omega | (with_reducible refine below_drewN ?_)))⟩
            case round =>
              obtain ⟨t, rfl, rfl, ht, hT, hV, hM, hBi⟩ := hrel
              have fe2 := HFB2.out _ hBi
              have hszi := hM.lt
              have hgi : gb < wr.heap.size := by omega
              have hBB := hB3.trans (hBi.mono hB3.size)
              by_cases htt : t < tt - fr
              · obtain ⟨q, hqt⟩ : ∃ q : Nat, fr + t = q := ⟨_, rfl⟩
                have hq5 : q < ss.length := by omega
                have hqtt : (q : Int) < tt := by omega
                have hqs : (q : Int) < ss.length := by omega
                have hmf := HFM.out t
                have har2 := HFI.out t htt
                have hfa := HFF.out t
                have hf0 := HFN.out t
                have HN : (t = 0 → bestr f fr t = -1 ∧ bestr f fr (t + 1) = ((fr + t : Nat) : Int) ∧ mostr f (t + 1) = f t) ∧ (t ≠ 0 → 0 ≤ bestr f fr t ∧ (mostr f t < f t → bestr f fr (t + 1) = ((fr + t : Nat) : Int) ∧ mostr f (t + 1) = f t) ∧ (¬ mostr f t < f t → bestr f fr (t + 1) = bestr f fr t ∧ mostr f (t + 1) = mostr f t)) := by
                  refine ⟨fun h => ?_, fun h => ⟨bestr_pos f fr t h, br_more f fr t h, br_less f fr t h⟩⟩
                  subst h
                  exact ⟨rfl, br_first f fr (HFN.out 0)⟩
                obtain ⟨mo, hmo⟩ : ∃ mo, mostr f t = mo := ⟨_, rfl⟩
                obtain ⟨be, hbe⟩ : ∃ be, bestr f fr t = be := ⟨_, rfl⟩
                obtain ⟨ar, har⟩ : ∃ ar, f t = ar := ⟨_, rfl⟩
                rw [har] at hfa hf0 har2 HN
                rw [hmo] at hM hmf HN
                rw [hbe] at HN
                rw [hqt] at har2 HN
                rw [hqt, hbe]
                obtain ⟨xy2, hx2⟩ : ∃ xy2, ss.getD q (0, 0) = xy2 := ⟨_, rfl⟩
                have hqq := smp_i64 HI.out q
                rw [hx2] at har2 hqq
                have WB := fun W => HWA.out xy2 hqq W
                rw [← har2] at WB
                have gs : ∀ Wz : World, Below wr.heap.size wr Wz → Wz.cell? ⟨b, off + q * 2, none⟩ = some (.int .i64 xy2.1) ∧ Wz.cell? ⟨b, off + q * 2 + 1, none⟩ = some (.int .i64 xy2.2) := fun Wz hz => hx2 ▸ HCS.out q hq5 Wz (hBB.trans (hz.mono hBB.size))
                obtain ⟨x, y⟩ := xy2
                dsimp only at gs WB
                have gs1 := fun Wz hz => (gs Wz hz).1
                have gs2 := fun Wz hz => (gs Wz hz).2
                have gg1 := fun Wz (hz : Below wr.heap.size wr Wz) => HGG1.out Wz (hBi.trans (hz.mono hBi.size))
                have gg2 := fun Wz (hz : Below wr.heap.size wr Wz) => HGG2.out Wz (hBi.trans (hz.mono hBi.size))
                have gg3 := fun Wz (hz : Below wr.heap.size wr Wz) => HGG3.out Wz (hBi.trans (hz.mono hBi.size))
                have CM := fun W => rcompare_we hfa hmf W
                have hcm := cm_pos ar mo
                generalize cm ar mo = c at CM hcm
                have HNN := hid HN
                have HQ := hid hqt
                have hBig := hid hBB
                clear hbe hmo har har2 hx2 hqq gs HN hqt hBB hfa hf0 hmf
                (repeat' (first | go_values | go_skip | go_guarded | go_step | go_upon | (simp only [Int.not_lt, Int.not_le] at *; go_simp) | (go_values <;> (try go_simp)) | (go_ite <;> go_prune <;> (try go_simp)) | (split <;> (first | (rename_i hx; exact (hx _ rfl).elim) | go_prune))))
                
                (refine wp_region_dq (row := none) (S := (fun Wz => Below wr.heap.size wr Wz ∧ wr.heap.size ≤ Wz.heap.size ∧ Bx Wz (w3.heap.size) (#[.bool (sg (T)), .int .u64 (lb0 (ab (T))), .int .u64 (lb1 (ab (T))), .int .u64 (lb2 (ab (T))), .int .u64 (lb3 (ab (T)))]) ∧ Bx Wz (w3.heap.size + 1) (#[.bool (sg (V)), .int .u64 (lb0 (ab (V))), .int .u64 (lb1 (ab (V))), .int .u64 (lb2 (ab (V))), .int .u64 (lb3 (ab (V)))]) ∧ Bx Wz (w3.heap.size + 1 + 1) (#[.bool (sg (mo)), .int .u64 (lb0 (ab (mo))), .int .u64 (lb1 (ab (mo))), .int .u64 (lb2 (ab (mo))), .int .u64 (lb3 (ab (mo)))]))) (n0 := wr.heap.size) 17 [] [(0, 0), (1, 0), (2, 0), (3, 0), (4, 0), (5, 0), (6, 0), (7, 0), (8, 0), (9, 0), (10, 0), (11, 0), (12, 0), (13, 0), (14, 0), (15, 0)] [(16, 17, #[.bool false, .int .u64 0, .int .u64 0, .int .u64 0, .int .u64 0])] (by kernel_rfl) (by kernel_rfl) (fun _ _ d _ _ h => by cases d <;> exact h) (by refine ⟨?dob17, ?don17, ?_, ?_, ?_⟩; (case dob17 => (repeat' (first | (with_reducible assumption) | (with_reducible exact Below.refl _ _) | (with_reducible refine Below.alloc ?_ ?_ _) | (with_reducible refine Below.setCell ?_ ?_ _) | (with_reducible refine Below.drew ?_) | (with_reducible refine below_more ?_ (by with_reducible assumption)) | go_size | omega | (with_reducible refine below_drewN ?_)))); (case don17 => (first | go_size | omega)); all_goals (first | done | (refine Bx.of ?_; (repeat' (first | (with_reducible assumption) | ((with_reducible refine HB.new _ _ _ ?_) <;> (go_size; done)) | (with_reducible refine HB.old (by go_size) ?_) | (with_reducible refine HB.drew ?_) | (with_reducible refine HB.over5 ?_) | (with_reducible refine HB.over4 ?_) | (with_reducible refine HB.setne (by first | go_size | (dsimp only; omega)) ?_) | (with_reducible refine HN.set ?_) | (with_reducible refine HN.setne (by first | go_size | (dsimp only; omega)) ?_) | (with_reducible refine HN.drew ?_) | (with_reducible refine HN.old (by go_size) ?_) | (with_reducible exact HN.of5 (by assumption)) | (with_reducible exact HN.new5 _ _ (by go_size)) | (with_reducible exact HN.of4 (by assumption)) | (with_reducible exact HN.new4 _ _ (by go_size))))))) (fun _ _ h g => keep3 h (below_gt g) rfl) (fun _ h => h.2.1) (fun _ h => by cases h) (by intro x hx; simp only [List.mem_cons, List.not_mem_nil, or_false] at hx; rcases hx with rfl <;> exact ⟨_, rfl, rfl, rfl, rfl, fun ρ w => ⟨27, by kernel_rfl⟩⟩) ?_)
                refine dqo_start ?_
                intro af0 hA
                have Z := size_lit (n := 117) hA (by rfl)
                have D := defers_lit hA
                have F0 := ev_lit (t := 0) hA (by rfl)
                have F9 := ev_lit (t := 9) hA (by rfl)
                have F10 := ev_lit (t := 10) hA (by rfl)
                have F11 := ev_lit (t := 11) hA (by rfl)
                have F12 := ev_lit (t := 12) hA (by rfl)
                have F13 := ev_lit (t := 13) hA (by rfl)
                have F16 := ev_lit (t := 16) hA (by rfl)
                have SB := same_start af0
                refine' dqo_pure (d := 81) (by rfl) (by rfl) Z (by rfl) (wanted_not (by rfl)) ?hv17 ?rest17
                case hv17 => (intro ρ hρ; have E0 := (hρ.1 0).trans F0; have Ec := hρ.2.1; have Ef := hρ.2.2.1; clear hρ; intro w hw; (try dsimp only at hw); go_split_ands; go_simp; try with_reducible rfl)
                case' rest17 => intro af1 Zn Nx
                replace F0 := (Nx.2.2.1 0 rfl).trans F0
                replace F9 := (Nx.2.2.1 9 rfl).trans F9
                replace F10 := (Nx.2.2.1 10 rfl).trans F10
                replace F11 := (Nx.2.2.1 11 rfl).trans F11
                replace F12 := (Nx.2.2.1 12 rfl).trans F12
                replace F13 := (Nx.2.2.1 13 rfl).trans F13
                replace F16 := (Nx.2.2.1 16 rfl).trans F16
                have F81 := Nx.2.1
                replace SB := SB.next Nx
                replace D := Nx.2.2.2.trans D
                clear Z Nx
                have Z := Zn
                clear Zn
                refine' dqo_pure (d := 82) (by rfl) (by rfl) Z (by rfl) (wanted_not (by rfl)) ?hv18 ?rest18
                case hv18 => (intro ρ hρ; have E9 := (hρ.1 9).trans F9; have Ec := hρ.2.1; have Ef := hρ.2.2.1; clear hρ; intro w hw; (try dsimp only at hw); go_split_ands; go_simp; try with_reducible rfl)
                case' rest18 => intro af2 Zn Nx
                replace F0 := (Nx.2.2.1 0 rfl).trans F0
                clear F9
                replace F10 := (Nx.2.2.1 10 rfl).trans F10
                replace F11 := (Nx.2.2.1 11 rfl).trans F11
                replace F12 := (Nx.2.2.1 12 rfl).trans F12
                replace F13 := (Nx.2.2.1 13 rfl).trans F13
                replace F16 := (Nx.2.2.1 16 rfl).trans F16
                replace F81 := (Nx.2.2.1 81 rfl).trans F81
                have F82 := Nx.2.1
                replace SB := SB.next Nx
                replace D := Nx.2.2.2.trans D
                clear Z Nx
                have Z := Zn
                clear Zn af1
                refine' dqo_pure (d := 83) (by rfl) (by rfl) Z (by rfl) (wanted_not (by rfl)) ?hv19 ?rest19
                case hv19 => (intro ρ hρ; have E10 := (hρ.1 10).trans F10; have Ec := hρ.2.1; have Ef := hρ.2.2.1; clear hρ; intro w hw; (try dsimp only at hw); go_split_ands; go_simp; try with_reducible rfl)
                case' rest19 => intro af3 Zn Nx
                replace F0 := (Nx.2.2.1 0 rfl).trans F0
                clear F10
                replace F11 := (Nx.2.2.1 11 rfl).trans F11
                replace F12 := (Nx.2.2.1 12 rfl).trans F12
                replace F13 := (Nx.2.2.1 13 rfl).trans F13
                replace F16 := (Nx.2.2.1 16 rfl).trans F16
                replace F81 := (Nx.2.2.1 81 rfl).trans F81
                replace F82 := (Nx.2.2.1 82 rfl).trans F82
                have F83 := Nx.2.1
                replace SB := SB.next Nx
                replace D := Nx.2.2.2.trans D
                clear Z Nx
                have Z := Zn
                clear Zn af2
                refine' dqo_pure (d := 84) (by rfl) (by rfl) Z (by rfl) (wanted_not (by rfl)) ?hv20 ?rest20
                case hv20 => (intro ρ hρ; have E82 := (hρ.1 82).trans F82; have E83 := (hρ.1 83).trans F83; have Ec := hρ.2.1; have Ef := hρ.2.2.1; clear hρ; intro w hw; (try dsimp only at hw); go_split_ands; go_simp; try with_reducible rfl)
                case' rest20 => intro af4 Zn Nx
                replace F0 := (Nx.2.2.1 0 rfl).trans F0
                replace F11 := (Nx.2.2.1 11 rfl).trans F11
                replace F12 := (Nx.2.2.1 12 rfl).trans F12
                replace F13 := (Nx.2.2.1 13 rfl).trans F13
                replace F16 := (Nx.2.2.1 16 rfl).trans F16
                replace F81 := (Nx.2.2.1 81 rfl).trans F81
                clear F82
                clear F83
                have F84 := Nx.2.1
                replace SB := SB.next Nx
                replace D := Nx.2.2.2.trans D
                clear Z Nx
                have Z := Zn
                clear Zn af3
                refine' dqo_pure (d := 85) (by rfl) (by rfl) Z (by rfl) (wanted_not (by rfl)) ?hv21 ?rest21
                case hv21 => (intro ρ hρ; have E84 := (hρ.1 84).trans F84; have Ec := hρ.2.1; have Ef := hρ.2.2.1; clear hρ; intro w hw; (try dsimp only at hw); go_split_ands; go_simp; try with_reducible rfl)
                case' rest21 => intro af5 Zn Nx
                replace F0 := (Nx.2.2.1 0 rfl).trans F0
                replace F11 := (Nx.2.2.1 11 rfl).trans F11
                replace F12 := (Nx.2.2.1 12 rfl).trans F12
                replace F13 := (Nx.2.2.1 13 rfl).trans F13
                replace F16 := (Nx.2.2.1 16 rfl).trans F16
                replace F81 := (Nx.2.2.1 81 rfl).trans F81
                clear F84
                have F85 := Nx.2.1
                replace SB := SB.next Nx
                replace D := Nx.2.2.2.trans D
                clear Z Nx
                have Z := Zn
                clear Zn af4
                refine' dqo_pure (d := 86) (by rfl) (by rfl) Z (by rfl) (wanted_not (by rfl)) ?hv22 ?rest22
                case hv22 => (intro ρ hρ; have E81 := (hρ.1 81).trans F81; have E85 := (hρ.1 85).trans F85; have Ec := hρ.2.1; have Ef := hρ.2.2.1; clear hρ; intro w hw; (try dsimp only at hw); go_split_ands; go_simp; try with_reducible rfl)
                case' rest22 => intro af6 Zn Nx
                replace F0 := (Nx.2.2.1 0 rfl).trans F0
                replace F11 := (Nx.2.2.1 11 rfl).trans F11
                replace F12 := (Nx.2.2.1 12 rfl).trans F12
                replace F13 := (Nx.2.2.1 13 rfl).trans F13
                replace F16 := (Nx.2.2.1 16 rfl).trans F16
                clear F81
                clear F85
                have F86 := Nx.2.1
                replace SB := SB.next Nx
                replace D := Nx.2.2.2.trans D
                clear Z Nx
                have Z := Zn
                clear Zn af5
                refine' dqo_pure (d := 87) (by rfl) (by rfl) Z (by rfl) (wanted_not (by rfl)) ?hv23 ?rest23
                case hv23 => (intro ρ hρ; have E86 := (hρ.1 86).trans F86; have Ec := hρ.2.1; have Ef := hρ.2.2.1; clear hρ; intro w hw; (try dsimp only at hw); go_split_ands; go_simp; try with_reducible rfl)
                case' rest23 => intro af7 Zn Nx
                replace F0 := (Nx.2.2.1 0 rfl).trans F0
                replace F11 := (Nx.2.2.1 11 rfl).trans F11
                replace F12 := (Nx.2.2.1 12 rfl).trans F12
                replace F13 := (Nx.2.2.1 13 rfl).trans F13
                replace F16 := (Nx.2.2.1 16 rfl).trans F16
                clear F86
                have F87 := Nx.2.1
                replace SB := SB.next Nx
                replace D := Nx.2.2.2.trans D
                clear Z Nx
                have Z := Zn
                clear Zn af6
                refine' dqo_pure (d := 88) (by rfl) (by rfl) Z (by rfl) (wanted_not (by rfl)) ?hv24 ?rest24
                case hv24 => (intro ρ hρ; have E0 := (hρ.1 0).trans F0; have Ec := hρ.2.1; have Ef := hρ.2.2.1; clear hρ; intro w hw; (try dsimp only at hw); go_split_ands; go_simp; try with_reducible rfl)
                case' rest24 => intro af8 Zn Nx
                clear F0
                replace F11 := (Nx.2.2.1 11 rfl).trans F11
                replace F12 := (Nx.2.2.1 12 rfl).trans F12
                replace F13 := (Nx.2.2.1 13 rfl).trans F13
                replace F16 := (Nx.2.2.1 16 rfl).trans F16
                replace F87 := (Nx.2.2.1 87 rfl).trans F87
                have F88 := Nx.2.1
                replace SB := SB.next Nx
                replace D := Nx.2.2.2.trans D
                clear Z Nx
                have Z := Zn
                clear Zn af7
                refine' dqo_pure (d := 89) (by rfl) (by rfl) Z (by rfl) (wanted_not (by rfl)) ?hv25 ?rest25
                case hv25 => (intro ρ hρ; have E16 := (hρ.1 16).trans F16; have Ec := hρ.2.1; have Ef := hρ.2.2.1; clear hρ; intro w hw; (try dsimp only at hw); go_split_ands; go_simp; try with_reducible rfl)
                case' rest25 => intro af9 Zn Nx
                replace F11 := (Nx.2.2.1 11 rfl).trans F11
                replace F12 := (Nx.2.2.1 12 rfl).trans F12
                replace F13 := (Nx.2.2.1 13 rfl).trans F13
                clear F16
                replace F87 := (Nx.2.2.1 87 rfl).trans F87
                replace F88 := (Nx.2.2.1 88 rfl).trans F88
                have F89 := Nx.2.1
                replace SB := SB.next Nx
                replace D := Nx.2.2.2.trans D
                clear Z Nx
                have Z := Zn
                clear Zn af8
                refine' dqo_pure (d := 90) (by rfl) (by rfl) Z (by rfl) (wanted_not (by rfl)) ?hv26 ?rest26
                case hv26 => (intro ρ hρ; have E88 := (hρ.1 88).trans F88; have E89 := (hρ.1 89).trans F89; have Ec := hρ.2.1; have Ef := hρ.2.2.1; clear hρ; intro w hw; (try dsimp only at hw); go_split_ands; go_simp; try with_reducible rfl)
                case' rest26 => intro af10 Zn Nx
                replace F11 := (Nx.2.2.1 11 rfl).trans F11
                replace F12 := (Nx.2.2.1 12 rfl).trans F12
                replace F13 := (Nx.2.2.1 13 rfl).trans F13
                replace F87 := (Nx.2.2.1 87 rfl).trans F87
                clear F88
                clear F89
                have F90 := Nx.2.1
                replace SB := SB.next Nx
                replace D := Nx.2.2.2.trans D
                clear Z Nx
                have Z := Zn
                clear Zn af9
                refine' dqo_pure (d := 91) (by rfl) (by rfl) Z (by rfl) (wanted_not (by rfl)) ?hv27 ?rest27
                case hv27 => (intro ρ hρ; have E90 := (hρ.1 90).trans F90; have Ec := hρ.2.1; have Ef := hρ.2.2.1; clear hρ; intro w hw; (try dsimp only at hw); go_split_ands; go_simp; try with_reducible rfl)
                case' rest27 => intro af11 Zn Nx
                replace F11 := (Nx.2.2.1 11 rfl).trans F11
                replace F12 := (Nx.2.2.1 12 rfl).trans F12
                replace F13 := (Nx.2.2.1 13 rfl).trans F13
                replace F87 := (Nx.2.2.1 87 rfl).trans F87
                clear F90
                have F91 := Nx.2.1
                replace SB := SB.next Nx
                replace D := Nx.2.2.2.trans D
                clear Z Nx
                have Z := Zn
                clear Zn af10
                refine' dqo_pure (d := 92) (by rfl) (by rfl) Z (by rfl) (wanted_not (by rfl)) ?hv28 ?rest28
                case hv28 => (intro ρ hρ; have E12 := (hρ.1 12).trans F12; have Ec := hρ.2.1; have Ef := hρ.2.2.1; clear hρ; intro w hw; (try dsimp only at hw); go_split_ands; go_simp; try with_reducible rfl)
                case' rest28 => intro af12 Zn Nx
                replace F11 := (Nx.2.2.1 11 rfl).trans F11
                clear F12
                replace F13 := (Nx.2.2.1 13 rfl).trans F13
                replace F87 := (Nx.2.2.1 87 rfl).trans F87
                replace F91 := (Nx.2.2.1 91 rfl).trans F91
                have F92 := Nx.2.1
                replace SB := SB.next Nx
                replace D := Nx.2.2.2.trans D
                clear Z Nx
                have Z := Zn
                clear Zn af11
                refine' dqo_pure (d := 93) (by rfl) (by rfl) Z (by rfl) (wanted_not (by rfl)) ?hv29 ?rest29
                case hv29 => (intro ρ hρ; have E13 := (hρ.1 13).trans F13; have Ec := hρ.2.1; have Ef := hρ.2.2.1; clear hρ; intro w hw; (try dsimp only at hw); go_split_ands; go_simp; try with_reducible rfl)
                case' rest29 => intro af13 Zn Nx
                replace F11 := (Nx.2.2.1 11 rfl).trans F11
                clear F13
                replace F87 := (Nx.2.2.1 87 rfl).trans F87
                replace F91 := (Nx.2.2.1 91 rfl).trans F91
                replace F92 := (Nx.2.2.1 92 rfl).trans F92
                have F93 := Nx.2.1
                replace SB := SB.next Nx
                replace D := Nx.2.2.2.trans D
                clear Z Nx
                have Z := Zn
                clear Zn af12
                refine' dqo_pure (d := 94) (by rfl) (by rfl) Z (by rfl) (wanted_not (by rfl)) ?hv30 ?rest30
                case hv30 => (intro ρ hρ; have E11 := (hρ.1 11).trans F11; have Ec := hρ.2.1; have Ef := hρ.2.2.1; clear hρ; intro w hw; (try dsimp only at hw); go_split_ands; go_simp; try with_reducible rfl)
                case' rest30 => intro af14 Zn Nx
                clear F11
                replace F87 := (Nx.2.2.1 87 rfl).trans F87
                replace F91 := (Nx.2.2.1 91 rfl).trans F91
                replace F92 := (Nx.2.2.1 92 rfl).trans F92
                replace F93 := (Nx.2.2.1 93 rfl).trans F93
                have F94 := Nx.2.1
                replace SB := SB.next Nx
                replace D := Nx.2.2.2.trans D
                clear Z Nx
                have Z := Zn
                clear Zn af13
                refine' dqo_pure (d := 95) (by rfl) (by rfl) Z (by rfl) (wanted_not (by rfl)) ?hv31 ?rest31
                case hv31 => (intro ρ hρ; have E94 := (hρ.1 94).trans F94; have Ec := hρ.2.1; have Ef := hρ.2.2.1; clear hρ; intro w hw; (try dsimp only at hw); go_split_ands; go_simp; try with_reducible rfl)
                case' rest31 => intro af15 Zn Nx
                replace F87 := (Nx.2.2.1 87 rfl).trans F87
                replace F91 := (Nx.2.2.1 91 rfl).trans F91
                replace F92 := (Nx.2.2.1 92 rfl).trans F92
                replace F93 := (Nx.2.2.1 93 rfl).trans F93
                clear F94
                have F95 := Nx.2.1
                replace SB := SB.next Nx
                replace D := Nx.2.2.2.trans D
                clear Z Nx
                have Z := Zn
                clear Zn af14
                refine' dqo_call (d := 96) (by rfl) (by rfl) Z (by rfl) (wanted_not (by rfl)) ?hv32 ?hc32 ?rest32
                case hv32 => (intro ρ hρ; have E87 := (hρ.1 87).trans F87; have E91 := (hρ.1 91).trans F91; have E92 := (hρ.1 92).trans F92; have E93 := (hρ.1 93).trans F93; have E95 := (hρ.1 95).trans F95; have Ec := hρ.2.1; have Ef := hρ.2.2.1; clear hρ; intro w; go_simp; exact ⟨rfl, rfl⟩)
                case hc32 => exact (fun w hw => calls_gt (WB _))
                case' rest32 => intro af16 Zn Nx
                clear F87
                clear F91
                clear F92
                clear F93
                clear F95
                have F96 := Nx.2.1
                replace SB := SB.next Nx
                replace D := Nx.2.2.2.trans D
                clear Z Nx
                have Z := Zn
                clear Zn af15
                refine dq_nil ?_
                refine fa_box Z (by rfl) ?_
                intro p17 hp17 hd17 af17 Zn Nx
                replace F96 := (Nx.2.2.1 96 rfl).trans F96
                have F17 := Nx.2.1
                replace SB := SB.next Nx
                replace D := Nx.2.2.2.trans D
                clear Z Nx
                have Z := Zn
                clear Zn af16
                refine fa_nil ?_
                rintro W ⟨⟨hb0, hn0, ⟨B1, B1c, B1f, B1l⟩, ⟨B2, B2c, B2f, B2l⟩, ⟨B3, B3c, B3f, B3l⟩⟩, hgl⟩ hbs
                obtain ⟨P17, P17c, P17f, P17l⟩ := Bx.of (hbs (p17, #[.bool false, .int .u64 0, .int .u64 0, .int .u64 0, .int .u64 0]) (by simp))
                clear hd17
                clear hbs hgl
                obtain ⟨ρ, hρ⟩ := rho_of af17
                have F0 := SB.ev (t := 0) hA (by rfl) (by rfl)
                have F1 := SB.ev (t := 1) hA (by rfl) (by rfl)
                have F2 := SB.ev (t := 2) hA (by rfl) (by rfl)
                have F3 := SB.ev (t := 3) hA (by rfl) (by rfl)
                have F4 := SB.ev (t := 4) hA (by rfl) (by rfl)
                have F5 := SB.ev (t := 5) hA (by rfl) (by rfl)
                have F6 := SB.ev (t := 6) hA (by rfl) (by rfl)
                have F7 := SB.ev (t := 7) hA (by rfl) (by rfl)
                have F8 := SB.ev (t := 8) hA (by rfl) (by rfl)
                have F9 := SB.ev (t := 9) hA (by rfl) (by rfl)
                have F10 := SB.ev (t := 10) hA (by rfl) (by rfl)
                have F11 := SB.ev (t := 11) hA (by rfl) (by rfl)
                have F12 := SB.ev (t := 12) hA (by rfl) (by rfl)
                have F13 := SB.ev (t := 13) hA (by rfl) (by rfl)
                have F14 := SB.ev (t := 14) hA (by rfl) (by rfl)
                have F15 := SB.ev (t := 15) hA (by rfl) (by rfl)
                have F16 := SB.ev (t := 16) hA (by rfl) (by rfl)
                have F18 := SB.ev (t := 18) hA (by rfl) (by rfl)
                have F19 := SB.ev (t := 19) hA (by rfl) (by rfl)
                have F20 := SB.ev (t := 20) hA (by rfl) (by rfl)
                have F21 := SB.ev (t := 21) hA (by rfl) (by rfl)
                have F22 := SB.ev (t := 22) hA (by rfl) (by rfl)
                have F23 := SB.ev (t := 23) hA (by rfl) (by rfl)
                have F24 := SB.ev (t := 24) hA (by rfl) (by rfl)
                have F25 := SB.ev (t := 25) hA (by rfl) (by rfl)
                have F26 := SB.ev (t := 26) hA (by rfl) (by rfl)
                have F27 := SB.ev (t := 27) hA (by rfl) (by rfl)
                have F28 := SB.ev (t := 28) hA (by rfl) (by rfl)
                have F29 := SB.ev (t := 29) hA (by rfl) (by rfl)
                have F30 := SB.ev (t := 30) hA (by rfl) (by rfl)
                have F31 := SB.ev (t := 31) hA (by rfl) (by rfl)
                have F32 := SB.ev (t := 32) hA (by rfl) (by rfl)
                have F33 := SB.ev (t := 33) hA (by rfl) (by rfl)
                have F34 := SB.ev (t := 34) hA (by rfl) (by rfl)
                have F35 := SB.ev (t := 35) hA (by rfl) (by rfl)
                have F36 := SB.ev (t := 36) hA (by rfl) (by rfl)
                have F37 := SB.ev (t := 37) hA (by rfl) (by rfl)
                have F38 := SB.ev (t := 38) hA (by rfl) (by rfl)
                have F39 := SB.ev (t := 39) hA (by rfl) (by rfl)
                have F40 := SB.ev (t := 40) hA (by rfl) (by rfl)
                have F41 := SB.ev (t := 41) hA (by rfl) (by rfl)
                have F42 := SB.ev (t := 42) hA (by rfl) (by rfl)
                have F43 := SB.ev (t := 43) hA (by rfl) (by rfl)
                have F44 := SB.ev (t := 44) hA (by rfl) (by rfl)
                have F45 := SB.ev (t := 45) hA (by rfl) (by rfl)
                have F46 := SB.ev (t := 46) hA (by rfl) (by rfl)
                have F47 := SB.ev (t := 47) hA (by rfl) (by rfl)
                have F48 := SB.ev (t := 48) hA (by rfl) (by rfl)
                have F49 := SB.ev (t := 49) hA (by rfl) (by rfl)
                have F50 := SB.ev (t := 50) hA (by rfl) (by rfl)
                have F51 := SB.ev (t := 51) hA (by rfl) (by rfl)
                have F52 := SB.ev (t := 52) hA (by rfl) (by rfl)
                have F53 := SB.ev (t := 53) hA (by rfl) (by rfl)
                have F54 := SB.ev (t := 54) hA (by rfl) (by rfl)
                have F55 := SB.ev (t := 55) hA (by rfl) (by rfl)
                have F56 := SB.ev (t := 56) hA (by rfl) (by rfl)
                have F57 := SB.ev (t := 57) hA (by rfl) (by rfl)
                have F58 := SB.ev (t := 58) hA (by rfl) (by rfl)
                have F59 := SB.ev (t := 59) hA (by rfl) (by rfl)
                have F60 := SB.ev (t := 60) hA (by rfl) (by rfl)
                have F61 := SB.ev (t := 61) hA (by rfl) (by rfl)
                have F62 := SB.ev (t := 62) hA (by rfl) (by rfl)
                have F63 := SB.ev (t := 63) hA (by rfl) (by rfl)
                have F64 := SB.ev (t := 64) hA (by rfl) (by rfl)
                have F65 := SB.ev (t := 65) hA (by rfl) (by rfl)
                have F66 := SB.ev (t := 66) hA (by rfl) (by rfl)
                have F67 := SB.ev (t := 67) hA (by rfl) (by rfl)
                have F68 := SB.ev (t := 68) hA (by rfl) (by rfl)
                have F69 := SB.ev (t := 69) hA (by rfl) (by rfl)
                have F70 := SB.ev (t := 70) hA (by rfl) (by rfl)
                have F71 := SB.ev (t := 71) hA (by rfl) (by rfl)
                have F72 := SB.ev (t := 72) hA (by rfl) (by rfl)
                have F73 := SB.ev (t := 73) hA (by rfl) (by rfl)
                have F74 := SB.ev (t := 74) hA (by rfl) (by rfl)
                have F75 := SB.ev (t := 75) hA (by rfl) (by rfl)
                have F76 := SB.ev (t := 76) hA (by rfl) (by rfl)
                have F77 := SB.ev (t := 77) hA (by rfl) (by rfl)
                have F78 := SB.ev (t := 78) hA (by rfl) (by rfl)
                have F79 := SB.ev (t := 79) hA (by rfl) (by rfl)
                have F80 := SB.ev (t := 80) hA (by rfl) (by rfl)
                have F97 := SB.ev (t := 97) hA (by rfl) (by rfl)
                have F98 := SB.ev (t := 98) hA (by rfl) (by rfl)
                have F99 := SB.ev (t := 99) hA (by rfl) (by rfl)
                have F100 := SB.ev (t := 100) hA (by rfl) (by rfl)
                have F101 := SB.ev (t := 101) hA (by rfl) (by rfl)
                have F102 := SB.ev (t := 102) hA (by rfl) (by rfl)
                have F103 := SB.ev (t := 103) hA (by rfl) (by rfl)
                have F104 := SB.ev (t := 104) hA (by rfl) (by rfl)
                have F105 := SB.ev (t := 105) hA (by rfl) (by rfl)
                have F106 := SB.ev (t := 106) hA (by rfl) (by rfl)
                have F107 := SB.ev (t := 107) hA (by rfl) (by rfl)
                have F108 := SB.ev (t := 108) hA (by rfl) (by rfl)
                have F109 := SB.ev (t := 109) hA (by rfl) (by rfl)
                have F110 := SB.ev (t := 110) hA (by rfl) (by rfl)
                have F111 := SB.ev (t := 111) hA (by rfl) (by rfl)
                have F112 := SB.ev (t := 112) hA (by rfl) (by rfl)
                have F113 := SB.ev (t := 113) hA (by rfl) (by rfl)
                have F114 := SB.ev (t := 114) hA (by rfl) (by rfl)
                have F115 := SB.ev (t := 115) hA (by rfl) (by rfl)
                have F116 := SB.ev (t := 116) hA (by rfl) (by rfl)
                clear SB hA
                have hL := act_lit (l := [_, _, _, _, _, _, _, _, _, _, _, _, _, _, _, _, _, _, _, _, _, _, _, _, _, _, _, _, _, _, _, _, _, _, _, _, _, _, _, _, _, _, _, _, _, _, _, _, _, _, _, _, _, _, _, _, _, _, _, _, _, _, _, _, _, _, _, _, _, _, _, _, _, _, _, _, _, _, _, _, _, ρ (.tmp 81), ρ (.tmp 82), ρ (.tmp 83), ρ (.tmp 84), ρ (.tmp 85), ρ (.tmp 86), ρ (.tmp 87), ρ (.tmp 88), ρ (.tmp 89), ρ (.tmp 90), ρ (.tmp 91), ρ (.tmp 92), ρ (.tmp 93), ρ (.tmp 94), ρ (.tmp 95), _, _, _, _, _, _, _, _, _, _, _, _, _, _, _, _, _, _, _, _, _]) Z D (by rfl) ⟨F0, F1, F2, F3, F4, F5, F6, F7, F8, F9, F10, F11, F12, F13, F14, F15, F16, F17, F18, F19, F20, F21, F22, F23, F24, F25, F26, F27, F28, F29, F30, F31, F32, F33, F34, F35, F36, F37, F38, F39, F40, F41, F42, F43, F44, F45, F46, F47, F48, F49, F50, F51, F52, F53, F54, F55, F56, F57, F58, F59, F60, F61, F62, F63, F64, F65, F66, F67, F68, F69, F70, F71, F72, F73, F74, F75, F76, F77, F78, F79, F80, hρ 81, hρ 82, hρ 83, hρ 84, hρ 85, hρ 86, hρ 87, hρ 88, hρ 89, hρ 90, hρ 91, hρ 92, hρ 93, hρ 94, hρ 95, F96, F97, F98, F99, F100, F101, F102, F103, F104, F105, F106, F107, F108, F109, F110, F111, F112, F113, F114, F115, F116, trivial⟩
                clear hρ Z D F17 F96 F0 F1 F2 F3 F4 F5 F6 F7 F8 F9 F10 F11 F12 F13 F14 F15 F16 F18 F19 F20 F21 F22 F23 F24 F25 F26 F27 F28 F29 F30 F31 F32 F33 F34 F35 F36 F37 F38 F39 F40 F41 F42 F43 F44 F45 F46 F47 F48 F49 F50 F51 F52 F53 F54 F55 F56 F57 F58 F59 F60 F61 F62 F63 F64 F65 F66 F67 F68 F69 F70 F71 F72 F73 F74 F75 F76 F77 F78 F79 F80 F97 F98 F99 F100 F101 F102 F103 F104 F105 F106 F107 F108 F109 F110 F111 F112 F113 F114 F115 F116
                subst hL
                simp only [List.drop_succ_cons, List.drop_zero]
                dsimp only at P17 P17c P17f P17l
                have hBW : Below w3.heap.size w3 W := hBi.trans (hb0.mono hBi.size)
                have hp17' : w3.heap.size + 1 + 1 < p17 := by omega
                obtain ⟨n1, n2⟩ := HNN.out
                clear HNN gs1 gs2 gg1 gg2 gg3 WB hT hV hM hBi
                by_cases ht0 : t = 0
                · obtain ⟨hb1, hb2, hb3⟩ := n1 ht0
                  subst hb1
                  have hN2 := hid hb2
                  have hN3 := hid hb3
                  clear n1 n2 CM hcm hb2 hb3
                  (repeat' (first | go_values | go_skip | go_guarded | go_step | go_upon | (simp only [Int.not_lt, Int.not_le] at *; go_simp) | (go_values <;> (try go_simp)) | (go_ite <;> go_prune <;> (try go_simp)) | (split <;> (first | (rename_i hx; exact (hx _ rfl).elim) | go_prune))))
                  go_region
                  all_goals (repeat' (first | go_values | go_skip | go_guarded | go_step | go_upon | (simp only [Int.not_lt, Int.not_le] at *; go_simp) | (go_values <;> (try go_simp)) | (go_ite <;> go_prune <;> (try go_simp)) | (split <;> (first | (rename_i hx; exact (hx _ rfl).elim) | go_prune))))
                  all_goals go_roundw
                  all_goals (first | (case rel => exact ⟨t + 1, by rw [hN2.out], by rw [show ((fr + (t + 1) : Nat) : Int) = (q : Int) + 1 by have := HQ.out; omega], by omega, by (repeat' (first | (with_reducible assumption) | ((with_reducible refine HB.new _ _ _ ?_) <;> (go_size; done)) | (with_reducible refine HB.old (by go_size) ?_) | (with_reducible refine HB.drew ?_) | (with_reducible refine HB.over5 ?_) | (with_reducible refine HB.over4 ?_) | (with_reducible refine HB.setne (by first | go_size | (dsimp only; omega)) ?_) | (with_reducible refine HN.set ?_) | (with_reducible refine HN.setne (by first | go_size | (dsimp only; omega)) ?_) | (with_reducible refine HN.drew ?_) | (with_reducible refine HN.old (by go_size) ?_) | (with_reducible exact HN.of5 (by assumption)) | (with_reducible exact HN.new5 _ _ (by go_size)) | (with_reducible exact HN.of4 (by assumption)) | (with_reducible exact HN.new4 _ _ (by go_size)))), by (repeat' (first | (with_reducible assumption) | ((with_reducible refine HB.new _ _ _ ?_) <;> (go_size; done)) | (with_reducible refine HB.old (by go_size) ?_) | (with_reducible refine HB.drew ?_) | (with_reducible refine HB.over5 ?_) | (with_reducible refine HB.over4 ?_) | (with_reducible refine HB.setne (by first | go_size | (dsimp only; omega)) ?_) | (with_reducible refine HN.set ?_) | (with_reducible refine HN.setne (by first | go_size | (dsimp only; omega)) ?_) | (with_reducible refine HN.drew ?_) | (with_reducible refine HN.old (by go_size) ?_) | (with_reducible exact HN.of5 (by assumption)) | (with_reducible exact HN.new5 _ _ (by go_size)) | (with_reducible exact HN.of4 (by assumption)) | (with_reducible exact HN.new4 _ _ (by go_size)))), by rw [hN3.out]; (repeat' (first | (with_reducible assumption) | ((with_reducible refine HB.new _ _ _ ?_) <;> (go_size; done)) | (with_reducible refine HB.old (by go_size) ?_) | (with_reducible refine HB.drew ?_) | (with_reducible refine HB.over5 ?_) | (with_reducible refine HB.over4 ?_) | (with_reducible refine HB.setne (by first | go_size | (dsimp only; omega)) ?_) | (with_reducible refine HN.set ?_) | (with_reducible refine HN.setne (by first | go_size | (dsimp only; omega)) ?_) | (with_reducible refine HN.drew ?_) | (with_reducible refine HN.old (by go_size) ?_) | (with_reducible exact HN.of5 (by assumption)) | (with_reducible exact HN.new5 _ _ (by go_size)) | (with_reducible exact HN.of4 (by assumption)) | (with_reducible exact HN.new4 _ _ (by go_size)))), by (repeat' (first | (with_reducible assumption) | (with_reducible exact Below.refl _ _) | (with_reducible refine Below.alloc ?_ ?_ _) | (with_reducible refine Below.setCell ?_ ?_ _) | (with_reducible refine Below.drew ?_) | (with_reducible refine below_more ?_ (by with_reducible assumption)) | go_size | omega | (with_reducible refine below_drewN ?_)))⟩) | (case measure => simp [intOf]; omega))
                · obtain ⟨hb1, hb2, hb3⟩ := n2 ht0
                  have hbn : ¬ be < 0 := by omega
                  have hN2 := hid hb2
                  have hN3 := hid hb3
                  have hcm2 := hid hcm
                  clear n1 n2 hb2 hb3 hb1 hcm
                  (repeat' (first | go_values | go_skip | go_guarded | go_step | go_upon | (simp only [Int.not_lt, Int.not_le] at *; go_simp) | (go_values <;> (try go_simp)) | (go_ite <;> go_prune <;> (try go_simp)) | (split <;> (first | (rename_i hx; exact (hx _ rfl).elim) | go_prune))))
                  go_at_call 33
                  refine (CM _).mono ?_
                  rintro e w9 ⟨rfl, hbw9⟩
                  have hT : HB w9 w3.heap.size #[.bool (sg (T)), .int .u64 (lb0 (ab (T))), .int .u64 (lb1 (ab (T))), .int .u64 (lb2 (ab (T))), .int .u64 (lb3 (ab (T)))] := by refine HB.below ?_ hbw9; (repeat' (first | (with_reducible assumption) | ((with_reducible refine HB.new _ _ _ ?_) <;> (go_size; done)) | (with_reducible refine HB.old (by go_size) ?_) | (with_reducible refine HB.drew ?_) | (with_reducible refine HB.over5 ?_) | (with_reducible refine HB.over4 ?_) | (with_reducible refine HB.setne (by first | go_size | (dsimp only; omega)) ?_) | (with_reducible refine HN.set ?_) | (with_reducible refine HN.setne (by first | go_size | (dsimp only; omega)) ?_) | (with_reducible refine HN.drew ?_) | (with_reducible refine HN.old (by go_size) ?_) | (with_reducible exact HN.of5 (by assumption)) | (with_reducible exact HN.new5 _ _ (by go_size)) | (with_reducible exact HN.of4 (by assumption)) | (with_reducible exact HN.new4 _ _ (by go_size))))
                  have hV : HB w9 (w3.heap.size + 1) #[.bool (sg (V)), .int .u64 (lb0 (ab (V))), .int .u64 (lb1 (ab (V))), .int .u64 (lb2 (ab (V))), .int .u64 (lb3 (ab (V)))] := by refine HB.below ?_ hbw9; (repeat' (first | (with_reducible assumption) | ((with_reducible refine HB.new _ _ _ ?_) <;> (go_size; done)) | (with_reducible refine HB.old (by go_size) ?_) | (with_reducible refine HB.drew ?_) | (with_reducible refine HB.over5 ?_) | (with_reducible refine HB.over4 ?_) | (with_reducible refine HB.setne (by first | go_size | (dsimp only; omega)) ?_) | (with_reducible refine HN.set ?_) | (with_reducible refine HN.setne (by first | go_size | (dsimp only; omega)) ?_) | (with_reducible refine HN.drew ?_) | (with_reducible refine HN.old (by go_size) ?_) | (with_reducible exact HN.of5 (by assumption)) | (with_reducible exact HN.new5 _ _ (by go_size)) | (with_reducible exact HN.of4 (by assumption)) | (with_reducible exact HN.new4 _ _ (by go_size))))
                  have hM : HB w9 (w3.heap.size + 1 + 1) #[.bool (sg (mo)), .int .u64 (lb0 (ab (mo))), .int .u64 (lb1 (ab (mo))), .int .u64 (lb2 (ab (mo))), .int .u64 (lb3 (ab (mo)))] := by refine HB.below ?_ hbw9; (repeat' (first | (with_reducible assumption) | ((with_reducible refine HB.new _ _ _ ?_) <;> (go_size; done)) | (with_reducible refine HB.old (by go_size) ?_) | (with_reducible refine HB.drew ?_) | (with_reducible refine HB.over5 ?_) | (with_reducible refine HB.over4 ?_) | (with_reducible refine HB.setne (by first | go_size | (dsimp only; omega)) ?_) | (with_reducible refine HN.set ?_) | (with_reducible refine HN.setne (by first | go_size | (dsimp only; omega)) ?_) | (with_reducible refine HN.drew ?_) | (with_reducible refine HN.old (by go_size) ?_) | (with_reducible exact HN.of5 (by assumption)) | (with_reducible exact HN.new5 _ _ (by go_size)) | (with_reducible exact HN.of4 (by assumption)) | (with_reducible exact HN.new4 _ _ (by go_size))))
                  have hN : HB w9 p17 #[.bool (sg (ar)), .int .u64 (lb0 (ab (ar))), .int .u64 (lb1 (ab (ar))), .int .u64 (lb2 (ab (ar))), .int .u64 (lb3 (ab (ar)))] := by refine HB.below ?_ hbw9; (repeat' (first | (with_reducible assumption) | ((with_reducible refine HB.new _ _ _ ?_) <;> (go_size; done)) | (with_reducible refine HB.old (by go_size) ?_) | (with_reducible refine HB.drew ?_) | (with_reducible refine HB.over5 ?_) | (with_reducible refine HB.over4 ?_) | (with_reducible refine HB.setne (by first | go_size | (dsimp only; omega)) ?_) | (with_reducible refine HN.set ?_) | (with_reducible refine HN.setne (by first | go_size | (dsimp only; omega)) ?_) | (with_reducible refine HN.drew ?_) | (with_reducible refine HN.old (by go_size) ?_) | (with_reducible exact HN.of5 (by assumption)) | (with_reducible exact HN.new5 _ _ (by go_size)) | (with_reducible exact HN.of4 (by assumption)) | (with_reducible exact HN.new4 _ _ (by go_size))))
                  have hB9 : Below w3.heap.size w3 w9 := by (repeat' (first | (with_reducible assumption) | (with_reducible exact Below.refl _ _) | (with_reducible refine Below.alloc ?_ ?_ _) | (with_reducible refine Below.setCell ?_ ?_ _) | (with_reducible refine Below.drew ?_) | (with_reducible refine below_more ?_ (by with_reducible assumption)) | go_size | omega | (with_reducible refine below_drewN ?_)))
                  clear P17 P17c P17f P17l B1 B1c B1f B1l B2 B2c B2f B2l B3 B3c B3f B3l hbw9 CM hb0
                  by_cases hma : mo < ar
                  · have hc0 : 0 < c := hcm2.out.2 hma
                    have hN4 := hid (hN2.out hma)
                    clear hN2 hN3 hcm2
                    obtain ⟨N1, N1c, N1f, N1l⟩ := Bx.of hN
                    obtain ⟨R1, R1c, R1f, R1l⟩ := Bx.of hM
                    have hmx : Try.prog.follows .mixedOrders = true := by kernel_rfl
                    (repeat' (first | go_values | go_skip | go_guarded | go_step | go_upon | (simp only [Int.not_lt, Int.not_le] at *; go_simp) | (go_values <;> (try go_simp)) | (go_ite <;> go_prune <;> (try go_simp)) | (split <;> (first | (rename_i hx; exact (hx _ rfl).elim) | go_prune))))
                    go_region
                    all_goals (repeat' (first | go_values | go_skip | go_guarded | go_step | go_upon | (simp only [Int.not_lt, Int.not_le] at *; go_simp) | (go_values <;> (try go_simp)) | (go_ite <;> go_prune <;> (try go_simp)) | (split <;> (first | (rename_i hx; exact (hx _ rfl).elim) | go_prune))))
                    all_goals go_roundw
                    all_goals (first | (case rel => exact ⟨t + 1, by rw [hN4.out.1], by rw [show ((fr + (t + 1) : Nat) : Int) = (q : Int) + 1 by have := HQ.out; omega], by omega, by (repeat' (first | (with_reducible assumption) | ((with_reducible refine HB.new _ _ _ ?_) <;> (go_size; done)) | (with_reducible refine HB.old (by go_size) ?_) | (with_reducible refine HB.drew ?_) | (with_reducible refine HB.over5 ?_) | (with_reducible refine HB.over4 ?_) | (with_reducible refine HB.setne (by first | go_size | (dsimp only; omega)) ?_) | (with_reducible refine HN.set ?_) | (with_reducible refine HN.setne (by first | go_size | (dsimp only; omega)) ?_) | (with_reducible refine HN.drew ?_) | (with_reducible refine HN.old (by go_size) ?_) | (with_reducible exact HN.of5 (by assumption)) | (with_reducible exact HN.new5 _ _ (by go_size)) | (with_reducible exact HN.of4 (by assumption)) | (with_reducible exact HN.new4 _ _ (by go_size)))), by (repeat' (first | (with_reducible assumption) | ((with_reducible refine HB.new _ _ _ ?_) <;> (go_size; done)) | (with_reducible refine HB.old (by go_size) ?_) | (with_reducible refine HB.drew ?_) | (with_reducible refine HB.over5 ?_) | (with_reducible refine HB.over4 ?_) | (with_reducible refine HB.setne (by first | go_size | (dsimp only; omega)) ?_) | (with_reducible refine HN.set ?_) | (with_reducible refine HN.setne (by first | go_size | (dsimp only; omega)) ?_) | (with_reducible refine HN.drew ?_) | (with_reducible refine HN.old (by go_size) ?_) | (with_reducible exact HN.of5 (by assumption)) | (with_reducible exact HN.new5 _ _ (by go_size)) | (with_reducible exact HN.of4 (by assumption)) | (with_reducible exact HN.new4 _ _ (by go_size)))), by rw [hN4.out.2]; (repeat' (first | (with_reducible assumption) | ((with_reducible refine HB.new _ _ _ ?_) <;> (go_size; done)) | (with_reducible refine HB.old (by go_size) ?_) | (with_reducible refine HB.drew ?_) | (with_reducible refine HB.over5 ?_) | (with_reducible refine HB.over4 ?_) | (with_reducible refine HB.setne (by first | go_size | (dsimp only; omega)) ?_) | (with_reducible refine HN.set ?_) | (with_reducible refine HN.setne (by first | go_size | (dsimp only; omega)) ?_) | (with_reducible refine HN.drew ?_) | (with_reducible refine HN.old (by go_size) ?_) | (with_reducible exact HN.of5 (by assumption)) | (with_reducible exact HN.new5 _ _ (by go_size)) | (with_reducible exact HN.of4 (by assumption)) | (with_reducible exact HN.new4 _ _ (by go_size)))), by (repeat' (first | (with_reducible assumption) | (with_reducible exact Below.refl _ _) | (with_reducible refine Below.alloc ?_ ?_ _) | (with_reducible refine Below.setCell ?_ ?_ _) | (with_reducible refine Below.drew ?_) | (with_reducible refine below_more ?_ (by with_reducible assumption)) | go_size | omega | (with_reducible refine below_drewN ?_)))⟩) | (case measure => simp [intOf]; omega))
                  · have hc0 : ¬ 0 < c := fun h => hma (hcm2.out.1 h)
                    have hN4 := hid (hN3.out (by omega))
                    clear hN2 hN3 hcm2
                    (repeat' (first | go_values | go_skip | go_guarded | go_step | go_upon | (simp only [Int.not_lt, Int.not_le] at *; go_simp) | (go_values <;> (try go_simp)) | (go_ite <;> go_prune <;> (try go_simp)) | (split <;> (first | (rename_i hx; exact (hx _ rfl).elim) | go_prune))))
                    go_roundw
                    case rel => exact ⟨t + 1, by rw [hN4.out.1], by rw [show ((fr + (t + 1) : Nat) : Int) = (q : Int) + 1 by have := HQ.out; omega], by omega, by (repeat' (first | (with_reducible assumption) | ((with_reducible refine HB.new _ _ _ ?_) <;> (go_size; done)) | (with_reducible refine HB.old (by go_size) ?_) | (with_reducible refine HB.drew ?_) | (with_reducible refine HB.over5 ?_) | (with_reducible refine HB.over4 ?_) | (with_reducible refine HB.setne (by first | go_size | (dsimp only; omega)) ?_) | (with_reducible refine HN.set ?_) | (with_reducible refine HN.setne (by first | go_size | (dsimp only; omega)) ?_) | (with_reducible refine HN.drew ?_) | (with_reducible refine HN.old (by go_size) ?_) | (with_reducible exact HN.of5 (by assumption)) | (with_reducible exact HN.new5 _ _ (by go_size)) | (with_reducible exact HN.of4 (by assumption)) | (with_reducible exact HN.new4 _ _ (by go_size)))), by (repeat' (first | (with_reducible assumption) | ((with_reducible refine HB.new _ _ _ ?_) <;> (go_size; done)) | (with_reducible refine HB.old (by go_size) ?_) | (with_reducible refine HB.drew ?_) | (with_reducible refine HB.over5 ?_) | (with_reducible refine HB.over4 ?_) | (with_reducible refine HB.setne (by first | go_size | (dsimp only; omega)) ?_) | (with_reducible refine HN.set ?_) | (with_reducible refine HN.setne (by first | go_size | (dsimp only; omega)) ?_) | (with_reducible refine HN.drew ?_) | (with_reducible refine HN.old (by go_size) ?_) | (with_reducible exact HN.of5 (by assumption)) | (with_reducible exact HN.new5 _ _ (by go_size)) | (with_reducible exact HN.of4 (by assumption)) | (with_reducible exact HN.new4 _ _ (by go_size)))), by rw [hN4.out.2]; (repeat' (first | (with_reducible assumption) | ((with_reducible refine HB.new _ _ _ ?_) <;> (go_size; done)) | (with_reducible refine HB.old (by go_size) ?_) | (with_reducible refine HB.drew ?_) | (with_reducible refine HB.over5 ?_) | (with_reducible refine HB.over4 ?_) | (with_reducible refine HB.setne (by first | go_size | (dsimp only; omega)) ?_) | (with_reducible refine HN.set ?_) | (with_reducible refine HN.setne (by first | go_size | (dsimp only; omega)) ?_) | (with_reducible refine HN.drew ?_) | (with_reducible refine HN.old (by go_size) ?_) | (with_reducible exact HN.of5 (by assumption)) | (with_reducible exact HN.new5 _ _ (by go_size)) | (with_reducible exact HN.of4 (by assumption)) | (with_reducible exact HN.new4 _ _ (by go_size)))), by (repeat' (first | (with_reducible assumption) | (with_reducible exact Below.refl _ _) | (with_reducible refine Below.alloc ?_ ?_ _) | (with_reducible refine Below.setCell ?_ ?_ _) | (with_reducible refine Below.drew ?_) | (with_reducible refine below_more ?_ (by with_reducible assumption)) | go_size | omega | (with_reducible refine below_drewN ?_)))⟩
                    case measure => simp [intOf]; omega
              · obtain rfl : t = tt - fr := by omega
                have hbv : bestr f fr (tt - fr) = ((fr + bi : Nat) : Int) := by unfold bestr; rw [if_neg (by omega), HB2.out]
                rw [hbv, show fr + (tt - fr) = tt by omega]
                have hO4 := hO3.kept (gt_below hBi none) (Classical.em _)
                have hszW := hBB.size
                clear hbv
                (repeat' (first | (go_big_may; (first | (at_builtin; refine wpList_append_own _ rfl _ _ 28 rfl w2.heap.size 3 i0 (.int .i64 0) 1 8 Try.underlying28 hi hz0 hz1 hz2 rfl (by decide) _ _ _ rfl (hO4.alloc _) ⟨_, 0, none⟩ 1 1 _ rfl rfl (fun j u h => one_cell _ _ _ j u h) (by intro u hu; simp at hu; subst hu; rfl) (by unfold maxLen; omega) (by omega) (by simp; omega) ?_; intro v' w5 hown' hgrow _))) | go_values | go_skip | go_guarded | go_step | go_upon | (simp only [Int.not_lt, Int.not_le] at *; go_simp) | (go_values <;> (try go_simp)) | (go_ite <;> go_prune <;> (try go_simp)) | (split <;> (first | (rename_i hx; exact (hx _ rfl).elim) | go_prune))))
                have hb5 : Below w2.heap.size w2 w5 := (hBB.alloc hszW _).trans (app_below (hO4.alloc _) hgrow (Nat.le_refl _) (by simp; omega))
                clear hgrow
                go_roundw
                case rel => exact ⟨j + 1, by simp, by omega, by rw [HCH.out, List.map_append]; exact hown', hb5⟩
                case measure => simp [intOf]; omega
        · obtain rfl : j = K - 2 := by omega
          have hl1 : ¬ ((K - 2 : Nat) : Int) + 1 < (K - 1 : Nat) := by omega
          have hsz2 := hB.size
          (repeat' (first | (go_big_may; (first | (at_builtin; refine wpList_append_own _ rfl _ _ 28 rfl w2.heap.size 3 i0 (.int .i64 0) 1 8 Try.underlying28 hi hz0 hz1 hz2 rfl (by decide) _ _ _ rfl (hO.alloc _) ⟨_, 0, none⟩ 1 1 _ rfl rfl (fun j u h => one_cell _ _ _ j u h) (by intro u hu; simp at hu; subst hu; rfl) (by unfold maxLen; omega) (by omega) (by simp; omega) ?_; intro v' w5 hown' hgrow _))) | go_values | go_skip | go_guarded | go_step | go_upon | (simp only [Int.not_lt, Int.not_le] at *; go_simp) | (go_values <;> (try go_simp)) | (go_ite <;> go_prune <;> (try go_simp)) | (split <;> (first | (rename_i hx; exact (hx _ rfl).elim) | go_prune))))
          have hb5 : Below w2.heap.size w2 w5 := (hB.alloc hsz2 _).trans (app_below (hO.alloc _) hgrow (Nat.le_refl _) (by simp; omega))
          have hsw2 := hBw2.size
          clear hgrow
          refine bodyPost_ret (v := .tuple #[v', .int .i64 0]) ?_ rfl ⟨_, rfl, ?_, hBw2.trans (hb5.mono hsw2)⟩
          · simp [results, Try.results54, go_sem]
          · simp only [List.length_append, List.length_cons, List.length_nil, List.map_append, List.map_cons, List.map_nil, chs_len, Nat.zero_add]
            exact own_base hown' hsw2
    · rw [h] at CB
      simp only [h, Bool.false_eq_true, if_false] at CB ⊢
      clear h hI
      go_enter Try.func54, Try.ntmps54
      (repeat' (first | go_values | go_skip | go_guarded | go_step | go_upon | (simp only [Int.not_lt, Int.not_le] at *; go_simp) | (go_values <;> (try go_simp)) | (go_ite <;> go_prune <;> (try go_simp)) | (split <;> (first | (rename_i hx; exact (hx _ rfl).elim) | go_prune))))
      refine CC.mono ?_
      rintro e w1 ⟨rfl, hb1⟩
      clear CC
      (repeat' (first | go_values | go_skip | go_guarded | go_step | go_upon | (simp only [Int.not_lt, Int.not_le] at *; go_simp) | (go_values <;> (try go_simp)) | (go_ite <;> go_prune <;> (try go_simp)) | (split <;> (first | (rename_i hx; exact (hx _ rfl).elim) | go_prune))))
      go_at_call 30
      refine (CB _).mono ?_
      rintro e w2 ⟨rfl, hb2⟩
      clear CB
      (repeat' (first | go_values | go_skip | go_guarded | go_step | go_upon | (simp only [Int.not_lt, Int.not_le] at *; go_simp) | (go_values <;> (try go_simp)) | (go_ite <;> go_prune <;> (try go_simp)) | (split <;> (first | (rename_i hx; exact (hx _ rfl).elim) | go_prune))))
      refine bodyPost_ret (v := .tuple #[.slice none 0 0, .int .i64 2]) ?_ rfl ⟨_, rfl, World.ownsRow_nil _ _ _ _, by (repeat' (first | (with_reducible assumption) | (with_reducible exact Below.refl _ _) | (with_reducible refine Below.alloc ?_ ?_ _) | (with_reducible refine Below.setCell ?_ ?_ _) | (with_reducible refine Below.drew ?_) | (with_reducible refine below_more ?_ (by with_reducible assumption)) | go_size | omega | (with_reducible refine below_drewN ?_)))⟩
      simp [results, Try.results54, go_sem]
end Go.Proofs.Ythcboomdkpiflaa
