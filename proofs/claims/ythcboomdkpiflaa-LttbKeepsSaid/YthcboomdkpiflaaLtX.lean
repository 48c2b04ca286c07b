/- lttb.Indexes. -/
import Derived.Test.YthcboomdkpiflaaRows
import Derived.Test.YthcboomdkpiflaaLtI
import Derived.Test.YthcboomdkpiflaaLtL
import Derived.Test.YthcboomdkpiflaaDriftO
import Derived.WalkKit
import Derived.ProofKit
import Derived.WalkLawsBesides
import Derived.WalkSpells
import Derived.RegionTactic
import Derived.ChangeAlike
import Derived.BigRegion
import Derived.Outline
import Derived.Handy
import Derived.Deep.QuietTactic
import Derived.BigQuiet
namespace Go.Proofs.Ythcboomdkpiflaa
open Go.ChangeShapes Go.WideShapes Go.ChangeAt Go.RowKit
set_option linter.unusedVariables false
set_option linter.unusedSimpArgs false

theorem keep0 {w W W' : World} {m n : Nat} (h : Below w.heap.size w W ∧ n ≤ W.heap.size ∧ True) (hb : Below m W W') (hm : m = W.heap.size) : Below w.heap.size w W' ∧ n ≤ W'.heap.size ∧ True := by
  subst hm
  exact ⟨below_more h.1 hb, Nat.le_trans h.2.1 hb.size, trivial⟩
theorem SlS.cut {W : World} {b off cap n : Nat} {ss : Smps} (h : SlS W (.slice (some ⟨b, off, none⟩) n cap) ss) {i j : Nat} (hij : i < j) (hj : j ≤ ss.length) : SlS W (.slice (some ⟨b, off + i * 2, none⟩) (j - i) (cap - i)) (cut ss i j) := by
  obtain ⟨a, cap', e, h1, h2, h3, hc⟩ := h
  cases e
  refine ⟨_, _, by rw [cut_len hj], by rw [cut_len hj]; omega, by unfold maxLen at *; omega, fun s hs => h3 s (List.mem_of_mem_take (List.mem_of_mem_drop hs)), fun hl => ?_⟩
  obtain ⟨b', off', e, hb, hcs⟩ := hc (by omega)
  cases e
  refine ⟨_, _, rfl, hb, fun t ht => ?_⟩
  rw [cut_len hj] at ht
  rw [cut_get hj ht, show off + i * 2 + t * 2 = off + (i + t) * 2 by omega]
  exact hcs (i + t) (by omega)
def IxP (ss : Smps) (k : Int) (w : World) (e : Ending) (w' : World) : Prop :=
  ∃ v, e = .returned (.tuple #[v, .int .i64 (ixe ss k)]) ∧ w'.ownsRow w.heap.size 3 1 v (ixs ss k).length ((ixs ss k).map (Value.int .i64)) ∧ Below w.heap.size w w'
theorem chs_i64 {ss : Smps} {k : Nat} (hk : 3 ≤ k) (hn : k ≤ ss.length) (hl : ss.length ≤ 1000) {j : Nat} (hj : j ≤ k - 2) : ∀ z ∈ chs ss k j, 0 ≤ z ∧ z < ss.length := fun z hz => by
  unfold chs at hz
  obtain ⟨i, hi, rfl⟩ := List.mem_map.1 hz
  have := chosen_in hk hn (j := i) (by have := List.mem_range.1 hi; omega)
  omega
/-- One round: the slices, the next index. -/
theorem round_plain {ss : Smps} {K j : Nat} (hk : 3 ≤ K) (hn : K ≤ ss.length) (hj : j < K - 2) :
    ∃ fr tt en at_ bi : Nat, bk ss.length K j = fr ∧ bk ss.length K (j + 1) = tt ∧ bke ss.length K j = en ∧ chosen ss K j = at_ ∧ fr < tt ∧ tt < en ∧ en ≤ ss.length ∧ at_ < ss.length ∧ 1 ≤ fr ∧ (best (ss.getD at_ (0, 0)) (cut ss fr tt) (cut ss tt en) (cut ss fr tt).length).1 = bi ∧ bi < tt - fr ∧ chs ss K (j + 1) = chs ss K j ++ [((fr + bi : Nat) : Int)] ∧ (j + 2 < K - 1 → bk ss.length K (j + 2) = en) ∧ (¬ j + 2 < K - 1 → en = ss.length) := by
  have hb := bke_in hk hn (j := j) (by omega)
  have hl := bk_le hk hn (j := j + 1) (by omega)
  have hp := pickb_in hk hn j (chosen ss K j)
  have hf := bk_le hk hn (j := j) (by omega)
  refine ⟨_, _, _, _, _, rfl, rfl, rfl, rfl, bk_step hk hn j, hb.1, hb.2, chosen_in hk hn (by omega), hf.1, rfl, ?_, ?_, fun h => ?_, fun h => ?_⟩
  · rw [cut_len (by omega)]
    unfold pickb at hp
    omega
  · rw [chs_succ]
    unfold pickb
    rw [cut_len (by omega)]
  · unfold bke; rw [if_pos h]
  · unfold bke; rw [if_neg h]
theorem cnt_get (ss : Smps) {K j : Nat} {at_ : Nat} (h : chosen ss K j = at_) : (chs ss K j).getD j 0 = (at_ : Int) := by rw [chs_get _ _ _ _ (Nat.le_refl j), h]


set_option maxHeartbeats 8000000 in
set_option maxRecDepth 100000 in
theorem indexes_any {v : Value} {ss : Smps} (k : Int) (hk : I64 k) (w : World) (hs : SlS w v ss) (hn : ss.length ≤ 1000) : Calls Try.prog 29 #[v, .int .i64 k] w (IxP ss k w) := by
  have CC := check_any w hs hn
  have CB := fun W => bounds_any ss.length hn k hk W
  unfold IxP BndP at *
  obtain ⟨a, cap, rfl, -⟩ := id hs
  unfold ixs ixe
  cases hI : incr ss
  · rw [hI] at CC
    clear hI CB
    simp only [Bool.false_eq_true, if_false] at CC ⊢
    go_enter Try.func29, Try.ntmps29
    (repeat' (first | go_values | go_skip | go_guarded | go_step | go_upon | (simp only [Int.not_lt, Int.not_le] at *; go_simp) | (go_values <;> (try go_simp)) | (go_ite <;> go_prune <;> (try go_simp)) | (split <;> (first | (rename_i hx; exact (hx _ rfl).elim) | go_prune))))
    refine CC.mono ?_
    rintro e w1 ⟨rfl, hb1⟩
    (repeat' (first | go_values | go_skip | go_guarded | go_step | go_upon | (simp only [Int.not_lt, Int.not_le] at *; go_simp) | (go_values <;> (try go_simp)) | (go_ite <;> go_prune <;> (try go_simp)) | (split <;> (first | (rename_i hx; exact (hx _ rfl).elim) | go_prune))))
    refine bodyPost_ret (v := .tuple #[.slice none 0 0, .int .i64 7]) ?_ rfl ⟨_, rfl, World.ownsRow_nil _ _ _ _, by (repeat' (first | (with_reducible assumption) | (with_reducible exact Below.refl _ _) | (with_reducible refine Below.alloc ?_ ?_ _) | (with_reducible refine Below.setCell ?_ ?_ _) | (with_reducible refine Below.drew ?_) | (with_reducible refine below_more ?_ (by with_reducible assumption)) | go_size | omega | (with_reducible refine below_drewN ?_)))⟩
    simp [results, Try.results29, go_sem]
  · rw [hI] at CC
    simp only [if_true] at CC ⊢
    rcases bok_cases ss.length k with ⟨h, h1, h2, h3⟩ | ⟨h, hc⟩
    · rw [h] at CB
      simp only [h, if_true] at CB ⊢
      clear h h3 hk hI
      obtain ⟨K, rfl⟩ : ∃ K : Nat, k = K := ⟨k.toNat, by omega⟩
      have h1' : 3 ≤ K := by omega
      have h2' : K ≤ ss.length := by omega
      rw [Int.toNat_natCast] at CB ⊢
      obtain ⟨i0, hi, hz0, hz1, hz2⟩ := info_parts info_int
      go_enter Try.func29, Try.ntmps29
      (repeat' (first | go_values | go_skip | go_guarded | go_step | go_upon | (simp only [Int.not_lt, Int.not_le] at *; go_simp) | (go_values <;> (try go_simp)) | (go_ite <;> go_prune <;> (try go_simp)) | (split <;> (first | (rename_i hx; exact (hx _ rfl).elim) | go_prune))))
      refine CC.mono ?_
      rintro e w1 ⟨rfl, hb1⟩
      clear CC
      (repeat' (first | go_values | go_skip | go_guarded | go_step | go_upon | (simp only [Int.not_lt, Int.not_le] at *; go_simp) | (go_values <;> (try go_simp)) | (go_ite <;> go_prune <;> (try go_simp)) | (split <;> (first | (rename_i hx; exact (hx _ rfl).elim) | go_prune))))
      go_at_call 57
      refine (CB _).mono ?_
      rintro e w2 ⟨⟨vb, rfl, hvb⟩, hb2⟩
      clear CB
      have hBw2 : Below w.heap.size w w2 := by (repeat' (first | (with_reducible assumption) | (with_reducible exact Below.refl _ _) | (with_reducible refine Below.alloc ?_ ?_ _) | (with_reducible refine Below.setCell ?_ ?_ _) | (with_reducible refine Below.drew ?_) | (with_reducible refine below_more ?_ (by with_reducible assumption)) | go_size | omega | (with_reducible refine below_drewN ?_)))
      have hvz : SlZ w2 .i64 vb (bks ss.length K) := slz_own (by rw [bks_len]; exact hvb) (fun z hz => by
        unfold bks at hz
        obtain ⟨i, hi, rfl⟩ := List.mem_map.1 hz
        have := bk_le h1' h2' (j := i) (by have := List.mem_range.1 hi; omega)
        exact ⟨by omega, by omega⟩)
      have hs2 := hs.below hBw2
      obtain ⟨avb, lvb, cb, rfl, hbl, hbc, hbm, -, hbcell⟩ := hvz
      rw [bks_len] at hbl
      subst hbl
      obtain ⟨gb, ob, rfl, hgb, hbcs⟩ := hbcell (by omega)
      have HBC := hid (fun (j : Nat) (h : j < K - 1) (W : World) (hW : Below w2.heap.size w2 W) => (hW.cell (p := ⟨gb, ob + j, none⟩) hgb).trans (bks_get (n := ss.length) h ▸ hbcs j h))
      obtain ⟨a', cap', e, hlc, hcm, hin, hcell⟩ := id hs2
      cases e
      obtain ⟨b, off, rfl, hb, hcs⟩ := hcell (by omega)
      have HCS := hid (fun (i : Nat) (h : i < ss.length) (W : World) (hW : Below w2.heap.size w2 W) => And.intro ((hW.cell (p := ⟨b, off + i * 2, none⟩) hb).trans (hcs i h).1) ((hW.cell (p := ⟨b, off + i * 2 + 1, none⟩) hb).trans (hcs i h).2))
      have HI := hid hin
      have HS := hid hs2
      have hsz2 := hBw2.size
      have hcapm : cap ≤ 9223372036854775807 := by simpa [maxLen] using hcm
      clear hvb hs hbcell hbcs hcell hcs hin hs2 hb1 hb2 hcm hbm
      (repeat' (first | go_values | go_skip | go_guarded | go_step | go_upon | (simp only [Int.not_lt, Int.not_le] at *; go_simp) | (go_values <;> (try go_simp)) | (go_ite <;> go_prune <;> (try go_simp)) | (split <;> (first | (rename_i hx; exact (hx _ rfl).elim) | go_prune))))
      go_loopw [9, 31] (fun out i wr => ∃ j : Nat, i = .int .i64 j ∧ j ≤ K - 2 ∧ wr.ownsRow w2.heap.size 3 1 out (j + 1) ((chs ss K j).map (Value.int .i64)) ∧ Below w2.heap.size w2 wr) (fun _ i _ => K - 2 - (intOf i).toNat)
      case atStart => exact ⟨0, rfl, Nat.zero_le _, World.ownsRow_lit _ #[.int .i64 0] 1 (Nat.le_refl _) (by decide) rfl, by (repeat' (first | (with_reducible assumption) | (with_reducible exact Below.refl _ _) | (with_reducible refine Below.alloc ?_ ?_ _) | (with_reducible refine Below.setCell ?_ ?_ _) | (with_reducible refine Below.drew ?_) | (with_reducible refine below_more ?_ (by with_reducible assumption)) | go_size | omega | (with_reducible refine below_drewN ?_)))⟩
      case round =>
        obtain ⟨j, rfl, hj, hO, hB⟩ := hrel
        by_cases hlt : j < K - 2
        · obtain ⟨fr, tt, en, at_, bi, efr, ett, een, eat, h3, h4, h5, h6, h7, hbi, h8, hch, h9, h10⟩ := round_plain h1' h2' hlt
          have f1 := HBC.out j (by omega) wr hB
          have f2 := HBC.out (j + 1) (by omega) wr hB
          rw [efr] at f1
          rw [ett] at f2
          have f3 : j + 2 < K - 1 → wr.cell? ⟨gb, ob + (j + 2), none⟩ = some (.int .i64 en) := fun h => by rw [HBC.out (j + 2) h wr hB, h9 h]
          obtain ⟨ao, co, rfl, hoc, -, hocell⟩ := own_slice hO (by rw [List.length_map, chs_len, Nat.mul_one])
          obtain ⟨go, rfl, hgo1, hgo2, hgoc⟩ := hocell (by omega)
          have g1 : ∀ Wz : World, Below wr.heap.size wr Wz → Wz.cell? ⟨go, j, none⟩ = some (.int .i64 at_) := fun Wz hz => (hz.cell (p := ⟨go, j, none⟩) hgo2).trans (hgoc j _ (by rw [List.getElem?_map, List.getElem?_eq_getElem (by rw [chs_len]; omega)]; show some (Value.int .i64 _) = _; rw [← cnt_get ss eat, List.getD_eq_getElem?_getD, List.getElem?_eq_getElem (by rw [chs_len]; omega)]; rfl))
          obtain ⟨xy, hx⟩ : ∃ xy, ss.getD at_ (0, 0) = xy := ⟨_, rfl⟩
          have hq := smp_i64 HI.out at_
          rw [hx] at hq hbi
          have g23 : ∀ Wz : World, Below wr.heap.size wr Wz → Wz.cell? ⟨b, off + at_ * 2, none⟩ = some (.int .i64 xy.1) ∧ Wz.cell? ⟨b, off + at_ * 2 + 1, none⟩ = some (.int .i64 xy.2) := fun Wz hz => hx ▸ HCS.out at_ h6 Wz (hB.trans (hz.mono hB.size))
          have HL : Hid (∀ W, Below wr.heap.size wr W → Calls Try.prog 58 #[.agg #[.int .i64 xy.1, .int .i64 xy.2], .slice (some ⟨b, off + fr * 2, none⟩) (tt - fr) (cap - fr), .slice (some ⟨b, off + tt * 2, none⟩) (en - tt) (cap - tt)] W fun e w' => e = .returned (.int .i64 (bi : Nat)) ∧ Below W.heap.size W w') := hid fun W hW => by
            have hsW := HS.out.below (hB.trans (hW.mono hB.size))
            have := largest_any hq W (hsW.cut h3 (by omega)) (hsW.cut h4 h5) (by rw [cut_len (by omega)]; omega)
            rwa [hbi] at this
          obtain ⟨xa, ya⟩ := xy
          dsimp only at g23 HL
          have g2 := fun Wz hz => (g23 Wz hz).1
          have g3 := fun Wz hz => (g23 Wz hz).2
          have HCH := hid hch
          have hj1 : ((j : Int) + 1).toNat = j + 1 := by omega
          have s1 : tt ≤ cap := by omega
          have s2 : fr ≤ tt := by omega
          have s3 : ¬ cap = fr := by omega
          have s4 : en ≤ cap := by omega
          have s5 : tt ≤ en := by omega
          have s6 : ¬ cap = tt := by omega
          have hjj : (j : Int) < (j : Int) + 1 := by omega
          have hj2 : ((j : Int) + 2).toNat = j + 2 := by omega
          have hj3 : (j : Int) + 1 < (K - 1 : Nat) := by omega
          have hbs : (K : Int) ≤ 1000 := by omega
          clear efr ett een eat hocell hgoc hx hq hbi hch h9 g23
          by_cases hlast : j + 2 < K - 1
          · have hl2 : (j : Int) + 2 < (K - 1 : Nat) := by omega
            have f4 := f3 hlast
            clear f3 h10
            (repeat' (first | go_values | go_skip | go_guarded | go_step | go_upon | (simp only [Int.not_lt, Int.not_le] at *; go_simp) | (go_values <;> (try go_simp)) | (go_ite <;> go_prune <;> (try go_simp)) | (split <;> (first | (rename_i hx; exact (hx _ rfl).elim) | go_prune))))
            go_quiet (fail)
            clear f1 f2
            (repeat' (first | go_values | go_skip | go_guarded | go_step | go_upon | (simp only [Int.not_lt, Int.not_le] at *; go_simp) | (go_values <;> (try go_simp)) | (go_ite <;> go_prune <;> (try go_simp)) | (split <;> (first | (rename_i hx; exact (hx _ rfl).elim) | go_prune))))
            (refine wp_region_dq (row := none) (S := (fun Wz => Below wr.heap.size wr Wz ∧ wr.heap.size ≤ Wz.heap.size ∧ True)) (n0 := wr.heap.size) 19 [0] [(0, 2), (1, 0), (2, 0), (3, 0), (4, 0), (5, 0), (6, 0), (7, 0), (8, 0), (9, 0), (10, 0), (11, 0), (12, 0), (13, 0), (14, 0), (15, 0), (16, 0), (17, 0), (18, 0)] [] (by kernel_rfl) (by kernel_rfl) (fun _ _ d _ _ h => by cases d <;> exact h) ⟨by (repeat' (first | (with_reducible assumption) | (with_reducible exact Below.refl _ _) | (with_reducible refine Below.alloc ?_ ?_ _) | (with_reducible refine Below.setCell ?_ ?_ _) | (with_reducible refine Below.drew ?_) | (with_reducible refine below_more ?_ (by with_reducible assumption)) | go_size | omega | (with_reducible refine below_drewN ?_))), (by first | go_size | omega), trivial⟩ (fun _ _ h g => keep0 h (below_gt g) rfl) (fun _ h => h.2.1) (fun _ h => by cases h) (by simp) ?_)
            refine' dq_late (by rfl) (by rfl) ?hv1 ?rest1
            case hv1 => (intro w; go_simp; try with_reducible rfl)
            case' rest1 => try simp only [Act.put, List.setIfInBounds_toArray, List.set_cons_zero, List.set_cons_succ]
            refine' dq_pure (by rfl) (by rfl) ?hv2 ?rest2
            case hv2 => (intro w hw; (try dsimp only at hw); go_split_ands; go_simp; try with_reducible rfl)
            case' rest2 => try simp only [Act.put, List.setIfInBounds_toArray, List.set_cons_zero, List.set_cons_succ]
            refine' dq_pure (by rfl) (by rfl) ?hv3 ?rest3
            case hv3 => (intro w hw; (try dsimp only at hw); go_split_ands; go_simp; try with_reducible rfl)
            case' rest3 => try simp only [Act.put, List.setIfInBounds_toArray, List.set_cons_zero, List.set_cons_succ]
            refine' dq_pure (by rfl) (by rfl) ?hv4 ?rest4
            case hv4 => (intro w hw; (try dsimp only at hw); go_split_ands; go_simp; try with_reducible rfl)
            case' rest4 => try simp only [Act.put, List.setIfInBounds_toArray, List.set_cons_zero, List.set_cons_succ]
            refine' dq_pure (by rfl) (by rfl) ?hv5 ?rest5
            case hv5 => (intro w hw; (try dsimp only at hw); go_split_ands; go_simp; try with_reducible rfl)
            case' rest5 => try simp only [Act.put, List.setIfInBounds_toArray, List.set_cons_zero, List.set_cons_succ]
            refine' dq_pure (by rfl) (by rfl) ?hv6 ?rest6
            case hv6 => (intro w hw; (try dsimp only at hw); go_split_ands; go_simp; try with_reducible rfl)
            case' rest6 => try simp only [Act.put, List.setIfInBounds_toArray, List.set_cons_zero, List.set_cons_succ]
            refine' dq_pure (by rfl) (by rfl) ?hv7 ?rest7
            case hv7 => (intro w hw; (try dsimp only at hw); go_split_ands; go_simp; try with_reducible rfl)
            case' rest7 => try simp only [Act.put, List.setIfInBounds_toArray, List.set_cons_zero, List.set_cons_succ]
            refine' dq_pure (by rfl) (by rfl) ?hv8 ?rest8
            case hv8 => (intro w hw; (try dsimp only at hw); go_split_ands; go_simp; try with_reducible rfl)
            case' rest8 => try simp only [Act.put, List.setIfInBounds_toArray, List.set_cons_zero, List.set_cons_succ]
            refine' dq_pure (by rfl) (by rfl) ?hv9 ?rest9
            case hv9 => (intro w hw; (try dsimp only at hw); go_split_ands; go_simp; try with_reducible rfl)
            case' rest9 => try simp only [Act.put, List.setIfInBounds_toArray, List.set_cons_zero, List.set_cons_succ]
            refine' dq_pure (by rfl) (by rfl) ?hv10 ?rest10
            case hv10 => (intro w hw; (try dsimp only at hw); go_split_ands; go_simp; try with_reducible rfl)
            case' rest10 => try simp only [Act.put, List.setIfInBounds_toArray, List.set_cons_zero, List.set_cons_succ]
            refine' dq_pure (by rfl) (by rfl) ?hv11 ?rest11
            case hv11 => (intro w hw; (try dsimp only at hw); go_split_ands; go_simp; try with_reducible rfl)
            case' rest11 => try simp only [Act.put, List.setIfInBounds_toArray, List.set_cons_zero, List.set_cons_succ]
            refine' dq_pure (by rfl) (by rfl) ?hv12 ?rest12
            case hv12 => (intro w hw; (try dsimp only at hw); go_split_ands; go_simp; try with_reducible rfl)
            case' rest12 => try simp only [Act.put, List.setIfInBounds_toArray, List.set_cons_zero, List.set_cons_succ]
            refine' dq_pure (by rfl) (by rfl) ?hv13 ?rest13
            case hv13 => (intro w hw; (try dsimp only at hw); go_split_ands; go_simp; try with_reducible rfl)
            case' rest13 => try simp only [Act.put, List.setIfInBounds_toArray, List.set_cons_zero, List.set_cons_succ]
            refine' dq_pure (by rfl) (by rfl) ?hv14 ?rest14
            case hv14 => (intro w hw; (try dsimp only at hw); go_split_ands; go_simp; try with_reducible rfl)
            case' rest14 => try simp only [Act.put, List.setIfInBounds_toArray, List.set_cons_zero, List.set_cons_succ]
            refine' dq_pure (by rfl) (by rfl) ?hv15 ?rest15
            case hv15 => (intro w hw; (try dsimp only at hw); go_split_ands; go_simp; try with_reducible rfl)
            case' rest15 => try simp only [Act.put, List.setIfInBounds_toArray, List.set_cons_zero, List.set_cons_succ]
            refine' dq_pure (by rfl) (by rfl) ?hv16 ?rest16
            case hv16 => (intro w hw; (try dsimp only at hw); go_split_ands; go_simp; try with_reducible rfl)
            case' rest16 => try simp only [Act.put, List.setIfInBounds_toArray, List.set_cons_zero, List.set_cons_succ]
            refine' dq_pure (by rfl) (by rfl) ?hv17 ?rest17
            case hv17 => (intro w hw; (try dsimp only at hw); go_split_ands; go_simp; try with_reducible rfl)
            case' rest17 => try simp only [Act.put, List.setIfInBounds_toArray, List.set_cons_zero, List.set_cons_succ]
            refine' dq_call (by rfl) (by rfl) ?hv18 ?hc18 ?rest18
            case hv18 => (intro w; go_simp; exact ⟨rfl, rfl⟩)
            case hc18 => exact (fun w hw => calls_gt (HL.out w hw.1))
            case' rest18 => try simp only [Act.put, List.setIfInBounds_toArray, List.set_cons_zero, List.set_cons_succ]
            refine' dq_pure (by rfl) (by rfl) ?hv19 ?rest19
            case hv19 => (intro w hw; (try dsimp only at hw); go_split_ands; go_simp; try with_reducible rfl)
            case' rest19 => try simp only [Act.put, List.setIfInBounds_toArray, List.set_cons_zero, List.set_cons_succ]
            refine dq_nil ?_
            simp only [fa, List.drop_succ_cons, List.drop_zero]
            rintro W ⟨⟨hb0, hn0, -⟩, hgl⟩ hbs
            clear hbs hgl
            have hO2 := hO.kept (gt_below hb0 none) (Classical.em _)
            have hBW : Below w2.heap.size w2 W := hB.trans (hb0.mono hB.size)
            have hszW := hBW.size
            (repeat' (first | (go_big_may; (first | (at_builtin; refine wpList_append_own _ rfl _ _ 28 rfl w2.heap.size 3 i0 (.int .i64 0) 1 8 Try.underlying28 hi hz0 hz1 hz2 rfl (by decide) _ _ _ rfl (hO2.alloc _) ⟨_, 0, none⟩ 1 1 _ rfl rfl (fun j u h => one_cell _ _ _ j u h) (by intro u hu; simp at hu; subst hu; rfl) (by unfold maxLen; omega) (by omega) (by simp; omega) ?_; intro v' w5 hown' hgrow _))) | go_values | go_skip | go_guarded | go_step | go_upon | (simp only [Int.not_lt, Int.not_le] at *; go_simp) | (go_values <;> (try go_simp)) | (go_ite <;> go_prune <;> (try go_simp)) | (split <;> (first | (rename_i hx; exact (hx _ rfl).elim) | go_prune))))
            have hb5 : Below w2.heap.size w2 w5 := (hBW.alloc hszW _).trans (app_below (hO2.alloc _) hgrow (Nat.le_refl _) (by simp; omega))
            clear hgrow
            go_roundw
            case rel => exact ⟨j + 1, by simp, by omega, by rw [HCH.out, List.map_append]; exact hown', hb5⟩
            case measure => simp [intOf]; omega
          · have hl2 : ¬ (j : Int) + 2 < (K - 1 : Nat) := by omega
            have e10 := h10 hlast
            subst e10
            clear f3 h10
            (repeat' (first | go_values | go_skip | go_guarded | go_step | go_upon | (simp only [Int.not_lt, Int.not_le] at *; go_simp) | (go_values <;> (try go_simp)) | (go_ite <;> go_prune <;> (try go_simp)) | (split <;> (first | (rename_i hx; exact (hx _ rfl).elim) | go_prune))))
            go_quiet (fail)
            clear f1 f2
            (repeat' (first | go_values | go_skip | go_guarded | go_step | go_upon | (simp only [Int.not_lt, Int.not_le] at *; go_simp) | (go_values <;> (try go_simp)) | (go_ite <;> go_prune <;> (try go_simp)) | (split <;> (first | (rename_i hx; exact (hx _ rfl).elim) | go_prune))))
            (refine wp_region_dq (row := none) (S := (fun Wz => Below wr.heap.size wr Wz ∧ wr.heap.size ≤ Wz.heap.size ∧ True)) (n0 := wr.heap.size) 19 [0] [(0, 2), (1, 0), (2, 0), (3, 0), (4, 0), (5, 0), (6, 0), (7, 0), (8, 0), (9, 0), (10, 0), (11, 0), (12, 0), (13, 0), (14, 0), (15, 0), (16, 0), (17, 0), (18, 0)] [] (by kernel_rfl) (by kernel_rfl) (fun _ _ d _ _ h => by cases d <;> exact h) ⟨by (repeat' (first | (with_reducible assumption) | (with_reducible exact Below.refl _ _) | (with_reducible refine Below.alloc ?_ ?_ _) | (with_reducible refine Below.setCell ?_ ?_ _) | (with_reducible refine Below.drew ?_) | (with_reducible refine below_more ?_ (by with_reducible assumption)) | go_size | omega | (with_reducible refine below_drewN ?_))), (by first | go_size | omega), trivial⟩ (fun _ _ h g => keep0 h (below_gt g) rfl) (fun _ h => h.2.1) (fun _ h => by cases h) (by simp) ?_)
            refine' dq_late (by rfl) (by rfl) ?hv20 ?rest20
            case hv20 => (intro w; go_simp; try with_reducible rfl)
            case' rest20 => try simp only [Act.put, List.setIfInBounds_toArray, List.set_cons_zero, List.set_cons_succ]
            refine' dq_pure (by rfl) (by rfl) ?hv21 ?rest21
            case hv21 => (intro w hw; (try dsimp only at hw); go_split_ands; go_simp; try with_reducible rfl)
            case' rest21 => try simp only [Act.put, List.setIfInBounds_toArray, List.set_cons_zero, List.set_cons_succ]
            refine' dq_pure (by rfl) (by rfl) ?hv22 ?rest22
            case hv22 => (intro w hw; (try dsimp only at hw); go_split_ands; go_simp; try with_reducible rfl)
            case' rest22 => try simp only [Act.put, List.setIfInBounds_toArray, List.set_cons_zero, List.set_cons_succ]
            refine' dq_pure (by rfl) (by rfl) ?hv23 ?rest23
            case hv23 => (intro w hw; (try dsimp only at hw); go_split_ands; go_simp; try with_reducible rfl)
            case' rest23 => try simp only [Act.put, List.setIfInBounds_toArray, List.set_cons_zero, List.set_cons_succ]
            refine' dq_pure (by rfl) (by rfl) ?hv24 ?rest24
            case hv24 => (intro w hw; (try dsimp only at hw); go_split_ands; go_simp; try with_reducible rfl)
            case' rest24 => try simp only [Act.put, List.setIfInBounds_toArray, List.set_cons_zero, List.set_cons_succ]
            refine' dq_pure (by rfl) (by rfl) ?hv25 ?rest25
            case hv25 => (intro w hw; (try dsimp only at hw); go_split_ands; go_simp; try with_reducible rfl)
            case' rest25 => try simp only [Act.put, List.setIfInBounds_toArray, List.set_cons_zero, List.set_cons_succ]
            refine' dq_pure (by rfl) (by rfl) ?hv26 ?rest26
            case hv26 => (intro w hw; (try dsimp only at hw); go_split_ands; go_simp; try with_reducible rfl)
            case' rest26 => try simp only [Act.put, List.setIfInBounds_toArray, List.set_cons_zero, List.set_cons_succ]
            refine' dq_pure (by rfl) (by rfl) ?hv27 ?rest27
            case hv27 => (intro w hw; (try dsimp only at hw); go_split_ands; go_simp; try with_reducible rfl)
            case' rest27 => try simp only [Act.put, List.setIfInBounds_toArray, List.set_cons_zero, List.set_cons_succ]
            refine' dq_pure (by rfl) (by rfl) ?hv28 ?rest28
            case hv28 => (intro w hw; (try dsimp only at hw); go_split_ands; go_simp; try with_reducible rfl)
            case' rest28 => try simp only [Act.put, List.setIfInBounds_toArray, List.set_cons_zero, List.set_cons_succ]
            refine' dq_pure (by rfl) (by rfl) ?hv29 ?rest29
            case hv29 => (intro w hw; (try dsimp only at hw); go_split_ands; go_simp; try with_reducible rfl)
            case' rest29 => try simp only [Act.put, List.setIfInBounds_toArray, List.set_cons_zero, List.set_cons_succ]
            refine' dq_pure (by rfl) (by rfl) ?hv30 ?rest30
            case hv30 => (intro w hw; (try dsimp only at hw); go_split_ands; go_simp; try with_reducible rfl)
            case' rest30 => try simp only [Act.put, List.setIfInBounds_toArray, List.set_cons_zero, List.set_cons_succ]
            refine' dq_pure (by rfl) (by rfl) ?hv31 ?rest31
            case hv31 => (intro w hw; (try dsimp only at hw); go_split_ands; go_simp; try with_reducible rfl)
            case' rest31 => try simp only [Act.put, List.setIfInBounds_toArray, List.set_cons_zero, List.set_cons_succ]
            refine' dq_pure (by rfl) (by rfl) ?hv32 ?rest32
            case hv32 => (intro w hw; (try dsimp only at hw); go_split_ands; go_simp; try with_reducible rfl)
            case' rest32 => try simp only [Act.put, List.setIfInBounds_toArray, List.set_cons_zero, List.set_cons_succ]
            refine' dq_pure (by rfl) (by rfl) ?hv33 ?rest33
            case hv33 => (intro w hw; (try dsimp only at hw); go_split_ands; go_simp; try with_reducible rfl)
            case' rest33 => try simp only [Act.put, List.setIfInBounds_toArray, List.set_cons_zero, List.set_cons_succ]
            refine' dq_pure (by rfl) (by rfl) ?hv34 ?rest34
            case hv34 => (intro w hw; (try dsimp only at hw); go_split_ands; go_simp; try with_reducible rfl)
            case' rest34 => try simp only [Act.put, List.setIfInBounds_toArray, List.set_cons_zero, List.set_cons_succ]
            refine' dq_pure (by rfl) (by rfl) ?hv35 ?rest35
            case hv35 => (intro w hw; (try dsimp only at hw); go_split_ands; go_simp; try with_reducible rfl)
            case' rest35 => try simp only [Act.put, List.setIfInBounds_toArray, List.set_cons_zero, List.set_cons_succ]
            refine' dq_pure (by rfl) (by rfl) ?hv36 ?rest36
            case hv36 => (intro w hw; (try dsimp only at hw); go_split_ands; go_simp; try with_reducible rfl)
            case' rest36 => try simp only [Act.put, List.setIfInBounds_toArray, List.set_cons_zero, List.set_cons_succ]
            refine' dq_call (by rfl) (by rfl) ?hv37 ?hc37 ?rest37
            case hv37 => (intro w; go_simp; exact ⟨rfl, rfl⟩)
            case hc37 => exact (fun w hw => calls_gt (HL.out w hw.1))
            case' rest37 => try simp only [Act.put, List.setIfInBounds_toArray, List.set_cons_zero, List.set_cons_succ]
            refine' dq_pure (by rfl) (by rfl) ?hv38 ?rest38
            case hv38 => (intro w hw; (try dsimp only at hw); go_split_ands; go_simp; try with_reducible rfl)
            case' rest38 => try simp only [Act.put, List.setIfInBounds_toArray, List.set_cons_zero, List.set_cons_succ]
            refine dq_nil ?_
            simp only [fa, List.drop_succ_cons, List.drop_zero]
            rintro W ⟨⟨hb0, hn0, -⟩, hgl⟩ hbs
            clear hbs hgl
            have hO2 := hO.kept (gt_below hb0 none) (Classical.em _)
            have hBW : Below w2.heap.size w2 W := hB.trans (hb0.mono hB.size)
            have hszW := hBW.size
            (repeat' (first | (go_big_may; (first | (at_builtin; refine wpList_append_own _ rfl _ _ 28 rfl w2.heap.size 3 i0 (.int .i64 0) 1 8 Try.underlying28 hi hz0 hz1 hz2 rfl (by decide) _ _ _ rfl (hO2.alloc _) ⟨_, 0, none⟩ 1 1 _ rfl rfl (fun j u h => one_cell _ _ _ j u h) (by intro u hu; simp at hu; subst hu; rfl) (by unfold maxLen; omega) (by omega) (by simp; omega) ?_; intro v' w5 hown' hgrow _))) | go_values | go_skip | go_guarded | go_step | go_upon | (simp only [Int.not_lt, Int.not_le] at *; go_simp) | (go_values <;> (try go_simp)) | (go_ite <;> go_prune <;> (try go_simp)) | (split <;> (first | (rename_i hx; exact (hx _ rfl).elim) | go_prune))))
            have hb5 : Below w2.heap.size w2 w5 := (hBW.alloc hszW _).trans (app_below (hO2.alloc _) hgrow (Nat.le_refl _) (by simp; omega))
            clear hgrow
            go_roundw
            case rel => exact ⟨j + 1, by simp, by omega, by rw [HCH.out, List.map_append]; exact hown', hb5⟩
            case measure => simp [intOf]; omega
        · obtain rfl : j = K - 2 := by omega
          (repeat' (first | (go_big_may; (first | (at_builtin; refine wpList_append_own _ rfl _ _ 28 rfl w2.heap.size 3 i0 (.int .i64 0) 1 8 Try.underlying28 hi hz0 hz1 hz2 rfl (by decide) _ _ _ rfl (hO.alloc _) ⟨_, 0, none⟩ 1 1 _ rfl rfl (fun j u h => one_cell _ _ _ j u h) (by intro u hu; simp at hu; subst hu; rfl) (by unfold maxLen; omega) (by omega) (by have := hB.size; simp; omega) ?_; intro v' w5 hown' hgrow _))) | go_values | go_skip | go_guarded | go_step | go_upon | (simp only [Int.not_lt, Int.not_le] at *; go_simp) | (go_values <;> (try go_simp)) | (go_ite <;> go_prune <;> (try go_simp)) | (split <;> (first | (rename_i hx; exact (hx _ rfl).elim) | go_prune))))
          have hszr := hB.size
          have hb5 : Below w2.heap.size w2 w5 := (hB.alloc hszr _).trans (app_below (hO.alloc _) hgrow (Nat.le_refl _) (by simp; omega))
          clear hgrow
          refine bodyPost_ret (v := .tuple #[v', .int .i64 0]) ?_ rfl ⟨_, rfl, ?_, hBw2.trans (hb5.mono hsz2)⟩
          · simp [results, Try.results29, go_sem]
          · rw [List.length_append, chs_len, List.map_append]
            exact own_base hown' hsz2
    · rw [h] at CB
      simp only [h, Bool.false_eq_true, if_false] at CB ⊢
      clear h hI
      go_enter Try.func29, Try.ntmps29
      (repeat' (first | go_values | go_skip | go_guarded | go_step | go_upon | (simp only [Int.not_lt, Int.not_le] at *; go_simp) | (go_values <;> (try go_simp)) | (go_ite <;> go_prune <;> (try go_simp)) | (split <;> (first | (rename_i hx; exact (hx _ rfl).elim) | go_prune))))
      refine CC.mono ?_
      rintro e w1 ⟨rfl, hb1⟩
      clear CC
      (repeat' (first | go_values | go_skip | go_guarded | go_step | go_upon | (simp only [Int.not_lt, Int.not_le] at *; go_simp) | (go_values <;> (try go_simp)) | (go_ite <;> go_prune <;> (try go_simp)) | (split <;> (first | (rename_i hx; exact (hx _ rfl).elim) | go_prune))))
      go_at_call 57
      refine (CB _).mono ?_
      rintro e w2 ⟨rfl, hb2⟩
      clear CB
      (repeat' (first | go_values | go_skip | go_guarded | go_step | go_upon | (simp only [Int.not_lt, Int.not_le] at *; go_simp) | (go_values <;> (try go_simp)) | (go_ite <;> go_prune <;> (try go_simp)) | (split <;> (first | (rename_i hx; exact (hx _ rfl).elim) | go_prune))))
      refine bodyPost_ret (v := .tuple #[.slice none 0 0, .int .i64 2]) ?_ rfl ⟨_, rfl, World.ownsRow_nil _ _ _ _, by (repeat' (first | (with_reducible assumption) | (with_reducible exact Below.refl _ _) | (with_reducible refine Below.alloc ?_ ?_ _) | (with_reducible refine Below.setCell ?_ ?_ _) | (with_reducible refine Below.drew ?_) | (with_reducible refine below_more ?_ (by with_reducible assumption)) | go_size | omega | (with_reducible refine below_drewN ?_)))⟩
      simp [results, Try.results29, go_sem]
end Go.Proofs.Ythcboomdkpiflaa
