/- lttb.Select; slices of samples of one's own. -/
import Derived.Test.YthcboomdkpiflaaRows
import Derived.Test.YthcboomdkpiflaaLtX
import Derived.WalkKit
import Derived.ProofKit
import Derived.WalkLawsBesides
import Derived.WalkSpells
import Derived.RegionTactic
import Derived.ChangeAlike
import Derived.BigRegion
import Derived.Outline
import Derived.Handy
import Derived.Deep.QuietTactic
import Derived.BigQuiet
namespace Go.Proofs.Ythcboomdkpiflaa
open Go.ChangeShapes Go.WideShapes Go.ChangeAt Go.RowKit
set_option linter.unusedVariables false
set_option linter.unusedSimpArgs false

/-- The chosen samples. -/
def sel (ss : Smps) (k : Int) : Smps := (ixs ss k).map fun z => ss.getD z.toNat (0, 0)
theorem ixs_in {ss : Smps} (k : Int) (h : ixe ss k = 0) : 3 ≤ k ∧ k ≤ ss.length ∧ (ixs ss k).length = k.toNat ∧ ∀ z ∈ ixs ss k, 0 ≤ z ∧ z < ss.length := by
  have hb : bok ss.length k = true := by
    unfold ixe at h
    cases hi : incr ss <;> cases hb : bok ss.length k <;> simp [hi, hb] at h ⊢
  rcases bok_cases ss.length k with ⟨_, h1, h2, _⟩ | ⟨h3, _⟩
  · unfold ixs
    rw [if_pos h]
    refine ⟨h1, h2, by rw [List.length_append, chs_len]; simp; omega, fun z hz => ?_⟩
    rcases List.mem_append.1 hz with hz | hz
    · unfold chs at hz
      obtain ⟨i, hi, rfl⟩ := List.mem_map.1 hz
      have := chosen_in (ss := ss) (k := k.toNat) (by omega) (by omega) (j := i) (by have := List.mem_range.1 hi; omega)
      omega
    · simp at hz; omega
  · rw [hb] at h3; cases h3
theorem ixs_none {ss : Smps} {k : Int} (h : ixe ss k ≠ 0) : ixs ss k = [] := by unfold ixs; rw [if_neg h]
theorem sel_len (ss : Smps) (k : Int) : (sel ss k).length = (ixs ss k).length := by unfold sel; rw [List.length_map]
theorem sel_get {ss : Smps} {k : Int} {i : Nat} (h : i < (ixs ss k).length) : (sel ss k).getD i (0, 0) = ss.getD ((ixs ss k).getD i 0).toNat (0, 0) := by
  unfold sel
  simp only [List.getD_eq_getElem?_getD, List.getElem?_map, List.getElem?_eq_getElem h]
  rfl
theorem ixs_len {ss : Smps} (k : Int) : (ixs ss k).length ≤ ss.length := by
  by_cases h : ixe ss k = 0
  · obtain ⟨h1, h2, h3, _⟩ := ixs_in k h
    omega
  · rw [ixs_none h]; exact Nat.zero_le _

theorem scells_set (ss : Smps) : ∀ (i : Nat) (x y : Int), i < ss.length → ((scells ss).set (i * 2) (.int .i64 x)).set (i * 2 + 1) (.int .i64 y) = scells (ss.set i (x, y)) := by
  induction ss with
  | nil => intro i x y h; simp at h
  | cons s ss ih =>
    intro i x y h
    have e : ∀ (s : Int × Int) ss, scells (s :: ss) = .int .i64 s.1 :: .int .i64 s.2 :: scells ss := fun _ _ => rfl
    cases i with
    | zero => rfl
    | succ i =>
      rw [List.set_cons_succ, e, e, ← ih i x y (by simpa using h), show (i + 1) * 2 = i * 2 + 1 + 1 by omega]
      rfl
theorem scells_zeros (n : Nat) : (madeCells (Value.agg #[.int .i64 0, .int .i64 0]).cells (n * 2)).toList = scells (List.replicate n (0, 0)) := by
  have h1 : (madeCells (Value.agg #[.int .i64 0, .int .i64 0]).cells (n * 2)).toList = List.replicate (n * 2) (.int .i64 0) := by
    rw [List.eq_replicate_iff]
    refine ⟨by simp [size_madeCells], fun b hb => ?_⟩
    have e : (Value.agg #[.int .i64 0, .int .i64 0]).cells = #[Value.int .i64 0, .int .i64 0] := rfl
    rw [e] at hb
    unfold madeCells at hb
    simp at hb
    obtain ⟨a, _, rfl⟩ := hb
    have : a % 2 = 0 ∨ a % 2 = 1 := by omega
    rcases this with h | h <;> simp [h]
  have h2 : scells (List.replicate n (0, 0)) = List.replicate (n * 2) (.int .i64 0) := by
    induction n with
    | zero => rfl
    | succ n ih =>
      rw [List.replicate_succ, show (n + 1) * 2 = n * 2 + 1 + 1 by omega, List.replicate_succ, List.replicate_succ]
      have ih' := ih (by
        rw [List.eq_replicate_iff]
        refine ⟨by simp [size_madeCells], fun b hb => ?_⟩
        have e : (Value.agg #[.int .i64 0, .int .i64 0]).cells = #[Value.int .i64 0, .int .i64 0] := rfl
        rw [e] at hb
        unfold madeCells at hb
        simp at hb
        obtain ⟨a, _, rfl⟩ := hb
        have : a % 2 = 0 ∨ a % 2 = 1 := by omega
        rcases this with h | h <;> simp [h])
      rw [← ih']
      rfl
  rw [h1, h2]
/-- Samples of one's own. -/
def OwnS (W : World) (base g n : Nat) (bs : Smps) : Prop := W.ownsRow base 23 2 (.slice (some ⟨g, 0, none⟩) n n) n (scells bs) ∧ bs.length = n
theorem OwnS.cell {W : World} {base g n : Nat} {bs : Smps} (h : OwnS W base g n bs) (j : Nat) (hj : j < n) : W.cell? ⟨g, j * 2, none⟩ = some (.int .i64 (bs.getD j (0, 0)).1) ∧ W.cell? ⟨g, j * 2 + 1, none⟩ = some (.int .i64 (bs.getD j (0, 0)).2) := by
  obtain ⟨h1, rfl⟩ := h
  have hs := scells_at bs j hj
  rw [Nat.mul_comm] at hs
  have hl := scells_len bs
  exact ⟨by rw [h1.cellAt (j * 2) (by omega)]; exact hs.1, by rw [h1.cellAt (j * 2 + 1) (by omega)]; exact hs.2⟩
theorem OwnS.frozen {W : World} {base g n : Nat} {bs : Smps} (h : OwnS W base g n bs) (j : Nat) : W.frozen? ⟨g, j, none⟩ = false := h.1.frozenAt j
theorem OwnS.stored {W : World} {base g n : Nat} {bs : Smps} (h : OwnS W base g n bs) (j : Nat) (hj : j < n) (x y : Int) : OwnS ((W.setCell ⟨g, j * 2, none⟩ (.int .i64 x)).setCell ⟨g, j * 2 + 1, none⟩ (.int .i64 y)) base g n (bs.set j (x, y)) := by
  obtain ⟨h1, h2⟩ := h
  refine ⟨?_, by rw [List.length_set]; exact h2⟩
  have := ((h1.stored (j * 2) (.int .i64 x)).1.stored (j * 2 + 1) (.int .i64 y)).1
  rw [scells_set bs j x y (by omega)] at this
  exact this
theorem OwnS.lt {W : World} {base g n : Nat} {bs : Smps} (h : OwnS W base g n bs) : g < W.heap.size := (h.1.lt g rfl).2
theorem OwnS.zeros {w : World} {base g n : Nat} (h : w.ownsRow base 23 2 (.slice (some ⟨g, 0, none⟩) n n) n (madeCells (Value.agg #[.int .i64 0, .int .i64 0]).cells (n * 2)).toList) : OwnS w base g n (List.replicate n (0, 0)) := by
  rw [scells_zeros] at h
  exact ⟨h, by simp⟩
theorem sls_own {W : World} {base : Nat} {v : Value} {ss : Smps} (h : W.ownsRow base 23 2 v ss.length (scells ss)) (hz : ∀ s ∈ ss, I64 s.1 ∧ I64 s.2) : SlS W v ss := by
  obtain ⟨a, cap, rfl, h1, h2, hc⟩ := own_slice h (by rw [scells_len])
  refine ⟨a, cap, rfl, h1, h2, hz, fun hl => ?_⟩
  obtain ⟨g, rfl, _, hg, hcs⟩ := hc hl
  refine ⟨g, 0, rfl, hg, fun i hi => ?_⟩
  have hs := scells_at ss i hi
  rw [Nat.mul_comm] at hs
  exact ⟨by rw [Nat.zero_add]; exact hcs _ _ hs.1, by rw [Nat.zero_add]; exact hcs _ _ hs.2⟩
theorem sls_owns {W : World} {base g n : Nat} {bs : Smps} (h : OwnS W base g n bs) (hz : ∀ s ∈ bs, I64 s.1 ∧ I64 s.2) : SlS W (.slice (some ⟨g, 0, none⟩) n n) bs := by
  obtain ⟨h1, rfl⟩ := h
  exact sls_own h1 hz
theorem sls_nil (W : World) : SlS W (.slice none 0 0) [] := ⟨none, 0, rfl, Nat.le_refl _, by simp [maxLen], by simp, fun h => by simp at h⟩
theorem sget_eq {bs : Smps} {j : Nat} (h : j < bs.length) (x : Int × Int) : (bs.set j x).getD j (0, 0) = x := by simp [List.getD_eq_getElem?_getD, h]
theorem sget_ne {bs : Smps} {i j : Nat} (h : i ≠ j) (x : Int × Int) : (bs.set i x).getD j (0, 0) = bs.getD j (0, 0) := by simp [List.getD_eq_getElem?_getD, List.getElem?_set_ne h]
theorem slist_ext {cs bs : Smps} (hl : cs.length = bs.length) (h : ∀ j, j < cs.length → cs.getD j (0, 0) = bs.getD j (0, 0)) : cs = bs := by
  apply List.ext_getElem hl
  intro j h1 h2
  have := h j h1
  rwa [List.getD_eq_getElem?_getD, List.getD_eq_getElem?_getD, List.getElem?_eq_getElem h1, List.getElem?_eq_getElem h2] at this
theorem sel_i64 {ss : Smps} (k : Int) (h : ∀ s ∈ ss, I64 s.1 ∧ I64 s.2) : ∀ s ∈ sel ss k, I64 s.1 ∧ I64 s.2 := fun s hs => by
  unfold sel at hs
  obtain ⟨z, _, rfl⟩ := List.mem_map.1 hs
  exact smp_i64 h _
/-- What Select returns. -/
def SelP (ss : Smps) (k : Int) (w : World) (e : Ending) (w' : World) : Prop :=
  ∃ v, e = .returned (.tuple #[v, .int .i64 (ixe ss k)]) ∧ SlS w' v (sel ss k) ∧ Below w.heap.size w w'
/-- The indexes as a slice of ints. -/
theorem ixs_slz {W : World} {v : Value} {ss : Smps} {k : Int} {base : Nat} (h : W.ownsRow base 3 1 v (ixs ss k).length ((ixs ss k).map (Value.int .i64))) (hn : ss.length ≤ 1000) : SlZ W .i64 v (ixs ss k) := slz_own h fun z hz => by
  by_cases he : ixe ss k = 0
  · have := (ixs_in k he).2.2.2 z hz
    exact ⟨by omega, by omega⟩
  · rw [ixs_none he] at hz; simp at hz

set_option maxHeartbeats 8000000 in
set_option maxRecDepth 100000 in
theorem select_any {v : Value} {ss : Smps} (k : Int) (hk : I64 k) (w : World) (hs : SlS w v ss) (hn : ss.length ≤ 1000) : Calls Try.prog 31 #[v, .int .i64 k] w (SelP ss k w) := by
  have CI := indexes_any k hk w hs hn
  unfold IxP at CI
  unfold SelP
  obtain ⟨a, cap, rfl, hlc, hcm, hin, hcell⟩ := id hs
  have hcapm : cap ≤ 9223372036854775807 := by simpa [maxLen] using hcm
  obtain ⟨i0, hi, hz0, hz1, hz2⟩ := info_parts info_sample
  have HIN := hid (ixs_in (ss := ss) k)
  have HNO := hid (ixs_none (ss := ss) (k := k))
  have HZ := hid (fun W v base h => ixs_slz (W := W) (v := v) (ss := ss) (k := k) (base := base) h hn)
  have HGT := hid (fun i h => sel_get (ss := ss) (k := k) (i := i) h)
  have hsl := sel_len ss k
  have HSI := hid (sel_i64 k hin)
  generalize sel ss k = so at *
  generalize ixs ss k = zs at *
  generalize ixe ss k = E at *
  have HC := hid hcell
  clear hin hcell hcm
  go_enter Try.func31, Try.ntmps31
  (repeat' (first | go_values | go_skip | go_guarded | go_step | go_upon | (simp only [Int.not_lt, Int.not_le] at *; go_simp) | (go_values <;> (try go_simp)) | (go_ite <;> go_prune <;> (try go_simp)) | (split <;> (first | (rename_i hx; exact (hx _ rfl).elim) | go_prune))))
  go_at_call 29
  refine CI.mono ?_
  rintro e w1 ⟨vi, rfl, hown, hb1⟩
  clear CI
  by_cases hE : E = 0
  · subst hE
    obtain ⟨k1, k2, k3, k4⟩ := HIN.out rfl
    have hz := HZ.out _ _ _ hown
    obtain ⟨ai, li, ci, rfl, rfl, hic, him, -, hicell⟩ := hz
    obtain ⟨gi, oi, rfl, hgi, hics⟩ := hicell (by omega)
    have HK4 := hid k4
    have HIC := hid hics
    have hzl : zs.length ≤ 1000 := by omega
    have hz3 : 3 ≤ zs.length := by omega
    clear hown hicell hics k3 k4 HIN HNO HZ
    (repeat' (first | (go_big_may; (first | (refine wpList_make_full _ rfl _ _ 47 rfl w1.heap.size 23 i0 (.agg #[.int .i64 0, .int .i64 0]) 2 Try.underlying47 hi hz0 hz1 .i64 .i64 _ _ zs.length rfl rfl (by first | rfl | omega) (by first | rfl | omega) (by rw [hz2]; omega) (by unfold maxLen; omega) (Nat.le_refl _) ?_; intro wm hown hgr))) | go_values | go_skip | go_guarded | go_step | go_upon | (simp only [Int.not_lt, Int.not_le] at *; go_simp) | (go_values <;> (try go_simp)) | (go_ite <;> go_prune <;> (try go_simp)) | (split <;> (first | (rename_i hx; exact (hx _ rfl).elim) | go_prune))))
    have hO0 : OwnS wm w1.heap.size w1.heap.size zs.length (List.replicate zs.length (0, 0)) := OwnS.zeros hown
    have hB0 : Below w1.heap.size w1 wm := below_gt hgr
    clear hown hgr
    go_loopw [25] (fun i wr => ∃ (j : Nat) (bs : Smps), i = .int .i64 j ∧ j ≤ zs.length ∧ Hid (∀ i, i < j → bs.getD i (0, 0) = ss.getD (zs.getD i 0).toNat (0, 0)) ∧ OwnS wr w1.heap.size w1.heap.size zs.length bs ∧ Below w1.heap.size w1 wr) (fun i _ => zs.length - (intOf i).toNat)
    case atStart => exact ⟨0, _, rfl, Nat.zero_le _, hid (fun j hj => by omega), hO0, hB0⟩
    case round =>
      obtain ⟨j, bs, rfl, hj, hbs, hO, hB⟩ := hrel
      have hBw := hb1.trans (hB.mono hb1.size)
      by_cases hlt : j < zs.length
      · have f1 : wr.cell? ⟨gi, oi + j, none⟩ = some (.int .i64 (zs.getD j 0)) := (hB.cell (p := ⟨gi, oi + j, none⟩) hgi).trans (HIC.out j hlt)
        obtain ⟨b, off, rfl, hb, hcs⟩ := HC.out (by omega)
        have hzin : 0 ≤ zs.getD j 0 ∧ zs.getD j 0 < ss.length := HK4.out _ (by rw [List.getD_eq_getElem?_getD, List.getElem?_eq_getElem hlt]; exact List.getElem_mem hlt)
        have HX := hid (show zs.getD j 0 = zs.getD j 0 from rfl)
        generalize hz : zs.getD j 0 = z at f1 hzin
        clear HX
        have HZJ := hid hz
        clear hz
        obtain ⟨q, rfl⟩ : ∃ q : Nat, z = q := ⟨z.toNat, by omega⟩
        obtain ⟨p1, p2⟩ := hcs q (by omega)
        obtain ⟨xy, hx⟩ : ∃ xy, ss.getD q (0, 0) = xy := ⟨_, rfl⟩
        rw [hx] at p1 p2
        have HX := hid hx
        obtain ⟨x, y⟩ := xy
        dsimp only at p1 p2
        have f2 := (hBw.cell (p := ⟨b, off + q * 2, none⟩) hb).trans p1
        have f3 := (hBw.cell (p := ⟨b, off + q * 2 + 1, none⟩) hb).trans p2
        have f4 := hO.cell j hlt
        obtain ⟨f5, f6⟩ := f4
        have f7 := hO.frozen (j * 2)
        have f8 := hO.frozen (j * 2 + 1)
        have hsz := hO.lt
        have hqn : (q : Int) < ss.length := by omega
        clear hx p1 p2 hcs hzin
        (repeat' (first | go_values | go_skip | go_guarded | go_step | go_upon | (simp only [Int.not_lt, Int.not_le] at *; go_simp) | (go_values <;> (try go_simp)) | (go_ite <;> go_prune <;> (try go_simp)) | (split <;> (first | (rename_i hx; exact (hx _ rfl).elim) | go_prune))))
        go_roundw
        case rel =>
          refine ⟨j + 1, bs.set j (x, y), by simp, by omega, hid (fun i hi => ?_), hO.stored j hlt x y, by (repeat' (first | (with_reducible assumption) | (with_reducible exact Below.refl _ _) | (with_reducible refine Below.alloc ?_ ?_ _) | (with_reducible refine Below.setCell ?_ ?_ _) | (with_reducible refine Below.drew ?_) | (with_reducible refine below_more ?_ (by with_reducible assumption)) | go_size | omega | (with_reducible refine below_drewN ?_)))⟩
          by_cases hij : i = j
          · subst hij; rw [sget_eq (by have := hO.2; omega), HZJ.out, Int.toNat_natCast, HX.out]
          · rw [sget_ne (by omega)]; exact hbs.out i (by omega)
        case measure => simp [intOf]; omega
      · obtain rfl : j = zs.length := by omega
        (repeat' (first | go_values | go_skip | go_guarded | go_step | go_upon | (simp only [Int.not_lt, Int.not_le] at *; go_simp) | (go_values <;> (try go_simp)) | (go_ite <;> go_prune <;> (try go_simp)) | (split <;> (first | (rename_i hx; exact (hx _ rfl).elim) | go_prune))))
        refine bodyPost_ret (v := .tuple #[.slice (some ⟨w1.heap.size, 0, none⟩) zs.length zs.length, .int .i64 0]) ?_ rfl ⟨_, rfl, ?_, by (repeat' (first | (with_reducible assumption) | (with_reducible exact Below.refl _ _) | (with_reducible refine Below.alloc ?_ ?_ _) | (with_reducible refine Below.setCell ?_ ?_ _) | (with_reducible refine Below.drew ?_) | (with_reducible refine below_more ?_ (by with_reducible assumption)) | go_size | omega | (with_reducible refine below_drewN ?_)))⟩
        · simp [results, Try.results31, go_sem]
        · have e : bs = so := slist_ext (by rw [hsl]; exact hO.2) (fun i hi => by rw [hbs.out i (by have := hO.2; omega), HGT.out i (by have := hO.2; omega)])
          exact sls_owns (e ▸ hO) HSI.out
  · have hnil := HNO.out hE
    subst hnil
    have hsn : so = [] := List.eq_nil_of_length_eq_zero hsl
    subst hsn
    (repeat' (first | go_values | go_skip | go_guarded | go_step | go_upon | (simp only [Int.not_lt, Int.not_le] at *; go_simp) | (go_values <;> (try go_simp)) | (go_ite <;> go_prune <;> (try go_simp)) | (split <;> (first | (rename_i hx; exact (hx _ rfl).elim) | go_prune))))
    refine bodyPost_ret (v := .tuple #[.slice none 0 0, .int .i64 E]) ?_ rfl ⟨_, rfl, sls_nil _, by (repeat' (first | (with_reducible assumption) | (with_reducible exact Below.refl _ _) | (with_reducible refine Below.alloc ?_ ?_ _) | (with_reducible refine Below.setCell ?_ ?_ _) | (with_reducible refine Below.drew ?_) | (with_reducible refine below_more ?_ (by with_reducible assumption)) | go_size | omega | (with_reducible refine below_drewN ?_)))⟩
    simp [results, Try.results31, go_sem]
end Go.Proofs.Ythcboomdkpiflaa
