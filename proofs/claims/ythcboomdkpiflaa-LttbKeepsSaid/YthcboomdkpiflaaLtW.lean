/- tscodecref25.Select. -/
import Derived.Test.YthcboomdkpiflaaRows
import Derived.Test.YthcboomdkpiflaaLtY
import Derived.Test.YthcboomdkpiflaaLtZ
import Derived.WalkKit
import Derived.ProofKit
import Derived.WalkLawsBesides
import Derived.WalkSpells
import Derived.RegionTactic
import Derived.ChangeAlike
import Derived.BigRegion
import Derived.Outline
import Derived.Handy
import Derived.Deep.QuietTactic
import Derived.BigQuiet
namespace Go.Proofs.Ythcboomdkpiflaa
open Go.ChangeShapes Go.WideShapes Go.ChangeAt Go.RowKit
set_option linter.unusedVariables false
set_option linter.unusedSimpArgs false

theorem scells_app (a b : Smps) : scells (a ++ b) = scells a ++ scells b := by unfold scells; rw [List.flatMap_append]
theorem stake_succ {zs : Smps} {j : Nat} (h : j < zs.length) : zs.take (j + 1) = zs.take j ++ [zs.getD j (0, 0)] := by
  rw [List.take_succ_eq_append_getElem h, List.getD_eq_getElem?_getD, List.getElem?_eq_getElem h]; rfl

set_option maxHeartbeats 8000000 in
set_option maxRecDepth 100000 in
theorem rselect_any {v : Value} {ss : Smps} (k : Int) (hk : I64 k) (w : World) (hs : SlS w v ss) (hn : ss.length ≤ 1000) : Calls Try.prog 55 #[v, .int .i64 k] w (SelP ss k w) := by
  have CI := rindexes_any k hk w hs hn
  unfold IxP at CI
  unfold SelP
  obtain ⟨a, cap, rfl, hlc, hcm, hin, hcell⟩ := id hs
  have hcapm : cap ≤ 9223372036854775807 := by simpa [maxLen] using hcm
  obtain ⟨i0, hi, hz0, hz1, hz2⟩ := info_parts info_sample
  have HIN := hid (ixs_in (ss := ss) k)
  have HNO := hid (ixs_none (ss := ss) (k := k))
  have HZ := hid (fun W v base h => ixs_slz (W := W) (v := v) (ss := ss) (k := k) (base := base) h hn)
  have HGT := hid (fun i h => sel_get (ss := ss) (k := k) (i := i) h)
  have hsl := sel_len ss k
  have HSI := hid (sel_i64 k hin)
  generalize sel ss k = so at *
  generalize ixs ss k = zs at *
  generalize ixe ss k = E at *
  have HC := hid hcell
  clear hin hcell hcm
  go_enter Try.func55, Try.ntmps55
  (repeat' (first | go_values | go_skip | go_guarded | go_step | go_upon | (simp only [Int.not_lt, Int.not_le] at *; go_simp) | (go_values <;> (try go_simp)) | (go_ite <;> go_prune <;> (try go_simp)) | (split <;> (first | (rename_i hx; exact (hx _ rfl).elim) | go_prune))))
  go_at_call 54
  refine CI.mono ?_
  rintro e w1 ⟨vi, rfl, hown, hb1⟩
  clear CI
  by_cases hE : E = 0
  · subst hE
    obtain ⟨k1, k2, k3, k4⟩ := HIN.out rfl
    have hz := HZ.out _ _ _ hown
    obtain ⟨ai, li, ci, rfl, rfl, hic, him, -, hicell⟩ := hz
    obtain ⟨gi, oi, rfl, hgi, hics⟩ := hicell (by omega)
    have HK4 := hid k4
    have HIC := hid hics
    have hzl : zs.length ≤ 1000 := by omega
    have hz3 : 3 ≤ zs.length := by omega
    have HSL := hid hsl
    clear hown hicell hics k3 k4 HIN HNO HZ hsl
    (repeat' (first | go_values | go_skip | go_guarded | go_step | go_upon | (simp only [Int.not_lt, Int.not_le] at *; go_simp) | (go_values <;> (try go_simp)) | (go_ite <;> go_prune <;> (try go_simp)) | (split <;> (first | (rename_i hx; exact (hx _ rfl).elim) | go_prune))))
    go_loopw [8, 9] (fun out i wr => ∃ j : Nat, i = .int .i64 j ∧ j ≤ zs.length ∧ wr.ownsRow w1.heap.size 23 2 out j (scells (so.take j)) ∧ Below w1.heap.size w1 wr) (fun _ i _ => zs.length - (intOf i).toNat)
    case atStart => exact ⟨0, rfl, Nat.zero_le _, World.ownsRow_nil _ _ _ _, by (repeat' (first | (with_reducible assumption) | (with_reducible exact Below.refl _ _) | (with_reducible refine Below.alloc ?_ ?_ _) | (with_reducible refine Below.setCell ?_ ?_ _) | (with_reducible refine Below.drew ?_) | (with_reducible refine below_more ?_ (by with_reducible assumption)) | go_size | omega | (with_reducible refine below_drewN ?_)))⟩
    case round =>
      obtain ⟨j, rfl, hj, hO, hB⟩ := hrel
      have hBw := hb1.trans (hB.mono hb1.size)
      have hsz := hB.size
      by_cases hlt : j < zs.length
      · have f1 : wr.cell? ⟨gi, oi + j, none⟩ = some (.int .i64 (zs.getD j 0)) := (hB.cell (p := ⟨gi, oi + j, none⟩) hgi).trans (HIC.out j hlt)
        obtain ⟨b, off, rfl, hb, hcs⟩ := HC.out (by omega)
        have hzin : 0 ≤ zs.getD j 0 ∧ zs.getD j 0 < ss.length := HK4.out _ (by rw [List.getD_eq_getElem?_getD, List.getElem?_eq_getElem hlt]; exact List.getElem_mem hlt)
        have HSS := hid (stake_succ (zs := so) (j := j) (by rw [HSL.out]; exact hlt))
        have HG2 := hid (HGT.out j hlt)
        generalize hz : zs.getD j 0 = z at f1 hzin
        have HZJ := hid hz
        clear hz
        obtain ⟨q, rfl⟩ : ∃ q : Nat, z = q := ⟨z.toNat, by omega⟩
        obtain ⟨p1, p2⟩ := hcs q (by omega)
        obtain ⟨xy, hx⟩ : ∃ xy, ss.getD q (0, 0) = xy := ⟨_, rfl⟩
        rw [hx] at p1 p2
        have HX := hid hx
        obtain ⟨x, y⟩ := xy
        dsimp only at p1 p2
        have f2 := (hBw.cell (p := ⟨b, off + q * 2, none⟩) hb).trans p1
        have f3 := (hBw.cell (p := ⟨b, off + q * 2 + 1, none⟩) hb).trans p2
        have hqn : (q : Int) < ss.length := by omega
        clear hx p1 p2 hcs hzin
        (repeat' (first | (go_big_may; (first | (at_builtin; refine wpList_append_own _ rfl _ _ 47 rfl w1.heap.size 23 i0 (.agg #[.int .i64 0, .int .i64 0]) 2 16 Try.underlying47 hi hz0 hz1 hz2 rfl (by decide) _ _ _ rfl (hO.alloc _) ⟨_, 0, none⟩ 1 1 _ rfl rfl (fun j u h => two_cells _ _ _ _ j u h) (by intro u hu; simp at hu; rcases hu with rfl | rfl <;> rfl) (by unfold maxLen; omega) (by omega) (by simp; omega) ?_; intro v' w5 hown' hgrow _))) | go_values | go_skip | go_guarded | go_step | go_upon | (simp only [Int.not_lt, Int.not_le] at *; go_simp) | (go_values <;> (try go_simp)) | (go_ite <;> go_prune <;> (try go_simp)) | (split <;> (first | (rename_i hx; exact (hx _ rfl).elim) | go_prune))))
        have hb5 : Below w1.heap.size w1 w5 := (hB.alloc hsz _).trans (app_below (hO.alloc _) hgrow (Nat.le_refl _) (by simp; omega))
        clear hgrow
        go_roundw
        case rel => exact ⟨j + 1, by simp, by omega, by rw [HSS.out, scells_app, HG2.out, HZJ.out, Int.toNat_natCast, HX.out]; exact hown', hb5⟩
        case measure => simp [intOf]; omega
      · obtain rfl : j = zs.length := by omega
        (repeat' (first | go_values | go_skip | go_guarded | go_step | go_upon | (simp only [Int.not_lt, Int.not_le] at *; go_simp) | (go_values <;> (try go_simp)) | (go_ite <;> go_prune <;> (try go_simp)) | (split <;> (first | (rename_i hx; exact (hx _ rfl).elim) | go_prune))))
        refine bodyPost_ret (v := .tuple #[u8, .int .i64 0]) ?_ rfl ⟨_, rfl, ?_, by (repeat' (first | (with_reducible assumption) | (with_reducible exact Below.refl _ _) | (with_reducible refine Below.alloc ?_ ?_ _) | (with_reducible refine Below.setCell ?_ ?_ _) | (with_reducible refine Below.drew ?_) | (with_reducible refine below_more ?_ (by with_reducible assumption)) | go_size | omega | (with_reducible refine below_drewN ?_)))⟩
        · simp [results, Try.results55, go_sem]
        · rw [← HSL.out, List.take_length] at hO
          exact sls_own hO HSI.out
  · have hnil := HNO.out hE
    subst hnil
    have hsn : so = [] := List.eq_nil_of_length_eq_zero hsl
    subst hsn
    (repeat' (first | go_values | go_skip | go_guarded | go_step | go_upon | (simp only [Int.not_lt, Int.not_le] at *; go_simp) | (go_values <;> (try go_simp)) | (go_ite <;> go_prune <;> (try go_simp)) | (split <;> (first | (rename_i hx; exact (hx _ rfl).elim) | go_prune))))
    refine bodyPost_ret (v := .tuple #[.slice none 0 0, .int .i64 E]) ?_ rfl ⟨_, rfl, sls_nil _, by (repeat' (first | (with_reducible assumption) | (with_reducible exact Below.refl _ _) | (with_reducible refine Below.alloc ?_ ?_ _) | (with_reducible refine Below.setCell ?_ ?_ _) | (with_reducible refine Below.drew ?_) | (with_reducible refine below_more ?_ (by with_reducible assumption)) | go_size | omega | (with_reducible refine below_drewN ?_)))⟩
    simp [results, Try.results55, go_sem]
end Go.Proofs.Ythcboomdkpiflaa
