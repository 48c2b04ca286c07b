/- lttb.largest: the first of the greatest triangles. -/
import Derived.Test.YthcboomdkpiflaaRows
import Derived.Test.YthcboomdkpiflaaLtS
import Derived.Test.YthcboomdkpiflaaLtC
import Derived.Test.YthcboomdkpiflaaTriA
import Derived.WalkKit
import Derived.ProofKit
import Derived.WalkLawsBesides
import Derived.WalkSpells
import Derived.RegionTactic
import Derived.ChangeAlike
import Derived.BigRegion
import Derived.Outline
import Derived.Handy
namespace Go.Proofs.Ythcboomdkpiflaa
open Go.ChangeShapes Go.WideShapes Go.ChangeAt Go.RowKit
set_option linter.unusedVariables false
set_option linter.unusedSimpArgs false

theorem compare_we {z z' : Int} (h : Fits z) (h' : Fits z') (w : World) : Calls Try.prog 74 #[WE z, WE z'] w fun e w' => e = .returned (.int .i64 (cm z z')) ∧ Below w.heap.size w w' := by
  have := compare_any (sg z) _ _ _ _ (sg z') _ _ _ _ (lb0_in (ab z)) (lb1_in (ab z)) (lb2_in (ab z)) (lb3_in (ab z)) (lb0_in (ab z')) (lb1_in (ab z')) (lb2_in (ab z')) (lb3_in (ab z')) w
  rwa [wv_we h, wv_we h'] at this
theorem warea_any {p q : Int × Int} {T V : Int} (hp : I64 p.1 ∧ I64 p.2) (hq : I64 q.1 ∧ I64 q.2) (hT : Fits T) (hV : Fits V) (m : Int) (w : World) :
    Calls Try.prog 18 #[.agg #[.int .i64 p.1, .int .i64 p.2], .agg #[.int .i64 q.1, .int .i64 q.2], WE T, WE V, .int .i64 m] w fun e w' => e = .returned (WE (area p q T V m)) ∧ Below w.heap.size w w' := by
  have := weighted_any p.1 p.2 q.1 q.2 hp.1 hp.2 hq.1 hq.2 (sg T) _ _ _ _ (sg V) _ _ _ _ (lb0_in (ab T)) (lb1_in (ab T)) (lb2_in (ab T)) (lb3_in (ab T)) (lb0_in (ab V)) (lb1_in (ab V)) (lb2_in (ab V)) (lb3_in (ab V)) m w
  rw [wv_we hT, wv_we hV] at this
  exact this
theorem rarea_any {p q : Int × Int} {T V : Int} (hp : I64 p.1 ∧ I64 p.2) (hq : I64 q.1 ∧ I64 q.2) (hT : Fits T) (hV : Fits V) (m : Int) (w : World) :
    Calls Try.prog 19 #[.agg #[.int .i64 p.1, .int .i64 p.2], .agg #[.int .i64 q.1, .int .i64 q.2], WE T, WE V, .int .i64 m] w fun e w' => e = .returned (WE (area p q T V m)) ∧ Below w.heap.size w w' := by
  have := rweighted_any p.1 p.2 q.1 q.2 hp.1 hp.2 hq.1 hq.2 (sg T) _ _ _ _ (sg V) _ _ _ _ (lb0_in (ab T)) (lb1_in (ab T)) (lb2_in (ab T)) (lb3_in (ab T)) (lb0_in (ab V)) (lb1_in (ab V)) (lb2_in (ab V)) (lb3_in (ab V)) m w
  rw [wv_we hT, wv_we hV] at this
  exact this
theorem fits_minus : Fits (-1) := fits_i64 ⟨by decide, by decide⟩
theorem fits_ab {z : Int} (h : Fits z) : Fits (ab z) := by
  unfold Fits at *
  rwa [show ab (ab z) = ab z by unfold ab; split <;> (try split) <;> omega]
theorem fits_area {p q : Int × Int} {T V m : Int} (hp : I64 p.1 ∧ I64 p.2) (hq : I64 q.1 ∧ I64 q.2) (hT : Fits T) (hV : Fits V) : Fits (area p q T V m) := by
  unfold area wgt
  split
  · rename_i h
    obtain ⟨hm, k1, k2⟩ := wok_iff.1 h
    have s1 := sm_small (lb0_in _) (lb1_in _) k1
    have s2 := sm_small (lb0_in _) (lb1_in _) k2
    rw [wv_we hT] at s1
    rw [wv_we hV] at s2
    exact fits_ab (fits_ar hp.1 hp.2 hq.1 hq.2 s1 s2 hm)
  · unfold Fits; decide
theorem cm_pos (a b : Int) : 0 < cm a b ↔ b < a := by unfold cm; (repeat' split) <;> omega

set_option maxHeartbeats 8000000 in
set_option maxRecDepth 100000 in
theorem largest_any {p : Int × Int} {v1 v2 : Value} {l nx : Smps} (hp : I64 p.1 ∧ I64 p.2) (w : World) (hs1 : SlS w v1 l) (hs2 : SlS w v2 nx) (hn : l.length ≤ 1000) :
    Calls Try.prog 58 #[.agg #[.int .i64 p.1, .int .i64 p.2], v1, v2] w fun e w' => e = .returned (.int .i64 ((best p l nx l.length).1 : Nat)) ∧ Below w.heap.size w w' := by
  have WA := fun (q : Int × Int) (hq : I64 q.1 ∧ I64 q.2) W => warea_any hp hq (fits_wsum Prod.fst nx nx.length) (fits_wsum Prod.snd nx nx.length) (nx.length : Int) W
  have FA := fun (q : Int × Int) (hq : I64 q.1 ∧ I64 q.2) => fits_area hp hq (fits_wsum Prod.fst nx nx.length) (fits_wsum Prod.snd nx nx.length) (T := wsum Prod.fst nx nx.length) (V := wsum Prod.snd nx nx.length) (m := (nx.length : Int))
  have SA := fun W h => sums_any (v := v2) (ss := nx) W h
  unfold best
  obtain ⟨T, hT⟩ : ∃ T, wsum Prod.fst nx nx.length = T := ⟨_, rfl⟩
  obtain ⟨V, hV⟩ : ∃ V, wsum Prod.snd nx nx.length = V := ⟨_, rfl⟩
  obtain ⟨f, hf⟩ : ∃ f : Nat → Int, (fun i => area p (l.getD i (0, 0)) T V nx.length) = f := ⟨_, rfl⟩
  rw [hT, hV] at WA SA FA ⊢
  rw [hf]
  have HF := hid hf
  clear hT hV hf
  obtain ⟨a2, cap2, rfl, hlc2, hcm2, hin2, -⟩ := id hs2
  have hnx : nx.length ≤ 9223372036854775807 := by
    have : cap2 ≤ 9223372036854775807 := by simpa [maxLen] using hcm2
    omega
  obtain ⟨a, cap, rfl, hlc, hcm, hin, hcell⟩ := hs1
  have HC := hid hcell
  have HI := hid hin
  clear hcell hin hcm hin2 hcm2
  obtain ⟨ta, va⟩ := p
  dsimp only at hp WA FA
  have LGF : ∀ k, Fits (lg f k).2 := fun k => by
    induction k with
    | zero => exact fits_minus
    | succ k ih =>
      show Fits (if (lg f k).2 < f k then (k, f k) else lg f k).2
      split
      · show Fits (f k)
        rw [← HF.out]
        exact FA _ (smp_i64 HI.out k)
      · exact ih
  go_enter Try.func58, Try.ntmps58
  (repeat' (first | go_values | go_skip | go_guarded | go_step | go_upon | (simp only [Int.not_lt, Int.not_le] at *; go_simp) | (go_values <;> (try go_simp)) | (go_ite <;> go_prune <;> (try go_simp)) | (split <;> (first | (rename_i hx; exact (hx _ rfl).elim) | go_prune))))
  go_at_call 73
  refine (SA _ (hs2.below (by (repeat' (first | (with_reducible assumption) | (with_reducible exact Below.refl _ _) | (with_reducible refine Below.alloc ?_ ?_ _) | (with_reducible refine Below.setCell ?_ ?_ _) | (with_reducible refine Below.drew ?_) | (with_reducible refine below_more ?_ (by with_reducible assumption)) | go_size | omega | (with_reducible refine below_drewN ?_)))))).mono ?_
  rintro e w1 ⟨rfl, hbw1⟩
  have hA1 : HB w1 w.heap.size #[.int .i64 ta, .int .i64 va] := by refine HB.below ?_ hbw1; (repeat' (first | (with_reducible assumption) | ((with_reducible refine HB.new _ _ _ ?_) <;> (go_size; done)) | (with_reducible refine HB.old (by go_size) ?_) | (with_reducible refine HB.drew ?_) | (with_reducible refine HB.over5 ?_) | (with_reducible refine HB.over4 ?_) | (with_reducible refine HB.setne (by first | go_size | (dsimp only; omega)) ?_) | (with_reducible refine HN.set ?_) | (with_reducible refine HN.setne (by first | go_size | (dsimp only; omega)) ?_) | (with_reducible refine HN.drew ?_) | (with_reducible refine HN.old (by go_size) ?_) | (with_reducible exact HN.of5 (by assumption)) | (with_reducible exact HN.new5 _ _ (by go_size)) | (with_reducible exact HN.of4 (by assumption)) | (with_reducible exact HN.new4 _ _ (by go_size))))
  have hB1 : Below w.heap.size w w1 := by (repeat' (first | (with_reducible assumption) | (with_reducible exact Below.refl _ _) | (with_reducible refine Below.alloc ?_ ?_ _) | (with_reducible refine Below.setCell ?_ ?_ _) | (with_reducible refine Below.drew ?_) | (with_reducible refine below_more ?_ (by with_reducible assumption)) | go_size | omega | (with_reducible refine below_drewN ?_)))
  have hsz1 := hA1.lt
  clear SA hs2 hbw1
  (repeat' (first | go_values | go_skip | go_guarded | go_step | go_upon | (simp only [Int.not_lt, Int.not_le] at *; go_simp) | (go_values <;> (try go_simp)) | (go_ite <;> go_prune <;> (try go_simp)) | (split <;> (first | (rename_i hx; exact (hx _ rfl).elim) | go_prune))))
  go_at_call 38
  refine (of_any (-1) ⟨by decide, by decide⟩ _).mono ?_
  rintro e w2 ⟨rfl, hbw2⟩
  have hA : HB w2 w.heap.size #[.int .i64 ta, .int .i64 va] := by refine HB.below ?_ hbw2; (repeat' (first | (with_reducible assumption) | ((with_reducible refine HB.new _ _ _ ?_) <;> (go_size; done)) | (with_reducible refine HB.old (by go_size) ?_) | (with_reducible refine HB.drew ?_) | (with_reducible refine HB.over5 ?_) | (with_reducible refine HB.over4 ?_) | (with_reducible refine HB.setne (by first | go_size | (dsimp only; omega)) ?_) | (with_reducible refine HN.set ?_) | (with_reducible refine HN.setne (by first | go_size | (dsimp only; omega)) ?_) | (with_reducible refine HN.drew ?_) | (with_reducible refine HN.old (by go_size) ?_) | (with_reducible exact HN.of5 (by assumption)) | (with_reducible exact HN.new5 _ _ (by go_size)) | (with_reducible exact HN.of4 (by assumption)) | (with_reducible exact HN.new4 _ _ (by go_size))))
  have hT : HB w2 w1.heap.size #[.bool (sg (T)), .int .u64 (lb0 (ab (T))), .int .u64 (lb1 (ab (T))), .int .u64 (lb2 (ab (T))), .int .u64 (lb3 (ab (T)))] := by refine HB.below ?_ hbw2; (repeat' (first | (with_reducible assumption) | ((with_reducible refine HB.new _ _ _ ?_) <;> (go_size; done)) | (with_reducible refine HB.old (by go_size) ?_) | (with_reducible refine HB.drew ?_) | (with_reducible refine HB.over5 ?_) | (with_reducible refine HB.over4 ?_) | (with_reducible refine HB.setne (by first | go_size | (dsimp only; omega)) ?_) | (with_reducible refine HN.set ?_) | (with_reducible refine HN.setne (by first | go_size | (dsimp only; omega)) ?_) | (with_reducible refine HN.drew ?_) | (with_reducible refine HN.old (by go_size) ?_) | (with_reducible exact HN.of5 (by assumption)) | (with_reducible exact HN.new5 _ _ (by go_size)) | (with_reducible exact HN.of4 (by assumption)) | (with_reducible exact HN.new4 _ _ (by go_size))))
  have hV : HB w2 (w1.heap.size + 1) #[.bool (sg (V)), .int .u64 (lb0 (ab (V))), .int .u64 (lb1 (ab (V))), .int .u64 (lb2 (ab (V))), .int .u64 (lb3 (ab (V)))] := by refine HB.below ?_ hbw2; (repeat' (first | (with_reducible assumption) | ((with_reducible refine HB.new _ _ _ ?_) <;> (go_size; done)) | (with_reducible refine HB.old (by go_size) ?_) | (with_reducible refine HB.drew ?_) | (with_reducible refine HB.over5 ?_) | (with_reducible refine HB.over4 ?_) | (with_reducible refine HB.setne (by first | go_size | (dsimp only; omega)) ?_) | (with_reducible refine HN.set ?_) | (with_reducible refine HN.setne (by first | go_size | (dsimp only; omega)) ?_) | (with_reducible refine HN.drew ?_) | (with_reducible refine HN.old (by go_size) ?_) | (with_reducible exact HN.of5 (by assumption)) | (with_reducible exact HN.new5 _ _ (by go_size)) | (with_reducible exact HN.of4 (by assumption)) | (with_reducible exact HN.new4 _ _ (by go_size))))
  have hB2 : Below w.heap.size w w2 := by (repeat' (first | (with_reducible assumption) | (with_reducible exact Below.refl _ _) | (with_reducible refine Below.alloc ?_ ?_ _) | (with_reducible refine Below.setCell ?_ ?_ _) | (with_reducible refine Below.drew ?_) | (with_reducible refine below_more ?_ (by with_reducible assumption)) | go_size | omega | (with_reducible refine below_drewN ?_)))
  have hsz2 := hV.lt
  clear hA1 hB1 hbw2
  (repeat' (first | go_values | go_skip | go_guarded | go_step | go_upon | (simp only [Int.not_lt, Int.not_le] at *; go_simp) | (go_values <;> (try go_simp)) | (go_ite <;> go_prune <;> (try go_simp)) | (split <;> (first | (rename_i hx; exact (hx _ rfl).elim) | go_prune))))
  go_loopw [9, 22] (fun bb i wr => ∃ k : Nat, bb = .int .i64 ((lg f k).1 : Nat) ∧ i = .int .i64 k ∧ k ≤ l.length ∧ HB wr w.heap.size #[.int .i64 ta, .int .i64 va] ∧ HB wr w1.heap.size #[.bool (sg (T)), .int .u64 (lb0 (ab (T))), .int .u64 (lb1 (ab (T))), .int .u64 (lb2 (ab (T))), .int .u64 (lb3 (ab (T)))] ∧ HB wr (w1.heap.size + 1) #[.bool (sg (V)), .int .u64 (lb0 (ab (V))), .int .u64 (lb1 (ab (V))), .int .u64 (lb2 (ab (V))), .int .u64 (lb3 (ab (V)))] ∧ HB wr w2.heap.size #[.bool (sg ((lg f k).2)), .int .u64 (lb0 (ab ((lg f k).2))), .int .u64 (lb1 (ab ((lg f k).2))), .int .u64 (lb2 (ab ((lg f k).2))), .int .u64 (lb3 (ab ((lg f k).2)))] ∧ Below w.heap.size w wr) (fun _ i _ => l.length - (intOf i).toNat)
  case atStart => exact ⟨0, rfl, rfl, Nat.zero_le _, by (repeat' (first | (with_reducible assumption) | ((with_reducible refine HB.new _ _ _ ?_) <;> (go_size; done)) | (with_reducible refine HB.old (by go_size) ?_) | (with_reducible refine HB.drew ?_) | (with_reducible refine HB.over5 ?_) | (with_reducible refine HB.over4 ?_) | (with_reducible refine HB.setne (by first | go_size | (dsimp only; omega)) ?_) | (with_reducible refine HN.set ?_) | (with_reducible refine HN.setne (by first | go_size | (dsimp only; omega)) ?_) | (with_reducible refine HN.drew ?_) | (with_reducible refine HN.old (by go_size) ?_) | (with_reducible exact HN.of5 (by assumption)) | (with_reducible exact HN.new5 _ _ (by go_size)) | (with_reducible exact HN.of4 (by assumption)) | (with_reducible exact HN.new4 _ _ (by go_size)))), by (repeat' (first | (with_reducible assumption) | ((with_reducible refine HB.new _ _ _ ?_) <;> (go_size; done)) | (with_reducible refine HB.old (by go_size) ?_) | (with_reducible refine HB.drew ?_) | (with_reducible refine HB.over5 ?_) | (with_reducible refine HB.over4 ?_) | (with_reducible refine HB.setne (by first | go_size | (dsimp only; omega)) ?_) | (with_reducible refine HN.set ?_) | (with_reducible refine HN.setne (by first | go_size | (dsimp only; omega)) ?_) | (with_reducible refine HN.drew ?_) | (with_reducible refine HN.old (by go_size) ?_) | (with_reducible exact HN.of5 (by assumption)) | (with_reducible exact HN.new5 _ _ (by go_size)) | (with_reducible exact HN.of4 (by assumption)) | (with_reducible exact HN.new4 _ _ (by go_size)))), by (repeat' (first | (with_reducible assumption) | ((with_reducible refine HB.new _ _ _ ?_) <;> (go_size; done)) | (with_reducible refine HB.old (by go_size) ?_) | (with_reducible refine HB.drew ?_) | (with_reducible refine HB.over5 ?_) | (with_reducible refine HB.over4 ?_) | (with_reducible refine HB.setne (by first | go_size | (dsimp only; omega)) ?_) | (with_reducible refine HN.set ?_) | (with_reducible refine HN.setne (by first | go_size | (dsimp only; omega)) ?_) | (with_reducible refine HN.drew ?_) | (with_reducible refine HN.old (by go_size) ?_) | (with_reducible exact HN.of5 (by assumption)) | (with_reducible exact HN.new5 _ _ (by go_size)) | (with_reducible exact HN.of4 (by assumption)) | (with_reducible exact HN.new4 _ _ (by go_size)))), by show HB _ _ #[.bool (sg (-1)), .int .u64 (lb0 (ab (-1))), .int .u64 (lb1 (ab (-1))), .int .u64 (lb2 (ab (-1))), .int .u64 (lb3 (ab (-1)))]; (repeat' (first | (with_reducible assumption) | ((with_reducible refine HB.new _ _ _ ?_) <;> (go_size; done)) | (with_reducible refine HB.old (by go_size) ?_) | (with_reducible refine HB.drew ?_) | (with_reducible refine HB.over5 ?_) | (with_reducible refine HB.over4 ?_) | (with_reducible refine HB.setne (by first | go_size | (dsimp only; omega)) ?_) | (with_reducible refine HN.set ?_) | (with_reducible refine HN.setne (by first | go_size | (dsimp only; omega)) ?_) | (with_reducible refine HN.drew ?_) | (with_reducible refine HN.old (by go_size) ?_) | (with_reducible exact HN.of5 (by assumption)) | (with_reducible exact HN.new5 _ _ (by go_size)) | (with_reducible exact HN.of4 (by assumption)) | (with_reducible exact HN.new4 _ _ (by go_size)))), by (repeat' (first | (with_reducible assumption) | (with_reducible exact Below.refl _ _) | (with_reducible refine Below.alloc ?_ ?_ _) | (with_reducible refine Below.setCell ?_ ?_ _) | (with_reducible refine Below.drew ?_) | (with_reducible refine below_more ?_ (by with_reducible assumption)) | go_size | omega | (with_reducible refine below_drewN ?_)))⟩
  case round =>
    obtain ⟨k, rfl, rfl, hk, hA, hT, hV, hR, hB⟩ := hrel
    have hsz := hR.lt
    by_cases hlt : k < l.length
    · obtain ⟨b, off, rfl, hb, hcs⟩ := HC.out (by omega)
      obtain ⟨p1, p2⟩ := hcs k hlt
      have hq := smp_i64 HI.out k
      have hfk : f k = area (ta, va) (l.getD k (0, 0)) T V nx.length := by rw [← HF.out]
      have hlg : lg f (k + 1) = if (lg f k).2 < f k then (k, f k) else lg f k := rfl
      have hfr : Fits (lg f k).2 := LGF k
      obtain ⟨⟨bi, r⟩, hbr⟩ : ∃ br, lg f k = br := ⟨_, rfl⟩
      rw [hbr] at hlg hR hfr
      dsimp only at hlg hR hfr
      have hfa := FA _ hq
      have WB := fun W => WA _ hq W
      rw [← hfk] at hfa WB
      obtain ⟨xy, hx⟩ : ∃ xy, l.getD k (0, 0) = xy := ⟨_, rfl⟩
      rw [hx] at p1 p2 WB
      obtain ⟨x, y⟩ := xy
      dsimp only at p1 p2 WB
      obtain ⟨ar, har⟩ : ∃ ar, f k = ar := ⟨_, rfl⟩
      rw [har] at WB hfa hlg
      have CM := fun W => compare_we hfa hfr W
      have hcm := cm_pos ar r
      generalize cm ar r = c at CM hcm
      have f1 := (hB.cell (p := ⟨b, off + k * 2, none⟩) hb).trans p1
      have f2 := (hB.cell (p := ⟨b, off + k * 2 + 1, none⟩) hb).trans p2
      obtain ⟨A1, A1c, A1f, A1l⟩ := Bx.of hA
      obtain ⟨T1, T1c, T1f, T1l⟩ := Bx.of hT
      obtain ⟨V1, V1c, V1f, V1l⟩ := Bx.of hV
      have HG := hid hlg
      have HBR := hid hbr
      clear hlg hbr hfk hx har p1 p2 hcs hq hfa hfr
      rw [HBR.out]
      dsimp only
      (repeat' (first | go_values | go_skip | go_guarded | go_step | go_upon | (simp only [Int.not_lt, Int.not_le] at *; go_simp) | (go_values <;> (try go_simp)) | (go_ite <;> go_prune <;> (try go_simp)) | (split <;> (first | (rename_i hx; exact (hx _ rfl).elim) | go_prune))))
      go_at_call 18
      refine (WB _).mono ?_
      rintro e w3 ⟨rfl, hbw3⟩
      have hA3 : HB w3 w.heap.size #[.int .i64 ta, .int .i64 va] := by refine HB.below ?_ hbw3; (repeat' (first | (with_reducible assumption) | ((with_reducible refine HB.new _ _ _ ?_) <;> (go_size; done)) | (with_reducible refine HB.old (by go_size) ?_) | (with_reducible refine HB.drew ?_) | (with_reducible refine HB.over5 ?_) | (with_reducible refine HB.over4 ?_) | (with_reducible refine HB.setne (by first | go_size | (dsimp only; omega)) ?_) | (with_reducible refine HN.set ?_) | (with_reducible refine HN.setne (by first | go_size | (dsimp only; omega)) ?_) | (with_reducible refine HN.drew ?_) | (with_reducible refine HN.old (by go_size) ?_) | (with_reducible exact HN.of5 (by assumption)) | (with_reducible exact HN.new5 _ _ (by go_size)) | (with_reducible exact HN.of4 (by assumption)) | (with_reducible exact HN.new4 _ _ (by go_size))))
      have hT3 : HB w3 w1.heap.size #[.bool (sg (T)), .int .u64 (lb0 (ab (T))), .int .u64 (lb1 (ab (T))), .int .u64 (lb2 (ab (T))), .int .u64 (lb3 (ab (T)))] := by refine HB.below ?_ hbw3; (repeat' (first | (with_reducible assumption) | ((with_reducible refine HB.new _ _ _ ?_) <;> (go_size; done)) | (with_reducible refine HB.old (by go_size) ?_) | (with_reducible refine HB.drew ?_) | (with_reducible refine HB.over5 ?_) | (with_reducible refine HB.over4 ?_) | (with_reducible refine HB.setne (by first | go_size | (dsimp only; omega)) ?_) | (with_reducible refine HN.set ?_) | (with_reducible refine HN.setne (by first | go_size | (dsimp only; omega)) ?_) | (with_reducible refine HN.drew ?_) | (with_reducible refine HN.old (by go_size) ?_) | (with_reducible exact HN.of5 (by assumption)) | (with_reducible exact HN.new5 _ _ (by go_size)) | (with_reducible exact HN.of4 (by assumption)) | (with_reducible exact HN.new4 _ _ (by go_size))))
      have hV3 : HB w3 (w1.heap.size + 1) #[.bool (sg (V)), .int .u64 (lb0 (ab (V))), .int .u64 (lb1 (ab (V))), .int .u64 (lb2 (ab (V))), .int .u64 (lb3 (ab (V)))] := by refine HB.below ?_ hbw3; (repeat' (first | (with_reducible assumption) | ((with_reducible refine HB.new _ _ _ ?_) <;> (go_size; done)) | (with_reducible refine HB.old (by go_size) ?_) | (with_reducible refine HB.drew ?_) | (with_reducible refine HB.over5 ?_) | (with_reducible refine HB.over4 ?_) | (with_reducible refine HB.setne (by first | go_size | (dsimp only; omega)) ?_) | (with_reducible refine HN.set ?_) | (with_reducible refine HN.setne (by first | go_size | (dsimp only; omega)) ?_) | (with_reducible refine HN.drew ?_) | (with_reducible refine HN.old (by go_size) ?_) | (with_reducible exact HN.of5 (by assumption)) | (with_reducible exact HN.new5 _ _ (by go_size)) | (with_reducible exact HN.of4 (by assumption)) | (with_reducible exact HN.new4 _ _ (by go_size))))
      have hR3 : HB w3 w2.heap.size #[.bool (sg (r)), .int .u64 (lb0 (ab (r))), .int .u64 (lb1 (ab (r))), .int .u64 (lb2 (ab (r))), .int .u64 (lb3 (ab (r)))] := by refine HB.below ?_ hbw3; (repeat' (first | (with_reducible assumption) | ((with_reducible refine HB.new _ _ _ ?_) <;> (go_size; done)) | (with_reducible refine HB.old (by go_size) ?_) | (with_reducible refine HB.drew ?_) | (with_reducible refine HB.over5 ?_) | (with_reducible refine HB.over4 ?_) | (with_reducible refine HB.setne (by first | go_size | (dsimp only; omega)) ?_) | (with_reducible refine HN.set ?_) | (with_reducible refine HN.setne (by first | go_size | (dsimp only; omega)) ?_) | (with_reducible refine HN.drew ?_) | (with_reducible refine HN.old (by go_size) ?_) | (with_reducible exact HN.of5 (by assumption)) | (with_reducible exact HN.new5 _ _ (by go_size)) | (with_reducible exact HN.of4 (by assumption)) | (with_reducible exact HN.new4 _ _ (by go_size))))
      have hB3 : Below w.heap.size w w3 := by (repeat' (first | (with_reducible assumption) | (with_reducible exact Below.refl _ _) | (with_reducible refine Below.alloc ?_ ?_ _) | (with_reducible refine Below.setCell ?_ ?_ _) | (with_reducible refine Below.drew ?_) | (with_reducible refine below_more ?_ (by with_reducible assumption)) | go_size | omega | (with_reducible refine below_drewN ?_)))
      have hsz3 : wr.heap.size < w3.heap.size := by have := hbw3.size; simp at this; omega
      obtain ⟨R1, R1c, R1f, R1l⟩ := Bx.of hR3
      clear hA hT hV hR hB A1 A1c A1f A1l T1 T1c T1f T1l V1 V1c V1f V1l f1 f2 WB WA FA hbw3
      (repeat' (first | go_values | go_skip | go_guarded | go_step | go_upon | (simp only [Int.not_lt, Int.not_le] at *; go_simp) | (go_values <;> (try go_simp)) | (go_ite <;> go_prune <;> (try go_simp)) | (split <;> (first | (rename_i hx; exact (hx _ rfl).elim) | go_prune))))
      go_at_call 74
      refine (CM _).mono ?_
      rintro e w4 ⟨rfl, hbw4⟩
      have hA : HB w4 w.heap.size #[.int .i64 ta, .int .i64 va] := by refine HB.below ?_ hbw4; (repeat' (first | (with_reducible assumption) | ((with_reducible refine HB.new _ _ _ ?_) <;> (go_size; done)) | (with_reducible refine HB.old (by go_size) ?_) | (with_reducible refine HB.drew ?_) | (with_reducible refine HB.over5 ?_) | (with_reducible refine HB.over4 ?_) | (with_reducible refine HB.setne (by first | go_size | (dsimp only; omega)) ?_) | (with_reducible refine HN.set ?_) | (with_reducible refine HN.setne (by first | go_size | (dsimp only; omega)) ?_) | (with_reducible refine HN.drew ?_) | (with_reducible refine HN.old (by go_size) ?_) | (with_reducible exact HN.of5 (by assumption)) | (with_reducible exact HN.new5 _ _ (by go_size)) | (with_reducible exact HN.of4 (by assumption)) | (with_reducible exact HN.new4 _ _ (by go_size))))
      have hT : HB w4 w1.heap.size #[.bool (sg (T)), .int .u64 (lb0 (ab (T))), .int .u64 (lb1 (ab (T))), .int .u64 (lb2 (ab (T))), .int .u64 (lb3 (ab (T)))] := by refine HB.below ?_ hbw4; (repeat' (first | (with_reducible assumption) | ((with_reducible refine HB.new _ _ _ ?_) <;> (go_size; done)) | (with_reducible refine HB.old (by go_size) ?_) | (with_reducible refine HB.drew ?_) | (with_reducible refine HB.over5 ?_) | (with_reducible refine HB.over4 ?_) | (with_reducible refine HB.setne (by first | go_size | (dsimp only; omega)) ?_) | (with_reducible refine HN.set ?_) | (with_reducible refine HN.setne (by first | go_size | (dsimp only; omega)) ?_) | (with_reducible refine HN.drew ?_) | (with_reducible refine HN.old (by go_size) ?_) | (with_reducible exact HN.of5 (by assumption)) | (with_reducible exact HN.new5 _ _ (by go_size)) | (with_reducible exact HN.of4 (by assumption)) | (with_reducible exact HN.new4 _ _ (by go_size))))
      have hV : HB w4 (w1.heap.size + 1) #[.bool (sg (V)), .int .u64 (lb0 (ab (V))), .int .u64 (lb1 (ab (V))), .int .u64 (lb2 (ab (V))), .int .u64 (lb3 (ab (V)))] := by refine HB.below ?_ hbw4; (repeat' (first | (with_reducible assumption) | ((with_reducible refine HB.new _ _ _ ?_) <;> (go_size; done)) | (with_reducible refine HB.old (by go_size) ?_) | (with_reducible refine HB.drew ?_) | (with_reducible refine HB.over5 ?_) | (with_reducible refine HB.over4 ?_) | (with_reducible refine HB.setne (by first | go_size | (dsimp only; omega)) ?_) | (with_reducible refine HN.set ?_) | (with_reducible refine HN.setne (by first | go_size | (dsimp only; omega)) ?_) | (with_reducible refine HN.drew ?_) | (with_reducible refine HN.old (by go_size) ?_) | (with_reducible exact HN.of5 (by assumption)) | (with_reducible exact HN.new5 _ _ (by go_size)) | (with_reducible exact HN.of4 (by assumption)) | (with_reducible exact HN.new4 _ _ (by go_size))))
      have hR : HB w4 w2.heap.size #[.bool (sg (r)), .int .u64 (lb0 (ab (r))), .int .u64 (lb1 (ab (r))), .int .u64 (lb2 (ab (r))), .int .u64 (lb3 (ab (r)))] := by refine HB.below ?_ hbw4; (repeat' (first | (with_reducible assumption) | ((with_reducible refine HB.new _ _ _ ?_) <;> (go_size; done)) | (with_reducible refine HB.old (by go_size) ?_) | (with_reducible refine HB.drew ?_) | (with_reducible refine HB.over5 ?_) | (with_reducible refine HB.over4 ?_) | (with_reducible refine HB.setne (by first | go_size | (dsimp only; omega)) ?_) | (with_reducible refine HN.set ?_) | (with_reducible refine HN.setne (by first | go_size | (dsimp only; omega)) ?_) | (with_reducible refine HN.drew ?_) | (with_reducible refine HN.old (by go_size) ?_) | (with_reducible exact HN.of5 (by assumption)) | (with_reducible exact HN.new5 _ _ (by go_size)) | (with_reducible exact HN.of4 (by assumption)) | (with_reducible exact HN.new4 _ _ (by go_size))))
      have hN : HB w4 w3.heap.size #[.bool (sg (ar)), .int .u64 (lb0 (ab (ar))), .int .u64 (lb1 (ab (ar))), .int .u64 (lb2 (ab (ar))), .int .u64 (lb3 (ab (ar)))] := by refine HB.below ?_ hbw4; (repeat' (first | (with_reducible assumption) | ((with_reducible refine HB.new _ _ _ ?_) <;> (go_size; done)) | (with_reducible refine HB.old (by go_size) ?_) | (with_reducible refine HB.drew ?_) | (with_reducible refine HB.over5 ?_) | (with_reducible refine HB.over4 ?_) | (with_reducible refine HB.setne (by first | go_size | (dsimp only; omega)) ?_) | (with_reducible refine HN.set ?_) | (with_reducible refine HN.setne (by first | go_size | (dsimp only; omega)) ?_) | (with_reducible refine HN.drew ?_) | (with_reducible refine HN.old (by go_size) ?_) | (with_reducible exact HN.of5 (by assumption)) | (with_reducible exact HN.new5 _ _ (by go_size)) | (with_reducible exact HN.of4 (by assumption)) | (with_reducible exact HN.new4 _ _ (by go_size))))
      have hB : Below w.heap.size w w4 := by (repeat' (first | (with_reducible assumption) | (with_reducible exact Below.refl _ _) | (with_reducible refine Below.alloc ?_ ?_ _) | (with_reducible refine Below.setCell ?_ ?_ _) | (with_reducible refine Below.drew ?_) | (with_reducible refine below_more ?_ (by with_reducible assumption)) | go_size | omega | (with_reducible refine below_drewN ?_)))
      clear hA3 hT3 hV3 hR3 hB3 R1 R1c R1f R1l CM hbw4
      by_cases hra : r < ar
      · have hc0 : 0 < c := hcm.2 hra
        rw [if_pos hra] at HG
        clear hcm
        obtain ⟨N1, N1c, N1f, N1l⟩ := Bx.of hN
        obtain ⟨R1, R1c, R1f, R1l⟩ := Bx.of hR
        have hmx : Try.prog.follows .mixedOrders = true := by kernel_rfl
        (repeat' (first | go_values | go_skip | go_guarded | go_step | go_upon | (simp only [Int.not_lt, Int.not_le] at *; go_simp) | (go_values <;> (try go_simp)) | (go_ite <;> go_prune <;> (try go_simp)) | (split <;> (first | (rename_i hx; exact (hx _ rfl).elim) | go_prune))))
        go_region
        all_goals (repeat' (first | go_values | go_skip | go_guarded | go_step | go_upon | (simp only [Int.not_lt, Int.not_le] at *; go_simp) | (go_values <;> (try go_simp)) | (go_ite <;> go_prune <;> (try go_simp)) | (split <;> (first | (rename_i hx; exact (hx _ rfl).elim) | go_prune))))
        all_goals go_roundw
        all_goals (first | (case rel => exact ⟨k + 1, by rw [HG.out], by simp, by omega, by (repeat' (first | (with_reducible assumption) | ((with_reducible refine HB.new _ _ _ ?_) <;> (go_size; done)) | (with_reducible refine HB.old (by go_size) ?_) | (with_reducible refine HB.drew ?_) | (with_reducible refine HB.over5 ?_) | (with_reducible refine HB.over4 ?_) | (with_reducible refine HB.setne (by first | go_size | (dsimp only; omega)) ?_) | (with_reducible refine HN.set ?_) | (with_reducible refine HN.setne (by first | go_size | (dsimp only; omega)) ?_) | (with_reducible refine HN.drew ?_) | (with_reducible refine HN.old (by go_size) ?_) | (with_reducible exact HN.of5 (by assumption)) | (with_reducible exact HN.new5 _ _ (by go_size)) | (with_reducible exact HN.of4 (by assumption)) | (with_reducible exact HN.new4 _ _ (by go_size)))), by (repeat' (first | (with_reducible assumption) | ((with_reducible refine HB.new _ _ _ ?_) <;> (go_size; done)) | (with_reducible refine HB.old (by go_size) ?_) | (with_reducible refine HB.drew ?_) | (with_reducible refine HB.over5 ?_) | (with_reducible refine HB.over4 ?_) | (with_reducible refine HB.setne (by first | go_size | (dsimp only; omega)) ?_) | (with_reducible refine HN.set ?_) | (with_reducible refine HN.setne (by first | go_size | (dsimp only; omega)) ?_) | (with_reducible refine HN.drew ?_) | (with_reducible refine HN.old (by go_size) ?_) | (with_reducible exact HN.of5 (by assumption)) | (with_reducible exact HN.new5 _ _ (by go_size)) | (with_reducible exact HN.of4 (by assumption)) | (with_reducible exact HN.new4 _ _ (by go_size)))), by (repeat' (first | (with_reducible assumption) | ((with_reducible refine HB.new _ _ _ ?_) <;> (go_size; done)) | (with_reducible refine HB.old (by go_size) ?_) | (with_reducible refine HB.drew ?_) | (with_reducible refine HB.over5 ?_) | (with_reducible refine HB.over4 ?_) | (with_reducible refine HB.setne (by first | go_size | (dsimp only; omega)) ?_) | (with_reducible refine HN.set ?_) | (with_reducible refine HN.setne (by first | go_size | (dsimp only; omega)) ?_) | (with_reducible refine HN.drew ?_) | (with_reducible refine HN.old (by go_size) ?_) | (with_reducible exact HN.of5 (by assumption)) | (with_reducible exact HN.new5 _ _ (by go_size)) | (with_reducible exact HN.of4 (by assumption)) | (with_reducible exact HN.new4 _ _ (by go_size)))), by rw [HG.out]; (repeat' (first | (with_reducible assumption) | ((with_reducible refine HB.new _ _ _ ?_) <;> (go_size; done)) | (with_reducible refine HB.old (by go_size) ?_) | (with_reducible refine HB.drew ?_) | (with_reducible refine HB.over5 ?_) | (with_reducible refine HB.over4 ?_) | (with_reducible refine HB.setne (by first | go_size | (dsimp only; omega)) ?_) | (with_reducible refine HN.set ?_) | (with_reducible refine HN.setne (by first | go_size | (dsimp only; omega)) ?_) | (with_reducible refine HN.drew ?_) | (with_reducible refine HN.old (by go_size) ?_) | (with_reducible exact HN.of5 (by assumption)) | (with_reducible exact HN.new5 _ _ (by go_size)) | (with_reducible exact HN.of4 (by assumption)) | (with_reducible exact HN.new4 _ _ (by go_size)))), by (repeat' (first | (with_reducible assumption) | (with_reducible exact Below.refl _ _) | (with_reducible refine Below.alloc ?_ ?_ _) | (with_reducible refine Below.setCell ?_ ?_ _) | (with_reducible refine Below.drew ?_) | (with_reducible refine below_more ?_ (by with_reducible assumption)) | go_size | omega | (with_reducible refine below_drewN ?_)))⟩) | (case measure => simp [intOf]; omega))
      · have hc0 : ¬ 0 < c := fun h => hra (hcm.1 h)
        rw [if_neg hra] at HG
        clear hcm
        (repeat' (first | go_values | go_skip | go_guarded | go_step | go_upon | (simp only [Int.not_lt, Int.not_le] at *; go_simp) | (go_values <;> (try go_simp)) | (go_ite <;> go_prune <;> (try go_simp)) | (split <;> (first | (rename_i hx; exact (hx _ rfl).elim) | go_prune))))
        go_roundw
        case rel => exact ⟨k + 1, by rw [HG.out], by simp, by omega, by (repeat' (first | (with_reducible assumption) | ((with_reducible refine HB.new _ _ _ ?_) <;> (go_size; done)) | (with_reducible refine HB.old (by go_size) ?_) | (with_reducible refine HB.drew ?_) | (with_reducible refine HB.over5 ?_) | (with_reducible refine HB.over4 ?_) | (with_reducible refine HB.setne (by first | go_size | (dsimp only; omega)) ?_) | (with_reducible refine HN.set ?_) | (with_reducible refine HN.setne (by first | go_size | (dsimp only; omega)) ?_) | (with_reducible refine HN.drew ?_) | (with_reducible refine HN.old (by go_size) ?_) | (with_reducible exact HN.of5 (by assumption)) | (with_reducible exact HN.new5 _ _ (by go_size)) | (with_reducible exact HN.of4 (by assumption)) | (with_reducible exact HN.new4 _ _ (by go_size)))), by (repeat' (first | (with_reducible assumption) | ((with_reducible refine HB.new _ _ _ ?_) <;> (go_size; done)) | (with_reducible refine HB.old (by go_size) ?_) | (with_reducible refine HB.drew ?_) | (with_reducible refine HB.over5 ?_) | (with_reducible refine HB.over4 ?_) | (with_reducible refine HB.setne (by first | go_size | (dsimp only; omega)) ?_) | (with_reducible refine HN.set ?_) | (with_reducible refine HN.setne (by first | go_size | (dsimp only; omega)) ?_) | (with_reducible refine HN.drew ?_) | (with_reducible refine HN.old (by go_size) ?_) | (with_reducible exact HN.of5 (by assumption)) | (with_reducible exact HN.new5 _ _ (by go_size)) | (with_reducible exact HN.of4 (by assumption)) | (with_reducible exact HN.new4 _ _ (by go_size)))), by (repeat' (first | (with_reducible assumption) | ((with_reducible refine HB.new _ _ _ ?_) <;> (go_size; done)) | (with_reducible refine HB.old (by go_size) ?_) | (with_reducible refine HB.drew ?_) | (with_reducible refine HB.over5 ?_) | (with_reducible refine HB.over4 ?_) | (with_reducible refine HB.setne (by first | go_size | (dsimp only; omega)) ?_) | (with_reducible refine HN.set ?_) | (with_reducible refine HN.setne (by first | go_size | (dsimp only; omega)) ?_) | (with_reducible refine HN.drew ?_) | (with_reducible refine HN.old (by go_size) ?_) | (with_reducible exact HN.of5 (by assumption)) | (with_reducible exact HN.new5 _ _ (by go_size)) | (with_reducible exact HN.of4 (by assumption)) | (with_reducible exact HN.new4 _ _ (by go_size)))), by rw [HG.out]; (repeat' (first | (with_reducible assumption) | ((with_reducible refine HB.new _ _ _ ?_) <;> (go_size; done)) | (with_reducible refine HB.old (by go_size) ?_) | (with_reducible refine HB.drew ?_) | (with_reducible refine HB.over5 ?_) | (with_reducible refine HB.over4 ?_) | (with_reducible refine HB.setne (by first | go_size | (dsimp only; omega)) ?_) | (with_reducible refine HN.set ?_) | (with_reducible refine HN.setne (by first | go_size | (dsimp only; omega)) ?_) | (with_reducible refine HN.drew ?_) | (with_reducible refine HN.old (by go_size) ?_) | (with_reducible exact HN.of5 (by assumption)) | (with_reducible exact HN.new5 _ _ (by go_size)) | (with_reducible exact HN.of4 (by assumption)) | (with_reducible exact HN.new4 _ _ (by go_size)))), by (repeat' (first | (with_reducible assumption) | (with_reducible exact Below.refl _ _) | (with_reducible refine Below.alloc ?_ ?_ _) | (with_reducible refine Below.setCell ?_ ?_ _) | (with_reducible refine Below.drew ?_) | (with_reducible refine below_more ?_ (by with_reducible assumption)) | go_size | omega | (with_reducible refine below_drewN ?_)))⟩
        case measure => simp [intOf]; omega
    · obtain rfl : k = l.length := by omega
      (repeat' (first | go_values | go_skip | go_guarded | go_step | go_upon | (simp only [Int.not_lt, Int.not_le] at *; go_simp) | (go_values <;> (try go_simp)) | (go_ite <;> go_prune <;> (try go_simp)) | (split <;> (first | (rename_i hx; exact (hx _ rfl).elim) | go_prune))))
      go_ret
      exact ⟨rfl, by (repeat' (first | (with_reducible assumption) | (with_reducible exact Below.refl _ _) | (with_reducible refine Below.alloc ?_ ?_ _) | (with_reducible refine Below.setCell ?_ ?_ _) | (with_reducible refine Below.drew ?_) | (with_reducible refine below_more ?_ (by with_reducible assumption)) | go_size | omega | (with_reducible refine below_drewN ?_)))⟩
end Go.Proofs.Ythcboomdkpiflaa
