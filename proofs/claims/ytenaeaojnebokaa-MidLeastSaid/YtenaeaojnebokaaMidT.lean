/- tscodeclaw15.state: a state that is reached by values, and the next value. -/
import Derived.Test.YtenaeaojnebokaaRows
import Derived.Test.YtenaeaojnebokaaMidK
import Derived.WalkKit
import Derived.ProofKit
import Derived.WalkLawsBesides
import Derived.WalkSpells
import Derived.RegionTactic
import Derived.ChangeAlike
import Derived.BigRegion
import Derived.Outline
import Derived.Handy
import Derived.Deep.RegionWith
namespace Go.Proofs.Ytenaeaojnebokaa
open Go.ChangeShapes Go.WideShapes Go.ChangeAt Go.RowKit
set_option linter.unusedVariables false
set_option linter.unusedSimpArgs false

def StateP (B b : Nat) (w : World) (e : Ending) (w' : World) : Prop := ∃ t c mn mx v, I64 t ∧ I64 mn ∧ I64 mx ∧ I64 v ∧ e = .returned (.tuple #[MS t c mn mx, .int .i64 v]) ∧ TapeOk B w' b ∧ w.grownBy w' (some b)

set_option maxHeartbeats 8000000 in
set_option maxRecDepth 100000 in
theorem state_any {B : Nat} (b : Nat) (w : World) (ht : TapeOk B w b) : Calls Try.prog 39 #[.pointer (some ⟨b, 0, none⟩)] w (StateP B b w) := by
  have hG := grown_refl w (some b)
  have hBl := ht.ltB
  have hBs := ht.leB
  have hbl := ht.lt
  go_enter Try.func39, Try.ntmps39
  (repeat' (first | (go_big_may; (first | (go_at_call 29; refine (tol_any (B := B) b _ (by (repeat' (first | (with_reducible exact ht) | (with_reducible refine TapeOk.alloc ?_ _) | (with_reducible refine TapeOk.drew ?_) | (with_reducible refine TapeOk.setc (by first | go_size | (dsimp only; omega)) ?_))))).mono ?_; rintro e w' ⟨tl, htl, rfl, ht', hg⟩; have N1 := Bx.of (HB.gne (b := w.heap.size) (cs := #[.int .i64 0, .int .i64 0, .int .i64 0, .int .i64 0]) (by (repeat' (first | (with_reducible assumption) | ((with_reducible refine HB.new _ _ _ ?_) <;> (go_size; done)) | (with_reducible refine HB.old (by go_size) ?_) | (with_reducible refine HB.drew ?_) | (with_reducible refine HB.over5 ?_) | (with_reducible refine HB.over4 ?_) | (with_reducible refine HB.setne (by first | go_size | (dsimp only; omega)) ?_) | (with_reducible refine HN.set ?_) | (with_reducible refine HN.setne (by first | go_size | (dsimp only; omega)) ?_) | (with_reducible refine HN.drew ?_) | (with_reducible refine HN.old (by go_size) ?_) | (with_reducible exact HN.of5 (by assumption)) | (with_reducible exact HN.new5 _ _ (by go_size)) | (with_reducible exact HN.of4 (by assumption)) | (with_reducible exact HN.new4 _ _ (by go_size))))) hg (by first | omega | (go_size; done))); have hG' : w.grownBy w' (some (b)) := grown_trans (by (repeat' (first | (with_reducible exact hG) | (with_reducible refine grown_alloc ?_ _) | (with_reducible refine grown_drew ?_) | (with_reducible refine grown_setCell ?_ (.inr (by first | go_size | (dsimp only; omega))) _)))) hg; have hsz := hg.size; clear ht hG; have ht := ht'; have hG := hG'; clear ht' hG'; (try simp only [World.size_alloc, World.size_setCell, World.size_drew] at hsz); clear hg; (try clear B1 B1c B1f B1l); obtain ⟨B1, B1c, B1f, B1l⟩ := N1))) | go_values | go_skip | go_guarded | go_step | go_upon | (simp only [Int.not_lt, Int.not_le] at *; go_simp) | (go_values <;> (try go_simp)) | (go_ite <;> go_prune <;> (try go_simp)) | (split <;> (first | (rename_i hx; exact (hx _ rfl).elim) | go_prune))))
  rename World => w1
  have C := fun W => rstart_any tl W
  have hSv : startV tl = .tuple #[MS tl 0 0 0, .int .i64 0] := by unfold startV; rw [tol_tolb htl]; rfl
  rw [hSv] at C
  clear hSv
  go_at_call 41
  refine (C _).mono ?_
  rintro e w2 ⟨rfl, hbw⟩
  have ht2 : TapeOk B w2 b := TapeOk.bel (by (repeat' (first | (with_reducible exact ht) | (with_reducible refine TapeOk.alloc ?_ _) | (with_reducible refine TapeOk.drew ?_) | (with_reducible refine TapeOk.setc (by first | go_size | (dsimp only; omega)) ?_)))) hbw
  have hG2 : w.grownBy w2 (some b) := grown_bel (by (repeat' (first | (with_reducible exact hG) | (with_reducible refine grown_alloc ?_ _) | (with_reducible refine grown_drew ?_) | (with_reducible refine grown_setCell ?_ (.inr (by first | go_size | (dsimp only; omega))) _)))) hbw
  have hsz2 := hbw.size
  have N1 := Bx.of (HB.below (b := w.heap.size) (cs := #[.int .i64 0, .int .i64 0, .int .i64 0, .int .i64 0]) (by (repeat' (first | (with_reducible assumption) | ((with_reducible refine HB.new _ _ _ ?_) <;> (go_size; done)) | (with_reducible refine HB.old (by go_size) ?_) | (with_reducible refine HB.drew ?_) | (with_reducible refine HB.over5 ?_) | (with_reducible refine HB.over4 ?_) | (with_reducible refine HB.setne (by first | go_size | (dsimp only; omega)) ?_) | (with_reducible refine HN.set ?_) | (with_reducible refine HN.setne (by first | go_size | (dsimp only; omega)) ?_) | (with_reducible refine HN.drew ?_) | (with_reducible refine HN.old (by go_size) ?_) | (with_reducible exact HN.of5 (by assumption)) | (with_reducible exact HN.new5 _ _ (by go_size)) | (with_reducible exact HN.of4 (by assumption)) | (with_reducible exact HN.new4 _ _ (by go_size))))) hbw)
  clear B1 B1c B1f B1l ht hG C hbw
  obtain ⟨B1, B1c, B1f, B1l⟩ := N1
  have ht := ht2
  have hG := hG2
  clear ht2 hG2
  (repeat' (first | go_values | go_skip | go_guarded | go_step | go_upon | (simp only [Int.not_lt, Int.not_le] at *; go_simp) | (go_values <;> (try go_simp)) | (go_ite <;> go_prune <;> (try go_simp)) | (split <;> (first | (rename_i hx; exact (hx _ rfl).elim) | go_prune))))
  go_at_call 28
  refine (values_any (B := B) b 12 (by decide) (by decide) _ (by (repeat' (first | (with_reducible exact ht) | (with_reducible refine TapeOk.alloc ?_ _) | (with_reducible refine TapeOk.drew ?_) | (with_reducible refine TapeOk.setc (by first | go_size | (dsimp only; omega)) ?_))))).mono ?_
  rintro e w3 ⟨vl, zs, ⟨hzi, hzl⟩, rfl, hown, ht3, hg3⟩
  have N1 := Bx.of (HB.gne (b := w.heap.size) (cs := #[.int .i64 0, .int .i64 0, .int .i64 0, .int .i64 0]) (by (repeat' (first | (with_reducible assumption) | ((with_reducible refine HB.new _ _ _ ?_) <;> (go_size; done)) | (with_reducible refine HB.old (by go_size) ?_) | (with_reducible refine HB.drew ?_) | (with_reducible refine HB.over5 ?_) | (with_reducible refine HB.over4 ?_) | (with_reducible refine HB.setne (by first | go_size | (dsimp only; omega)) ?_) | (with_reducible refine HN.set ?_) | (with_reducible refine HN.setne (by first | go_size | (dsimp only; omega)) ?_) | (with_reducible refine HN.drew ?_) | (with_reducible refine HN.old (by go_size) ?_) | (with_reducible exact HN.of5 (by assumption)) | (with_reducible exact HN.new5 _ _ (by go_size)) | (with_reducible exact HN.of4 (by assumption)) | (with_reducible exact HN.new4 _ _ (by go_size))))) hg3 (by omega))
  have N2 := Bx.of (HB.gne (b := w2.heap.size) (cs := #[.int .i64 tl, .int .i64 0, .int .i64 0, .int .i64 0]) (by (repeat' (first | (with_reducible assumption) | ((with_reducible refine HB.new _ _ _ ?_) <;> (go_size; done)) | (with_reducible refine HB.old (by go_size) ?_) | (with_reducible refine HB.drew ?_) | (with_reducible refine HB.over5 ?_) | (with_reducible refine HB.over4 ?_) | (with_reducible refine HB.setne (by first | go_size | (dsimp only; omega)) ?_) | (with_reducible refine HN.set ?_) | (with_reducible refine HN.setne (by first | go_size | (dsimp only; omega)) ?_) | (with_reducible refine HN.drew ?_) | (with_reducible refine HN.old (by go_size) ?_) | (with_reducible exact HN.of5 (by assumption)) | (with_reducible exact HN.new5 _ _ (by go_size)) | (with_reducible exact HN.of4 (by assumption)) | (with_reducible exact HN.new4 _ _ (by go_size))))) hg3 (by omega))
  have hG3 : w.grownBy w3 (some b) := grown_trans (by (repeat' (first | (with_reducible exact hG) | (with_reducible refine grown_alloc ?_ _) | (with_reducible refine grown_drew ?_) | (with_reducible refine grown_setCell ?_ (.inr (by first | go_size | (dsimp only; omega))) _)))) hg3
  have hsz3 := hg3.size
  simp only [World.size_alloc, World.size_setCell, World.size_drew] at hsz3
  clear B1 B1c B1f B1l ht hG hg3
  obtain ⟨B1, B1c, B1f, B1l⟩ := N1
  obtain ⟨B2, B2c, B2f, B2l⟩ := N2
  have hownb := own_base hown (show w2.heap.size + 1 ≤ _ by simp)
  obtain ⟨av, cv, rfl⟩ := slz_form (slz_own hownb hzi)
  have hti := tol_i64 htl
  have hzl2 : zs.length ≤ 12 := by omega
  clear hown
  (repeat' (first | go_values | go_skip | go_guarded | go_step | go_upon | (simp only [Int.not_lt, Int.not_le] at *; go_simp) | (go_values <;> (try go_simp)) | (go_ite <;> go_prune <;> (try go_simp)) | (split <;> (first | (rename_i hx; exact (hx _ rfl).elim) | go_prune))))
  go_loopw [7] (fun i wr => ∃ (k : Nat) (t c mn mx : Int), i = .int .i64 k ∧ k ≤ zs.length ∧ I64 t ∧ I64 mn ∧ I64 mx ∧ HB wr w2.heap.size #[.int .i64 t, .int .i64 c, .int .i64 mn, .int .i64 mx] ∧ HB wr w.heap.size #[.int .i64 0, .int .i64 0, .int .i64 0, .int .i64 0] ∧
    TapeOk B wr b ∧ w.grownBy wr (some b) ∧ wr.ownsRow (w2.heap.size + 1) 2 1 (.slice av zs.length cv) zs.length (zs.map (Value.int .i64))) (fun i _ => zs.length - (intOf i).toNat)
  case atStart => exact ⟨0, tl, 0, 0, 0, rfl, Nat.zero_le _, hti, ⟨by decide, by decide⟩, ⟨by decide, by decide⟩, B2, B1, ht3, hG3, hownb⟩
  case round =>
    clear B1 B1c B1f B1l B2 B2c B2f B2l ht3 hG3 hownb
    obtain ⟨k, t, c, mn, mx, rfl, hk, it, i1, i2, hS, hR, ht, hG, hown⟩ := hrel
    obtain ⟨B1, B1c, B1f, B1l⟩ := Bx.of hS
    obtain ⟨B2, B2c, B2f, B2l⟩ := Bx.of hR
    have hwr := hG.size
    have hcell : 0 < zs.length → ∃ g, av = some ⟨g, 0, none⟩ ∧ g < wr.heap.size ∧ w2.heap.size + 1 ≤ g ∧ ∀ j, j < zs.length → wr.cell? ⟨g, j, none⟩ = some (.int .i64 (zs.getD j 0)) := fun h0 => by
      obtain ⟨a9, c9, e9, _, _, hc9⟩ := own_slice hown (by simp)
      cases e9
      obtain ⟨g, hg, hgb, hgl, hcs⟩ := hc9 h0
      exact ⟨g, hg, hgl, hgb, fun j hj => hcs j _ (by rw [List.getElem?_map, List.getElem?_eq_getElem hj, List.getD_eq_getElem?_getD, List.getElem?_eq_getElem hj]; rfl)⟩
    by_cases hlt : k + 1 < zs.length
    · obtain ⟨g, rfl, hgl, hgb, hcs⟩ := hcell (by omega)
      obtain ⟨x, hx⟩ : ∃ x, zs.getD k 0 = x := ⟨_, rfl⟩
      have hxi : I64 x := hx ▸ getD_i64 (fun z hz => i64_wf (hzi z hz)) k
      have hcS : ∀ Wz : World, Below wr.heap.size wr Wz → Wz.cell? ⟨g, k, none⟩ = some (.int .i64 x) := fun Wz hz => (hz.cell (p := ⟨g, k, none⟩) hgl).trans (hx ▸ hcs k (by omega))
      obtain ⟨a, b', c', d, er, os, -, ia, ib, ic, id', hSt⟩ := step_ans (c := c) it i1 i2 hxi
      have K := fun W => (rStep_any (t := t) (c := c) i1 i2 hxi W).mono (fun e w' h => hSt W e w' h)
      unfold Ans3 at K
      have HO := hid hown
      have HX := hid hx
      have hkl : k < zs.length := by omega
      clear hcs hSt hcell hown hx
      (repeat' (first | go_values | go_skip | go_guarded | go_step | go_upon | (simp only [Int.not_lt, Int.not_le] at *; go_simp) | (go_values <;> (try go_simp)) | (go_ite <;> go_prune <;> (try go_simp)) | (split <;> (first | (rename_i hx; exact (hx _ rfl).elim) | go_prune))))
      
      (refine wp_region_dq (row := none) (S := (fun Wz => Below wr.heap.size wr Wz ∧ wr.heap.size ≤ Wz.heap.size ∧ Bx Wz (w2.heap.size) (#[.int .i64 t, .int .i64 c, .int .i64 mn, .int .i64 mx]) ∧ Bx Wz (w.heap.size) (#[.int .i64 0, .int .i64 0, .int .i64 0, .int .i64 0]))) (n0 := wr.heap.size) 10 [8, 9] [(0, 0), (1, 0), (2, 0), (3, 0), (4, 0), (5, 1), (6, 0), (7, 0), (8, 2), (9, 2)] [] (by kernel_rfl) (by kernel_rfl) (fun _ _ d _ _ h => by cases d <;> exact h) ⟨by (repeat' (first | (with_reducible assumption) | (with_reducible exact Below.refl _ _) | (with_reducible refine Below.alloc ?_ ?_ _) | (with_reducible refine Below.setCell ?_ ?_ _) | (with_reducible refine Below.drew ?_) | (with_reducible refine below_more ?_ (by with_reducible assumption)) | go_size | omega | (with_reducible refine below_drewN ?_))), (by first | go_size | omega), Bx.of (by (repeat' (first | (with_reducible assumption) | ((with_reducible refine HB.new _ _ _ ?_) <;> (go_size; done)) | (with_reducible refine HB.old (by go_size) ?_) | (with_reducible refine HB.drew ?_) | (with_reducible refine HB.over5 ?_) | (with_reducible refine HB.over4 ?_) | (with_reducible refine HB.setne (by first | go_size | (dsimp only; omega)) ?_) | (with_reducible refine HN.set ?_) | (with_reducible refine HN.setne (by first | go_size | (dsimp only; omega)) ?_) | (with_reducible refine HN.drew ?_) | (with_reducible refine HN.old (by go_size) ?_) | (with_reducible exact HN.of5 (by assumption)) | (with_reducible exact HN.new5 _ _ (by go_size)) | (with_reducible exact HN.of4 (by assumption)) | (with_reducible exact HN.new4 _ _ (by go_size))))), Bx.of (by (repeat' (first | (with_reducible assumption) | ((with_reducible refine HB.new _ _ _ ?_) <;> (go_size; done)) | (with_reducible refine HB.old (by go_size) ?_) | (with_reducible refine HB.drew ?_) | (with_reducible refine HB.over5 ?_) | (with_reducible refine HB.over4 ?_) | (with_reducible refine HB.setne (by first | go_size | (dsimp only; omega)) ?_) | (with_reducible refine HN.set ?_) | (with_reducible refine HN.setne (by first | go_size | (dsimp only; omega)) ?_) | (with_reducible refine HN.drew ?_) | (with_reducible refine HN.old (by go_size) ?_) | (with_reducible exact HN.of5 (by assumption)) | (with_reducible exact HN.new5 _ _ (by go_size)) | (with_reducible exact HN.of4 (by assumption)) | (with_reducible exact HN.new4 _ _ (by go_size)))))⟩ (fun _ _ h g => keep2 h (below_gt g) rfl) (fun _ h => h.2.1) (fun _ h => by cases h) (by simp) ?_)
      refine' dq_pure (by rfl) (by rfl) ?hv1 ?rest1
      case hv1 => (intro w hw; (try dsimp only at hw); go_split_ands; go_simp; try with_reducible rfl)
      case' rest1 => try simp only [Act.put, List.setIfInBounds_toArray, List.set_cons_zero, List.set_cons_succ]
      refine' dq_pure (by rfl) (by rfl) ?hv2 ?rest2
      case hv2 => (intro w hw; (try dsimp only at hw); go_split_ands; go_simp; try with_reducible rfl)
      case' rest2 => try simp only [Act.put, List.setIfInBounds_toArray, List.set_cons_zero, List.set_cons_succ]
      refine' dq_pure (by rfl) (by rfl) ?hv3 ?rest3
      case hv3 => (intro w hw; (try dsimp only at hw); go_split_ands; go_simp; try with_reducible rfl)
      case' rest3 => try simp only [Act.put, List.setIfInBounds_toArray, List.set_cons_zero, List.set_cons_succ]
      refine' dq_pure (by rfl) (by rfl) ?hv4 ?rest4
      case hv4 => (intro w hw; (try dsimp only at hw); go_split_ands; go_simp; try with_reducible rfl)
      case' rest4 => try simp only [Act.put, List.setIfInBounds_toArray, List.set_cons_zero, List.set_cons_succ]
      refine' dq_pure (by rfl) (by rfl) ?hv5 ?rest5
      case hv5 => (intro w hw; (try dsimp only at hw); go_split_ands; go_simp; try with_reducible rfl)
      case' rest5 => try simp only [Act.put, List.setIfInBounds_toArray, List.set_cons_zero, List.set_cons_succ]
      refine' dq_ask (R := (fun v Wz => ∃ vv, v = .tuple #[MS a b' c' d, vv, .int .i64 er])) (by rfl) (by rfl) ?hv6 ?hc6 ?rest6 (fun _ _ h g => keep2 h (below_gt g) rfl)
      case hv6 => (intro w; go_simp; exact ⟨rfl, rfl⟩)
      case hc6 => exact (fun wq hsq htq => (K wq).mono fun e w' ⟨vv, he, _, hb⟩ => ⟨_, he, ⟨vv, rfl⟩, gt_below hb _⟩)
      case' rest6 => try simp only [Act.put, List.setIfInBounds_toArray, List.set_cons_zero, List.set_cons_succ]
      rintro vr wr2 hsr hgr ⟨vv, rfl⟩
      refine' dq_pure (by rfl) (by rfl) ?hv7 ?rest7
      case hv7 => (intro w hw; (try dsimp only at hw); go_split_ands; go_simp; try with_reducible rfl)
      case' rest7 => try simp only [Act.put, List.setIfInBounds_toArray, List.set_cons_zero, List.set_cons_succ]
      refine' dq_pure (by rfl) (by rfl) ?hv8 ?rest8
      case hv8 => (intro w hw; (try dsimp only at hw); go_split_ands; go_simp; try with_reducible rfl)
      case' rest8 => try simp only [Act.put, List.setIfInBounds_toArray, List.set_cons_zero, List.set_cons_succ]
      refine' dq_late (by rfl) (by rfl) ?hv9 ?rest9
      case hv9 => (intro w; go_simp; try with_reducible rfl)
      case' rest9 => try simp only [Act.put, List.setIfInBounds_toArray, List.set_cons_zero, List.set_cons_succ]
      refine' dq_late (by rfl) (by rfl) ?hv10 ?rest10
      case hv10 => (intro w; go_simp; try with_reducible rfl)
      case' rest10 => try simp only [Act.put, List.setIfInBounds_toArray, List.set_cons_zero, List.set_cons_succ]
      refine dq_nil ?_
      simp only [fa, List.drop_succ_cons, List.drop_zero]
      rintro W ⟨⟨hb0, hn0, ⟨B1, B1c, B1f, B1l⟩, ⟨B2, B2c, B2f, B2l⟩⟩, hgl⟩ hbs
      clear hbs
      have ht2 : TapeOk B W b := TapeOk.bel ht hb0
      have hG2 : w.grownBy W (some b) := grown_bel hG hb0
      have hown2 := HO.out.kept (gt_below hb0 none) (Classical.em _)
      have HO2 := hid hown2
      clear ht hG hown2
      have ht := ht2
      have hG := hG2
      clear ht2 hG2
      (repeat' (first | go_values | go_skip | go_guarded | go_step | go_upon | (simp only [Int.not_lt, Int.not_le] at *; go_simp) | (go_values <;> (try go_simp)) | (go_ite <;> go_prune <;> (try go_simp)) | (split <;> (first | (rename_i hx; exact (hx _ rfl).elim) | go_prune))))
      go_roundw
      case rel => exact ⟨k + 1, a, b', c', d, by simp, by omega, ia, ic, id', by (repeat' (first | (with_reducible assumption) | ((with_reducible refine HB.new _ _ _ ?_) <;> (go_size; done)) | (with_reducible refine HB.old (by go_size) ?_) | (with_reducible refine HB.drew ?_) | (with_reducible refine HB.over5 ?_) | (with_reducible refine HB.over4 ?_) | (with_reducible refine HB.setne (by first | go_size | (dsimp only; omega)) ?_) | (with_reducible refine HN.set ?_) | (with_reducible refine HN.setne (by first | go_size | (dsimp only; omega)) ?_) | (with_reducible refine HN.drew ?_) | (with_reducible refine HN.old (by go_size) ?_) | (with_reducible exact HN.of5 (by assumption)) | (with_reducible exact HN.new5 _ _ (by go_size)) | (with_reducible exact HN.of4 (by assumption)) | (with_reducible exact HN.new4 _ _ (by go_size)))), by (repeat' (first | (with_reducible assumption) | ((with_reducible refine HB.new _ _ _ ?_) <;> (go_size; done)) | (with_reducible refine HB.old (by go_size) ?_) | (with_reducible refine HB.drew ?_) | (with_reducible refine HB.over5 ?_) | (with_reducible refine HB.over4 ?_) | (with_reducible refine HB.setne (by first | go_size | (dsimp only; omega)) ?_) | (with_reducible refine HN.set ?_) | (with_reducible refine HN.setne (by first | go_size | (dsimp only; omega)) ?_) | (with_reducible refine HN.drew ?_) | (with_reducible refine HN.old (by go_size) ?_) | (with_reducible exact HN.of5 (by assumption)) | (with_reducible exact HN.new5 _ _ (by go_size)) | (with_reducible exact HN.of4 (by assumption)) | (with_reducible exact HN.new4 _ _ (by go_size)))), by (repeat' (first | (with_reducible exact ht) | (with_reducible refine TapeOk.alloc ?_ _) | (with_reducible refine TapeOk.drew ?_) | (with_reducible refine TapeOk.setc (by first | go_size | (dsimp only; omega)) ?_))), by (repeat' (first | (with_reducible exact hG) | (with_reducible refine grown_alloc ?_ _) | (with_reducible refine grown_drew ?_) | (with_reducible refine grown_setCell ?_ (.inr (by first | go_size | (dsimp only; omega))) _))), own_setc (own_setc (own_setc (own_setc HO2.out (by dsimp only; omega)) (by dsimp only; omega)) (by dsimp only; omega)) (by dsimp only; omega)⟩
      case measure => simp [intOf]; omega
    · by_cases hz : zs.length = 0
      · have hmx : Try.prog.follows .mixedOrders = true := by kernel_rfl
        clear hcell hown
        (repeat' (first | go_values | go_skip | go_guarded | go_step | go_upon | (simp only [Int.not_lt, Int.not_le] at *; go_simp) | (go_values <;> (try go_simp)) | (go_ite <;> go_prune <;> (try go_simp)) | (split <;> (first | (rename_i hx; exact (hx _ rfl).elim) | go_prune))))
        go_region_with ((go_at_call 17; refine (int_any (B := B) b _ (by (repeat' (first | (with_reducible exact ht) | (with_reducible refine TapeOk.alloc ?_ _) | (with_reducible refine TapeOk.drew ?_) | (with_reducible refine TapeOk.setc (by first | go_size | (dsimp only; omega)) ?_))))).mono ?_; rintro e w' ⟨z, hzz, rfl, ht', hg⟩; have N1 := Bx.of (HB.gne (b := w.heap.size) (cs := #[.int .i64 0, .int .i64 0, .int .i64 0, .int .i64 0]) (by (repeat' (first | (with_reducible assumption) | ((with_reducible refine HB.new _ _ _ ?_) <;> (go_size; done)) | (with_reducible refine HB.old (by go_size) ?_) | (with_reducible refine HB.drew ?_) | (with_reducible refine HB.over5 ?_) | (with_reducible refine HB.over4 ?_) | (with_reducible refine HB.setne (by first | go_size | (dsimp only; omega)) ?_) | (with_reducible refine HN.set ?_) | (with_reducible refine HN.setne (by first | go_size | (dsimp only; omega)) ?_) | (with_reducible refine HN.drew ?_) | (with_reducible refine HN.old (by go_size) ?_) | (with_reducible exact HN.of5 (by assumption)) | (with_reducible exact HN.new5 _ _ (by go_size)) | (with_reducible exact HN.of4 (by assumption)) | (with_reducible exact HN.new4 _ _ (by go_size))))) hg (by first | omega | (go_size; done))); have N2 := Bx.of (HB.gne (b := w2.heap.size) (cs := #[.int .i64 t, .int .i64 c, .int .i64 mn, .int .i64 mx]) (by (repeat' (first | (with_reducible assumption) | ((with_reducible refine HB.new _ _ _ ?_) <;> (go_size; done)) | (with_reducible refine HB.old (by go_size) ?_) | (with_reducible refine HB.drew ?_) | (with_reducible refine HB.over5 ?_) | (with_reducible refine HB.over4 ?_) | (with_reducible refine HB.setne (by first | go_size | (dsimp only; omega)) ?_) | (with_reducible refine HN.set ?_) | (with_reducible refine HN.setne (by first | go_size | (dsimp only; omega)) ?_) | (with_reducible refine HN.drew ?_) | (with_reducible refine HN.old (by go_size) ?_) | (with_reducible exact HN.of5 (by assumption)) | (with_reducible exact HN.new5 _ _ (by go_size)) | (with_reducible exact HN.of4 (by assumption)) | (with_reducible exact HN.new4 _ _ (by go_size))))) hg (by first | omega | (go_size; done))); have hG' : w.grownBy w' (some (b)) := grown_trans (by (repeat' (first | (with_reducible exact hG) | (with_reducible refine grown_alloc ?_ _) | (with_reducible refine grown_drew ?_) | (with_reducible refine grown_setCell ?_ (.inr (by first | go_size | (dsimp only; omega))) _)))) hg; have hsz := hg.size; clear ht hG; have ht := ht'; have hG := hG'; clear ht' hG'; (try simp only [World.size_alloc, World.size_setCell, World.size_drew] at hsz); clear hg; (try clear B1 B1c B1f B1l); obtain ⟨B1, B1c, B1f, B1l⟩ := N1; (try clear B2 B2c B2f B2l); obtain ⟨B2, B2c, B2f, B2l⟩ := N2))
        all_goals
          (repeat' (first | go_values | go_skip | go_guarded | go_step | go_upon | (simp only [Int.not_lt, Int.not_le] at *; go_simp) | (go_values <;> (try go_simp)) | (go_ite <;> go_prune <;> (try go_simp)) | (split <;> (first | (rename_i hx; exact (hx _ rfl).elim) | go_prune))))
          refine bodyPost_ret ?_ rfl ⟨t, c, mn, mx, z, it, i1, i2, hzz, rfl, by (repeat' (first | (with_reducible exact ht) | (with_reducible refine TapeOk.alloc ?_ _) | (with_reducible refine TapeOk.drew ?_) | (with_reducible refine TapeOk.setc (by first | go_size | (dsimp only; omega)) ?_))), by (repeat' (first | (with_reducible exact hG) | (with_reducible refine grown_alloc ?_ _) | (with_reducible refine grown_drew ?_) | (with_reducible refine grown_setCell ?_ (.inr (by first | go_size | (dsimp only; omega))) _)))⟩
          simp [results, Try.results39, go_sem, B1c, B1f, B1l]
      · obtain ⟨g, rfl, hgl, hgb, hcs⟩ := hcell (by omega)
        obtain ⟨x, hx⟩ : ∃ x, zs.getD (zs.length - 1) 0 = x := ⟨_, rfl⟩
        have hxi : I64 x := hx ▸ getD_i64 (fun z hz => i64_wf (hzi z hz)) _
        have hcx : wr.cell? ⟨g, zs.length - 1, none⟩ = some (.int .i64 x) := hx ▸ hcs _ (by omega)
        have hmx : Try.prog.follows .mixedOrders = true := by kernel_rfl
        have hgne : g ≠ w.heap.size := by omega
        clear hcs hx hcell hown
        (repeat' (first | go_values | go_skip | go_guarded | go_step | go_upon | (simp only [Int.not_lt, Int.not_le] at *; go_simp) | (go_values <;> (try go_simp)) | (go_ite <;> go_prune <;> (try go_simp)) | (split <;> (first | (rename_i hx; exact (hx _ rfl).elim) | go_prune))))
        go_region
        all_goals
          (repeat' (first | go_values | go_skip | go_guarded | go_step | go_upon | (simp only [Int.not_lt, Int.not_le] at *; go_simp) | (go_values <;> (try go_simp)) | (go_ite <;> go_prune <;> (try go_simp)) | (split <;> (first | (rename_i hx; exact (hx _ rfl).elim) | go_prune))))
          refine bodyPost_ret ?_ rfl ⟨t, c, mn, mx, x, it, i1, i2, hxi, rfl, by (repeat' (first | (with_reducible exact ht) | (with_reducible refine TapeOk.alloc ?_ _) | (with_reducible refine TapeOk.drew ?_) | (with_reducible refine TapeOk.setc (by first | go_size | (dsimp only; omega)) ?_))), by (repeat' (first | (with_reducible exact hG) | (with_reducible refine grown_alloc ?_ _) | (with_reducible refine grown_drew ?_) | (with_reducible refine grown_setCell ?_ (.inr (by first | go_size | (dsimp only; omega))) _)))⟩
          simp [results, Try.results39, go_sem, B2c, B2f, B2l]
end Go.Proofs.Ytenaeaojnebokaa
