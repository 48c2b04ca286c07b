
/- The reference's All. -/
import Derived.Test.YtenaeaojnebokaaRows
import Derived.Test.YtenaeaojnebokaaMidE
import Derived.WalkKit
import Derived.ProofKit
import Derived.WalkLawsBesides
import Derived.WalkSpells
import Derived.RegionTactic
import Derived.ChangeAlike
import Derived.BigRegion
import Derived.Outline
import Derived.Handy
namespace Go.Proofs.Ytenaeaojnebokaa
open Go.ChangeShapes Go.WideShapes Go.ChangeAt Go.RowKit
set_option linter.unusedVariables false
set_option linter.unusedSimpArgs false

/-! ### Plain: states stay valid -/
theorem vld_parts {t c mn mx : Int} : vld t c mn mx = true ↔ tolb t = true ∧ 0 ≤ c ∧ c ≤ 1073741824 ∧ mn ≤ mx ∧ narr t mn mx = true ∧ (c = 0 → mn = 0 ∧ mx = 0) ∧ (c = 1 → mn = mx) := by
  unfold vld
  simp only [Bool.and_eq_true, decide_eq_true_eq]
  constructor
  · rintro ⟨h1, h2, h3, h4, h5, h6⟩
    refine ⟨h1, h2, h3, h4, h5, fun h0 => ?_, fun h0 => ?_⟩
    · rw [if_pos h0] at h6; simpa using h6
    · rw [if_neg (by omega), if_pos h0] at h6; simpa using h6
  · rintro ⟨h1, h2, h3, h4, h5, h6, h7⟩
    refine ⟨h1, h2, h3, h4, h5, ?_⟩
    by_cases h0 : c = 0
    · rw [if_pos h0]; simpa using h6 h0
    · rw [if_neg h0]
      by_cases h8 : c = 1
      · rw [if_pos h8]; simpa using h7 h8
      · rw [if_neg h8]
theorem narr_self {t : Int} (h : tolb t = true) (v : Int) : narr t v v = true := by
  obtain ⟨h1, h2⟩ := tolb_yes h
  unfold narr dst; simp; omega
theorem vld_next {t c mn mx v : Int} (h : vld t c mn mx = true) (hc : c < 1073741824) : vld t (nC t c mn mx v) (nMin t c mn mx v) (nMax t c mn mx v) = true := by
  obtain ⟨h1, h2, h3, h4, h5, h6, h7⟩ := vld_parts.1 h
  unfold nC nMin nMax
  cases hg : goes t c mn mx v
  · simp only [Bool.false_eq_true, if_false]
    exact vld_parts.2 ⟨h1, by omega, by omega, by omega, narr_self h1 v, fun h => by omega, fun _ => rfl⟩
  · simp only [if_true]
    unfold goes at hg
    simp only [Bool.and_eq_true, decide_eq_true_eq] at hg
    exact vld_parts.2 ⟨h1, by omega, by omega, by omega, hg.2, fun h => by omega, fun h => by omega⟩
theorem mval_from {t : Int} : ∀ (zs : List Int) (n : Nat) (a : (Int × Int × Int) × List (Int × Int)), n + zs.length ≤ 1073741824 → a.1.1 ≤ n → vld t a.1.1 a.1.2.1 a.1.2.2 = true → vld t (zs.foldl (acc t) a).1.1 (zs.foldl (acc t) a).1.2.1 (zs.foldl (acc t) a).1.2.2 = true
  | [], n, a, _, _, h => h
  | z :: zs, n, a, hn, hc, h => by
    rw [List.length_cons] at hn
    refine mval_from zs (n + 1) (acc t a z) (by omega) ?_ (vld_next h (by omega))
    show nC t a.1.1 a.1.2.1 a.1.2.2 z ≤ _
    obtain ⟨_, h2, _⟩ := vld_parts.1 h
    unfold nC; split <;> omega
theorem mval {t : Int} (ht : tolb t = true) (zs : List Int) (hn : zs.length ≤ 1073741824) : vld t (mfold t zs).1.1 (mfold t zs).1.2.1 (mfold t zs).1.2.2 = true :=
  mval_from zs 0 ((0, 0, 0), []) (by omega) (by decide) (vld_parts.2 ⟨ht, by decide, by decide, by decide, narr_self ht 0, fun _ => ⟨rfl, rfl⟩, fun h => by cases h⟩)
theorem rStep_ok {t c mn mx v : Int} (hv : vld t c mn mx = true) (hc : c < 1073741824) (h1 : I64 mn) (h2 : I64 mx) (h3 : I64 v) (w : World) : Calls Try.prog 54 #[MS t c mn mx, .int .i64 v] w fun e w' =>
    ∃ vv, e = .returned (.tuple #[MS t (nC t c mn mx v) (nMin t c mn mx v) (nMax t c mn mx v), vv, .int .i64 0]) ∧ Ended w.heap.size w' vv (nEnd t c mn mx v) ∧ Below w.heap.size w w' := by
  refine (rStep_any h1 h2 h3 w).mono fun e w' ⟨h, hb⟩ => ?_
  rw [if_pos hv, if_neg (by omega)] at h
  obtain ⟨vv, he, hE⟩ := h
  exact ⟨vv, he, hE, hb⟩
theorem take_snoc (zs : List Int) {k : Nat} (h : k < zs.length) : zs.take (k + 1) = zs.take k ++ [zs.getD k 0] := by
  rw [List.take_succ_eq_append_getElem h, List.getD_eq_getElem?_getD, List.getElem?_eq_getElem h]; rfl

set_option maxHeartbeats 8000000 in
set_option maxRecDepth 100000 in
theorem rall_any {t : Int} (h1 : I64 t) {s : Option Addr} {l cp : Nat} {zs : List Int} (w : World) (hs : SlZ w .i64 (.slice s l cp) zs) : Calls Try.prog 31 #[.slice s l cp, .int .i64 t] w (AllP t zs w) := by
  obtain ⟨a, len, cap, e, hzl, hlc, hcm, hwf, hcell⟩ := hs
  cases e
  have C := fun W => rstart_any t W
  unfold AllP erra segs
  cases ht : tolb t
  · have hS : startV t = .tuple #[MS 0 0 0 0, .int .i64 9] := by unfold startV; rw [ht]; rfl
    rw [hS] at C
    clear hS ht
    simp only [Bool.false_eq_true, if_false, Bool.false_and]
    go_enter Try.func31, Try.ntmps31
    (repeat' (first | (go_big_may; (first | (go_at_call 41; refine (C _).mono ?_; rintro e w' ⟨rfl, hbw⟩; have hsz := hbw.size; (try simp only [World.size_alloc, World.size_setCell, World.size_drew] at hsz)))) | go_values | go_skip | go_guarded | go_step | go_upon | (simp only [Int.not_lt, Int.not_le] at *; go_simp) | (go_values <;> (try go_simp)) | (go_ite <;> go_prune <;> (try go_simp)) | (split <;> (first | (rename_i hx; exact (hx _ rfl).elim) | go_prune))))
    refine bodyPost_ret ?_ rfl ⟨.slice none 0 0, rfl, World.ownsRow_nil _ _ _ _, by (repeat' (first | (with_reducible assumption) | (with_reducible exact Below.refl _ _) | (with_reducible refine Below.alloc ?_ ?_ _) | (with_reducible refine Below.setCell ?_ ?_ _) | (with_reducible refine Below.drew ?_) | (with_reducible refine below_more ?_ (by with_reducible assumption)) | go_size | omega | (with_reducible refine below_drewN ?_)))⟩
    simp [results, Try.results31, go_sem]
  · have hS : startV t = .tuple #[MS t 0 0 0, .int .i64 0] := by unfold startV; rw [ht]; rfl
    rw [hS] at C
    clear hS
    simp only [if_true, Bool.true_and]
    by_cases hl : zs.length ≤ 1073741824
    · simp only [hl, decide_true, if_true]
      have hl2 : l ≤ 1073741824 := by omega
      have HC := hid hcell
      have HW := hid hwf
      clear hcell hwf
      obtain ⟨i0, hi, hz0, hz1, hz2⟩ := info_parts info_const
      go_enter Try.func31, Try.ntmps31
      (repeat' (first | (go_big_may; (first | (go_at_call 41; refine (C _).mono ?_; rintro e w' ⟨rfl, hbw⟩; have hsz := hbw.size; (try simp only [World.size_alloc, World.size_setCell, World.size_drew] at hsz)))) | go_values | go_skip | go_guarded | go_step | go_upon | (simp only [Int.not_lt, Int.not_le] at *; go_simp) | (go_values <;> (try go_simp)) | (go_ite <;> go_prune <;> (try go_simp)) | (split <;> (first | (rename_i hx; exact (hx _ rfl).elim) | go_prune))))
      rename World => ws
      have hBS : w.heap.size ≤ ws.heap.size := by assumption
      go_loopw [8, 9] (fun out i wr => ∃ k : Nat, i = .int .i64 k ∧ k ≤ zs.length ∧ wr.ownsRow (ws.heap.size + 1) 48 2 out (mfold t (zs.take k)).2.length (scells (mfold t (zs.take k)).2) ∧
        HB wr ws.heap.size #[.int .i64 t, .int .i64 (mfold t (zs.take k)).1.1, .int .i64 (mfold t (zs.take k)).1.2.1, .int .i64 (mfold t (zs.take k)).1.2.2] ∧ Below w.heap.size w wr ∧ ws.heap.size + 1 ≤ wr.heap.size) (fun _ i _ => zs.length - (intOf i).toNat)
      case atStart => exact ⟨0, rfl, Nat.zero_le _, World.ownsRow_nil _ _ _ _, HB.new _ _ _ rfl, by (repeat' (first | (with_reducible assumption) | (with_reducible exact Below.refl _ _) | (with_reducible refine Below.alloc ?_ ?_ _) | (with_reducible refine Below.setCell ?_ ?_ _) | (with_reducible refine Below.drew ?_) | (with_reducible refine below_more ?_ (by with_reducible assumption)) | go_size | omega | (with_reducible refine below_drewN ?_))), by simp⟩
      case round =>
        obtain ⟨k, rfl, hk, hrow, hS, hB, hsz⟩ := hrel
        have M := mok t (zs.take k) (fun z hz => I64.of_wf (HW.out z (List.mem_of_mem_take hz)))
        have VL := mval ht (zs.take k) (by rw [List.length_take]; omega)
        have htl : (zs.take k).length = k := by rw [List.length_take]; omega
        have HMF : k < zs.length → mfold t (zs.take (k + 1)) = acc t (mfold t (zs.take k)) (zs.getD k 0) := fun h => by rw [take_snoc zs h]; exact mfold_snoc _ _ _
        have HTK : k = zs.length → zs.take k = zs := fun h => by rw [h]; exact List.take_length
        obtain ⟨A, hA⟩ : ∃ A, mfold t (zs.take k) = A := ⟨_, rfl⟩
        have HA := hid hA
        rw [hA] at hrow hS M HMF VL
        clear hA
        obtain ⟨⟨c, mn, mx⟩, os⟩ := A
        obtain ⟨m0, m1, m2, m3, m4⟩ := M
        dsimp only at hS hrow m0 m1 m2 m3 m4 VL
        rw [htl] at m1 m4
        have HM := hid HMF
        have HT := hid HTK
        clear HMF HTK htl
        obtain ⟨B1, B1c, B1f, B1l⟩ := Bx.of hS
        by_cases hlt : k < zs.length
        · obtain ⟨b, off, rfl, hb, hcs⟩ := HC.out (by omega)
          obtain ⟨x, hx⟩ : ∃ x, zs.getD k 0 = x := ⟨_, rfl⟩
          have hxi : I64 x := hx ▸ getD_i64 HW.out k
          have hcS : ∀ Wz : World, Below wr.heap.size wr Wz → Wz.cell? ⟨b, off + k, none⟩ = some (.int .i64 x) := fun Wz hz => (hz.cell (p := ⟨b, off + k, none⟩) (Nat.lt_of_lt_of_le hb hB.size)).trans ((hB.cell (p := ⟨b, off + k, none⟩) hb).trans (hx ▸ hcs k (by omega)))
          have hcl : c < 1073741824 := by omega
          have hkl : k < l := by omega
          have HX := hid hx
          have HCS := hid hcs
          clear hx hcs
          (repeat' (first | go_values | go_skip | go_guarded | go_step | go_upon | (simp only [Int.not_lt, Int.not_le] at *; go_simp) | (go_values <;> (try go_simp)) | (go_ite <;> go_prune <;> (try go_simp)) | (split <;> (first | (rename_i hx; exact (hx _ rfl).elim) | go_prune))))
          
          (refine wp_region_dq (row := none) (S := (fun Wz => Below wr.heap.size wr Wz ∧ wr.heap.size ≤ Wz.heap.size ∧ Bx Wz (ws.heap.size) (#[.int .i64 t, .int .i64 c, .int .i64 mn, .int .i64 mx]))) (n0 := wr.heap.size) 10 [8, 9] [(0, 0), (1, 0), (2, 0), (3, 0), (4, 0), (5, 1), (6, 0), (7, 0), (8, 2), (9, 2)] [] (by kernel_rfl) (by kernel_rfl) (fun _ _ d _ _ h => by cases d <;> exact h) ⟨by (repeat' (first | (with_reducible assumption) | (with_reducible exact Below.refl _ _) | (with_reducible refine Below.alloc ?_ ?_ _) | (with_reducible refine Below.setCell ?_ ?_ _) | (with_reducible refine Below.drew ?_) | (with_reducible refine below_more ?_ (by with_reducible assumption)) | go_size | omega | (with_reducible refine below_drewN ?_))), (by first | go_size | omega), Bx.of (by (repeat' (first | (with_reducible assumption) | ((with_reducible refine HB.new _ _ _ ?_) <;> (go_size; done)) | (with_reducible refine HB.old (by go_size) ?_) | (with_reducible refine HB.drew ?_) | (with_reducible refine HB.over5 ?_) | (with_reducible refine HB.over4 ?_) | (with_reducible refine HB.setne (by first | go_size | (dsimp only; omega)) ?_) | (with_reducible refine HN.set ?_) | (with_reducible refine HN.setne (by first | go_size | (dsimp only; omega)) ?_) | (with_reducible refine HN.drew ?_) | (with_reducible refine HN.old (by go_size) ?_) | (with_reducible exact HN.of5 (by assumption)) | (with_reducible exact HN.new5 _ _ (by go_size)) | (with_reducible exact HN.of4 (by assumption)) | (with_reducible exact HN.new4 _ _ (by go_size)))))⟩ (fun _ _ h g => keep1 h (below_gt g) rfl) (fun _ h => h.2.1) (fun _ h => by cases h) (by simp) ?_)
          refine' dq_pure (by rfl) (by rfl) ?hv1 ?rest1
          case hv1 => (intro w hw; (try dsimp only at hw); go_split_ands; go_simp; try with_reducible rfl)
          case' rest1 => try simp only [Act.put, List.setIfInBounds_toArray, List.set_cons_zero, List.set_cons_succ]
          refine' dq_pure (by rfl) (by rfl) ?hv2 ?rest2
          case hv2 => (intro w hw; (try dsimp only at hw); go_split_ands; go_simp; try with_reducible rfl)
          case' rest2 => try simp only [Act.put, List.setIfInBounds_toArray, List.set_cons_zero, List.set_cons_succ]
          refine' dq_pure (by rfl) (by rfl) ?hv3 ?rest3
          case hv3 => (intro w hw; (try dsimp only at hw); go_split_ands; go_simp; try with_reducible rfl)
          case' rest3 => try simp only [Act.put, List.setIfInBounds_toArray, List.set_cons_zero, List.set_cons_succ]
          refine' dq_pure (by rfl) (by rfl) ?hv4 ?rest4
          case hv4 => (intro w hw; (try dsimp only at hw); go_split_ands; go_simp; try with_reducible rfl)
          case' rest4 => try simp only [Act.put, List.setIfInBounds_toArray, List.set_cons_zero, List.set_cons_succ]
          refine' dq_pure (by rfl) (by rfl) ?hv5 ?rest5
          case hv5 => (intro w hw; (try dsimp only at hw); go_split_ands; go_simp; try with_reducible rfl)
          case' rest5 => try simp only [Act.put, List.setIfInBounds_toArray, List.set_cons_zero, List.set_cons_succ]
          refine' dq_ask (R := (fun v Wz => ∃ vv, v = .tuple #[MS t (nC t c mn mx x) (nMin t c mn mx x) (nMax t c mn mx x), vv, .int .i64 0] ∧ Ended wr.heap.size Wz vv (nEnd t c mn mx x))) (by rfl) (by rfl) ?hv6 ?hc6 ?rest6 (fun _ _ h g => keep1 h (below_gt g) rfl)
          case hv6 => (intro w; go_simp; exact ⟨rfl, rfl⟩)
          case hc6 => exact (fun wq hsq htq => (rStep_ok VL hcl m2 m3 hxi wq).mono fun e w' ⟨vv, he, hE, hb⟩ => ⟨_, he, ⟨vv, rfl, hE.mono hsq.2.1⟩, gt_below hb _⟩)
          case' rest6 => try simp only [Act.put, List.setIfInBounds_toArray, List.set_cons_zero, List.set_cons_succ]
          rintro vr wr2 hsr hgr ⟨vv, rfl, hE⟩
          refine' dq_pure (by rfl) (by rfl) ?hv7 ?rest7
          case hv7 => (intro w hw; (try dsimp only at hw); go_split_ands; go_simp; try with_reducible rfl)
          case' rest7 => try simp only [Act.put, List.setIfInBounds_toArray, List.set_cons_zero, List.set_cons_succ]
          refine' dq_pure (by rfl) (by rfl) ?hv8 ?rest8
          case hv8 => (intro w hw; (try dsimp only at hw); go_split_ands; go_simp; try with_reducible rfl)
          case' rest8 => try simp only [Act.put, List.setIfInBounds_toArray, List.set_cons_zero, List.set_cons_succ]
          refine' dq_late (by rfl) (by rfl) ?hv9 ?rest9
          case hv9 => (intro w; go_simp; try with_reducible rfl)
          case' rest9 => try simp only [Act.put, List.setIfInBounds_toArray, List.set_cons_zero, List.set_cons_succ]
          refine' dq_late (by rfl) (by rfl) ?hv10 ?rest10
          case hv10 => (intro w; go_simp; try with_reducible rfl)
          case' rest10 => try simp only [Act.put, List.setIfInBounds_toArray, List.set_cons_zero, List.set_cons_succ]
          refine dq_nil ?_
          simp only [fa, List.drop_succ_cons, List.drop_zero]
          rintro W ⟨⟨hb0, hn0, ⟨B1, B1c, B1f, B1l⟩⟩, hgl⟩ hbs
          clear hbs
          have hE2 := hE.below (below_gt hgl)
          have hrowW := hrow.kept (gt_below hb0 none) (Classical.em _)
          have hBW : Below w.heap.size w W := hB.trans (hb0.mono hB.size)
          have hszW := hb0.size
          rcases hE2 with ⟨rfl, hn⟩ | ⟨b2, cc, mm, rfl, hn, hbb, hHB⟩
          · (repeat' (first | (go_big_may; (first | (at_builtin; refine wpList_append_run rfl _ _ 40 rfl _ _ _ rfl rfl (append_none' _ _ _ _ i0 Try.underlying40 hi hrowW) ?_))) | go_values | go_skip | go_guarded | go_step | go_upon | (simp only [Int.not_lt, Int.not_le] at *; go_simp) | (go_values <;> (try go_simp)) | (go_ite <;> go_prune <;> (try go_simp)) | (split <;> (first | (rename_i hx; exact (hx _ rfl).elim) | go_prune))))
            go_roundw
            case rel =>
              refine ⟨k + 1, by simp, by omega, ?_, ?_, by (repeat' (first | (with_reducible assumption) | (with_reducible exact Below.refl _ _) | (with_reducible refine Below.alloc ?_ ?_ _) | (with_reducible refine Below.setCell ?_ ?_ _) | (with_reducible refine Below.drew ?_) | (with_reducible refine below_more ?_ (by with_reducible assumption)) | go_size | omega | (with_reducible refine below_drewN ?_))), by go_size⟩
              · rw [HM.out hlt]
                show World.ownsRow _ _ _ _ _ (os ++ (nEnd t c mn mx (zs.getD k 0)).toList).length (scells (os ++ (nEnd t c mn mx (zs.getD k 0)).toList))
                rw [HX.out, hn]
                simp only [Option.toList, List.append_nil]
                (repeat' (first | (with_reducible assumption) | (with_reducible refine own_setc ?_ (by dsimp only; omega)) | (with_reducible refine World.ownsRow.alloc ?_ _) | (with_reducible refine own_drew ?_)))
              · rw [HM.out hlt]
                show HB _ _ #[.int .i64 t, .int .i64 (nC t c mn mx (zs.getD k 0)), .int .i64 (nMin t c mn mx (zs.getD k 0)), .int .i64 (nMax t c mn mx (zs.getD k 0))]
                rw [HX.out]
                (repeat' (first | (with_reducible assumption) | ((with_reducible refine HB.new _ _ _ ?_) <;> (go_size; done)) | (with_reducible refine HB.old (by go_size) ?_) | (with_reducible refine HB.drew ?_) | (with_reducible refine HB.over5 ?_) | (with_reducible refine HB.over4 ?_) | (with_reducible refine HB.setne (by first | go_size | (dsimp only; omega)) ?_) | (with_reducible refine HN.set ?_) | (with_reducible refine HN.setne (by first | go_size | (dsimp only; omega)) ?_) | (with_reducible refine HN.drew ?_) | (with_reducible refine HN.old (by go_size) ?_) | (with_reducible exact HN.of5 (by assumption)) | (with_reducible exact HN.new5 _ _ (by go_size)) | (with_reducible exact HN.of4 (by assumption)) | (with_reducible exact HN.new4 _ _ (by go_size))))
            case measure => simp [intOf]; omega
          · have hbne : b2 ≠ ws.heap.size := by omega
            have hrowX : World.ownsRow ((((W.setCell ⟨ws.heap.size, 0, none⟩ (.int .i64 t)).setCell ⟨ws.heap.size, 1, none⟩ (.int .i64 (nC t c mn mx x))).setCell ⟨ws.heap.size, 2, none⟩ (.int .i64 (nMin t c mn mx x))).setCell ⟨ws.heap.size, 3, none⟩ (.int .i64 (nMax t c mn mx x))) (ws.heap.size + 1) 48 2 u8 os.length (scells os) := by (repeat' (first | (with_reducible assumption) | (with_reducible refine own_setc ?_ (by dsimp only; omega)) | (with_reducible refine World.ownsRow.alloc ?_ _) | (with_reducible refine own_drew ?_)))
            have hHX : HB ((((W.setCell ⟨ws.heap.size, 0, none⟩ (.int .i64 t)).setCell ⟨ws.heap.size, 1, none⟩ (.int .i64 (nC t c mn mx x))).setCell ⟨ws.heap.size, 2, none⟩ (.int .i64 (nMin t c mn mx x))).setCell ⟨ws.heap.size, 3, none⟩ (.int .i64 (nMax t c mn mx x))) b2 #[.int .i64 cc, .int .i64 mm] := HB.setne hbne (HB.setne hbne (HB.setne hbne (HB.setne hbne hHB)))
            have hSX : HB ((((W.setCell ⟨ws.heap.size, 0, none⟩ (.int .i64 t)).setCell ⟨ws.heap.size, 1, none⟩ (.int .i64 (nC t c mn mx x))).setCell ⟨ws.heap.size, 2, none⟩ (.int .i64 (nMin t c mn mx x))).setCell ⟨ws.heap.size, 3, none⟩ (.int .i64 (nMax t c mn mx x))) ws.heap.size #[.int .i64 t, .int .i64 (nC t c mn mx x), .int .i64 (nMin t c mn mx x), .int .i64 (nMax t c mn mx x)] := by (repeat' (first | (with_reducible assumption) | ((with_reducible refine HB.new _ _ _ ?_) <;> (go_size; done)) | (with_reducible refine HB.old (by go_size) ?_) | (with_reducible refine HB.drew ?_) | (with_reducible refine HB.over5 ?_) | (with_reducible refine HB.over4 ?_) | (with_reducible refine HB.setne (by first | go_size | (dsimp only; omega)) ?_) | (with_reducible refine HN.set ?_) | (with_reducible refine HN.setne (by first | go_size | (dsimp only; omega)) ?_) | (with_reducible refine HN.drew ?_) | (with_reducible refine HN.old (by go_size) ?_) | (with_reducible exact HN.of5 (by assumption)) | (with_reducible exact HN.new5 _ _ (by go_size)) | (with_reducible exact HN.of4 (by assumption)) | (with_reducible exact HN.new4 _ _ (by go_size))))
            have hBX : Below w.heap.size w ((((W.setCell ⟨ws.heap.size, 0, none⟩ (.int .i64 t)).setCell ⟨ws.heap.size, 1, none⟩ (.int .i64 (nC t c mn mx x))).setCell ⟨ws.heap.size, 2, none⟩ (.int .i64 (nMin t c mn mx x))).setCell ⟨ws.heap.size, 3, none⟩ (.int .i64 (nMax t c mn mx x))) := by (repeat' (first | (with_reducible assumption) | (with_reducible exact Below.refl _ _) | (with_reducible refine Below.alloc ?_ ?_ _) | (with_reducible refine Below.setCell ?_ ?_ _) | (with_reducible refine Below.drew ?_) | (with_reducible refine below_more ?_ (by with_reducible assumption)) | go_size | omega | (with_reducible refine below_drewN ?_)))
            have hsX : ws.heap.size + 1 ≤ (((((W.setCell ⟨ws.heap.size, 0, none⟩ (.int .i64 t)).setCell ⟨ws.heap.size, 1, none⟩ (.int .i64 (nC t c mn mx x))).setCell ⟨ws.heap.size, 2, none⟩ (.int .i64 (nMin t c mn mx x))).setCell ⟨ws.heap.size, 3, none⟩ (.int .i64 (nMax t c mn mx x)))).heap.size := by simp; omega
            obtain ⟨v', w2, hrun, hown', hgrow, -⟩ := run_append_own (P := Try.prog) ((((W.setCell ⟨ws.heap.size, 0, none⟩ (.int .i64 t)).setCell ⟨ws.heap.size, 1, none⟩ (.int .i64 (nC t c mn mx x))).setCell ⟨ws.heap.size, 2, none⟩ (.int .i64 (nMin t c mn mx x))).setCell ⟨ws.heap.size, 3, none⟩ (.int .i64 (nMax t c mn mx x))) (ws.heap.size + 1) 40 40 48 i0 (.agg #[.int .i64 0, .int .i64 0]) 2 16 Try.underlying40 hi hz0 hz1 hz2 rfl (by decide) u8 os.length (scells os) hrowX ⟨b2, 0, none⟩ 1 1 [.int .i64 cc, .int .i64 mm] rfl (two_at hHX) (by intro u hu; simp at hu; rcases hu with rfl | rfl <;> rfl) (by unfold maxLen; omega) (by omega) hsX
            (repeat' (first | (go_big_may; (first | (at_builtin; refine wpList_append_run rfl _ _ 40 rfl _ _ _ rfl rfl hrun ?_))) | go_values | go_skip | go_guarded | go_step | go_upon | (simp only [Int.not_lt, Int.not_le] at *; go_simp) | (go_values <;> (try go_simp)) | (go_ite <;> go_prune <;> (try go_simp)) | (split <;> (first | (rename_i hx; exact (hx _ rfl).elim) | go_prune))))
            go_roundw
            case rel =>
              refine ⟨k + 1, by simp, by omega, ?_, ?_, hBX.trans (app_below hrowX hgrow (by have := hBS; omega) (by have := hBX.size; omega)), Nat.le_trans hsX hgrow.size⟩
              · rw [HM.out hlt]
                show World.ownsRow _ _ _ _ _ (os ++ (nEnd t c mn mx (zs.getD k 0)).toList).length (scells (os ++ (nEnd t c mn mx (zs.getD k 0)).toList))
                rw [HX.out, hn]
                rw [show (os ++ (some (cc, mm)).toList).length = os.length + 1 by simp, show scells (os ++ (some (cc, mm)).toList) = scells os ++ [.int .i64 cc, .int .i64 mm] by simp [scells, scell]]
                exact hown'
              · rw [HM.out hlt]
                show HB _ _ #[.int .i64 t, .int .i64 (nC t c mn mx (zs.getD k 0)), .int .i64 (nMin t c mn mx (zs.getD k 0)), .int .i64 (nMax t c mn mx (zs.getD k 0))]
                rw [HX.out]
                exact hSX.app hrowX hgrow (by omega)
            case measure => simp [intOf]; omega
        · have hkz : k = zs.length := by omega
          have HZ : mfold t zs = ((c, mn, mx), os) := by have := HA.out; rwa [HT.out hkz] at this
          have F := fun W => rfinish_any (t := t) (c := c) m2 m3 W
          unfold FinP at F
          simp only [VL, if_true] at F
          have hml : mall t zs = os ++ (fin c mn mx).toList := by unfold mall; rw [HZ]
          have HML := hid hml
          clear hml HZ
          have hkl : l ≤ k := by omega
          (repeat' (first | go_values | go_skip | go_guarded | go_step | go_upon | (simp only [Int.not_lt, Int.not_le] at *; go_simp) | (go_values <;> (try go_simp)) | (go_ite <;> go_prune <;> (try go_simp)) | (split <;> (first | (rename_i hx; exact (hx _ rfl).elim) | go_prune))))
          go_at_call 55
          refine (F _).mono ?_
          rintro e w2 ⟨vr, rfl, hE, hbw2⟩
          have hrow2 := hrow.kept (gt_below hbw2 none) (Classical.em _)
          have hB2 : Below w.heap.size w w2 := hB.trans (hbw2.mono hB.size)
          rcases hE with ⟨rfl, hn⟩ | ⟨b2, cc, mm, rfl, hn, hbb, hHB⟩
          · (repeat' (first | (go_big_may; (first | (at_builtin; refine wpList_append_run rfl _ _ 40 rfl _ _ _ rfl rfl (append_none' _ _ _ _ i0 Try.underlying40 hi hrow2) ?_))) | go_values | go_skip | go_guarded | go_step | go_upon | (simp only [Int.not_lt, Int.not_le] at *; go_simp) | (go_values <;> (try go_simp)) | (go_ite <;> go_prune <;> (try go_simp)) | (split <;> (first | (rename_i hx; exact (hx _ rfl).elim) | go_prune))))
            refine bodyPost_ret ?_ rfl ⟨u8, rfl, ?_, hB2⟩
            · simp [results, Try.results31, go_sem]
            · rw [HML.out, hn]
              simp only [Option.toList, List.append_nil]
              exact own_base hrow2 (by omega)
          · have hs2 : ws.heap.size + 1 ≤ w2.heap.size := Nat.le_trans hsz hbw2.size
            obtain ⟨v', w3, hrun, hown', hgrow, -⟩ := run_append_own (P := Try.prog) w2 (ws.heap.size + 1) 40 40 48 i0 (.agg #[.int .i64 0, .int .i64 0]) 2 16 Try.underlying40 hi hz0 hz1 hz2 rfl (by decide) u8 os.length (scells os) hrow2 ⟨b2, 0, none⟩ 1 1 [.int .i64 cc, .int .i64 mm] rfl (two_at hHB) (by intro u hu; simp at hu; rcases hu with rfl | rfl <;> rfl) (by unfold maxLen; omega) (by omega) hs2
            (repeat' (first | (go_big_may; (first | (at_builtin; refine wpList_append_run rfl _ _ 40 rfl _ _ _ rfl rfl hrun ?_))) | go_values | go_skip | go_guarded | go_step | go_upon | (simp only [Int.not_lt, Int.not_le] at *; go_simp) | (go_values <;> (try go_simp)) | (go_ite <;> go_prune <;> (try go_simp)) | (split <;> (first | (rename_i hx; exact (hx _ rfl).elim) | go_prune))))
            refine bodyPost_ret ?_ rfl ⟨v', rfl, ?_, hB2.trans (app_below hrow2 hgrow (by omega) hB2.size)⟩
            · simp [results, Try.results31, go_sem]
            · rw [HML.out, hn]
              rw [show (os ++ (some (cc, mm)).toList).length = os.length + 1 by simp, show scells (os ++ (some (cc, mm)).toList) = scells os ++ [.int .i64 cc, .int .i64 mm] by simp [scells, scell]]
              exact own_base hown' (by omega)
    · simp only [hl, decide_false, Bool.false_eq_true, if_false]
      have hl2 : 1073741824 < l := by omega
      clear hcell hwf
      go_enter Try.func31, Try.ntmps31
      (repeat' (first | (go_big_may; (first | (go_at_call 41; refine (C _).mono ?_; rintro e w' ⟨rfl, hbw⟩; have hsz := hbw.size; (try simp only [World.size_alloc, World.size_setCell, World.size_drew] at hsz)))) | go_values | go_skip | go_guarded | go_step | go_upon | (simp only [Int.not_lt, Int.not_le] at *; go_simp) | (go_values <;> (try go_simp)) | (go_ite <;> go_prune <;> (try go_simp)) | (split <;> (first | (rename_i hx; exact (hx _ rfl).elim) | go_prune))))
      refine bodyPost_ret ?_ rfl ⟨.slice none 0 0, rfl, World.ownsRow_nil _ _ _ _, by (repeat' (first | (with_reducible assumption) | (with_reducible exact Below.refl _ _) | (with_reducible refine Below.alloc ?_ ?_ _) | (with_reducible refine Below.setCell ?_ ?_ _) | (with_reducible refine Below.drew ?_) | (with_reducible refine below_more ?_ (by with_reducible assumption)) | go_size | omega | (with_reducible refine below_drewN ?_)))⟩
      simp [results, Try.results31, go_sem]
end Go.Proofs.Ytenaeaojnebokaa
