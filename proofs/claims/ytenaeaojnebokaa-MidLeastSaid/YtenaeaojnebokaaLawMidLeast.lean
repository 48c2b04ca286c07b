/- Proved: tscodeclaw15.MidLeast returns true for all arguments. No condition. -/
import Derived.Test.YtenaeaojnebokaaRows
import Derived.Test.YtenaeaojnebokaaMidR
import Derived.Test.YtenaeaojnebokaaMidQ
import Derived.Test.YtenaeaojnebokaaMidU
import Derived.WalkKit
import Derived.ProofKit
import Derived.OpenShut
import Derived.SizedLaws
import Derived.Outline
import Derived.WalkLawsBesides
import Derived.WalkSpells
import Derived.RegionTactic
import Derived.ChangeAlike
import Derived.BigRegion
import Derived.Handy
import Derived.Deep.RegionWith
import Derived.Deep.QuietTactic
import Derived.BigQuiet
namespace Go.Proofs.Ytenaeaojnebokaa.midLeast
open Go.ChangeShapes Go.WideShapes Go.ChangeAt Go.RowKit
set_option linter.unusedVariables false
set_option linter.unusedSimpArgs false

set_option maxHeartbeats 8000000 in
set_option maxRecDepth 100000 in
theorem walk_hi (w : World) (s0 : Option Addr) (l0 c0 : Nat) (z0 : List Int) (h0 : SlZ w .i64 (.slice s0 l0 c0) z0) (a1 : Int) (h1 : I64 a1) (s2 : Option Addr) (l2 c2 : Nat) (z2 : List Int) (h2 : SlZ w .i64 (.slice s2 l2 c2) z2) (o1 : 200 < l0) :
    Calls Try.prog 9 #[.slice s0 l0 c0, .int .i64 a1, .slice s2 l2 c2] w fun e w' => e = .returned (.bool true) ∧ Below w.heap.size w w' := by
  have hG := grown_refl w (some w.heap.size)
  have h0' := h0
  obtain ⟨a9, l9, c9, e9, q1, q2, q3, q4, -⟩ := h0'
  cases e9
  clear q4
  obtain ⟨lm, hlm⟩ : ∃ lm : Nat, lm ≤ l0 ∧ lm = 200 := ⟨200, by omega, rfl⟩
  obtain ⟨hlm, hlx⟩ := hlm
  have hs := take_slz h0 hlm
  obtain ⟨i0, hi, hz0, hz1, hz2⟩ := info_parts info_i64
  have hmx : Try.prog.follows .mixedOrders = true := by kernel_rfl
  obtain rfl : lm = 200 := hlx
  obtain ⟨zr, hzr⟩ : ∃ zr, z0.take 200 = zr := ⟨_, rfl⟩
  rw [hzr] at hs
  have hrl : zr.length = 200 := by rw [← hzr, List.length_take]; omega
  have hr2 : zr.length ≤ 200 := by omega
  have hl2 : 200 ≤ 200 := by omega
  have hri := slz_i64 hs
  have hlc : 200 ≤ c0 := by omega
  have HRD := hid (rdz_slz hs)
  clear hzr h0 q1 q2 q3
  go_enter Try.func9, Try.ntmps9
  (repeat' (first | (go_big_may; (first | (go_at_call 16; refine (new_tape (SlZ.below h2 (by (repeat' (first | (with_reducible assumption) | (with_reducible exact Below.refl _ _) | (with_reducible refine Below.alloc ?_ ?_ _) | (with_reducible refine Below.setCell ?_ ?_ _) | (with_reducible refine Below.drew ?_) | (with_reducible refine below_more ?_ (by with_reducible assumption)) | go_size | omega | (with_reducible refine below_drewN ?_)))))).mono ?_; rintro e w' ⟨rfl, ht, hbw⟩; have hle := ht.leB; have hG' : w.grownBy w' (some (w.heap.size)) := grown_bel (by (repeat' (first | (with_reducible exact hG) | (with_reducible refine grown_alloc ?_ _) | (with_reducible refine grown_drew ?_) | (with_reducible refine grown_setCell ?_ (.inr (by first | go_size | (dsimp only; omega))) _)))) hbw; clear hG; have hG := hG'; clear hG' hbw; (try simp only [World.size_alloc, World.size_setCell, World.size_drew] at ht hle)) | ((rename World => wn); refine wpList_make_full _ rfl _ _ 38 rfl wn.heap.size 2 i0 (.int .i64 0) 1 Try.underlying38 hi hz0 hz1 .i64 .i64 _ _ 200 rfl rfl (by first | rfl | simp) (by first | rfl | simp) (by rw [hz2]; omega) (by unfold maxLen; omega) (Nat.le_refl _) ?_; intro wm hown hgr))) | go_values | go_skip | go_guarded | go_step | go_upon | (simp only [Int.not_lt, Int.not_le] at *; go_simp) | (go_values <;> (try go_simp)) | (go_ite <;> go_prune <;> (try go_simp)) | (split <;> (first | (rename_i hx; exact (hx _ rfl).elim) | go_prune))))
  have hO0 : OwnL wm wn.heap.size wn.heap.size 200 (List.replicate 200 0) := OwnL.zeros hown
  have hbm : Below wn.heap.size wn wm := below_gt hgr
  have ht0 : TapeOk (w.heap.size + 1) wm w.heap.size := TapeOk.bel (by (repeat' (first | (with_reducible exact ht) | (with_reducible refine TapeOk.alloc ?_ _) | (with_reducible refine TapeOk.drew ?_) | (with_reducible refine TapeOk.setc (by first | go_size | (dsimp only; omega)) ?_)))) hbm
  have hG0 : w.grownBy wm (some w.heap.size) := grown_bel (by (repeat' (first | (with_reducible exact hG) | (with_reducible refine grown_alloc ?_ _) | (with_reducible refine grown_drew ?_) | (with_reducible refine grown_setCell ?_ (.inr (by first | go_size | (dsimp only; omega))) _)))) hbm
  have hwn := hG.size
  clear hown hgr hbm ht hG
  go_loopw [9] (fun i wr => ∃ (k : Nat) (bs : List Int), i = .int .i64 k ∧ k ≤ 200 ∧ Hid (∀ z ∈ bs, I64 z) ∧ OwnL wr wn.heap.size wn.heap.size 200 bs ∧ TapeOk (w.heap.size + 1) wr w.heap.size ∧ w.grownBy wr (some w.heap.size)) (fun i _ => 200 - (intOf i).toNat)
  case atStart => exact ⟨0, _, rfl, Nat.zero_le _, hid (fun z hz => by rw [(List.mem_replicate.1 hz).2]; exact ⟨by decide, by decide⟩), hO0, ht0, hG0⟩
  case round =>
    obtain ⟨k, bs, rfl, hk, hbi, hO, ht, hG⟩ := hrel
    by_cases hkl : k < 200
    · obtain ⟨gl, off, rfl, hgl, hls⟩ := HRD.out (by omega)
      obtain ⟨x, hx⟩ : ∃ x, zr.getD k 0 = x := ⟨_, rfl⟩
      have hbw := below_tape hG (Nat.le_refl _)
      have hxi : I64 x := hx ▸ getD_i64 (fun z hz => i64_wf (hri z hz)) k
      have fx : wr.cell? ⟨gl, off + k, none⟩ = some (.int .i64 x) := (hbw.cell (p := ⟨gl, off + k, none⟩) hgl).trans (hx ▸ hls k (by omega))
      have f0 := hO.cell k hkl
      have ff := hO.frozen k
      have hG2 := hG.size
      have hxm := mod50 hxi
      have HBI := hid (mem_set (j := k) hbi.out hxm)
      clear hx hls hbi hbw
      (repeat' (first | go_values | go_skip | go_guarded | go_step | go_upon | (simp only [Int.not_lt, Int.not_le] at *; go_simp) | (go_values <;> (try go_simp)) | (go_ite <;> go_prune <;> (try go_simp)) | (split <;> (first | (rename_i hx; exact (hx _ rfl).elim) | go_prune))))
      go_roundw
      case rel =>
        refine ⟨k + 1, bs.set k (x.tmod 50), by simp, by omega, HBI, ?_, by (repeat' (first | (with_reducible exact ht) | (with_reducible refine TapeOk.alloc ?_ _) | (with_reducible refine TapeOk.drew ?_) | (with_reducible refine TapeOk.setc (by first | go_size | (dsimp only; omega)) ?_))), by (repeat' (first | (with_reducible exact hG) | (with_reducible refine grown_alloc ?_ _) | (with_reducible refine grown_drew ?_) | (with_reducible refine grown_setCell ?_ (.inr (by first | go_size | (dsimp only; omega))) _)))⟩
        (repeat' (first | (with_reducible exact hO) | (with_reducible refine OwnL.drew ?_) | (with_reducible refine OwnL.drewN ?_ _) | (with_reducible refine OwnL.stored ?_ _ _)))
      case measure => simp [intOf]; omega
    · obtain rfl : 200 = k := by omega
      have hfl := hO.2
      have hwr := hG.size
      clear HRD
      (repeat' (first | go_values | go_skip | go_guarded | go_step | go_upon | (simp only [Int.not_lt, Int.not_le] at *; go_simp) | (go_values <;> (try go_simp)) | (go_ite <;> go_prune <;> (try go_simp)) | (split <;> (first | (rename_i hx; exact (hx _ rfl).elim) | go_prune))))
      go_at_call 28
      refine (values_any (B := w.heap.size + 1) _ 30 (by decide) (by decide) _ (by (repeat' (first | (with_reducible exact ht) | (with_reducible refine TapeOk.alloc ?_ _) | (with_reducible refine TapeOk.drew ?_) | (with_reducible refine TapeOk.setc (by first | go_size | (dsimp only; omega)) ?_))))).mono ?_
      rintro e w3 ⟨vl, zs, ⟨hzi, hzl⟩, rfl, hown, ht2, hg2⟩
      have hG3 : w.grownBy w3 (some w.heap.size) := grown_trans (by (repeat' (first | (with_reducible exact hG) | (with_reducible refine grown_alloc ?_ _) | (with_reducible refine grown_drew ?_) | (with_reducible refine grown_setCell ?_ (.inr (by first | go_size | (dsimp only; omega))) _)))) hg2
      have hfe := hO.1.kept hg2 (own_ne hO.1 (by omega))
      have hb3 := below_tape hG3 (Nat.le_refl _)
      have hz30 : zs.length ≤ 200 := by omega
      have hg2s := hg2.size
      have hwB := ht.leB
      obtain ⟨av, cv, rfl⟩ := slz_form (slz_own hown hzi)
      have CM := fun W => mod_any a1 20 h1 ⟨by decide, by decide⟩ W
      obtain ⟨m, hm⟩ : ∃ m, md a1 20 = m := ⟨_, rfl⟩
      have hmd := md_bd a1 20
      rw [hm] at CM hmd
      have htm : Tol m := ⟨hmd.1, by have := hmd.2.1 (by decide); omega⟩
      clear hmd hm ht hG hg2
      have ht := ht2
      have hG := grown_refl w3 (some w.heap.size)
      clear ht2
      (repeat' (first | go_values | go_skip | go_guarded | go_step | go_upon | (simp only [Int.not_lt, Int.not_le] at *; go_simp) | (go_values <;> (try go_simp)) | (go_ite <;> go_prune <;> (try go_simp)) | (split <;> (first | (rename_i hx; exact (hx _ rfl).elim) | go_prune))))
      go_at_call 29
      refine (tol_any (B := w.heap.size + 1) _ _ (by (repeat' (first | (with_reducible exact ht) | (with_reducible refine TapeOk.alloc ?_ _) | (with_reducible refine TapeOk.drew ?_) | (with_reducible refine TapeOk.setc (by first | go_size | (dsimp only; omega)) ?_))))).mono ?_
      rintro e w4 ⟨tl, htl, rfl, ht4, hg4⟩
      have hN4 : HB w4 w3.heap.size #[.slice s0 200 c0, .slice (some ⟨wn.heap.size, 0, none⟩) 200 200, .slice av zs.length cv] := HB.gne (by (repeat' (first | (with_reducible assumption) | ((with_reducible refine HB.new _ _ _ ?_) <;> (go_size; done)) | (with_reducible refine HB.old (by go_size) ?_) | (with_reducible refine HB.drew ?_) | (with_reducible refine HB.over5 ?_) | (with_reducible refine HB.over4 ?_) | (with_reducible refine HB.setne (by first | go_size | (dsimp only; omega)) ?_) | (with_reducible refine HN.set ?_) | (with_reducible refine HN.setne (by first | go_size | (dsimp only; omega)) ?_) | (with_reducible refine HN.drew ?_) | (with_reducible refine HN.old (by go_size) ?_) | (with_reducible exact HN.of5 (by assumption)) | (with_reducible exact HN.new5 _ _ (by go_size)) | (with_reducible exact HN.of4 (by assumption)) | (with_reducible exact HN.new4 _ _ (by go_size))))) hg4 (by omega)
      have hG4 : w3.grownBy w4 (some w.heap.size) := grown_trans (by (repeat' (first | (with_reducible exact hG) | (with_reducible refine grown_alloc ?_ _) | (with_reducible refine grown_drew ?_) | (with_reducible refine grown_setCell ?_ (.inr (by first | go_size | (dsimp only; omega))) _)))) hg4
      have hsz4 := hg4.size
      simp only [World.size_alloc, World.size_setCell, World.size_drew] at hsz4
      clear ht hG hg4
      have ht := ht4
      have hG := hG4
      clear ht4 hG4
      (repeat' (first | go_values | go_skip | go_guarded | go_step | go_upon | (simp only [Int.not_lt, Int.not_le] at *; go_simp) | (go_values <;> (try go_simp)) | (go_ite <;> go_prune <;> (try go_simp)) | (split <;> (first | (rename_i hx; exact (hx _ rfl).elim) | go_prune))))
      go_at_call 34
      refine (CM _).mono ?_
      rintro e w' ⟨rfl, rfl⟩
      (repeat' (first | go_values | go_skip | go_guarded | go_step | go_upon | (simp only [Int.not_lt, Int.not_le] at *; go_simp) | (go_values <;> (try go_simp)) | (go_ite <;> go_prune <;> (try go_simp)) | (split <;> (first | (rename_i hx; exact (hx _ rfl).elim) | go_prune))))
      go_at_call 29
      refine (tol_any (B := w.heap.size + 1) _ _ (by (repeat' (first | (with_reducible exact ht) | (with_reducible refine TapeOk.alloc ?_ _) | (with_reducible refine TapeOk.drew ?_) | (with_reducible refine TapeOk.setc (by first | go_size | (dsimp only; omega)) ?_))))).mono ?_
      rintro e w5 ⟨tl2, htl2, rfl, ht5, hg5⟩
      have hN5 : HB w5 w3.heap.size #[.slice s0 200 c0, .slice (some ⟨wn.heap.size, 0, none⟩) 200 200, .slice av zs.length cv] := HB.gne (by (repeat' (first | (with_reducible assumption) | ((with_reducible refine HB.new _ _ _ ?_) <;> (go_size; done)) | (with_reducible refine HB.old (by go_size) ?_) | (with_reducible refine HB.drew ?_) | (with_reducible refine HB.over5 ?_) | (with_reducible refine HB.over4 ?_) | (with_reducible refine HB.setne (by first | go_size | (dsimp only; omega)) ?_) | (with_reducible refine HN.set ?_) | (with_reducible refine HN.setne (by first | go_size | (dsimp only; omega)) ?_) | (with_reducible refine HN.drew ?_) | (with_reducible refine HN.old (by go_size) ?_) | (with_reducible exact HN.of5 (by assumption)) | (with_reducible exact HN.new5 _ _ (by go_size)) | (with_reducible exact HN.of4 (by assumption)) | (with_reducible exact HN.new4 _ _ (by go_size))))) hg5 (by omega)
      have hG5 : w3.grownBy w5 (some w.heap.size) := grown_trans (by (repeat' (first | (with_reducible exact hG) | (with_reducible refine grown_alloc ?_ _) | (with_reducible refine grown_drew ?_) | (with_reducible refine grown_setCell ?_ (.inr (by first | go_size | (dsimp only; omega))) _)))) hg5
      have hsz5 := hg5.size
      have hsr := SlZ.below hs (below_tape (grown_trans hG3 hG5) (Nat.le_refl _))
      have hb5 : Below w.heap.size w w5 := below_tape (grown_trans hG3 hG5) (Nat.le_refl _)
      have hsf : SlZ w5 .i64 (.slice (some ⟨wn.heap.size, 0, none⟩) 200 200) bs := slz_own (base := wn.heap.size) (e := 2) (by rw [hfl]; exact hfe.kept hG5 (own_ne hfe (by omega))) hbi.out
      have hsv := slz_own (hown.kept hG5 (own_ne hown (by omega))) hzi
      obtain ⟨ca, hca⟩ : ∃ ca : Array Value, #[.slice s0 200 c0, .slice (some ⟨wn.heap.size, 0, none⟩) 200 200, .slice av zs.length cv] = ca := ⟨_, rfl⟩
      obtain ⟨ce, hce⟩ : ∃ ce : Array Value, #[.int .i64 tl, .int .i64 m, .int .i64 tl2] = ce := ⟨_, rfl⟩
      have HPICK : Hid (∀ ii, ii < 3 → ∃ (a : Option Addr) (cap : Nat) (zz : List Int) (tt : Int), ca[ii]? = some (.slice a zz.length cap) ∧ ce[ii]? = some (.int .i64 tt) ∧ SlZ w5 .i64 (.slice a zz.length cap) zz ∧ zz.length ≤ 200 ∧ I64 tt ∧ tolb tt = true) := hid (by
        intro ii hii
        rw [← hca, ← hce]
        rcases (show ii = 0 ∨ ii = 1 ∨ ii = 2 by omega) with rfl | rfl | rfl
        · exact ⟨s0, c0, zr, tl, by rw [hrl]; rfl, rfl, by rw [hrl]; exact hsr, hr2, tol_i64 htl, tol_tolb htl⟩
        · exact ⟨_, 200, bs, m, by rw [hfl]; rfl, rfl, by rw [hfl]; exact hsf, by omega, tol_i64 htm, tol_tolb htm⟩
        · exact ⟨av, cv, zs, tl2, rfl, rfl, hsv, hz30, tol_i64 htl2, tol_tolb htl2⟩)
      clear ht hG hg5 ht5 hN4 hfe hown hs hsr hsf hsv CM hG3 hbi
      (repeat' (first | go_values | go_skip | go_guarded | go_step | go_upon | (simp only [Int.not_lt, Int.not_le] at *; go_simp) | (go_values <;> (try go_simp)) | (go_ite <;> go_prune <;> (try go_simp)) | (split <;> (first | (rename_i hx; exact (hx _ rfl).elim) | go_prune))))
      go_loopw [12] (fun i wr => ∃ ii : Nat, i = .int .i64 ii ∧ ii ≤ 3 ∧ HB wr w3.heap.size ca ∧ HB wr w5.heap.size ce ∧ Below w5.heap.size w5 wr) (fun i _ => 3 - (intOf i).toNat)
      case atStart => exact ⟨0, rfl, by decide, by rw [← hca]; (repeat' (first | (with_reducible assumption) | ((with_reducible refine HB.new _ _ _ ?_) <;> (go_size; done)) | (with_reducible refine HB.old (by go_size) ?_) | (with_reducible refine HB.drew ?_) | (with_reducible refine HB.over5 ?_) | (with_reducible refine HB.over4 ?_) | (with_reducible refine HB.setne (by first | go_size | (dsimp only; omega)) ?_) | (with_reducible refine HN.set ?_) | (with_reducible refine HN.setne (by first | go_size | (dsimp only; omega)) ?_) | (with_reducible refine HN.drew ?_) | (with_reducible refine HN.old (by go_size) ?_) | (with_reducible exact HN.of5 (by assumption)) | (with_reducible exact HN.new5 _ _ (by go_size)) | (with_reducible exact HN.of4 (by assumption)) | (with_reducible exact HN.new4 _ _ (by go_size)))), by rw [← hce]; (repeat' (first | (with_reducible assumption) | ((with_reducible refine HB.new _ _ _ ?_) <;> (go_size; done)) | (with_reducible refine HB.old (by go_size) ?_) | (with_reducible refine HB.drew ?_) | (with_reducible refine HB.over5 ?_) | (with_reducible refine HB.over4 ?_) | (with_reducible refine HB.setne (by first | go_size | (dsimp only; omega)) ?_) | (with_reducible refine HN.set ?_) | (with_reducible refine HN.setne (by first | go_size | (dsimp only; omega)) ?_) | (with_reducible refine HN.drew ?_) | (with_reducible refine HN.old (by go_size) ?_) | (with_reducible exact HN.of5 (by assumption)) | (with_reducible exact HN.new5 _ _ (by go_size)) | (with_reducible exact HN.of4 (by assumption)) | (with_reducible exact HN.new4 _ _ (by go_size)))), by (repeat' (first | (with_reducible assumption) | (with_reducible exact Below.refl _ _) | (with_reducible refine Below.alloc ?_ ?_ _) | (with_reducible refine Below.setCell ?_ ?_ _) | (with_reducible refine Below.drew ?_) | (with_reducible refine below_more ?_ (by with_reducible assumption)) | go_size | omega | (with_reducible refine below_drewN ?_)))⟩
      case round =>
        clear hN5 hG5
        obtain ⟨ii, rfl, hii, hA, hE, hB5⟩ := hrel
        by_cases hi3 : ii < 3
        · obtain ⟨a, cap, zz, tt, pka, pke, hsz, hz2, hti, htb⟩ := HPICK.out ii hi3
          obtain ⟨gn, hgn⟩ : ∃ gn, G tt zz zz.length = gn := ⟨_, rfl⟩
          have hsw := SlZ.below hsz hB5
          have K1 : ∀ W, Below wr.heap.size wr W → Calls Try.prog 30 #[.slice a zz.length cap, .int .i64 tt] W (fun e w' => ∃ asl csl, e = .returned (.tuple #[.slice asl gn csl, .int .i64 0]) ∧ Below W.heap.size W w') := fun W hW => by
            refine (all_any hti W (SlZ.below hsw hW)).mono ?_
            rintro e w' ⟨v, he, ho, hb⟩
            rw [show segs tt zz = mall tt zz by unfold segs; rw [htb]; simp; omega] at ho
            obtain ⟨asl, csl, rfl, -⟩ := RdC.own ho
            rw [show erra tt zz.length = 0 by unfold erra; rw [htb]; simp; omega, ← G_all, hgn] at he
            exact ⟨asl, csl, he, hb⟩
          have K2 : ∀ W, Below wr.heap.size wr W → Calls Try.prog 35 #[.slice a zz.length cap, .int .i64 tt] W (fun e w' => e = .returned (.int .i64 (gn : Nat)) ∧ Below W.heap.size W w') := fun W hW => hgn ▸ least_any htb hz2 W (SlZ.below hsw hW)
          have hgl : gn < 9223372036854775807 := by
            have := G_le htb (zs := zz) zz.length (Nat.le_refl _)
            omega
          have HPA := hid pka
          have HPE := hid pke
          clear hsw hsz hgn
          (repeat' (first | go_values | go_skip | go_guarded | go_step | go_upon | (simp only [Int.not_lt, Int.not_le] at *; go_simp) | (go_values <;> (try go_simp)) | (go_ite <;> go_prune <;> (try go_simp)) | (split <;> (first | (rename_i hx; exact (hx _ rfl).elim) | go_prune))))
          
          (refine wp_region_dq (row := none) (S := (fun Wz => Below wr.heap.size wr Wz ∧ wr.heap.size ≤ Wz.heap.size ∧ Bx Wz (w3.heap.size) (ca) ∧ Bx Wz (w5.heap.size) (ce))) (n0 := wr.heap.size) 12 [11] [(0, 0), (1, 0), (2, 0), (3, 0), (4, 0), (5, 0), (6, 0), (7, 0), (8, 1), (9, 0), (10, 0), (11, 2)] [] (by kernel_rfl) (by kernel_rfl) (fun _ _ d _ _ h => by cases d <;> exact h) (by refine ⟨?dob1, ?don1, ?_, ?_⟩; (case dob1 => (repeat' (first | (with_reducible assumption) | (with_reducible exact Below.refl _ _) | (with_reducible refine Below.alloc ?_ ?_ _) | (with_reducible refine Below.setCell ?_ ?_ _) | (with_reducible refine Below.drew ?_) | (with_reducible refine below_more ?_ (by with_reducible assumption)) | go_size | omega | (with_reducible refine below_drewN ?_)))); (case don1 => (first | go_size | omega)); all_goals (first | done | (refine Bx.of ?_; (repeat' (first | (with_reducible assumption) | ((with_reducible refine HB.new _ _ _ ?_) <;> (go_size; done)) | (with_reducible refine HB.old (by go_size) ?_) | (with_reducible refine HB.drew ?_) | (with_reducible refine HB.over5 ?_) | (with_reducible refine HB.over4 ?_) | (with_reducible refine HB.setne (by first | go_size | (dsimp only; omega)) ?_) | (with_reducible refine HN.set ?_) | (with_reducible refine HN.setne (by first | go_size | (dsimp only; omega)) ?_) | (with_reducible refine HN.drew ?_) | (with_reducible refine HN.old (by go_size) ?_) | (with_reducible exact HN.of5 (by assumption)) | (with_reducible exact HN.new5 _ _ (by go_size)) | (with_reducible exact HN.of4 (by assumption)) | (with_reducible exact HN.new4 _ _ (by go_size))))))) (fun _ _ h g => keep2 h (below_gt g) rfl) (fun _ h => h.2.1) (fun _ h => by cases h) (by simp) ?_)
          refine dqo_start ?_
          intro af0 hA
          have Z := size_lit (n := 84) hA (by rfl)
          have D := defers_lit hA
          have F0 := ev_lit (t := 0) hA (by rfl)
          have F1 := ev_lit (t := 1) hA (by rfl)
          have F2 := ev_lit (t := 2) hA (by rfl)
          have F3 := ev_lit (t := 3) hA (by rfl)
          have F4 := ev_lit (t := 4) hA (by rfl)
          have F5 := ev_lit (t := 5) hA (by rfl)
          have F6 := ev_lit (t := 6) hA (by rfl)
          have F7 := ev_lit (t := 7) hA (by rfl)
          have F8 := ev_lit (t := 8) hA (by rfl)
          have F9 := ev_lit (t := 9) hA (by rfl)
          have F10 := ev_lit (t := 10) hA (by rfl)
          have F11 := ev_lit (t := 11) hA (by rfl)
          have F12 := ev_lit (t := 12) hA (by rfl)
          have F13 := ev_lit (t := 13) hA (by rfl)
          have F14 := ev_lit (t := 14) hA (by rfl)
          have F15 := ev_lit (t := 15) hA (by rfl)
          have F16 := ev_lit (t := 16) hA (by rfl)
          have F17 := ev_lit (t := 17) hA (by rfl)
          have F18 := ev_lit (t := 18) hA (by rfl)
          have F19 := ev_lit (t := 19) hA (by rfl)
          have F20 := ev_lit (t := 20) hA (by rfl)
          have F21 := ev_lit (t := 21) hA (by rfl)
          have F22 := ev_lit (t := 22) hA (by rfl)
          have F23 := ev_lit (t := 23) hA (by rfl)
          have F24 := ev_lit (t := 24) hA (by rfl)
          have F25 := ev_lit (t := 25) hA (by rfl)
          have F26 := ev_lit (t := 26) hA (by rfl)
          have F27 := ev_lit (t := 27) hA (by rfl)
          have F28 := ev_lit (t := 28) hA (by rfl)
          have F29 := ev_lit (t := 29) hA (by rfl)
          have F30 := ev_lit (t := 30) hA (by rfl)
          have F31 := ev_lit (t := 31) hA (by rfl)
          have F32 := ev_lit (t := 32) hA (by rfl)
          have F33 := ev_lit (t := 33) hA (by rfl)
          have F34 := ev_lit (t := 34) hA (by rfl)
          have F35 := ev_lit (t := 35) hA (by rfl)
          have F36 := ev_lit (t := 36) hA (by rfl)
          have F37 := ev_lit (t := 37) hA (by rfl)
          have F38 := ev_lit (t := 38) hA (by rfl)
          have F39 := ev_lit (t := 39) hA (by rfl)
          have F40 := ev_lit (t := 40) hA (by rfl)
          have F41 := ev_lit (t := 41) hA (by rfl)
          have F42 := ev_lit (t := 42) hA (by rfl)
          have F43 := ev_lit (t := 43) hA (by rfl)
          have F44 := ev_lit (t := 44) hA (by rfl)
          have F45 := ev_lit (t := 45) hA (by rfl)
          have F46 := ev_lit (t := 46) hA (by rfl)
          have F47 := ev_lit (t := 47) hA (by rfl)
          have F48 := ev_lit (t := 48) hA (by rfl)
          have F49 := ev_lit (t := 49) hA (by rfl)
          have F50 := ev_lit (t := 50) hA (by rfl)
          have F51 := ev_lit (t := 51) hA (by rfl)
          have F53 := ev_lit (t := 53) hA (by rfl)
          have F54 := ev_lit (t := 54) hA (by rfl)
          have F67 := ev_lit (t := 67) hA (by rfl)
          have F68 := ev_lit (t := 68) hA (by rfl)
          have F69 := ev_lit (t := 69) hA (by rfl)
          have F70 := ev_lit (t := 70) hA (by rfl)
          have F71 := ev_lit (t := 71) hA (by rfl)
          have F72 := ev_lit (t := 72) hA (by rfl)
          have F73 := ev_lit (t := 73) hA (by rfl)
          have F74 := ev_lit (t := 74) hA (by rfl)
          have F75 := ev_lit (t := 75) hA (by rfl)
          have F76 := ev_lit (t := 76) hA (by rfl)
          have F77 := ev_lit (t := 77) hA (by rfl)
          have F78 := ev_lit (t := 78) hA (by rfl)
          have F79 := ev_lit (t := 79) hA (by rfl)
          have F80 := ev_lit (t := 80) hA (by rfl)
          have F81 := ev_lit (t := 81) hA (by rfl)
          have F83 := ev_lit (t := 83) hA (by rfl)
          clear hA
          refine' dqo_pure (d := 56) (by rfl) (by rfl) Z (by rfl) (wanted_not (by rfl)) ?hv1 ?rest1
          case hv1 => (intro ρ hρ; have E10 := (hρ.1 10).trans F10; have Ec := hρ.2.1; have Ef := hρ.2.2.1; clear hρ; intro w hw; (try dsimp only at hw); go_split_ands; go_simp; try with_reducible rfl)
          case' rest1 => intro af1 Zn Nx
          replace F0 := (Nx.2.2.1 0 rfl).trans F0
          replace F1 := (Nx.2.2.1 1 rfl).trans F1
          replace F2 := (Nx.2.2.1 2 rfl).trans F2
          replace F3 := (Nx.2.2.1 3 rfl).trans F3
          replace F4 := (Nx.2.2.1 4 rfl).trans F4
          replace F5 := (Nx.2.2.1 5 rfl).trans F5
          replace F6 := (Nx.2.2.1 6 rfl).trans F6
          replace F7 := (Nx.2.2.1 7 rfl).trans F7
          replace F8 := (Nx.2.2.1 8 rfl).trans F8
          replace F9 := (Nx.2.2.1 9 rfl).trans F9
          replace F10 := (Nx.2.2.1 10 rfl).trans F10
          replace F11 := (Nx.2.2.1 11 rfl).trans F11
          replace F12 := (Nx.2.2.1 12 rfl).trans F12
          replace F13 := (Nx.2.2.1 13 rfl).trans F13
          replace F14 := (Nx.2.2.1 14 rfl).trans F14
          replace F15 := (Nx.2.2.1 15 rfl).trans F15
          replace F16 := (Nx.2.2.1 16 rfl).trans F16
          replace F17 := (Nx.2.2.1 17 rfl).trans F17
          replace F18 := (Nx.2.2.1 18 rfl).trans F18
          replace F19 := (Nx.2.2.1 19 rfl).trans F19
          replace F20 := (Nx.2.2.1 20 rfl).trans F20
          replace F21 := (Nx.2.2.1 21 rfl).trans F21
          replace F22 := (Nx.2.2.1 22 rfl).trans F22
          replace F23 := (Nx.2.2.1 23 rfl).trans F23
          replace F24 := (Nx.2.2.1 24 rfl).trans F24
          replace F25 := (Nx.2.2.1 25 rfl).trans F25
          replace F26 := (Nx.2.2.1 26 rfl).trans F26
          replace F27 := (Nx.2.2.1 27 rfl).trans F27
          replace F28 := (Nx.2.2.1 28 rfl).trans F28
          replace F29 := (Nx.2.2.1 29 rfl).trans F29
          replace F30 := (Nx.2.2.1 30 rfl).trans F30
          replace F31 := (Nx.2.2.1 31 rfl).trans F31
          replace F32 := (Nx.2.2.1 32 rfl).trans F32
          replace F33 := (Nx.2.2.1 33 rfl).trans F33
          replace F34 := (Nx.2.2.1 34 rfl).trans F34
          replace F35 := (Nx.2.2.1 35 rfl).trans F35
          replace F36 := (Nx.2.2.1 36 rfl).trans F36
          replace F37 := (Nx.2.2.1 37 rfl).trans F37
          replace F38 := (Nx.2.2.1 38 rfl).trans F38
          replace F39 := (Nx.2.2.1 39 rfl).trans F39
          replace F40 := (Nx.2.2.1 40 rfl).trans F40
          replace F41 := (Nx.2.2.1 41 rfl).trans F41
          replace F42 := (Nx.2.2.1 42 rfl).trans F42
          replace F43 := (Nx.2.2.1 43 rfl).trans F43
          replace F44 := (Nx.2.2.1 44 rfl).trans F44
          replace F45 := (Nx.2.2.1 45 rfl).trans F45
          replace F46 := (Nx.2.2.1 46 rfl).trans F46
          replace F47 := (Nx.2.2.1 47 rfl).trans F47
          replace F48 := (Nx.2.2.1 48 rfl).trans F48
          replace F49 := (Nx.2.2.1 49 rfl).trans F49
          replace F50 := (Nx.2.2.1 50 rfl).trans F50
          replace F51 := (Nx.2.2.1 51 rfl).trans F51
          replace F53 := (Nx.2.2.1 53 rfl).trans F53
          replace F54 := (Nx.2.2.1 54 rfl).trans F54
          replace F67 := (Nx.2.2.1 67 rfl).trans F67
          replace F68 := (Nx.2.2.1 68 rfl).trans F68
          replace F69 := (Nx.2.2.1 69 rfl).trans F69
          replace F70 := (Nx.2.2.1 70 rfl).trans F70
          replace F71 := (Nx.2.2.1 71 rfl).trans F71
          replace F72 := (Nx.2.2.1 72 rfl).trans F72
          replace F73 := (Nx.2.2.1 73 rfl).trans F73
          replace F74 := (Nx.2.2.1 74 rfl).trans F74
          replace F75 := (Nx.2.2.1 75 rfl).trans F75
          replace F76 := (Nx.2.2.1 76 rfl).trans F76
          replace F77 := (Nx.2.2.1 77 rfl).trans F77
          replace F78 := (Nx.2.2.1 78 rfl).trans F78
          replace F79 := (Nx.2.2.1 79 rfl).trans F79
          replace F80 := (Nx.2.2.1 80 rfl).trans F80
          replace F81 := (Nx.2.2.1 81 rfl).trans F81
          replace F83 := (Nx.2.2.1 83 rfl).trans F83
          have F56 := Nx.2.1
          replace D := Nx.2.2.2.trans D
          clear Z Nx
          have Z := Zn
          clear Zn af0
          refine' dqo_pure (d := 57) (by rfl) (by rfl) Z (by rfl) (wanted_not (by rfl)) ?hv2 ?rest2
          case hv2 => (intro ρ hρ; have E12 := (hρ.1 12).trans F12; have Ec := hρ.2.1; have Ef := hρ.2.2.1; clear hρ; intro w hw; (try dsimp only at hw); go_split_ands; go_simp; try with_reducible rfl)
          case' rest2 => intro af2 Zn Nx
          replace F0 := (Nx.2.2.1 0 rfl).trans F0
          replace F1 := (Nx.2.2.1 1 rfl).trans F1
          replace F2 := (Nx.2.2.1 2 rfl).trans F2
          replace F3 := (Nx.2.2.1 3 rfl).trans F3
          replace F4 := (Nx.2.2.1 4 rfl).trans F4
          replace F5 := (Nx.2.2.1 5 rfl).trans F5
          replace F6 := (Nx.2.2.1 6 rfl).trans F6
          replace F7 := (Nx.2.2.1 7 rfl).trans F7
          replace F8 := (Nx.2.2.1 8 rfl).trans F8
          replace F9 := (Nx.2.2.1 9 rfl).trans F9
          replace F10 := (Nx.2.2.1 10 rfl).trans F10
          replace F11 := (Nx.2.2.1 11 rfl).trans F11
          replace F12 := (Nx.2.2.1 12 rfl).trans F12
          replace F13 := (Nx.2.2.1 13 rfl).trans F13
          replace F14 := (Nx.2.2.1 14 rfl).trans F14
          replace F15 := (Nx.2.2.1 15 rfl).trans F15
          replace F16 := (Nx.2.2.1 16 rfl).trans F16
          replace F17 := (Nx.2.2.1 17 rfl).trans F17
          replace F18 := (Nx.2.2.1 18 rfl).trans F18
          replace F19 := (Nx.2.2.1 19 rfl).trans F19
          replace F20 := (Nx.2.2.1 20 rfl).trans F20
          replace F21 := (Nx.2.2.1 21 rfl).trans F21
          replace F22 := (Nx.2.2.1 22 rfl).trans F22
          replace F23 := (Nx.2.2.1 23 rfl).trans F23
          replace F24 := (Nx.2.2.1 24 rfl).trans F24
          replace F25 := (Nx.2.2.1 25 rfl).trans F25
          replace F26 := (Nx.2.2.1 26 rfl).trans F26
          replace F27 := (Nx.2.2.1 27 rfl).trans F27
          replace F28 := (Nx.2.2.1 28 rfl).trans F28
          replace F29 := (Nx.2.2.1 29 rfl).trans F29
          replace F30 := (Nx.2.2.1 30 rfl).trans F30
          replace F31 := (Nx.2.2.1 31 rfl).trans F31
          replace F32 := (Nx.2.2.1 32 rfl).trans F32
          replace F33 := (Nx.2.2.1 33 rfl).trans F33
          replace F34 := (Nx.2.2.1 34 rfl).trans F34
          replace F35 := (Nx.2.2.1 35 rfl).trans F35
          replace F36 := (Nx.2.2.1 36 rfl).trans F36
          replace F37 := (Nx.2.2.1 37 rfl).trans F37
          replace F38 := (Nx.2.2.1 38 rfl).trans F38
          replace F39 := (Nx.2.2.1 39 rfl).trans F39
          replace F40 := (Nx.2.2.1 40 rfl).trans F40
          replace F41 := (Nx.2.2.1 41 rfl).trans F41
          replace F42 := (Nx.2.2.1 42 rfl).trans F42
          replace F43 := (Nx.2.2.1 43 rfl).trans F43
          replace F44 := (Nx.2.2.1 44 rfl).trans F44
          replace F45 := (Nx.2.2.1 45 rfl).trans F45
          replace F46 := (Nx.2.2.1 46 rfl).trans F46
          replace F47 := (Nx.2.2.1 47 rfl).trans F47
          replace F48 := (Nx.2.2.1 48 rfl).trans F48
          replace F49 := (Nx.2.2.1 49 rfl).trans F49
          replace F50 := (Nx.2.2.1 50 rfl).trans F50
          replace F51 := (Nx.2.2.1 51 rfl).trans F51
          replace F53 := (Nx.2.2.1 53 rfl).trans F53
          replace F54 := (Nx.2.2.1 54 rfl).trans F54
          replace F56 := (Nx.2.2.1 56 rfl).trans F56
          replace F67 := (Nx.2.2.1 67 rfl).trans F67
          replace F68 := (Nx.2.2.1 68 rfl).trans F68
          replace F69 := (Nx.2.2.1 69 rfl).trans F69
          replace F70 := (Nx.2.2.1 70 rfl).trans F70
          replace F71 := (Nx.2.2.1 71 rfl).trans F71
          replace F72 := (Nx.2.2.1 72 rfl).trans F72
          replace F73 := (Nx.2.2.1 73 rfl).trans F73
          replace F74 := (Nx.2.2.1 74 rfl).trans F74
          replace F75 := (Nx.2.2.1 75 rfl).trans F75
          replace F76 := (Nx.2.2.1 76 rfl).trans F76
          replace F77 := (Nx.2.2.1 77 rfl).trans F77
          replace F78 := (Nx.2.2.1 78 rfl).trans F78
          replace F79 := (Nx.2.2.1 79 rfl).trans F79
          replace F80 := (Nx.2.2.1 80 rfl).trans F80
          replace F81 := (Nx.2.2.1 81 rfl).trans F81
          replace F83 := (Nx.2.2.1 83 rfl).trans F83
          have F57 := Nx.2.1
          replace D := Nx.2.2.2.trans D
          clear Z Nx
          have Z := Zn
          clear Zn af1
          refine' dqo_pure (d := 58) (by rfl) (by rfl) Z (by rfl) (wanted_not (by rfl)) ?hv3 ?rest3
          case hv3 => (intro ρ hρ; have E56 := (hρ.1 56).trans F56; have E57 := (hρ.1 57).trans F57; have Ec := hρ.2.1; have Ef := hρ.2.2.1; clear hρ; intro w hw; (try dsimp only at hw); go_split_ands; go_simp; try with_reducible rfl)
          case' rest3 => intro af3 Zn Nx
          replace F0 := (Nx.2.2.1 0 rfl).trans F0
          replace F1 := (Nx.2.2.1 1 rfl).trans F1
          replace F2 := (Nx.2.2.1 2 rfl).trans F2
          replace F3 := (Nx.2.2.1 3 rfl).trans F3
          replace F4 := (Nx.2.2.1 4 rfl).trans F4
          replace F5 := (Nx.2.2.1 5 rfl).trans F5
          replace F6 := (Nx.2.2.1 6 rfl).trans F6
          replace F7 := (Nx.2.2.1 7 rfl).trans F7
          replace F8 := (Nx.2.2.1 8 rfl).trans F8
          replace F9 := (Nx.2.2.1 9 rfl).trans F9
          replace F10 := (Nx.2.2.1 10 rfl).trans F10
          replace F11 := (Nx.2.2.1 11 rfl).trans F11
          replace F12 := (Nx.2.2.1 12 rfl).trans F12
          replace F13 := (Nx.2.2.1 13 rfl).trans F13
          replace F14 := (Nx.2.2.1 14 rfl).trans F14
          replace F15 := (Nx.2.2.1 15 rfl).trans F15
          replace F16 := (Nx.2.2.1 16 rfl).trans F16
          replace F17 := (Nx.2.2.1 17 rfl).trans F17
          replace F18 := (Nx.2.2.1 18 rfl).trans F18
          replace F19 := (Nx.2.2.1 19 rfl).trans F19
          replace F20 := (Nx.2.2.1 20 rfl).trans F20
          replace F21 := (Nx.2.2.1 21 rfl).trans F21
          replace F22 := (Nx.2.2.1 22 rfl).trans F22
          replace F23 := (Nx.2.2.1 23 rfl).trans F23
          replace F24 := (Nx.2.2.1 24 rfl).trans F24
          replace F25 := (Nx.2.2.1 25 rfl).trans F25
          replace F26 := (Nx.2.2.1 26 rfl).trans F26
          replace F27 := (Nx.2.2.1 27 rfl).trans F27
          replace F28 := (Nx.2.2.1 28 rfl).trans F28
          replace F29 := (Nx.2.2.1 29 rfl).trans F29
          replace F30 := (Nx.2.2.1 30 rfl).trans F30
          replace F31 := (Nx.2.2.1 31 rfl).trans F31
          replace F32 := (Nx.2.2.1 32 rfl).trans F32
          replace F33 := (Nx.2.2.1 33 rfl).trans F33
          replace F34 := (Nx.2.2.1 34 rfl).trans F34
          replace F35 := (Nx.2.2.1 35 rfl).trans F35
          replace F36 := (Nx.2.2.1 36 rfl).trans F36
          replace F37 := (Nx.2.2.1 37 rfl).trans F37
          replace F38 := (Nx.2.2.1 38 rfl).trans F38
          replace F39 := (Nx.2.2.1 39 rfl).trans F39
          replace F40 := (Nx.2.2.1 40 rfl).trans F40
          replace F41 := (Nx.2.2.1 41 rfl).trans F41
          replace F42 := (Nx.2.2.1 42 rfl).trans F42
          replace F43 := (Nx.2.2.1 43 rfl).trans F43
          replace F44 := (Nx.2.2.1 44 rfl).trans F44
          replace F45 := (Nx.2.2.1 45 rfl).trans F45
          replace F46 := (Nx.2.2.1 46 rfl).trans F46
          replace F47 := (Nx.2.2.1 47 rfl).trans F47
          replace F48 := (Nx.2.2.1 48 rfl).trans F48
          replace F49 := (Nx.2.2.1 49 rfl).trans F49
          replace F50 := (Nx.2.2.1 50 rfl).trans F50
          replace F51 := (Nx.2.2.1 51 rfl).trans F51
          replace F53 := (Nx.2.2.1 53 rfl).trans F53
          replace F54 := (Nx.2.2.1 54 rfl).trans F54
          clear F56
          clear F57
          replace F67 := (Nx.2.2.1 67 rfl).trans F67
          replace F68 := (Nx.2.2.1 68 rfl).trans F68
          replace F69 := (Nx.2.2.1 69 rfl).trans F69
          replace F70 := (Nx.2.2.1 70 rfl).trans F70
          replace F71 := (Nx.2.2.1 71 rfl).trans F71
          replace F72 := (Nx.2.2.1 72 rfl).trans F72
          replace F73 := (Nx.2.2.1 73 rfl).trans F73
          replace F74 := (Nx.2.2.1 74 rfl).trans F74
          replace F75 := (Nx.2.2.1 75 rfl).trans F75
          replace F76 := (Nx.2.2.1 76 rfl).trans F76
          replace F77 := (Nx.2.2.1 77 rfl).trans F77
          replace F78 := (Nx.2.2.1 78 rfl).trans F78
          replace F79 := (Nx.2.2.1 79 rfl).trans F79
          replace F80 := (Nx.2.2.1 80 rfl).trans F80
          replace F81 := (Nx.2.2.1 81 rfl).trans F81
          replace F83 := (Nx.2.2.1 83 rfl).trans F83
          have F58 := Nx.2.1
          replace D := Nx.2.2.2.trans D
          clear Z Nx
          have Z := Zn
          clear Zn af2
          refine' dqo_pure (d := 59) (by rfl) (by rfl) Z (by rfl) (wanted_not (by rfl)) ?hv4 ?rest4
          case hv4 => (intro ρ hρ; have E58 := (hρ.1 58).trans F58; have Ec := hρ.2.1; have Ef := hρ.2.2.1; clear hρ; intro w hw; (try dsimp only at hw); go_split_ands; go_simp; try with_reducible rfl)
          case' rest4 => intro af4 Zn Nx
          replace F0 := (Nx.2.2.1 0 rfl).trans F0
          replace F1 := (Nx.2.2.1 1 rfl).trans F1
          replace F2 := (Nx.2.2.1 2 rfl).trans F2
          replace F3 := (Nx.2.2.1 3 rfl).trans F3
          replace F4 := (Nx.2.2.1 4 rfl).trans F4
          replace F5 := (Nx.2.2.1 5 rfl).trans F5
          replace F6 := (Nx.2.2.1 6 rfl).trans F6
          replace F7 := (Nx.2.2.1 7 rfl).trans F7
          replace F8 := (Nx.2.2.1 8 rfl).trans F8
          replace F9 := (Nx.2.2.1 9 rfl).trans F9
          replace F10 := (Nx.2.2.1 10 rfl).trans F10
          replace F11 := (Nx.2.2.1 11 rfl).trans F11
          replace F12 := (Nx.2.2.1 12 rfl).trans F12
          replace F13 := (Nx.2.2.1 13 rfl).trans F13
          replace F14 := (Nx.2.2.1 14 rfl).trans F14
          replace F15 := (Nx.2.2.1 15 rfl).trans F15
          replace F16 := (Nx.2.2.1 16 rfl).trans F16
          replace F17 := (Nx.2.2.1 17 rfl).trans F17
          replace F18 := (Nx.2.2.1 18 rfl).trans F18
          replace F19 := (Nx.2.2.1 19 rfl).trans F19
          replace F20 := (Nx.2.2.1 20 rfl).trans F20
          replace F21 := (Nx.2.2.1 21 rfl).trans F21
          replace F22 := (Nx.2.2.1 22 rfl).trans F22
          replace F23 := (Nx.2.2.1 23 rfl).trans F23
          replace F24 := (Nx.2.2.1 24 rfl).trans F24
          replace F25 := (Nx.2.2.1 25 rfl).trans F25
          replace F26 := (Nx.2.2.1 26 rfl).trans F26
          replace F27 := (Nx.2.2.1 27 rfl).trans F27
          replace F28 := (Nx.2.2.1 28 rfl).trans F28
          replace F29 := (Nx.2.2.1 29 rfl).trans F29
          replace F30 := (Nx.2.2.1 30 rfl).trans F30
          replace F31 := (Nx.2.2.1 31 rfl).trans F31
          replace F32 := (Nx.2.2.1 32 rfl).trans F32
          replace F33 := (Nx.2.2.1 33 rfl).trans F33
          replace F34 := (Nx.2.2.1 34 rfl).trans F34
          replace F35 := (Nx.2.2.1 35 rfl).trans F35
          replace F36 := (Nx.2.2.1 36 rfl).trans F36
          replace F37 := (Nx.2.2.1 37 rfl).trans F37
          replace F38 := (Nx.2.2.1 38 rfl).trans F38
          replace F39 := (Nx.2.2.1 39 rfl).trans F39
          replace F40 := (Nx.2.2.1 40 rfl).trans F40
          replace F41 := (Nx.2.2.1 41 rfl).trans F41
          replace F42 := (Nx.2.2.1 42 rfl).trans F42
          replace F43 := (Nx.2.2.1 43 rfl).trans F43
          replace F44 := (Nx.2.2.1 44 rfl).trans F44
          replace F45 := (Nx.2.2.1 45 rfl).trans F45
          replace F46 := (Nx.2.2.1 46 rfl).trans F46
          replace F47 := (Nx.2.2.1 47 rfl).trans F47
          replace F48 := (Nx.2.2.1 48 rfl).trans F48
          replace F49 := (Nx.2.2.1 49 rfl).trans F49
          replace F50 := (Nx.2.2.1 50 rfl).trans F50
          replace F51 := (Nx.2.2.1 51 rfl).trans F51
          replace F53 := (Nx.2.2.1 53 rfl).trans F53
          replace F54 := (Nx.2.2.1 54 rfl).trans F54
          clear F58
          replace F67 := (Nx.2.2.1 67 rfl).trans F67
          replace F68 := (Nx.2.2.1 68 rfl).trans F68
          replace F69 := (Nx.2.2.1 69 rfl).trans F69
          replace F70 := (Nx.2.2.1 70 rfl).trans F70
          replace F71 := (Nx.2.2.1 71 rfl).trans F71
          replace F72 := (Nx.2.2.1 72 rfl).trans F72
          replace F73 := (Nx.2.2.1 73 rfl).trans F73
          replace F74 := (Nx.2.2.1 74 rfl).trans F74
          replace F75 := (Nx.2.2.1 75 rfl).trans F75
          replace F76 := (Nx.2.2.1 76 rfl).trans F76
          replace F77 := (Nx.2.2.1 77 rfl).trans F77
          replace F78 := (Nx.2.2.1 78 rfl).trans F78
          replace F79 := (Nx.2.2.1 79 rfl).trans F79
          replace F80 := (Nx.2.2.1 80 rfl).trans F80
          replace F81 := (Nx.2.2.1 81 rfl).trans F81
          replace F83 := (Nx.2.2.1 83 rfl).trans F83
          have F59 := Nx.2.1
          replace D := Nx.2.2.2.trans D
          clear Z Nx
          have Z := Zn
          clear Zn af3
          refine' dqo_pure (d := 60) (by rfl) (by rfl) Z (by rfl) (wanted_not (by rfl)) ?hv5 ?rest5
          case hv5 => (intro ρ hρ; have E11 := (hρ.1 11).trans F11; have Ec := hρ.2.1; have Ef := hρ.2.2.1; clear hρ; intro w hw; (try dsimp only at hw); go_split_ands; go_simp; try with_reducible rfl)
          case' rest5 => intro af5 Zn Nx
          replace F0 := (Nx.2.2.1 0 rfl).trans F0
          replace F1 := (Nx.2.2.1 1 rfl).trans F1
          replace F2 := (Nx.2.2.1 2 rfl).trans F2
          replace F3 := (Nx.2.2.1 3 rfl).trans F3
          replace F4 := (Nx.2.2.1 4 rfl).trans F4
          replace F5 := (Nx.2.2.1 5 rfl).trans F5
          replace F6 := (Nx.2.2.1 6 rfl).trans F6
          replace F7 := (Nx.2.2.1 7 rfl).trans F7
          replace F8 := (Nx.2.2.1 8 rfl).trans F8
          replace F9 := (Nx.2.2.1 9 rfl).trans F9
          replace F10 := (Nx.2.2.1 10 rfl).trans F10
          replace F11 := (Nx.2.2.1 11 rfl).trans F11
          replace F12 := (Nx.2.2.1 12 rfl).trans F12
          replace F13 := (Nx.2.2.1 13 rfl).trans F13
          replace F14 := (Nx.2.2.1 14 rfl).trans F14
          replace F15 := (Nx.2.2.1 15 rfl).trans F15
          replace F16 := (Nx.2.2.1 16 rfl).trans F16
          replace F17 := (Nx.2.2.1 17 rfl).trans F17
          replace F18 := (Nx.2.2.1 18 rfl).trans F18
          replace F19 := (Nx.2.2.1 19 rfl).trans F19
          replace F20 := (Nx.2.2.1 20 rfl).trans F20
          replace F21 := (Nx.2.2.1 21 rfl).trans F21
          replace F22 := (Nx.2.2.1 22 rfl).trans F22
          replace F23 := (Nx.2.2.1 23 rfl).trans F23
          replace F24 := (Nx.2.2.1 24 rfl).trans F24
          replace F25 := (Nx.2.2.1 25 rfl).trans F25
          replace F26 := (Nx.2.2.1 26 rfl).trans F26
          replace F27 := (Nx.2.2.1 27 rfl).trans F27
          replace F28 := (Nx.2.2.1 28 rfl).trans F28
          replace F29 := (Nx.2.2.1 29 rfl).trans F29
          replace F30 := (Nx.2.2.1 30 rfl).trans F30
          replace F31 := (Nx.2.2.1 31 rfl).trans F31
          replace F32 := (Nx.2.2.1 32 rfl).trans F32
          replace F33 := (Nx.2.2.1 33 rfl).trans F33
          replace F34 := (Nx.2.2.1 34 rfl).trans F34
          replace F35 := (Nx.2.2.1 35 rfl).trans F35
          replace F36 := (Nx.2.2.1 36 rfl).trans F36
          replace F37 := (Nx.2.2.1 37 rfl).trans F37
          replace F38 := (Nx.2.2.1 38 rfl).trans F38
          replace F39 := (Nx.2.2.1 39 rfl).trans F39
          replace F40 := (Nx.2.2.1 40 rfl).trans F40
          replace F41 := (Nx.2.2.1 41 rfl).trans F41
          replace F42 := (Nx.2.2.1 42 rfl).trans F42
          replace F43 := (Nx.2.2.1 43 rfl).trans F43
          replace F44 := (Nx.2.2.1 44 rfl).trans F44
          replace F45 := (Nx.2.2.1 45 rfl).trans F45
          replace F46 := (Nx.2.2.1 46 rfl).trans F46
          replace F47 := (Nx.2.2.1 47 rfl).trans F47
          replace F48 := (Nx.2.2.1 48 rfl).trans F48
          replace F49 := (Nx.2.2.1 49 rfl).trans F49
          replace F50 := (Nx.2.2.1 50 rfl).trans F50
          replace F51 := (Nx.2.2.1 51 rfl).trans F51
          replace F53 := (Nx.2.2.1 53 rfl).trans F53
          replace F54 := (Nx.2.2.1 54 rfl).trans F54
          replace F59 := (Nx.2.2.1 59 rfl).trans F59
          replace F67 := (Nx.2.2.1 67 rfl).trans F67
          replace F68 := (Nx.2.2.1 68 rfl).trans F68
          replace F69 := (Nx.2.2.1 69 rfl).trans F69
          replace F70 := (Nx.2.2.1 70 rfl).trans F70
          replace F71 := (Nx.2.2.1 71 rfl).trans F71
          replace F72 := (Nx.2.2.1 72 rfl).trans F72
          replace F73 := (Nx.2.2.1 73 rfl).trans F73
          replace F74 := (Nx.2.2.1 74 rfl).trans F74
          replace F75 := (Nx.2.2.1 75 rfl).trans F75
          replace F76 := (Nx.2.2.1 76 rfl).trans F76
          replace F77 := (Nx.2.2.1 77 rfl).trans F77
          replace F78 := (Nx.2.2.1 78 rfl).trans F78
          replace F79 := (Nx.2.2.1 79 rfl).trans F79
          replace F80 := (Nx.2.2.1 80 rfl).trans F80
          replace F81 := (Nx.2.2.1 81 rfl).trans F81
          replace F83 := (Nx.2.2.1 83 rfl).trans F83
          have F60 := Nx.2.1
          replace D := Nx.2.2.2.trans D
          clear Z Nx
          have Z := Zn
          clear Zn af4
          refine' dqo_pure (d := 61) (by rfl) (by rfl) Z (by rfl) (wanted_not (by rfl)) ?hv6 ?rest6
          case hv6 => (intro ρ hρ; have E12 := (hρ.1 12).trans F12; have Ec := hρ.2.1; have Ef := hρ.2.2.1; clear hρ; intro w hw; (try dsimp only at hw); go_split_ands; go_simp; try with_reducible rfl)
          case' rest6 => intro af6 Zn Nx
          replace F0 := (Nx.2.2.1 0 rfl).trans F0
          replace F1 := (Nx.2.2.1 1 rfl).trans F1
          replace F2 := (Nx.2.2.1 2 rfl).trans F2
          replace F3 := (Nx.2.2.1 3 rfl).trans F3
          replace F4 := (Nx.2.2.1 4 rfl).trans F4
          replace F5 := (Nx.2.2.1 5 rfl).trans F5
          replace F6 := (Nx.2.2.1 6 rfl).trans F6
          replace F7 := (Nx.2.2.1 7 rfl).trans F7
          replace F8 := (Nx.2.2.1 8 rfl).trans F8
          replace F9 := (Nx.2.2.1 9 rfl).trans F9
          replace F10 := (Nx.2.2.1 10 rfl).trans F10
          replace F11 := (Nx.2.2.1 11 rfl).trans F11
          replace F12 := (Nx.2.2.1 12 rfl).trans F12
          replace F13 := (Nx.2.2.1 13 rfl).trans F13
          replace F14 := (Nx.2.2.1 14 rfl).trans F14
          replace F15 := (Nx.2.2.1 15 rfl).trans F15
          replace F16 := (Nx.2.2.1 16 rfl).trans F16
          replace F17 := (Nx.2.2.1 17 rfl).trans F17
          replace F18 := (Nx.2.2.1 18 rfl).trans F18
          replace F19 := (Nx.2.2.1 19 rfl).trans F19
          replace F20 := (Nx.2.2.1 20 rfl).trans F20
          replace F21 := (Nx.2.2.1 21 rfl).trans F21
          replace F22 := (Nx.2.2.1 22 rfl).trans F22
          replace F23 := (Nx.2.2.1 23 rfl).trans F23
          replace F24 := (Nx.2.2.1 24 rfl).trans F24
          replace F25 := (Nx.2.2.1 25 rfl).trans F25
          replace F26 := (Nx.2.2.1 26 rfl).trans F26
          replace F27 := (Nx.2.2.1 27 rfl).trans F27
          replace F28 := (Nx.2.2.1 28 rfl).trans F28
          replace F29 := (Nx.2.2.1 29 rfl).trans F29
          replace F30 := (Nx.2.2.1 30 rfl).trans F30
          replace F31 := (Nx.2.2.1 31 rfl).trans F31
          replace F32 := (Nx.2.2.1 32 rfl).trans F32
          replace F33 := (Nx.2.2.1 33 rfl).trans F33
          replace F34 := (Nx.2.2.1 34 rfl).trans F34
          replace F35 := (Nx.2.2.1 35 rfl).trans F35
          replace F36 := (Nx.2.2.1 36 rfl).trans F36
          replace F37 := (Nx.2.2.1 37 rfl).trans F37
          replace F38 := (Nx.2.2.1 38 rfl).trans F38
          replace F39 := (Nx.2.2.1 39 rfl).trans F39
          replace F40 := (Nx.2.2.1 40 rfl).trans F40
          replace F41 := (Nx.2.2.1 41 rfl).trans F41
          replace F42 := (Nx.2.2.1 42 rfl).trans F42
          replace F43 := (Nx.2.2.1 43 rfl).trans F43
          replace F44 := (Nx.2.2.1 44 rfl).trans F44
          replace F45 := (Nx.2.2.1 45 rfl).trans F45
          replace F46 := (Nx.2.2.1 46 rfl).trans F46
          replace F47 := (Nx.2.2.1 47 rfl).trans F47
          replace F48 := (Nx.2.2.1 48 rfl).trans F48
          replace F49 := (Nx.2.2.1 49 rfl).trans F49
          replace F50 := (Nx.2.2.1 50 rfl).trans F50
          replace F51 := (Nx.2.2.1 51 rfl).trans F51
          replace F53 := (Nx.2.2.1 53 rfl).trans F53
          replace F54 := (Nx.2.2.1 54 rfl).trans F54
          replace F59 := (Nx.2.2.1 59 rfl).trans F59
          replace F60 := (Nx.2.2.1 60 rfl).trans F60
          replace F67 := (Nx.2.2.1 67 rfl).trans F67
          replace F68 := (Nx.2.2.1 68 rfl).trans F68
          replace F69 := (Nx.2.2.1 69 rfl).trans F69
          replace F70 := (Nx.2.2.1 70 rfl).trans F70
          replace F71 := (Nx.2.2.1 71 rfl).trans F71
          replace F72 := (Nx.2.2.1 72 rfl).trans F72
          replace F73 := (Nx.2.2.1 73 rfl).trans F73
          replace F74 := (Nx.2.2.1 74 rfl).trans F74
          replace F75 := (Nx.2.2.1 75 rfl).trans F75
          replace F76 := (Nx.2.2.1 76 rfl).trans F76
          replace F77 := (Nx.2.2.1 77 rfl).trans F77
          replace F78 := (Nx.2.2.1 78 rfl).trans F78
          replace F79 := (Nx.2.2.1 79 rfl).trans F79
          replace F80 := (Nx.2.2.1 80 rfl).trans F80
          replace F81 := (Nx.2.2.1 81 rfl).trans F81
          replace F83 := (Nx.2.2.1 83 rfl).trans F83
          have F61 := Nx.2.1
          replace D := Nx.2.2.2.trans D
          clear Z Nx
          have Z := Zn
          clear Zn af5
          refine' dqo_pure (d := 62) (by rfl) (by rfl) Z (by rfl) (wanted_not (by rfl)) ?hv7 ?rest7
          case hv7 => (intro ρ hρ; have E60 := (hρ.1 60).trans F60; have E61 := (hρ.1 61).trans F61; have Ec := hρ.2.1; have Ef := hρ.2.2.1; clear hρ; intro w hw; (try dsimp only at hw); go_split_ands; go_simp; try with_reducible rfl)
          case' rest7 => intro af7 Zn Nx
          replace F0 := (Nx.2.2.1 0 rfl).trans F0
          replace F1 := (Nx.2.2.1 1 rfl).trans F1
          replace F2 := (Nx.2.2.1 2 rfl).trans F2
          replace F3 := (Nx.2.2.1 3 rfl).trans F3
          replace F4 := (Nx.2.2.1 4 rfl).trans F4
          replace F5 := (Nx.2.2.1 5 rfl).trans F5
          replace F6 := (Nx.2.2.1 6 rfl).trans F6
          replace F7 := (Nx.2.2.1 7 rfl).trans F7
          replace F8 := (Nx.2.2.1 8 rfl).trans F8
          replace F9 := (Nx.2.2.1 9 rfl).trans F9
          replace F10 := (Nx.2.2.1 10 rfl).trans F10
          replace F11 := (Nx.2.2.1 11 rfl).trans F11
          replace F12 := (Nx.2.2.1 12 rfl).trans F12
          replace F13 := (Nx.2.2.1 13 rfl).trans F13
          replace F14 := (Nx.2.2.1 14 rfl).trans F14
          replace F15 := (Nx.2.2.1 15 rfl).trans F15
          replace F16 := (Nx.2.2.1 16 rfl).trans F16
          replace F17 := (Nx.2.2.1 17 rfl).trans F17
          replace F18 := (Nx.2.2.1 18 rfl).trans F18
          replace F19 := (Nx.2.2.1 19 rfl).trans F19
          replace F20 := (Nx.2.2.1 20 rfl).trans F20
          replace F21 := (Nx.2.2.1 21 rfl).trans F21
          replace F22 := (Nx.2.2.1 22 rfl).trans F22
          replace F23 := (Nx.2.2.1 23 rfl).trans F23
          replace F24 := (Nx.2.2.1 24 rfl).trans F24
          replace F25 := (Nx.2.2.1 25 rfl).trans F25
          replace F26 := (Nx.2.2.1 26 rfl).trans F26
          replace F27 := (Nx.2.2.1 27 rfl).trans F27
          replace F28 := (Nx.2.2.1 28 rfl).trans F28
          replace F29 := (Nx.2.2.1 29 rfl).trans F29
          replace F30 := (Nx.2.2.1 30 rfl).trans F30
          replace F31 := (Nx.2.2.1 31 rfl).trans F31
          replace F32 := (Nx.2.2.1 32 rfl).trans F32
          replace F33 := (Nx.2.2.1 33 rfl).trans F33
          replace F34 := (Nx.2.2.1 34 rfl).trans F34
          replace F35 := (Nx.2.2.1 35 rfl).trans F35
          replace F36 := (Nx.2.2.1 36 rfl).trans F36
          replace F37 := (Nx.2.2.1 37 rfl).trans F37
          replace F38 := (Nx.2.2.1 38 rfl).trans F38
          replace F39 := (Nx.2.2.1 39 rfl).trans F39
          replace F40 := (Nx.2.2.1 40 rfl).trans F40
          replace F41 := (Nx.2.2.1 41 rfl).trans F41
          replace F42 := (Nx.2.2.1 42 rfl).trans F42
          replace F43 := (Nx.2.2.1 43 rfl).trans F43
          replace F44 := (Nx.2.2.1 44 rfl).trans F44
          replace F45 := (Nx.2.2.1 45 rfl).trans F45
          replace F46 := (Nx.2.2.1 46 rfl).trans F46
          replace F47 := (Nx.2.2.1 47 rfl).trans F47
          replace F48 := (Nx.2.2.1 48 rfl).trans F48
          replace F49 := (Nx.2.2.1 49 rfl).trans F49
          replace F50 := (Nx.2.2.1 50 rfl).trans F50
          replace F51 := (Nx.2.2.1 51 rfl).trans F51
          replace F53 := (Nx.2.2.1 53 rfl).trans F53
          replace F54 := (Nx.2.2.1 54 rfl).trans F54
          replace F59 := (Nx.2.2.1 59 rfl).trans F59
          clear F60
          clear F61
          replace F67 := (Nx.2.2.1 67 rfl).trans F67
          replace F68 := (Nx.2.2.1 68 rfl).trans F68
          replace F69 := (Nx.2.2.1 69 rfl).trans F69
          replace F70 := (Nx.2.2.1 70 rfl).trans F70
          replace F71 := (Nx.2.2.1 71 rfl).trans F71
          replace F72 := (Nx.2.2.1 72 rfl).trans F72
          replace F73 := (Nx.2.2.1 73 rfl).trans F73
          replace F74 := (Nx.2.2.1 74 rfl).trans F74
          replace F75 := (Nx.2.2.1 75 rfl).trans F75
          replace F76 := (Nx.2.2.1 76 rfl).trans F76
          replace F77 := (Nx.2.2.1 77 rfl).trans F77
          replace F78 := (Nx.2.2.1 78 rfl).trans F78
          replace F79 := (Nx.2.2.1 79 rfl).trans F79
          replace F80 := (Nx.2.2.1 80 rfl).trans F80
          replace F81 := (Nx.2.2.1 81 rfl).trans F81
          replace F83 := (Nx.2.2.1 83 rfl).trans F83
          have F62 := Nx.2.1
          replace D := Nx.2.2.2.trans D
          clear Z Nx
          have Z := Zn
          clear Zn af6
          refine' dqo_pure (d := 63) (by rfl) (by rfl) Z (by rfl) (wanted_not (by rfl)) ?hv8 ?rest8
          case hv8 => (intro ρ hρ; have E62 := (hρ.1 62).trans F62; have Ec := hρ.2.1; have Ef := hρ.2.2.1; clear hρ; intro w hw; (try dsimp only at hw); go_split_ands; go_simp; try with_reducible rfl)
          case' rest8 => intro af8 Zn Nx
          replace F0 := (Nx.2.2.1 0 rfl).trans F0
          replace F1 := (Nx.2.2.1 1 rfl).trans F1
          replace F2 := (Nx.2.2.1 2 rfl).trans F2
          replace F3 := (Nx.2.2.1 3 rfl).trans F3
          replace F4 := (Nx.2.2.1 4 rfl).trans F4
          replace F5 := (Nx.2.2.1 5 rfl).trans F5
          replace F6 := (Nx.2.2.1 6 rfl).trans F6
          replace F7 := (Nx.2.2.1 7 rfl).trans F7
          replace F8 := (Nx.2.2.1 8 rfl).trans F8
          replace F9 := (Nx.2.2.1 9 rfl).trans F9
          replace F10 := (Nx.2.2.1 10 rfl).trans F10
          replace F11 := (Nx.2.2.1 11 rfl).trans F11
          replace F12 := (Nx.2.2.1 12 rfl).trans F12
          replace F13 := (Nx.2.2.1 13 rfl).trans F13
          replace F14 := (Nx.2.2.1 14 rfl).trans F14
          replace F15 := (Nx.2.2.1 15 rfl).trans F15
          replace F16 := (Nx.2.2.1 16 rfl).trans F16
          replace F17 := (Nx.2.2.1 17 rfl).trans F17
          replace F18 := (Nx.2.2.1 18 rfl).trans F18
          replace F19 := (Nx.2.2.1 19 rfl).trans F19
          replace F20 := (Nx.2.2.1 20 rfl).trans F20
          replace F21 := (Nx.2.2.1 21 rfl).trans F21
          replace F22 := (Nx.2.2.1 22 rfl).trans F22
          replace F23 := (Nx.2.2.1 23 rfl).trans F23
          replace F24 := (Nx.2.2.1 24 rfl).trans F24
          replace F25 := (Nx.2.2.1 25 rfl).trans F25
          replace F26 := (Nx.2.2.1 26 rfl).trans F26
          replace F27 := (Nx.2.2.1 27 rfl).trans F27
          replace F28 := (Nx.2.2.1 28 rfl).trans F28
          replace F29 := (Nx.2.2.1 29 rfl).trans F29
          replace F30 := (Nx.2.2.1 30 rfl).trans F30
          replace F31 := (Nx.2.2.1 31 rfl).trans F31
          replace F32 := (Nx.2.2.1 32 rfl).trans F32
          replace F33 := (Nx.2.2.1 33 rfl).trans F33
          replace F34 := (Nx.2.2.1 34 rfl).trans F34
          replace F35 := (Nx.2.2.1 35 rfl).trans F35
          replace F36 := (Nx.2.2.1 36 rfl).trans F36
          replace F37 := (Nx.2.2.1 37 rfl).trans F37
          replace F38 := (Nx.2.2.1 38 rfl).trans F38
          replace F39 := (Nx.2.2.1 39 rfl).trans F39
          replace F40 := (Nx.2.2.1 40 rfl).trans F40
          replace F41 := (Nx.2.2.1 41 rfl).trans F41
          replace F42 := (Nx.2.2.1 42 rfl).trans F42
          replace F43 := (Nx.2.2.1 43 rfl).trans F43
          replace F44 := (Nx.2.2.1 44 rfl).trans F44
          replace F45 := (Nx.2.2.1 45 rfl).trans F45
          replace F46 := (Nx.2.2.1 46 rfl).trans F46
          replace F47 := (Nx.2.2.1 47 rfl).trans F47
          replace F48 := (Nx.2.2.1 48 rfl).trans F48
          replace F49 := (Nx.2.2.1 49 rfl).trans F49
          replace F50 := (Nx.2.2.1 50 rfl).trans F50
          replace F51 := (Nx.2.2.1 51 rfl).trans F51
          replace F53 := (Nx.2.2.1 53 rfl).trans F53
          replace F54 := (Nx.2.2.1 54 rfl).trans F54
          replace F59 := (Nx.2.2.1 59 rfl).trans F59
          clear F62
          replace F67 := (Nx.2.2.1 67 rfl).trans F67
          replace F68 := (Nx.2.2.1 68 rfl).trans F68
          replace F69 := (Nx.2.2.1 69 rfl).trans F69
          replace F70 := (Nx.2.2.1 70 rfl).trans F70
          replace F71 := (Nx.2.2.1 71 rfl).trans F71
          replace F72 := (Nx.2.2.1 72 rfl).trans F72
          replace F73 := (Nx.2.2.1 73 rfl).trans F73
          replace F74 := (Nx.2.2.1 74 rfl).trans F74
          replace F75 := (Nx.2.2.1 75 rfl).trans F75
          replace F76 := (Nx.2.2.1 76 rfl).trans F76
          replace F77 := (Nx.2.2.1 77 rfl).trans F77
          replace F78 := (Nx.2.2.1 78 rfl).trans F78
          replace F79 := (Nx.2.2.1 79 rfl).trans F79
          replace F80 := (Nx.2.2.1 80 rfl).trans F80
          replace F81 := (Nx.2.2.1 81 rfl).trans F81
          replace F83 := (Nx.2.2.1 83 rfl).trans F83
          have F63 := Nx.2.1
          replace D := Nx.2.2.2.trans D
          clear Z Nx
          have Z := Zn
          clear Zn af7
          refine' dqo_ask (d := 64) (R := (fun v Wz => ∃ asl csl, v = .tuple #[.slice asl gn csl, .int .i64 0])) (by rfl) (by rfl) Z (by rfl) (wanted_not (by rfl)) ?hv9 ?hc9 ?rest9 (fun _ _ h g => keep2 h (below_gt g) rfl)
          case hv9 => (intro ρ hρ; have E59 := (hρ.1 59).trans F59; have E63 := (hρ.1 63).trans F63; have Ec := hρ.2.1; have Ef := hρ.2.2.1; clear hρ; intro w; go_simp; exact ⟨rfl, rfl⟩)
          case hc9 => exact (fun wq hsq htq => (K1 wq hsq.1).mono fun e w' ⟨asl, csl, he, hb⟩ => ⟨_, he, ⟨asl, csl, rfl⟩, gt_below hb _⟩)
          case' rest9 => skip
          rintro vr wr2 hsr hgr ⟨asl, csl, rfl⟩
          intro af9 Zn Nx
          replace F0 := (Nx.2.2.1 0 rfl).trans F0
          replace F1 := (Nx.2.2.1 1 rfl).trans F1
          replace F2 := (Nx.2.2.1 2 rfl).trans F2
          replace F3 := (Nx.2.2.1 3 rfl).trans F3
          replace F4 := (Nx.2.2.1 4 rfl).trans F4
          replace F5 := (Nx.2.2.1 5 rfl).trans F5
          replace F6 := (Nx.2.2.1 6 rfl).trans F6
          replace F7 := (Nx.2.2.1 7 rfl).trans F7
          replace F8 := (Nx.2.2.1 8 rfl).trans F8
          replace F9 := (Nx.2.2.1 9 rfl).trans F9
          replace F10 := (Nx.2.2.1 10 rfl).trans F10
          replace F11 := (Nx.2.2.1 11 rfl).trans F11
          replace F12 := (Nx.2.2.1 12 rfl).trans F12
          replace F13 := (Nx.2.2.1 13 rfl).trans F13
          replace F14 := (Nx.2.2.1 14 rfl).trans F14
          replace F15 := (Nx.2.2.1 15 rfl).trans F15
          replace F16 := (Nx.2.2.1 16 rfl).trans F16
          replace F17 := (Nx.2.2.1 17 rfl).trans F17
          replace F18 := (Nx.2.2.1 18 rfl).trans F18
          replace F19 := (Nx.2.2.1 19 rfl).trans F19
          replace F20 := (Nx.2.2.1 20 rfl).trans F20
          replace F21 := (Nx.2.2.1 21 rfl).trans F21
          replace F22 := (Nx.2.2.1 22 rfl).trans F22
          replace F23 := (Nx.2.2.1 23 rfl).trans F23
          replace F24 := (Nx.2.2.1 24 rfl).trans F24
          replace F25 := (Nx.2.2.1 25 rfl).trans F25
          replace F26 := (Nx.2.2.1 26 rfl).trans F26
          replace F27 := (Nx.2.2.1 27 rfl).trans F27
          replace F28 := (Nx.2.2.1 28 rfl).trans F28
          replace F29 := (Nx.2.2.1 29 rfl).trans F29
          replace F30 := (Nx.2.2.1 30 rfl).trans F30
          replace F31 := (Nx.2.2.1 31 rfl).trans F31
          replace F32 := (Nx.2.2.1 32 rfl).trans F32
          replace F33 := (Nx.2.2.1 33 rfl).trans F33
          replace F34 := (Nx.2.2.1 34 rfl).trans F34
          replace F35 := (Nx.2.2.1 35 rfl).trans F35
          replace F36 := (Nx.2.2.1 36 rfl).trans F36
          replace F37 := (Nx.2.2.1 37 rfl).trans F37
          replace F38 := (Nx.2.2.1 38 rfl).trans F38
          replace F39 := (Nx.2.2.1 39 rfl).trans F39
          replace F40 := (Nx.2.2.1 40 rfl).trans F40
          replace F41 := (Nx.2.2.1 41 rfl).trans F41
          replace F42 := (Nx.2.2.1 42 rfl).trans F42
          replace F43 := (Nx.2.2.1 43 rfl).trans F43
          replace F44 := (Nx.2.2.1 44 rfl).trans F44
          replace F45 := (Nx.2.2.1 45 rfl).trans F45
          replace F46 := (Nx.2.2.1 46 rfl).trans F46
          replace F47 := (Nx.2.2.1 47 rfl).trans F47
          replace F48 := (Nx.2.2.1 48 rfl).trans F48
          replace F49 := (Nx.2.2.1 49 rfl).trans F49
          replace F50 := (Nx.2.2.1 50 rfl).trans F50
          replace F51 := (Nx.2.2.1 51 rfl).trans F51
          replace F53 := (Nx.2.2.1 53 rfl).trans F53
          replace F54 := (Nx.2.2.1 54 rfl).trans F54
          clear F59
          clear F63
          replace F67 := (Nx.2.2.1 67 rfl).trans F67
          replace F68 := (Nx.2.2.1 68 rfl).trans F68
          replace F69 := (Nx.2.2.1 69 rfl).trans F69
          replace F70 := (Nx.2.2.1 70 rfl).trans F70
          replace F71 := (Nx.2.2.1 71 rfl).trans F71
          replace F72 := (Nx.2.2.1 72 rfl).trans F72
          replace F73 := (Nx.2.2.1 73 rfl).trans F73
          replace F74 := (Nx.2.2.1 74 rfl).trans F74
          replace F75 := (Nx.2.2.1 75 rfl).trans F75
          replace F76 := (Nx.2.2.1 76 rfl).trans F76
          replace F77 := (Nx.2.2.1 77 rfl).trans F77
          replace F78 := (Nx.2.2.1 78 rfl).trans F78
          replace F79 := (Nx.2.2.1 79 rfl).trans F79
          replace F80 := (Nx.2.2.1 80 rfl).trans F80
          replace F81 := (Nx.2.2.1 81 rfl).trans F81
          replace F83 := (Nx.2.2.1 83 rfl).trans F83
          have F64 := Nx.2.1
          replace D := Nx.2.2.2.trans D
          clear Z Nx
          have Z := Zn
          clear Zn af8
          refine' dqo_pure (d := 55) (by rfl) (by rfl) Z (by rfl) (wanted_not (by rfl)) ?hv10 ?rest10
          case hv10 => (intro ρ hρ; have E64 := (hρ.1 64).trans F64; have Ec := hρ.2.1; have Ef := hρ.2.2.1; clear hρ; intro w hw; (try dsimp only at hw); go_split_ands; go_simp; try with_reducible rfl)
          case' rest10 => intro af10 Zn Nx
          replace F0 := (Nx.2.2.1 0 rfl).trans F0
          replace F1 := (Nx.2.2.1 1 rfl).trans F1
          replace F2 := (Nx.2.2.1 2 rfl).trans F2
          replace F3 := (Nx.2.2.1 3 rfl).trans F3
          replace F4 := (Nx.2.2.1 4 rfl).trans F4
          replace F5 := (Nx.2.2.1 5 rfl).trans F5
          replace F6 := (Nx.2.2.1 6 rfl).trans F6
          replace F7 := (Nx.2.2.1 7 rfl).trans F7
          replace F8 := (Nx.2.2.1 8 rfl).trans F8
          replace F9 := (Nx.2.2.1 9 rfl).trans F9
          replace F10 := (Nx.2.2.1 10 rfl).trans F10
          replace F11 := (Nx.2.2.1 11 rfl).trans F11
          replace F12 := (Nx.2.2.1 12 rfl).trans F12
          replace F13 := (Nx.2.2.1 13 rfl).trans F13
          replace F14 := (Nx.2.2.1 14 rfl).trans F14
          replace F15 := (Nx.2.2.1 15 rfl).trans F15
          replace F16 := (Nx.2.2.1 16 rfl).trans F16
          replace F17 := (Nx.2.2.1 17 rfl).trans F17
          replace F18 := (Nx.2.2.1 18 rfl).trans F18
          replace F19 := (Nx.2.2.1 19 rfl).trans F19
          replace F20 := (Nx.2.2.1 20 rfl).trans F20
          replace F21 := (Nx.2.2.1 21 rfl).trans F21
          replace F22 := (Nx.2.2.1 22 rfl).trans F22
          replace F23 := (Nx.2.2.1 23 rfl).trans F23
          replace F24 := (Nx.2.2.1 24 rfl).trans F24
          replace F25 := (Nx.2.2.1 25 rfl).trans F25
          replace F26 := (Nx.2.2.1 26 rfl).trans F26
          replace F27 := (Nx.2.2.1 27 rfl).trans F27
          replace F28 := (Nx.2.2.1 28 rfl).trans F28
          replace F29 := (Nx.2.2.1 29 rfl).trans F29
          replace F30 := (Nx.2.2.1 30 rfl).trans F30
          replace F31 := (Nx.2.2.1 31 rfl).trans F31
          replace F32 := (Nx.2.2.1 32 rfl).trans F32
          replace F33 := (Nx.2.2.1 33 rfl).trans F33
          replace F34 := (Nx.2.2.1 34 rfl).trans F34
          replace F35 := (Nx.2.2.1 35 rfl).trans F35
          replace F36 := (Nx.2.2.1 36 rfl).trans F36
          replace F37 := (Nx.2.2.1 37 rfl).trans F37
          replace F38 := (Nx.2.2.1 38 rfl).trans F38
          replace F39 := (Nx.2.2.1 39 rfl).trans F39
          replace F40 := (Nx.2.2.1 40 rfl).trans F40
          replace F41 := (Nx.2.2.1 41 rfl).trans F41
          replace F42 := (Nx.2.2.1 42 rfl).trans F42
          replace F43 := (Nx.2.2.1 43 rfl).trans F43
          replace F44 := (Nx.2.2.1 44 rfl).trans F44
          replace F45 := (Nx.2.2.1 45 rfl).trans F45
          replace F46 := (Nx.2.2.1 46 rfl).trans F46
          replace F47 := (Nx.2.2.1 47 rfl).trans F47
          replace F48 := (Nx.2.2.1 48 rfl).trans F48
          replace F49 := (Nx.2.2.1 49 rfl).trans F49
          replace F50 := (Nx.2.2.1 50 rfl).trans F50
          replace F51 := (Nx.2.2.1 51 rfl).trans F51
          replace F53 := (Nx.2.2.1 53 rfl).trans F53
          replace F54 := (Nx.2.2.1 54 rfl).trans F54
          clear F64
          replace F67 := (Nx.2.2.1 67 rfl).trans F67
          replace F68 := (Nx.2.2.1 68 rfl).trans F68
          replace F69 := (Nx.2.2.1 69 rfl).trans F69
          replace F70 := (Nx.2.2.1 70 rfl).trans F70
          replace F71 := (Nx.2.2.1 71 rfl).trans F71
          replace F72 := (Nx.2.2.1 72 rfl).trans F72
          replace F73 := (Nx.2.2.1 73 rfl).trans F73
          replace F74 := (Nx.2.2.1 74 rfl).trans F74
          replace F75 := (Nx.2.2.1 75 rfl).trans F75
          replace F76 := (Nx.2.2.1 76 rfl).trans F76
          replace F77 := (Nx.2.2.1 77 rfl).trans F77
          replace F78 := (Nx.2.2.1 78 rfl).trans F78
          replace F79 := (Nx.2.2.1 79 rfl).trans F79
          replace F80 := (Nx.2.2.1 80 rfl).trans F80
          replace F81 := (Nx.2.2.1 81 rfl).trans F81
          replace F83 := (Nx.2.2.1 83 rfl).trans F83
          have F55 := Nx.2.1
          replace D := Nx.2.2.2.trans D
          clear Z Nx
          have Z := Zn
          clear Zn af9
          refine' dqo_pure (d := 65) (by rfl) (by rfl) Z (by rfl) (wanted_not (by rfl)) ?hv11 ?rest11
          case hv11 => (intro ρ hρ; have E55 := (hρ.1 55).trans F55; have Ec := hρ.2.1; have Ef := hρ.2.2.1; clear hρ; intro w hw; (try dsimp only at hw); go_split_ands; go_simp; try with_reducible rfl)
          case' rest11 => intro af11 Zn Nx
          replace F0 := (Nx.2.2.1 0 rfl).trans F0
          replace F1 := (Nx.2.2.1 1 rfl).trans F1
          replace F2 := (Nx.2.2.1 2 rfl).trans F2
          replace F3 := (Nx.2.2.1 3 rfl).trans F3
          replace F4 := (Nx.2.2.1 4 rfl).trans F4
          replace F5 := (Nx.2.2.1 5 rfl).trans F5
          replace F6 := (Nx.2.2.1 6 rfl).trans F6
          replace F7 := (Nx.2.2.1 7 rfl).trans F7
          replace F8 := (Nx.2.2.1 8 rfl).trans F8
          replace F9 := (Nx.2.2.1 9 rfl).trans F9
          replace F10 := (Nx.2.2.1 10 rfl).trans F10
          replace F11 := (Nx.2.2.1 11 rfl).trans F11
          replace F12 := (Nx.2.2.1 12 rfl).trans F12
          replace F13 := (Nx.2.2.1 13 rfl).trans F13
          replace F14 := (Nx.2.2.1 14 rfl).trans F14
          replace F15 := (Nx.2.2.1 15 rfl).trans F15
          replace F16 := (Nx.2.2.1 16 rfl).trans F16
          replace F17 := (Nx.2.2.1 17 rfl).trans F17
          replace F18 := (Nx.2.2.1 18 rfl).trans F18
          replace F19 := (Nx.2.2.1 19 rfl).trans F19
          replace F20 := (Nx.2.2.1 20 rfl).trans F20
          replace F21 := (Nx.2.2.1 21 rfl).trans F21
          replace F22 := (Nx.2.2.1 22 rfl).trans F22
          replace F23 := (Nx.2.2.1 23 rfl).trans F23
          replace F24 := (Nx.2.2.1 24 rfl).trans F24
          replace F25 := (Nx.2.2.1 25 rfl).trans F25
          replace F26 := (Nx.2.2.1 26 rfl).trans F26
          replace F27 := (Nx.2.2.1 27 rfl).trans F27
          replace F28 := (Nx.2.2.1 28 rfl).trans F28
          replace F29 := (Nx.2.2.1 29 rfl).trans F29
          replace F30 := (Nx.2.2.1 30 rfl).trans F30
          replace F31 := (Nx.2.2.1 31 rfl).trans F31
          replace F32 := (Nx.2.2.1 32 rfl).trans F32
          replace F33 := (Nx.2.2.1 33 rfl).trans F33
          replace F34 := (Nx.2.2.1 34 rfl).trans F34
          replace F35 := (Nx.2.2.1 35 rfl).trans F35
          replace F36 := (Nx.2.2.1 36 rfl).trans F36
          replace F37 := (Nx.2.2.1 37 rfl).trans F37
          replace F38 := (Nx.2.2.1 38 rfl).trans F38
          replace F39 := (Nx.2.2.1 39 rfl).trans F39
          replace F40 := (Nx.2.2.1 40 rfl).trans F40
          replace F41 := (Nx.2.2.1 41 rfl).trans F41
          replace F42 := (Nx.2.2.1 42 rfl).trans F42
          replace F43 := (Nx.2.2.1 43 rfl).trans F43
          replace F44 := (Nx.2.2.1 44 rfl).trans F44
          replace F45 := (Nx.2.2.1 45 rfl).trans F45
          replace F46 := (Nx.2.2.1 46 rfl).trans F46
          replace F47 := (Nx.2.2.1 47 rfl).trans F47
          replace F48 := (Nx.2.2.1 48 rfl).trans F48
          replace F49 := (Nx.2.2.1 49 rfl).trans F49
          replace F50 := (Nx.2.2.1 50 rfl).trans F50
          replace F51 := (Nx.2.2.1 51 rfl).trans F51
          replace F53 := (Nx.2.2.1 53 rfl).trans F53
          replace F54 := (Nx.2.2.1 54 rfl).trans F54
          replace F55 := (Nx.2.2.1 55 rfl).trans F55
          replace F67 := (Nx.2.2.1 67 rfl).trans F67
          replace F68 := (Nx.2.2.1 68 rfl).trans F68
          replace F69 := (Nx.2.2.1 69 rfl).trans F69
          replace F70 := (Nx.2.2.1 70 rfl).trans F70
          replace F71 := (Nx.2.2.1 71 rfl).trans F71
          replace F72 := (Nx.2.2.1 72 rfl).trans F72
          replace F73 := (Nx.2.2.1 73 rfl).trans F73
          replace F74 := (Nx.2.2.1 74 rfl).trans F74
          replace F75 := (Nx.2.2.1 75 rfl).trans F75
          replace F76 := (Nx.2.2.1 76 rfl).trans F76
          replace F77 := (Nx.2.2.1 77 rfl).trans F77
          replace F78 := (Nx.2.2.1 78 rfl).trans F78
          replace F79 := (Nx.2.2.1 79 rfl).trans F79
          replace F80 := (Nx.2.2.1 80 rfl).trans F80
          replace F81 := (Nx.2.2.1 81 rfl).trans F81
          replace F83 := (Nx.2.2.1 83 rfl).trans F83
          have F65 := Nx.2.1
          replace D := Nx.2.2.2.trans D
          clear Z Nx
          have Z := Zn
          clear Zn af10
          refine' dqo_late (d := 66) (by rfl) (by rfl) Z (by rfl) (wanted_not (by rfl)) ?hv12 ?rest12
          case hv12 => (intro ρ hρ; have E55 := (hρ.1 55).trans F55; have Ec := hρ.2.1; have Ef := hρ.2.2.1; clear hρ; intro w; go_simp; try with_reducible rfl)
          case' rest12 => intro af12 Zn Nx
          replace F0 := (Nx.2.2.1 0 rfl).trans F0
          replace F1 := (Nx.2.2.1 1 rfl).trans F1
          replace F2 := (Nx.2.2.1 2 rfl).trans F2
          replace F3 := (Nx.2.2.1 3 rfl).trans F3
          replace F4 := (Nx.2.2.1 4 rfl).trans F4
          replace F5 := (Nx.2.2.1 5 rfl).trans F5
          replace F6 := (Nx.2.2.1 6 rfl).trans F6
          replace F7 := (Nx.2.2.1 7 rfl).trans F7
          replace F8 := (Nx.2.2.1 8 rfl).trans F8
          replace F9 := (Nx.2.2.1 9 rfl).trans F9
          replace F10 := (Nx.2.2.1 10 rfl).trans F10
          replace F11 := (Nx.2.2.1 11 rfl).trans F11
          replace F12 := (Nx.2.2.1 12 rfl).trans F12
          replace F13 := (Nx.2.2.1 13 rfl).trans F13
          replace F14 := (Nx.2.2.1 14 rfl).trans F14
          replace F15 := (Nx.2.2.1 15 rfl).trans F15
          replace F16 := (Nx.2.2.1 16 rfl).trans F16
          replace F17 := (Nx.2.2.1 17 rfl).trans F17
          replace F18 := (Nx.2.2.1 18 rfl).trans F18
          replace F19 := (Nx.2.2.1 19 rfl).trans F19
          replace F20 := (Nx.2.2.1 20 rfl).trans F20
          replace F21 := (Nx.2.2.1 21 rfl).trans F21
          replace F22 := (Nx.2.2.1 22 rfl).trans F22
          replace F23 := (Nx.2.2.1 23 rfl).trans F23
          replace F24 := (Nx.2.2.1 24 rfl).trans F24
          replace F25 := (Nx.2.2.1 25 rfl).trans F25
          replace F26 := (Nx.2.2.1 26 rfl).trans F26
          replace F27 := (Nx.2.2.1 27 rfl).trans F27
          replace F28 := (Nx.2.2.1 28 rfl).trans F28
          replace F29 := (Nx.2.2.1 29 rfl).trans F29
          replace F30 := (Nx.2.2.1 30 rfl).trans F30
          replace F31 := (Nx.2.2.1 31 rfl).trans F31
          replace F32 := (Nx.2.2.1 32 rfl).trans F32
          replace F33 := (Nx.2.2.1 33 rfl).trans F33
          replace F34 := (Nx.2.2.1 34 rfl).trans F34
          replace F35 := (Nx.2.2.1 35 rfl).trans F35
          replace F36 := (Nx.2.2.1 36 rfl).trans F36
          replace F37 := (Nx.2.2.1 37 rfl).trans F37
          replace F38 := (Nx.2.2.1 38 rfl).trans F38
          replace F39 := (Nx.2.2.1 39 rfl).trans F39
          replace F40 := (Nx.2.2.1 40 rfl).trans F40
          replace F41 := (Nx.2.2.1 41 rfl).trans F41
          replace F42 := (Nx.2.2.1 42 rfl).trans F42
          replace F43 := (Nx.2.2.1 43 rfl).trans F43
          replace F44 := (Nx.2.2.1 44 rfl).trans F44
          replace F45 := (Nx.2.2.1 45 rfl).trans F45
          replace F46 := (Nx.2.2.1 46 rfl).trans F46
          replace F47 := (Nx.2.2.1 47 rfl).trans F47
          replace F48 := (Nx.2.2.1 48 rfl).trans F48
          replace F49 := (Nx.2.2.1 49 rfl).trans F49
          replace F50 := (Nx.2.2.1 50 rfl).trans F50
          replace F51 := (Nx.2.2.1 51 rfl).trans F51
          replace F53 := (Nx.2.2.1 53 rfl).trans F53
          replace F54 := (Nx.2.2.1 54 rfl).trans F54
          clear F55
          replace F65 := (Nx.2.2.1 65 rfl).trans F65
          replace F67 := (Nx.2.2.1 67 rfl).trans F67
          replace F68 := (Nx.2.2.1 68 rfl).trans F68
          replace F69 := (Nx.2.2.1 69 rfl).trans F69
          replace F70 := (Nx.2.2.1 70 rfl).trans F70
          replace F71 := (Nx.2.2.1 71 rfl).trans F71
          replace F72 := (Nx.2.2.1 72 rfl).trans F72
          replace F73 := (Nx.2.2.1 73 rfl).trans F73
          replace F74 := (Nx.2.2.1 74 rfl).trans F74
          replace F75 := (Nx.2.2.1 75 rfl).trans F75
          replace F76 := (Nx.2.2.1 76 rfl).trans F76
          replace F77 := (Nx.2.2.1 77 rfl).trans F77
          replace F78 := (Nx.2.2.1 78 rfl).trans F78
          replace F79 := (Nx.2.2.1 79 rfl).trans F79
          replace F80 := (Nx.2.2.1 80 rfl).trans F80
          replace F81 := (Nx.2.2.1 81 rfl).trans F81
          replace F83 := (Nx.2.2.1 83 rfl).trans F83
          have F66 := Nx.2.1
          replace D := Nx.2.2.2.trans D
          clear Z Nx
          have Z := Zn
          clear Zn af11
          refine dq_nil ?_
          refine fa_nil ?_
          rintro W ⟨⟨hb0, hn0, ⟨B1, B1c, B1f, B1l⟩, ⟨B2, B2c, B2f, B2l⟩⟩, hgl⟩ hbs
          clear hbs
          obtain ⟨ρ, hρ⟩ := rho_of af12
          have hL := act_lit (l := [_, _, _, _, _, _, _, _, _, _, _, _, _, _, _, _, _, _, _, _, _, _, _, _, _, _, _, _, _, _, _, _, _, _, _, _, _, _, _, _, _, _, _, _, _, _, _, _, _, _, _, _, ρ (.tmp 52), _, _, ρ (.tmp 55), ρ (.tmp 56), ρ (.tmp 57), ρ (.tmp 58), ρ (.tmp 59), ρ (.tmp 60), ρ (.tmp 61), ρ (.tmp 62), ρ (.tmp 63), ρ (.tmp 64), _, _, _, _, _, _, _, _, _, _, _, _, _, _, _, _, _, ρ (.tmp 82), _]) Z D (by rfl) ⟨F0, F1, F2, F3, F4, F5, F6, F7, F8, F9, F10, F11, F12, F13, F14, F15, F16, F17, F18, F19, F20, F21, F22, F23, F24, F25, F26, F27, F28, F29, F30, F31, F32, F33, F34, F35, F36, F37, F38, F39, F40, F41, F42, F43, F44, F45, F46, F47, F48, F49, F50, F51, hρ 52, F53, F54, hρ 55, hρ 56, hρ 57, hρ 58, hρ 59, hρ 60, hρ 61, hρ 62, hρ 63, hρ 64, F65, F66, F67, F68, F69, F70, F71, F72, F73, F74, F75, F76, F77, F78, F79, F80, F81, hρ 82, F83, trivial⟩
          clear hρ Z D F0 F1 F2 F3 F4 F5 F6 F7 F8 F9 F10 F11 F12 F13 F14 F15 F16 F17 F18 F19 F20 F21 F22 F23 F24 F25 F26 F27 F28 F29 F30 F31 F32 F33 F34 F35 F36 F37 F38 F39 F40 F41 F42 F43 F44 F45 F46 F47 F48 F49 F50 F51 F53 F54 F65 F66 F67 F68 F69 F70 F71 F72 F73 F74 F75 F76 F77 F78 F79 F80 F81 F83
          subst hL
          simp only [List.drop_succ_cons, List.drop_zero]
          clear K1
          (repeat' (first | go_values | go_skip | go_guarded | go_step | go_upon | (simp only [Int.not_lt, Int.not_le] at *; go_simp) | (go_values <;> (try go_simp)) | (go_ite <;> go_prune <;> (try go_simp)) | (split <;> (first | (rename_i hx; exact (hx _ rfl).elim) | go_prune))))
          
          (refine wp_region_dq (row := none) (S := (fun Wz => Below wr.heap.size wr Wz ∧ wr.heap.size ≤ Wz.heap.size ∧ Bx Wz (w3.heap.size) (ca) ∧ Bx Wz (w5.heap.size) (ce))) (n0 := wr.heap.size) 16 [] [(0, 0), (1, 0), (2, 0), (3, 0), (4, 0), (5, 0), (6, 0), (7, 0), (8, 0), (9, 0), (10, 0), (11, 0), (12, 0), (13, 0), (14, 0), (15, 0)] [] (by kernel_rfl) (by kernel_rfl) (fun _ _ d _ _ h => by cases d <;> exact h) (by refine ⟨?dob13, ?don13, ?_, ?_⟩; (case dob13 => (repeat' (first | (with_reducible assumption) | (with_reducible exact Below.refl _ _) | (with_reducible refine Below.alloc ?_ ?_ _) | (with_reducible refine Below.setCell ?_ ?_ _) | (with_reducible refine Below.drew ?_) | (with_reducible refine below_more ?_ (by with_reducible assumption)) | go_size | omega | (with_reducible refine below_drewN ?_)))); (case don13 => (first | go_size | omega)); all_goals (first | done | (refine Bx.of ?_; (repeat' (first | (with_reducible assumption) | ((with_reducible refine HB.new _ _ _ ?_) <;> (go_size; done)) | (with_reducible refine HB.old (by go_size) ?_) | (with_reducible refine HB.drew ?_) | (with_reducible refine HB.over5 ?_) | (with_reducible refine HB.over4 ?_) | (with_reducible refine HB.setne (by first | go_size | (dsimp only; omega)) ?_) | (with_reducible refine HN.set ?_) | (with_reducible refine HN.setne (by first | go_size | (dsimp only; omega)) ?_) | (with_reducible refine HN.drew ?_) | (with_reducible refine HN.old (by go_size) ?_) | (with_reducible exact HN.of5 (by assumption)) | (with_reducible exact HN.new5 _ _ (by go_size)) | (with_reducible exact HN.of4 (by assumption)) | (with_reducible exact HN.new4 _ _ (by go_size))))))) (fun _ _ h g => keep2 h (below_gt g) rfl) (fun _ h => h.2.1) (fun _ h => by cases h) (by simp) ?_)
          refine dqo_start ?_
          intro af0 hA
          have Z := size_lit (n := 84) hA (by rfl)
          have D := defers_lit hA
          have F0 := ev_lit (t := 0) hA (by rfl)
          have F1 := ev_lit (t := 1) hA (by rfl)
          have F2 := ev_lit (t := 2) hA (by rfl)
          have F3 := ev_lit (t := 3) hA (by rfl)
          have F4 := ev_lit (t := 4) hA (by rfl)
          have F5 := ev_lit (t := 5) hA (by rfl)
          have F6 := ev_lit (t := 6) hA (by rfl)
          have F7 := ev_lit (t := 7) hA (by rfl)
          have F8 := ev_lit (t := 8) hA (by rfl)
          have F9 := ev_lit (t := 9) hA (by rfl)
          have F10 := ev_lit (t := 10) hA (by rfl)
          have F11 := ev_lit (t := 11) hA (by rfl)
          have F12 := ev_lit (t := 12) hA (by rfl)
          have F13 := ev_lit (t := 13) hA (by rfl)
          have F14 := ev_lit (t := 14) hA (by rfl)
          have F15 := ev_lit (t := 15) hA (by rfl)
          have F16 := ev_lit (t := 16) hA (by rfl)
          have F17 := ev_lit (t := 17) hA (by rfl)
          have F18 := ev_lit (t := 18) hA (by rfl)
          have F19 := ev_lit (t := 19) hA (by rfl)
          have F20 := ev_lit (t := 20) hA (by rfl)
          have F21 := ev_lit (t := 21) hA (by rfl)
          have F22 := ev_lit (t := 22) hA (by rfl)
          have F23 := ev_lit (t := 23) hA (by rfl)
          have F24 := ev_lit (t := 24) hA (by rfl)
          have F25 := ev_lit (t := 25) hA (by rfl)
          have F26 := ev_lit (t := 26) hA (by rfl)
          have F27 := ev_lit (t := 27) hA (by rfl)
          have F28 := ev_lit (t := 28) hA (by rfl)
          have F29 := ev_lit (t := 29) hA (by rfl)
          have F30 := ev_lit (t := 30) hA (by rfl)
          have F31 := ev_lit (t := 31) hA (by rfl)
          have F32 := ev_lit (t := 32) hA (by rfl)
          have F33 := ev_lit (t := 33) hA (by rfl)
          have F34 := ev_lit (t := 34) hA (by rfl)
          have F35 := ev_lit (t := 35) hA (by rfl)
          have F36 := ev_lit (t := 36) hA (by rfl)
          have F37 := ev_lit (t := 37) hA (by rfl)
          have F38 := ev_lit (t := 38) hA (by rfl)
          have F39 := ev_lit (t := 39) hA (by rfl)
          have F40 := ev_lit (t := 40) hA (by rfl)
          have F41 := ev_lit (t := 41) hA (by rfl)
          have F42 := ev_lit (t := 42) hA (by rfl)
          have F43 := ev_lit (t := 43) hA (by rfl)
          have F44 := ev_lit (t := 44) hA (by rfl)
          have F45 := ev_lit (t := 45) hA (by rfl)
          have F46 := ev_lit (t := 46) hA (by rfl)
          have F47 := ev_lit (t := 47) hA (by rfl)
          have F48 := ev_lit (t := 48) hA (by rfl)
          have F49 := ev_lit (t := 49) hA (by rfl)
          have F50 := ev_lit (t := 50) hA (by rfl)
          have F51 := ev_lit (t := 51) hA (by rfl)
          have F53 := ev_lit (t := 53) hA (by rfl)
          have F54 := ev_lit (t := 54) hA (by rfl)
          have F55 := ev_lit (t := 55) hA (by rfl)
          have F56 := ev_lit (t := 56) hA (by rfl)
          have F57 := ev_lit (t := 57) hA (by rfl)
          have F58 := ev_lit (t := 58) hA (by rfl)
          have F59 := ev_lit (t := 59) hA (by rfl)
          have F60 := ev_lit (t := 60) hA (by rfl)
          have F61 := ev_lit (t := 61) hA (by rfl)
          have F62 := ev_lit (t := 62) hA (by rfl)
          have F63 := ev_lit (t := 63) hA (by rfl)
          have F64 := ev_lit (t := 64) hA (by rfl)
          have F65 := ev_lit (t := 65) hA (by rfl)
          have F66 := ev_lit (t := 66) hA (by rfl)
          have F83 := ev_lit (t := 83) hA (by rfl)
          clear hA
          refine' dqo_pure (d := 67) (by rfl) (by rfl) Z (by rfl) (wanted_not (by rfl)) ?hv13 ?rest13
          case hv13 => (intro ρ hρ; have E14 := (hρ.1 14).trans F14; have Ec := hρ.2.1; have Ef := hρ.2.2.1; clear hρ; intro w hw; (try dsimp only at hw); go_split_ands; go_simp; try with_reducible rfl)
          case' rest13 => intro af1 Zn Nx
          replace F0 := (Nx.2.2.1 0 rfl).trans F0
          replace F1 := (Nx.2.2.1 1 rfl).trans F1
          replace F2 := (Nx.2.2.1 2 rfl).trans F2
          replace F3 := (Nx.2.2.1 3 rfl).trans F3
          replace F4 := (Nx.2.2.1 4 rfl).trans F4
          replace F5 := (Nx.2.2.1 5 rfl).trans F5
          replace F6 := (Nx.2.2.1 6 rfl).trans F6
          replace F7 := (Nx.2.2.1 7 rfl).trans F7
          replace F8 := (Nx.2.2.1 8 rfl).trans F8
          replace F9 := (Nx.2.2.1 9 rfl).trans F9
          replace F10 := (Nx.2.2.1 10 rfl).trans F10
          replace F11 := (Nx.2.2.1 11 rfl).trans F11
          replace F12 := (Nx.2.2.1 12 rfl).trans F12
          replace F13 := (Nx.2.2.1 13 rfl).trans F13
          replace F14 := (Nx.2.2.1 14 rfl).trans F14
          replace F15 := (Nx.2.2.1 15 rfl).trans F15
          replace F16 := (Nx.2.2.1 16 rfl).trans F16
          replace F17 := (Nx.2.2.1 17 rfl).trans F17
          replace F18 := (Nx.2.2.1 18 rfl).trans F18
          replace F19 := (Nx.2.2.1 19 rfl).trans F19
          replace F20 := (Nx.2.2.1 20 rfl).trans F20
          replace F21 := (Nx.2.2.1 21 rfl).trans F21
          replace F22 := (Nx.2.2.1 22 rfl).trans F22
          replace F23 := (Nx.2.2.1 23 rfl).trans F23
          replace F24 := (Nx.2.2.1 24 rfl).trans F24
          replace F25 := (Nx.2.2.1 25 rfl).trans F25
          replace F26 := (Nx.2.2.1 26 rfl).trans F26
          replace F27 := (Nx.2.2.1 27 rfl).trans F27
          replace F28 := (Nx.2.2.1 28 rfl).trans F28
          replace F29 := (Nx.2.2.1 29 rfl).trans F29
          replace F30 := (Nx.2.2.1 30 rfl).trans F30
          replace F31 := (Nx.2.2.1 31 rfl).trans F31
          replace F32 := (Nx.2.2.1 32 rfl).trans F32
          replace F33 := (Nx.2.2.1 33 rfl).trans F33
          replace F34 := (Nx.2.2.1 34 rfl).trans F34
          replace F35 := (Nx.2.2.1 35 rfl).trans F35
          replace F36 := (Nx.2.2.1 36 rfl).trans F36
          replace F37 := (Nx.2.2.1 37 rfl).trans F37
          replace F38 := (Nx.2.2.1 38 rfl).trans F38
          replace F39 := (Nx.2.2.1 39 rfl).trans F39
          replace F40 := (Nx.2.2.1 40 rfl).trans F40
          replace F41 := (Nx.2.2.1 41 rfl).trans F41
          replace F42 := (Nx.2.2.1 42 rfl).trans F42
          replace F43 := (Nx.2.2.1 43 rfl).trans F43
          replace F44 := (Nx.2.2.1 44 rfl).trans F44
          replace F45 := (Nx.2.2.1 45 rfl).trans F45
          replace F46 := (Nx.2.2.1 46 rfl).trans F46
          replace F47 := (Nx.2.2.1 47 rfl).trans F47
          replace F48 := (Nx.2.2.1 48 rfl).trans F48
          replace F49 := (Nx.2.2.1 49 rfl).trans F49
          replace F50 := (Nx.2.2.1 50 rfl).trans F50
          replace F51 := (Nx.2.2.1 51 rfl).trans F51
          replace F53 := (Nx.2.2.1 53 rfl).trans F53
          replace F54 := (Nx.2.2.1 54 rfl).trans F54
          replace F55 := (Nx.2.2.1 55 rfl).trans F55
          replace F56 := (Nx.2.2.1 56 rfl).trans F56
          replace F57 := (Nx.2.2.1 57 rfl).trans F57
          replace F58 := (Nx.2.2.1 58 rfl).trans F58
          replace F59 := (Nx.2.2.1 59 rfl).trans F59
          replace F60 := (Nx.2.2.1 60 rfl).trans F60
          replace F61 := (Nx.2.2.1 61 rfl).trans F61
          replace F62 := (Nx.2.2.1 62 rfl).trans F62
          replace F63 := (Nx.2.2.1 63 rfl).trans F63
          replace F64 := (Nx.2.2.1 64 rfl).trans F64
          replace F65 := (Nx.2.2.1 65 rfl).trans F65
          replace F66 := (Nx.2.2.1 66 rfl).trans F66
          replace F83 := (Nx.2.2.1 83 rfl).trans F83
          have F67 := Nx.2.1
          replace D := Nx.2.2.2.trans D
          clear Z Nx
          have Z := Zn
          clear Zn af0
          refine' dqo_pure (d := 68) (by rfl) (by rfl) Z (by rfl) (wanted_not (by rfl)) ?hv14 ?rest14
          case hv14 => (intro ρ hρ; have E67 := (hρ.1 67).trans F67; have Ec := hρ.2.1; have Ef := hρ.2.2.1; clear hρ; intro w hw; (try dsimp only at hw); go_split_ands; go_simp; try with_reducible rfl)
          case' rest14 => intro af2 Zn Nx
          replace F0 := (Nx.2.2.1 0 rfl).trans F0
          replace F1 := (Nx.2.2.1 1 rfl).trans F1
          replace F2 := (Nx.2.2.1 2 rfl).trans F2
          replace F3 := (Nx.2.2.1 3 rfl).trans F3
          replace F4 := (Nx.2.2.1 4 rfl).trans F4
          replace F5 := (Nx.2.2.1 5 rfl).trans F5
          replace F6 := (Nx.2.2.1 6 rfl).trans F6
          replace F7 := (Nx.2.2.1 7 rfl).trans F7
          replace F8 := (Nx.2.2.1 8 rfl).trans F8
          replace F9 := (Nx.2.2.1 9 rfl).trans F9
          replace F10 := (Nx.2.2.1 10 rfl).trans F10
          replace F11 := (Nx.2.2.1 11 rfl).trans F11
          replace F12 := (Nx.2.2.1 12 rfl).trans F12
          replace F13 := (Nx.2.2.1 13 rfl).trans F13
          replace F14 := (Nx.2.2.1 14 rfl).trans F14
          replace F15 := (Nx.2.2.1 15 rfl).trans F15
          replace F16 := (Nx.2.2.1 16 rfl).trans F16
          replace F17 := (Nx.2.2.1 17 rfl).trans F17
          replace F18 := (Nx.2.2.1 18 rfl).trans F18
          replace F19 := (Nx.2.2.1 19 rfl).trans F19
          replace F20 := (Nx.2.2.1 20 rfl).trans F20
          replace F21 := (Nx.2.2.1 21 rfl).trans F21
          replace F22 := (Nx.2.2.1 22 rfl).trans F22
          replace F23 := (Nx.2.2.1 23 rfl).trans F23
          replace F24 := (Nx.2.2.1 24 rfl).trans F24
          replace F25 := (Nx.2.2.1 25 rfl).trans F25
          replace F26 := (Nx.2.2.1 26 rfl).trans F26
          replace F27 := (Nx.2.2.1 27 rfl).trans F27
          replace F28 := (Nx.2.2.1 28 rfl).trans F28
          replace F29 := (Nx.2.2.1 29 rfl).trans F29
          replace F30 := (Nx.2.2.1 30 rfl).trans F30
          replace F31 := (Nx.2.2.1 31 rfl).trans F31
          replace F32 := (Nx.2.2.1 32 rfl).trans F32
          replace F33 := (Nx.2.2.1 33 rfl).trans F33
          replace F34 := (Nx.2.2.1 34 rfl).trans F34
          replace F35 := (Nx.2.2.1 35 rfl).trans F35
          replace F36 := (Nx.2.2.1 36 rfl).trans F36
          replace F37 := (Nx.2.2.1 37 rfl).trans F37
          replace F38 := (Nx.2.2.1 38 rfl).trans F38
          replace F39 := (Nx.2.2.1 39 rfl).trans F39
          replace F40 := (Nx.2.2.1 40 rfl).trans F40
          replace F41 := (Nx.2.2.1 41 rfl).trans F41
          replace F42 := (Nx.2.2.1 42 rfl).trans F42
          replace F43 := (Nx.2.2.1 43 rfl).trans F43
          replace F44 := (Nx.2.2.1 44 rfl).trans F44
          replace F45 := (Nx.2.2.1 45 rfl).trans F45
          replace F46 := (Nx.2.2.1 46 rfl).trans F46
          replace F47 := (Nx.2.2.1 47 rfl).trans F47
          replace F48 := (Nx.2.2.1 48 rfl).trans F48
          replace F49 := (Nx.2.2.1 49 rfl).trans F49
          replace F50 := (Nx.2.2.1 50 rfl).trans F50
          replace F51 := (Nx.2.2.1 51 rfl).trans F51
          replace F53 := (Nx.2.2.1 53 rfl).trans F53
          replace F54 := (Nx.2.2.1 54 rfl).trans F54
          replace F55 := (Nx.2.2.1 55 rfl).trans F55
          replace F56 := (Nx.2.2.1 56 rfl).trans F56
          replace F57 := (Nx.2.2.1 57 rfl).trans F57
          replace F58 := (Nx.2.2.1 58 rfl).trans F58
          replace F59 := (Nx.2.2.1 59 rfl).trans F59
          replace F60 := (Nx.2.2.1 60 rfl).trans F60
          replace F61 := (Nx.2.2.1 61 rfl).trans F61
          replace F62 := (Nx.2.2.1 62 rfl).trans F62
          replace F63 := (Nx.2.2.1 63 rfl).trans F63
          replace F64 := (Nx.2.2.1 64 rfl).trans F64
          replace F65 := (Nx.2.2.1 65 rfl).trans F65
          replace F66 := (Nx.2.2.1 66 rfl).trans F66
          clear F67
          replace F83 := (Nx.2.2.1 83 rfl).trans F83
          have F68 := Nx.2.1
          replace D := Nx.2.2.2.trans D
          clear Z Nx
          have Z := Zn
          clear Zn af1
          refine' dqo_pure (d := 69) (by rfl) (by rfl) Z (by rfl) (wanted_not (by rfl)) ?hv15 ?rest15
          case hv15 => (intro ρ hρ; have E68 := (hρ.1 68).trans F68; have Ec := hρ.2.1; have Ef := hρ.2.2.1; clear hρ; intro w hw; (try dsimp only at hw); go_split_ands; go_simp; try with_reducible rfl)
          case' rest15 => intro af3 Zn Nx
          replace F0 := (Nx.2.2.1 0 rfl).trans F0
          replace F1 := (Nx.2.2.1 1 rfl).trans F1
          replace F2 := (Nx.2.2.1 2 rfl).trans F2
          replace F3 := (Nx.2.2.1 3 rfl).trans F3
          replace F4 := (Nx.2.2.1 4 rfl).trans F4
          replace F5 := (Nx.2.2.1 5 rfl).trans F5
          replace F6 := (Nx.2.2.1 6 rfl).trans F6
          replace F7 := (Nx.2.2.1 7 rfl).trans F7
          replace F8 := (Nx.2.2.1 8 rfl).trans F8
          replace F9 := (Nx.2.2.1 9 rfl).trans F9
          replace F10 := (Nx.2.2.1 10 rfl).trans F10
          replace F11 := (Nx.2.2.1 11 rfl).trans F11
          replace F12 := (Nx.2.2.1 12 rfl).trans F12
          replace F13 := (Nx.2.2.1 13 rfl).trans F13
          replace F14 := (Nx.2.2.1 14 rfl).trans F14
          replace F15 := (Nx.2.2.1 15 rfl).trans F15
          replace F16 := (Nx.2.2.1 16 rfl).trans F16
          replace F17 := (Nx.2.2.1 17 rfl).trans F17
          replace F18 := (Nx.2.2.1 18 rfl).trans F18
          replace F19 := (Nx.2.2.1 19 rfl).trans F19
          replace F20 := (Nx.2.2.1 20 rfl).trans F20
          replace F21 := (Nx.2.2.1 21 rfl).trans F21
          replace F22 := (Nx.2.2.1 22 rfl).trans F22
          replace F23 := (Nx.2.2.1 23 rfl).trans F23
          replace F24 := (Nx.2.2.1 24 rfl).trans F24
          replace F25 := (Nx.2.2.1 25 rfl).trans F25
          replace F26 := (Nx.2.2.1 26 rfl).trans F26
          replace F27 := (Nx.2.2.1 27 rfl).trans F27
          replace F28 := (Nx.2.2.1 28 rfl).trans F28
          replace F29 := (Nx.2.2.1 29 rfl).trans F29
          replace F30 := (Nx.2.2.1 30 rfl).trans F30
          replace F31 := (Nx.2.2.1 31 rfl).trans F31
          replace F32 := (Nx.2.2.1 32 rfl).trans F32
          replace F33 := (Nx.2.2.1 33 rfl).trans F33
          replace F34 := (Nx.2.2.1 34 rfl).trans F34
          replace F35 := (Nx.2.2.1 35 rfl).trans F35
          replace F36 := (Nx.2.2.1 36 rfl).trans F36
          replace F37 := (Nx.2.2.1 37 rfl).trans F37
          replace F38 := (Nx.2.2.1 38 rfl).trans F38
          replace F39 := (Nx.2.2.1 39 rfl).trans F39
          replace F40 := (Nx.2.2.1 40 rfl).trans F40
          replace F41 := (Nx.2.2.1 41 rfl).trans F41
          replace F42 := (Nx.2.2.1 42 rfl).trans F42
          replace F43 := (Nx.2.2.1 43 rfl).trans F43
          replace F44 := (Nx.2.2.1 44 rfl).trans F44
          replace F45 := (Nx.2.2.1 45 rfl).trans F45
          replace F46 := (Nx.2.2.1 46 rfl).trans F46
          replace F47 := (Nx.2.2.1 47 rfl).trans F47
          replace F48 := (Nx.2.2.1 48 rfl).trans F48
          replace F49 := (Nx.2.2.1 49 rfl).trans F49
          replace F50 := (Nx.2.2.1 50 rfl).trans F50
          replace F51 := (Nx.2.2.1 51 rfl).trans F51
          replace F53 := (Nx.2.2.1 53 rfl).trans F53
          replace F54 := (Nx.2.2.1 54 rfl).trans F54
          replace F55 := (Nx.2.2.1 55 rfl).trans F55
          replace F56 := (Nx.2.2.1 56 rfl).trans F56
          replace F57 := (Nx.2.2.1 57 rfl).trans F57
          replace F58 := (Nx.2.2.1 58 rfl).trans F58
          replace F59 := (Nx.2.2.1 59 rfl).trans F59
          replace F60 := (Nx.2.2.1 60 rfl).trans F60
          replace F61 := (Nx.2.2.1 61 rfl).trans F61
          replace F62 := (Nx.2.2.1 62 rfl).trans F62
          replace F63 := (Nx.2.2.1 63 rfl).trans F63
          replace F64 := (Nx.2.2.1 64 rfl).trans F64
          replace F65 := (Nx.2.2.1 65 rfl).trans F65
          replace F66 := (Nx.2.2.1 66 rfl).trans F66
          clear F68
          replace F83 := (Nx.2.2.1 83 rfl).trans F83
          have F69 := Nx.2.1
          replace D := Nx.2.2.2.trans D
          clear Z Nx
          have Z := Zn
          clear Zn af2
          refine' dqo_pure (d := 70) (by rfl) (by rfl) Z (by rfl) (wanted_yes (by rfl) (by rfl) F69) ?hv16 ?rest16
          case hv16 => (intro ρ hρ; have E13 := (hρ.1 13).trans F13; have Ec := hρ.2.1; have Ef := hρ.2.2.1; clear hρ; intro w hw; (try dsimp only at hw); go_split_ands; go_simp; try with_reducible rfl)
          case' rest16 => intro af4 Zn Nx
          replace F0 := (Nx.2.2.1 0 rfl).trans F0
          replace F1 := (Nx.2.2.1 1 rfl).trans F1
          replace F2 := (Nx.2.2.1 2 rfl).trans F2
          replace F3 := (Nx.2.2.1 3 rfl).trans F3
          replace F4 := (Nx.2.2.1 4 rfl).trans F4
          replace F5 := (Nx.2.2.1 5 rfl).trans F5
          replace F6 := (Nx.2.2.1 6 rfl).trans F6
          replace F7 := (Nx.2.2.1 7 rfl).trans F7
          replace F8 := (Nx.2.2.1 8 rfl).trans F8
          replace F9 := (Nx.2.2.1 9 rfl).trans F9
          replace F10 := (Nx.2.2.1 10 rfl).trans F10
          replace F11 := (Nx.2.2.1 11 rfl).trans F11
          replace F12 := (Nx.2.2.1 12 rfl).trans F12
          replace F13 := (Nx.2.2.1 13 rfl).trans F13
          replace F14 := (Nx.2.2.1 14 rfl).trans F14
          replace F15 := (Nx.2.2.1 15 rfl).trans F15
          replace F16 := (Nx.2.2.1 16 rfl).trans F16
          replace F17 := (Nx.2.2.1 17 rfl).trans F17
          replace F18 := (Nx.2.2.1 18 rfl).trans F18
          replace F19 := (Nx.2.2.1 19 rfl).trans F19
          replace F20 := (Nx.2.2.1 20 rfl).trans F20
          replace F21 := (Nx.2.2.1 21 rfl).trans F21
          replace F22 := (Nx.2.2.1 22 rfl).trans F22
          replace F23 := (Nx.2.2.1 23 rfl).trans F23
          replace F24 := (Nx.2.2.1 24 rfl).trans F24
          replace F25 := (Nx.2.2.1 25 rfl).trans F25
          replace F26 := (Nx.2.2.1 26 rfl).trans F26
          replace F27 := (Nx.2.2.1 27 rfl).trans F27
          replace F28 := (Nx.2.2.1 28 rfl).trans F28
          replace F29 := (Nx.2.2.1 29 rfl).trans F29
          replace F30 := (Nx.2.2.1 30 rfl).trans F30
          replace F31 := (Nx.2.2.1 31 rfl).trans F31
          replace F32 := (Nx.2.2.1 32 rfl).trans F32
          replace F33 := (Nx.2.2.1 33 rfl).trans F33
          replace F34 := (Nx.2.2.1 34 rfl).trans F34
          replace F35 := (Nx.2.2.1 35 rfl).trans F35
          replace F36 := (Nx.2.2.1 36 rfl).trans F36
          replace F37 := (Nx.2.2.1 37 rfl).trans F37
          replace F38 := (Nx.2.2.1 38 rfl).trans F38
          replace F39 := (Nx.2.2.1 39 rfl).trans F39
          replace F40 := (Nx.2.2.1 40 rfl).trans F40
          replace F41 := (Nx.2.2.1 41 rfl).trans F41
          replace F42 := (Nx.2.2.1 42 rfl).trans F42
          replace F43 := (Nx.2.2.1 43 rfl).trans F43
          replace F44 := (Nx.2.2.1 44 rfl).trans F44
          replace F45 := (Nx.2.2.1 45 rfl).trans F45
          replace F46 := (Nx.2.2.1 46 rfl).trans F46
          replace F47 := (Nx.2.2.1 47 rfl).trans F47
          replace F48 := (Nx.2.2.1 48 rfl).trans F48
          replace F49 := (Nx.2.2.1 49 rfl).trans F49
          replace F50 := (Nx.2.2.1 50 rfl).trans F50
          replace F51 := (Nx.2.2.1 51 rfl).trans F51
          replace F53 := (Nx.2.2.1 53 rfl).trans F53
          replace F54 := (Nx.2.2.1 54 rfl).trans F54
          replace F55 := (Nx.2.2.1 55 rfl).trans F55
          replace F56 := (Nx.2.2.1 56 rfl).trans F56
          replace F57 := (Nx.2.2.1 57 rfl).trans F57
          replace F58 := (Nx.2.2.1 58 rfl).trans F58
          replace F59 := (Nx.2.2.1 59 rfl).trans F59
          replace F60 := (Nx.2.2.1 60 rfl).trans F60
          replace F61 := (Nx.2.2.1 61 rfl).trans F61
          replace F62 := (Nx.2.2.1 62 rfl).trans F62
          replace F63 := (Nx.2.2.1 63 rfl).trans F63
          replace F64 := (Nx.2.2.1 64 rfl).trans F64
          replace F65 := (Nx.2.2.1 65 rfl).trans F65
          replace F66 := (Nx.2.2.1 66 rfl).trans F66
          replace F69 := (Nx.2.2.1 69 rfl).trans F69
          replace F83 := (Nx.2.2.1 83 rfl).trans F83
          have F70 := Nx.2.1
          replace D := Nx.2.2.2.trans D
          clear Z Nx
          have Z := Zn
          clear Zn af3
          refine' dqo_pure (d := 71) (by rfl) (by rfl) Z (by rfl) (wanted_yes (by rfl) (by rfl) F69) ?hv17 ?rest17
          case hv17 => (intro ρ hρ; have E70 := (hρ.1 70).trans F70; have Ec := hρ.2.1; have Ef := hρ.2.2.1; clear hρ; intro w hw; (try dsimp only at hw); go_split_ands; go_simp; try with_reducible rfl)
          case' rest17 => intro af5 Zn Nx
          replace F0 := (Nx.2.2.1 0 rfl).trans F0
          replace F1 := (Nx.2.2.1 1 rfl).trans F1
          replace F2 := (Nx.2.2.1 2 rfl).trans F2
          replace F3 := (Nx.2.2.1 3 rfl).trans F3
          replace F4 := (Nx.2.2.1 4 rfl).trans F4
          replace F5 := (Nx.2.2.1 5 rfl).trans F5
          replace F6 := (Nx.2.2.1 6 rfl).trans F6
          replace F7 := (Nx.2.2.1 7 rfl).trans F7
          replace F8 := (Nx.2.2.1 8 rfl).trans F8
          replace F9 := (Nx.2.2.1 9 rfl).trans F9
          replace F10 := (Nx.2.2.1 10 rfl).trans F10
          replace F11 := (Nx.2.2.1 11 rfl).trans F11
          replace F12 := (Nx.2.2.1 12 rfl).trans F12
          replace F13 := (Nx.2.2.1 13 rfl).trans F13
          replace F14 := (Nx.2.2.1 14 rfl).trans F14
          replace F15 := (Nx.2.2.1 15 rfl).trans F15
          replace F16 := (Nx.2.2.1 16 rfl).trans F16
          replace F17 := (Nx.2.2.1 17 rfl).trans F17
          replace F18 := (Nx.2.2.1 18 rfl).trans F18
          replace F19 := (Nx.2.2.1 19 rfl).trans F19
          replace F20 := (Nx.2.2.1 20 rfl).trans F20
          replace F21 := (Nx.2.2.1 21 rfl).trans F21
          replace F22 := (Nx.2.2.1 22 rfl).trans F22
          replace F23 := (Nx.2.2.1 23 rfl).trans F23
          replace F24 := (Nx.2.2.1 24 rfl).trans F24
          replace F25 := (Nx.2.2.1 25 rfl).trans F25
          replace F26 := (Nx.2.2.1 26 rfl).trans F26
          replace F27 := (Nx.2.2.1 27 rfl).trans F27
          replace F28 := (Nx.2.2.1 28 rfl).trans F28
          replace F29 := (Nx.2.2.1 29 rfl).trans F29
          replace F30 := (Nx.2.2.1 30 rfl).trans F30
          replace F31 := (Nx.2.2.1 31 rfl).trans F31
          replace F32 := (Nx.2.2.1 32 rfl).trans F32
          replace F33 := (Nx.2.2.1 33 rfl).trans F33
          replace F34 := (Nx.2.2.1 34 rfl).trans F34
          replace F35 := (Nx.2.2.1 35 rfl).trans F35
          replace F36 := (Nx.2.2.1 36 rfl).trans F36
          replace F37 := (Nx.2.2.1 37 rfl).trans F37
          replace F38 := (Nx.2.2.1 38 rfl).trans F38
          replace F39 := (Nx.2.2.1 39 rfl).trans F39
          replace F40 := (Nx.2.2.1 40 rfl).trans F40
          replace F41 := (Nx.2.2.1 41 rfl).trans F41
          replace F42 := (Nx.2.2.1 42 rfl).trans F42
          replace F43 := (Nx.2.2.1 43 rfl).trans F43
          replace F44 := (Nx.2.2.1 44 rfl).trans F44
          replace F45 := (Nx.2.2.1 45 rfl).trans F45
          replace F46 := (Nx.2.2.1 46 rfl).trans F46
          replace F47 := (Nx.2.2.1 47 rfl).trans F47
          replace F48 := (Nx.2.2.1 48 rfl).trans F48
          replace F49 := (Nx.2.2.1 49 rfl).trans F49
          replace F50 := (Nx.2.2.1 50 rfl).trans F50
          replace F51 := (Nx.2.2.1 51 rfl).trans F51
          replace F53 := (Nx.2.2.1 53 rfl).trans F53
          replace F54 := (Nx.2.2.1 54 rfl).trans F54
          replace F55 := (Nx.2.2.1 55 rfl).trans F55
          replace F56 := (Nx.2.2.1 56 rfl).trans F56
          replace F57 := (Nx.2.2.1 57 rfl).trans F57
          replace F58 := (Nx.2.2.1 58 rfl).trans F58
          replace F59 := (Nx.2.2.1 59 rfl).trans F59
          replace F60 := (Nx.2.2.1 60 rfl).trans F60
          replace F61 := (Nx.2.2.1 61 rfl).trans F61
          replace F62 := (Nx.2.2.1 62 rfl).trans F62
          replace F63 := (Nx.2.2.1 63 rfl).trans F63
          replace F64 := (Nx.2.2.1 64 rfl).trans F64
          replace F65 := (Nx.2.2.1 65 rfl).trans F65
          replace F66 := (Nx.2.2.1 66 rfl).trans F66
          replace F69 := (Nx.2.2.1 69 rfl).trans F69
          clear F70
          replace F83 := (Nx.2.2.1 83 rfl).trans F83
          have F71 := Nx.2.1
          replace D := Nx.2.2.2.trans D
          clear Z Nx
          have Z := Zn
          clear Zn af4
          refine' dqo_pure (d := 72) (by rfl) (by rfl) Z (by rfl) (wanted_yes (by rfl) (by rfl) F69) ?hv18 ?rest18
          case hv18 => (intro ρ hρ; have E10 := (hρ.1 10).trans F10; have Ec := hρ.2.1; have Ef := hρ.2.2.1; clear hρ; intro w hw; (try dsimp only at hw); go_split_ands; go_simp; try with_reducible rfl)
          case' rest18 => intro af6 Zn Nx
          replace F0 := (Nx.2.2.1 0 rfl).trans F0
          replace F1 := (Nx.2.2.1 1 rfl).trans F1
          replace F2 := (Nx.2.2.1 2 rfl).trans F2
          replace F3 := (Nx.2.2.1 3 rfl).trans F3
          replace F4 := (Nx.2.2.1 4 rfl).trans F4
          replace F5 := (Nx.2.2.1 5 rfl).trans F5
          replace F6 := (Nx.2.2.1 6 rfl).trans F6
          replace F7 := (Nx.2.2.1 7 rfl).trans F7
          replace F8 := (Nx.2.2.1 8 rfl).trans F8
          replace F9 := (Nx.2.2.1 9 rfl).trans F9
          replace F10 := (Nx.2.2.1 10 rfl).trans F10
          replace F11 := (Nx.2.2.1 11 rfl).trans F11
          replace F12 := (Nx.2.2.1 12 rfl).trans F12
          replace F13 := (Nx.2.2.1 13 rfl).trans F13
          replace F14 := (Nx.2.2.1 14 rfl).trans F14
          replace F15 := (Nx.2.2.1 15 rfl).trans F15
          replace F16 := (Nx.2.2.1 16 rfl).trans F16
          replace F17 := (Nx.2.2.1 17 rfl).trans F17
          replace F18 := (Nx.2.2.1 18 rfl).trans F18
          replace F19 := (Nx.2.2.1 19 rfl).trans F19
          replace F20 := (Nx.2.2.1 20 rfl).trans F20
          replace F21 := (Nx.2.2.1 21 rfl).trans F21
          replace F22 := (Nx.2.2.1 22 rfl).trans F22
          replace F23 := (Nx.2.2.1 23 rfl).trans F23
          replace F24 := (Nx.2.2.1 24 rfl).trans F24
          replace F25 := (Nx.2.2.1 25 rfl).trans F25
          replace F26 := (Nx.2.2.1 26 rfl).trans F26
          replace F27 := (Nx.2.2.1 27 rfl).trans F27
          replace F28 := (Nx.2.2.1 28 rfl).trans F28
          replace F29 := (Nx.2.2.1 29 rfl).trans F29
          replace F30 := (Nx.2.2.1 30 rfl).trans F30
          replace F31 := (Nx.2.2.1 31 rfl).trans F31
          replace F32 := (Nx.2.2.1 32 rfl).trans F32
          replace F33 := (Nx.2.2.1 33 rfl).trans F33
          replace F34 := (Nx.2.2.1 34 rfl).trans F34
          replace F35 := (Nx.2.2.1 35 rfl).trans F35
          replace F36 := (Nx.2.2.1 36 rfl).trans F36
          replace F37 := (Nx.2.2.1 37 rfl).trans F37
          replace F38 := (Nx.2.2.1 38 rfl).trans F38
          replace F39 := (Nx.2.2.1 39 rfl).trans F39
          replace F40 := (Nx.2.2.1 40 rfl).trans F40
          replace F41 := (Nx.2.2.1 41 rfl).trans F41
          replace F42 := (Nx.2.2.1 42 rfl).trans F42
          replace F43 := (Nx.2.2.1 43 rfl).trans F43
          replace F44 := (Nx.2.2.1 44 rfl).trans F44
          replace F45 := (Nx.2.2.1 45 rfl).trans F45
          replace F46 := (Nx.2.2.1 46 rfl).trans F46
          replace F47 := (Nx.2.2.1 47 rfl).trans F47
          replace F48 := (Nx.2.2.1 48 rfl).trans F48
          replace F49 := (Nx.2.2.1 49 rfl).trans F49
          replace F50 := (Nx.2.2.1 50 rfl).trans F50
          replace F51 := (Nx.2.2.1 51 rfl).trans F51
          replace F53 := (Nx.2.2.1 53 rfl).trans F53
          replace F54 := (Nx.2.2.1 54 rfl).trans F54
          replace F55 := (Nx.2.2.1 55 rfl).trans F55
          replace F56 := (Nx.2.2.1 56 rfl).trans F56
          replace F57 := (Nx.2.2.1 57 rfl).trans F57
          replace F58 := (Nx.2.2.1 58 rfl).trans F58
          replace F59 := (Nx.2.2.1 59 rfl).trans F59
          replace F60 := (Nx.2.2.1 60 rfl).trans F60
          replace F61 := (Nx.2.2.1 61 rfl).trans F61
          replace F62 := (Nx.2.2.1 62 rfl).trans F62
          replace F63 := (Nx.2.2.1 63 rfl).trans F63
          replace F64 := (Nx.2.2.1 64 rfl).trans F64
          replace F65 := (Nx.2.2.1 65 rfl).trans F65
          replace F66 := (Nx.2.2.1 66 rfl).trans F66
          replace F69 := (Nx.2.2.1 69 rfl).trans F69
          replace F71 := (Nx.2.2.1 71 rfl).trans F71
          replace F83 := (Nx.2.2.1 83 rfl).trans F83
          have F72 := Nx.2.1
          replace D := Nx.2.2.2.trans D
          clear Z Nx
          have Z := Zn
          clear Zn af5
          refine' dqo_pure (d := 73) (by rfl) (by rfl) Z (by rfl) (wanted_yes (by rfl) (by rfl) F69) ?hv19 ?rest19
          case hv19 => (intro ρ hρ; have E12 := (hρ.1 12).trans F12; have Ec := hρ.2.1; have Ef := hρ.2.2.1; clear hρ; intro w hw; (try dsimp only at hw); go_split_ands; go_simp; try with_reducible rfl)
          case' rest19 => intro af7 Zn Nx
          replace F0 := (Nx.2.2.1 0 rfl).trans F0
          replace F1 := (Nx.2.2.1 1 rfl).trans F1
          replace F2 := (Nx.2.2.1 2 rfl).trans F2
          replace F3 := (Nx.2.2.1 3 rfl).trans F3
          replace F4 := (Nx.2.2.1 4 rfl).trans F4
          replace F5 := (Nx.2.2.1 5 rfl).trans F5
          replace F6 := (Nx.2.2.1 6 rfl).trans F6
          replace F7 := (Nx.2.2.1 7 rfl).trans F7
          replace F8 := (Nx.2.2.1 8 rfl).trans F8
          replace F9 := (Nx.2.2.1 9 rfl).trans F9
          replace F10 := (Nx.2.2.1 10 rfl).trans F10
          replace F11 := (Nx.2.2.1 11 rfl).trans F11
          replace F12 := (Nx.2.2.1 12 rfl).trans F12
          replace F13 := (Nx.2.2.1 13 rfl).trans F13
          replace F14 := (Nx.2.2.1 14 rfl).trans F14
          replace F15 := (Nx.2.2.1 15 rfl).trans F15
          replace F16 := (Nx.2.2.1 16 rfl).trans F16
          replace F17 := (Nx.2.2.1 17 rfl).trans F17
          replace F18 := (Nx.2.2.1 18 rfl).trans F18
          replace F19 := (Nx.2.2.1 19 rfl).trans F19
          replace F20 := (Nx.2.2.1 20 rfl).trans F20
          replace F21 := (Nx.2.2.1 21 rfl).trans F21
          replace F22 := (Nx.2.2.1 22 rfl).trans F22
          replace F23 := (Nx.2.2.1 23 rfl).trans F23
          replace F24 := (Nx.2.2.1 24 rfl).trans F24
          replace F25 := (Nx.2.2.1 25 rfl).trans F25
          replace F26 := (Nx.2.2.1 26 rfl).trans F26
          replace F27 := (Nx.2.2.1 27 rfl).trans F27
          replace F28 := (Nx.2.2.1 28 rfl).trans F28
          replace F29 := (Nx.2.2.1 29 rfl).trans F29
          replace F30 := (Nx.2.2.1 30 rfl).trans F30
          replace F31 := (Nx.2.2.1 31 rfl).trans F31
          replace F32 := (Nx.2.2.1 32 rfl).trans F32
          replace F33 := (Nx.2.2.1 33 rfl).trans F33
          replace F34 := (Nx.2.2.1 34 rfl).trans F34
          replace F35 := (Nx.2.2.1 35 rfl).trans F35
          replace F36 := (Nx.2.2.1 36 rfl).trans F36
          replace F37 := (Nx.2.2.1 37 rfl).trans F37
          replace F38 := (Nx.2.2.1 38 rfl).trans F38
          replace F39 := (Nx.2.2.1 39 rfl).trans F39
          replace F40 := (Nx.2.2.1 40 rfl).trans F40
          replace F41 := (Nx.2.2.1 41 rfl).trans F41
          replace F42 := (Nx.2.2.1 42 rfl).trans F42
          replace F43 := (Nx.2.2.1 43 rfl).trans F43
          replace F44 := (Nx.2.2.1 44 rfl).trans F44
          replace F45 := (Nx.2.2.1 45 rfl).trans F45
          replace F46 := (Nx.2.2.1 46 rfl).trans F46
          replace F47 := (Nx.2.2.1 47 rfl).trans F47
          replace F48 := (Nx.2.2.1 48 rfl).trans F48
          replace F49 := (Nx.2.2.1 49 rfl).trans F49
          replace F50 := (Nx.2.2.1 50 rfl).trans F50
          replace F51 := (Nx.2.2.1 51 rfl).trans F51
          replace F53 := (Nx.2.2.1 53 rfl).trans F53
          replace F54 := (Nx.2.2.1 54 rfl).trans F54
          replace F55 := (Nx.2.2.1 55 rfl).trans F55
          replace F56 := (Nx.2.2.1 56 rfl).trans F56
          replace F57 := (Nx.2.2.1 57 rfl).trans F57
          replace F58 := (Nx.2.2.1 58 rfl).trans F58
          replace F59 := (Nx.2.2.1 59 rfl).trans F59
          replace F60 := (Nx.2.2.1 60 rfl).trans F60
          replace F61 := (Nx.2.2.1 61 rfl).trans F61
          replace F62 := (Nx.2.2.1 62 rfl).trans F62
          replace F63 := (Nx.2.2.1 63 rfl).trans F63
          replace F64 := (Nx.2.2.1 64 rfl).trans F64
          replace F65 := (Nx.2.2.1 65 rfl).trans F65
          replace F66 := (Nx.2.2.1 66 rfl).trans F66
          replace F69 := (Nx.2.2.1 69 rfl).trans F69
          replace F71 := (Nx.2.2.1 71 rfl).trans F71
          replace F72 := (Nx.2.2.1 72 rfl).trans F72
          replace F83 := (Nx.2.2.1 83 rfl).trans F83
          have F73 := Nx.2.1
          replace D := Nx.2.2.2.trans D
          clear Z Nx
          have Z := Zn
          clear Zn af6
          refine' dqo_pure (d := 74) (by rfl) (by rfl) Z (by rfl) (wanted_yes (by rfl) (by rfl) F69) ?hv20 ?rest20
          case hv20 => (intro ρ hρ; have E72 := (hρ.1 72).trans F72; have E73 := (hρ.1 73).trans F73; have Ec := hρ.2.1; have Ef := hρ.2.2.1; clear hρ; intro w hw; (try dsimp only at hw); go_split_ands; go_simp; try with_reducible rfl)
          case' rest20 => intro af8 Zn Nx
          replace F0 := (Nx.2.2.1 0 rfl).trans F0
          replace F1 := (Nx.2.2.1 1 rfl).trans F1
          replace F2 := (Nx.2.2.1 2 rfl).trans F2
          replace F3 := (Nx.2.2.1 3 rfl).trans F3
          replace F4 := (Nx.2.2.1 4 rfl).trans F4
          replace F5 := (Nx.2.2.1 5 rfl).trans F5
          replace F6 := (Nx.2.2.1 6 rfl).trans F6
          replace F7 := (Nx.2.2.1 7 rfl).trans F7
          replace F8 := (Nx.2.2.1 8 rfl).trans F8
          replace F9 := (Nx.2.2.1 9 rfl).trans F9
          replace F10 := (Nx.2.2.1 10 rfl).trans F10
          replace F11 := (Nx.2.2.1 11 rfl).trans F11
          replace F12 := (Nx.2.2.1 12 rfl).trans F12
          replace F13 := (Nx.2.2.1 13 rfl).trans F13
          replace F14 := (Nx.2.2.1 14 rfl).trans F14
          replace F15 := (Nx.2.2.1 15 rfl).trans F15
          replace F16 := (Nx.2.2.1 16 rfl).trans F16
          replace F17 := (Nx.2.2.1 17 rfl).trans F17
          replace F18 := (Nx.2.2.1 18 rfl).trans F18
          replace F19 := (Nx.2.2.1 19 rfl).trans F19
          replace F20 := (Nx.2.2.1 20 rfl).trans F20
          replace F21 := (Nx.2.2.1 21 rfl).trans F21
          replace F22 := (Nx.2.2.1 22 rfl).trans F22
          replace F23 := (Nx.2.2.1 23 rfl).trans F23
          replace F24 := (Nx.2.2.1 24 rfl).trans F24
          replace F25 := (Nx.2.2.1 25 rfl).trans F25
          replace F26 := (Nx.2.2.1 26 rfl).trans F26
          replace F27 := (Nx.2.2.1 27 rfl).trans F27
          replace F28 := (Nx.2.2.1 28 rfl).trans F28
          replace F29 := (Nx.2.2.1 29 rfl).trans F29
          replace F30 := (Nx.2.2.1 30 rfl).trans F30
          replace F31 := (Nx.2.2.1 31 rfl).trans F31
          replace F32 := (Nx.2.2.1 32 rfl).trans F32
          replace F33 := (Nx.2.2.1 33 rfl).trans F33
          replace F34 := (Nx.2.2.1 34 rfl).trans F34
          replace F35 := (Nx.2.2.1 35 rfl).trans F35
          replace F36 := (Nx.2.2.1 36 rfl).trans F36
          replace F37 := (Nx.2.2.1 37 rfl).trans F37
          replace F38 := (Nx.2.2.1 38 rfl).trans F38
          replace F39 := (Nx.2.2.1 39 rfl).trans F39
          replace F40 := (Nx.2.2.1 40 rfl).trans F40
          replace F41 := (Nx.2.2.1 41 rfl).trans F41
          replace F42 := (Nx.2.2.1 42 rfl).trans F42
          replace F43 := (Nx.2.2.1 43 rfl).trans F43
          replace F44 := (Nx.2.2.1 44 rfl).trans F44
          replace F45 := (Nx.2.2.1 45 rfl).trans F45
          replace F46 := (Nx.2.2.1 46 rfl).trans F46
          replace F47 := (Nx.2.2.1 47 rfl).trans F47
          replace F48 := (Nx.2.2.1 48 rfl).trans F48
          replace F49 := (Nx.2.2.1 49 rfl).trans F49
          replace F50 := (Nx.2.2.1 50 rfl).trans F50
          replace F51 := (Nx.2.2.1 51 rfl).trans F51
          replace F53 := (Nx.2.2.1 53 rfl).trans F53
          replace F54 := (Nx.2.2.1 54 rfl).trans F54
          replace F55 := (Nx.2.2.1 55 rfl).trans F55
          replace F56 := (Nx.2.2.1 56 rfl).trans F56
          replace F57 := (Nx.2.2.1 57 rfl).trans F57
          replace F58 := (Nx.2.2.1 58 rfl).trans F58
          replace F59 := (Nx.2.2.1 59 rfl).trans F59
          replace F60 := (Nx.2.2.1 60 rfl).trans F60
          replace F61 := (Nx.2.2.1 61 rfl).trans F61
          replace F62 := (Nx.2.2.1 62 rfl).trans F62
          replace F63 := (Nx.2.2.1 63 rfl).trans F63
          replace F64 := (Nx.2.2.1 64 rfl).trans F64
          replace F65 := (Nx.2.2.1 65 rfl).trans F65
          replace F66 := (Nx.2.2.1 66 rfl).trans F66
          replace F69 := (Nx.2.2.1 69 rfl).trans F69
          replace F71 := (Nx.2.2.1 71 rfl).trans F71
          clear F72
          clear F73
          replace F83 := (Nx.2.2.1 83 rfl).trans F83
          have F74 := Nx.2.1
          replace D := Nx.2.2.2.trans D
          clear Z Nx
          have Z := Zn
          clear Zn af7
          refine' dqo_pure (d := 75) (by rfl) (by rfl) Z (by rfl) (wanted_yes (by rfl) (by rfl) F69) ?hv21 ?rest21
          case hv21 => (intro ρ hρ; have E74 := (hρ.1 74).trans F74; have Ec := hρ.2.1; have Ef := hρ.2.2.1; clear hρ; intro w hw; (try dsimp only at hw); go_split_ands; go_simp; try with_reducible rfl)
          case' rest21 => intro af9 Zn Nx
          replace F0 := (Nx.2.2.1 0 rfl).trans F0
          replace F1 := (Nx.2.2.1 1 rfl).trans F1
          replace F2 := (Nx.2.2.1 2 rfl).trans F2
          replace F3 := (Nx.2.2.1 3 rfl).trans F3
          replace F4 := (Nx.2.2.1 4 rfl).trans F4
          replace F5 := (Nx.2.2.1 5 rfl).trans F5
          replace F6 := (Nx.2.2.1 6 rfl).trans F6
          replace F7 := (Nx.2.2.1 7 rfl).trans F7
          replace F8 := (Nx.2.2.1 8 rfl).trans F8
          replace F9 := (Nx.2.2.1 9 rfl).trans F9
          replace F10 := (Nx.2.2.1 10 rfl).trans F10
          replace F11 := (Nx.2.2.1 11 rfl).trans F11
          replace F12 := (Nx.2.2.1 12 rfl).trans F12
          replace F13 := (Nx.2.2.1 13 rfl).trans F13
          replace F14 := (Nx.2.2.1 14 rfl).trans F14
          replace F15 := (Nx.2.2.1 15 rfl).trans F15
          replace F16 := (Nx.2.2.1 16 rfl).trans F16
          replace F17 := (Nx.2.2.1 17 rfl).trans F17
          replace F18 := (Nx.2.2.1 18 rfl).trans F18
          replace F19 := (Nx.2.2.1 19 rfl).trans F19
          replace F20 := (Nx.2.2.1 20 rfl).trans F20
          replace F21 := (Nx.2.2.1 21 rfl).trans F21
          replace F22 := (Nx.2.2.1 22 rfl).trans F22
          replace F23 := (Nx.2.2.1 23 rfl).trans F23
          replace F24 := (Nx.2.2.1 24 rfl).trans F24
          replace F25 := (Nx.2.2.1 25 rfl).trans F25
          replace F26 := (Nx.2.2.1 26 rfl).trans F26
          replace F27 := (Nx.2.2.1 27 rfl).trans F27
          replace F28 := (Nx.2.2.1 28 rfl).trans F28
          replace F29 := (Nx.2.2.1 29 rfl).trans F29
          replace F30 := (Nx.2.2.1 30 rfl).trans F30
          replace F31 := (Nx.2.2.1 31 rfl).trans F31
          replace F32 := (Nx.2.2.1 32 rfl).trans F32
          replace F33 := (Nx.2.2.1 33 rfl).trans F33
          replace F34 := (Nx.2.2.1 34 rfl).trans F34
          replace F35 := (Nx.2.2.1 35 rfl).trans F35
          replace F36 := (Nx.2.2.1 36 rfl).trans F36
          replace F37 := (Nx.2.2.1 37 rfl).trans F37
          replace F38 := (Nx.2.2.1 38 rfl).trans F38
          replace F39 := (Nx.2.2.1 39 rfl).trans F39
          replace F40 := (Nx.2.2.1 40 rfl).trans F40
          replace F41 := (Nx.2.2.1 41 rfl).trans F41
          replace F42 := (Nx.2.2.1 42 rfl).trans F42
          replace F43 := (Nx.2.2.1 43 rfl).trans F43
          replace F44 := (Nx.2.2.1 44 rfl).trans F44
          replace F45 := (Nx.2.2.1 45 rfl).trans F45
          replace F46 := (Nx.2.2.1 46 rfl).trans F46
          replace F47 := (Nx.2.2.1 47 rfl).trans F47
          replace F48 := (Nx.2.2.1 48 rfl).trans F48
          replace F49 := (Nx.2.2.1 49 rfl).trans F49
          replace F50 := (Nx.2.2.1 50 rfl).trans F50
          replace F51 := (Nx.2.2.1 51 rfl).trans F51
          replace F53 := (Nx.2.2.1 53 rfl).trans F53
          replace F54 := (Nx.2.2.1 54 rfl).trans F54
          replace F55 := (Nx.2.2.1 55 rfl).trans F55
          replace F56 := (Nx.2.2.1 56 rfl).trans F56
          replace F57 := (Nx.2.2.1 57 rfl).trans F57
          replace F58 := (Nx.2.2.1 58 rfl).trans F58
          replace F59 := (Nx.2.2.1 59 rfl).trans F59
          replace F60 := (Nx.2.2.1 60 rfl).trans F60
          replace F61 := (Nx.2.2.1 61 rfl).trans F61
          replace F62 := (Nx.2.2.1 62 rfl).trans F62
          replace F63 := (Nx.2.2.1 63 rfl).trans F63
          replace F64 := (Nx.2.2.1 64 rfl).trans F64
          replace F65 := (Nx.2.2.1 65 rfl).trans F65
          replace F66 := (Nx.2.2.1 66 rfl).trans F66
          replace F69 := (Nx.2.2.1 69 rfl).trans F69
          replace F71 := (Nx.2.2.1 71 rfl).trans F71
          clear F74
          replace F83 := (Nx.2.2.1 83 rfl).trans F83
          have F75 := Nx.2.1
          replace D := Nx.2.2.2.trans D
          clear Z Nx
          have Z := Zn
          clear Zn af8
          refine' dqo_pure (d := 76) (by rfl) (by rfl) Z (by rfl) (wanted_yes (by rfl) (by rfl) F69) ?hv22 ?rest22
          case hv22 => (intro ρ hρ; have E11 := (hρ.1 11).trans F11; have Ec := hρ.2.1; have Ef := hρ.2.2.1; clear hρ; intro w hw; (try dsimp only at hw); go_split_ands; go_simp; try with_reducible rfl)
          case' rest22 => intro af10 Zn Nx
          replace F0 := (Nx.2.2.1 0 rfl).trans F0
          replace F1 := (Nx.2.2.1 1 rfl).trans F1
          replace F2 := (Nx.2.2.1 2 rfl).trans F2
          replace F3 := (Nx.2.2.1 3 rfl).trans F3
          replace F4 := (Nx.2.2.1 4 rfl).trans F4
          replace F5 := (Nx.2.2.1 5 rfl).trans F5
          replace F6 := (Nx.2.2.1 6 rfl).trans F6
          replace F7 := (Nx.2.2.1 7 rfl).trans F7
          replace F8 := (Nx.2.2.1 8 rfl).trans F8
          replace F9 := (Nx.2.2.1 9 rfl).trans F9
          replace F10 := (Nx.2.2.1 10 rfl).trans F10
          replace F11 := (Nx.2.2.1 11 rfl).trans F11
          replace F12 := (Nx.2.2.1 12 rfl).trans F12
          replace F13 := (Nx.2.2.1 13 rfl).trans F13
          replace F14 := (Nx.2.2.1 14 rfl).trans F14
          replace F15 := (Nx.2.2.1 15 rfl).trans F15
          replace F16 := (Nx.2.2.1 16 rfl).trans F16
          replace F17 := (Nx.2.2.1 17 rfl).trans F17
          replace F18 := (Nx.2.2.1 18 rfl).trans F18
          replace F19 := (Nx.2.2.1 19 rfl).trans F19
          replace F20 := (Nx.2.2.1 20 rfl).trans F20
          replace F21 := (Nx.2.2.1 21 rfl).trans F21
          replace F22 := (Nx.2.2.1 22 rfl).trans F22
          replace F23 := (Nx.2.2.1 23 rfl).trans F23
          replace F24 := (Nx.2.2.1 24 rfl).trans F24
          replace F25 := (Nx.2.2.1 25 rfl).trans F25
          replace F26 := (Nx.2.2.1 26 rfl).trans F26
          replace F27 := (Nx.2.2.1 27 rfl).trans F27
          replace F28 := (Nx.2.2.1 28 rfl).trans F28
          replace F29 := (Nx.2.2.1 29 rfl).trans F29
          replace F30 := (Nx.2.2.1 30 rfl).trans F30
          replace F31 := (Nx.2.2.1 31 rfl).trans F31
          replace F32 := (Nx.2.2.1 32 rfl).trans F32
          replace F33 := (Nx.2.2.1 33 rfl).trans F33
          replace F34 := (Nx.2.2.1 34 rfl).trans F34
          replace F35 := (Nx.2.2.1 35 rfl).trans F35
          replace F36 := (Nx.2.2.1 36 rfl).trans F36
          replace F37 := (Nx.2.2.1 37 rfl).trans F37
          replace F38 := (Nx.2.2.1 38 rfl).trans F38
          replace F39 := (Nx.2.2.1 39 rfl).trans F39
          replace F40 := (Nx.2.2.1 40 rfl).trans F40
          replace F41 := (Nx.2.2.1 41 rfl).trans F41
          replace F42 := (Nx.2.2.1 42 rfl).trans F42
          replace F43 := (Nx.2.2.1 43 rfl).trans F43
          replace F44 := (Nx.2.2.1 44 rfl).trans F44
          replace F45 := (Nx.2.2.1 45 rfl).trans F45
          replace F46 := (Nx.2.2.1 46 rfl).trans F46
          replace F47 := (Nx.2.2.1 47 rfl).trans F47
          replace F48 := (Nx.2.2.1 48 rfl).trans F48
          replace F49 := (Nx.2.2.1 49 rfl).trans F49
          replace F50 := (Nx.2.2.1 50 rfl).trans F50
          replace F51 := (Nx.2.2.1 51 rfl).trans F51
          replace F53 := (Nx.2.2.1 53 rfl).trans F53
          replace F54 := (Nx.2.2.1 54 rfl).trans F54
          replace F55 := (Nx.2.2.1 55 rfl).trans F55
          replace F56 := (Nx.2.2.1 56 rfl).trans F56
          replace F57 := (Nx.2.2.1 57 rfl).trans F57
          replace F58 := (Nx.2.2.1 58 rfl).trans F58
          replace F59 := (Nx.2.2.1 59 rfl).trans F59
          replace F60 := (Nx.2.2.1 60 rfl).trans F60
          replace F61 := (Nx.2.2.1 61 rfl).trans F61
          replace F62 := (Nx.2.2.1 62 rfl).trans F62
          replace F63 := (Nx.2.2.1 63 rfl).trans F63
          replace F64 := (Nx.2.2.1 64 rfl).trans F64
          replace F65 := (Nx.2.2.1 65 rfl).trans F65
          replace F66 := (Nx.2.2.1 66 rfl).trans F66
          replace F69 := (Nx.2.2.1 69 rfl).trans F69
          replace F71 := (Nx.2.2.1 71 rfl).trans F71
          replace F75 := (Nx.2.2.1 75 rfl).trans F75
          replace F83 := (Nx.2.2.1 83 rfl).trans F83
          have F76 := Nx.2.1
          replace D := Nx.2.2.2.trans D
          clear Z Nx
          have Z := Zn
          clear Zn af9
          refine' dqo_pure (d := 77) (by rfl) (by rfl) Z (by rfl) (wanted_yes (by rfl) (by rfl) F69) ?hv23 ?rest23
          case hv23 => (intro ρ hρ; have E12 := (hρ.1 12).trans F12; have Ec := hρ.2.1; have Ef := hρ.2.2.1; clear hρ; intro w hw; (try dsimp only at hw); go_split_ands; go_simp; try with_reducible rfl)
          case' rest23 => intro af11 Zn Nx
          replace F0 := (Nx.2.2.1 0 rfl).trans F0
          replace F1 := (Nx.2.2.1 1 rfl).trans F1
          replace F2 := (Nx.2.2.1 2 rfl).trans F2
          replace F3 := (Nx.2.2.1 3 rfl).trans F3
          replace F4 := (Nx.2.2.1 4 rfl).trans F4
          replace F5 := (Nx.2.2.1 5 rfl).trans F5
          replace F6 := (Nx.2.2.1 6 rfl).trans F6
          replace F7 := (Nx.2.2.1 7 rfl).trans F7
          replace F8 := (Nx.2.2.1 8 rfl).trans F8
          replace F9 := (Nx.2.2.1 9 rfl).trans F9
          replace F10 := (Nx.2.2.1 10 rfl).trans F10
          replace F11 := (Nx.2.2.1 11 rfl).trans F11
          replace F12 := (Nx.2.2.1 12 rfl).trans F12
          replace F13 := (Nx.2.2.1 13 rfl).trans F13
          replace F14 := (Nx.2.2.1 14 rfl).trans F14
          replace F15 := (Nx.2.2.1 15 rfl).trans F15
          replace F16 := (Nx.2.2.1 16 rfl).trans F16
          replace F17 := (Nx.2.2.1 17 rfl).trans F17
          replace F18 := (Nx.2.2.1 18 rfl).trans F18
          replace F19 := (Nx.2.2.1 19 rfl).trans F19
          replace F20 := (Nx.2.2.1 20 rfl).trans F20
          replace F21 := (Nx.2.2.1 21 rfl).trans F21
          replace F22 := (Nx.2.2.1 22 rfl).trans F22
          replace F23 := (Nx.2.2.1 23 rfl).trans F23
          replace F24 := (Nx.2.2.1 24 rfl).trans F24
          replace F25 := (Nx.2.2.1 25 rfl).trans F25
          replace F26 := (Nx.2.2.1 26 rfl).trans F26
          replace F27 := (Nx.2.2.1 27 rfl).trans F27
          replace F28 := (Nx.2.2.1 28 rfl).trans F28
          replace F29 := (Nx.2.2.1 29 rfl).trans F29
          replace F30 := (Nx.2.2.1 30 rfl).trans F30
          replace F31 := (Nx.2.2.1 31 rfl).trans F31
          replace F32 := (Nx.2.2.1 32 rfl).trans F32
          replace F33 := (Nx.2.2.1 33 rfl).trans F33
          replace F34 := (Nx.2.2.1 34 rfl).trans F34
          replace F35 := (Nx.2.2.1 35 rfl).trans F35
          replace F36 := (Nx.2.2.1 36 rfl).trans F36
          replace F37 := (Nx.2.2.1 37 rfl).trans F37
          replace F38 := (Nx.2.2.1 38 rfl).trans F38
          replace F39 := (Nx.2.2.1 39 rfl).trans F39
          replace F40 := (Nx.2.2.1 40 rfl).trans F40
          replace F41 := (Nx.2.2.1 41 rfl).trans F41
          replace F42 := (Nx.2.2.1 42 rfl).trans F42
          replace F43 := (Nx.2.2.1 43 rfl).trans F43
          replace F44 := (Nx.2.2.1 44 rfl).trans F44
          replace F45 := (Nx.2.2.1 45 rfl).trans F45
          replace F46 := (Nx.2.2.1 46 rfl).trans F46
          replace F47 := (Nx.2.2.1 47 rfl).trans F47
          replace F48 := (Nx.2.2.1 48 rfl).trans F48
          replace F49 := (Nx.2.2.1 49 rfl).trans F49
          replace F50 := (Nx.2.2.1 50 rfl).trans F50
          replace F51 := (Nx.2.2.1 51 rfl).trans F51
          replace F53 := (Nx.2.2.1 53 rfl).trans F53
          replace F54 := (Nx.2.2.1 54 rfl).trans F54
          replace F55 := (Nx.2.2.1 55 rfl).trans F55
          replace F56 := (Nx.2.2.1 56 rfl).trans F56
          replace F57 := (Nx.2.2.1 57 rfl).trans F57
          replace F58 := (Nx.2.2.1 58 rfl).trans F58
          replace F59 := (Nx.2.2.1 59 rfl).trans F59
          replace F60 := (Nx.2.2.1 60 rfl).trans F60
          replace F61 := (Nx.2.2.1 61 rfl).trans F61
          replace F62 := (Nx.2.2.1 62 rfl).trans F62
          replace F63 := (Nx.2.2.1 63 rfl).trans F63
          replace F64 := (Nx.2.2.1 64 rfl).trans F64
          replace F65 := (Nx.2.2.1 65 rfl).trans F65
          replace F66 := (Nx.2.2.1 66 rfl).trans F66
          replace F69 := (Nx.2.2.1 69 rfl).trans F69
          replace F71 := (Nx.2.2.1 71 rfl).trans F71
          replace F75 := (Nx.2.2.1 75 rfl).trans F75
          replace F76 := (Nx.2.2.1 76 rfl).trans F76
          replace F83 := (Nx.2.2.1 83 rfl).trans F83
          have F77 := Nx.2.1
          replace D := Nx.2.2.2.trans D
          clear Z Nx
          have Z := Zn
          clear Zn af10
          refine' dqo_pure (d := 78) (by rfl) (by rfl) Z (by rfl) (wanted_yes (by rfl) (by rfl) F69) ?hv24 ?rest24
          case hv24 => (intro ρ hρ; have E76 := (hρ.1 76).trans F76; have E77 := (hρ.1 77).trans F77; have Ec := hρ.2.1; have Ef := hρ.2.2.1; clear hρ; intro w hw; (try dsimp only at hw); go_split_ands; go_simp; try with_reducible rfl)
          case' rest24 => intro af12 Zn Nx
          replace F0 := (Nx.2.2.1 0 rfl).trans F0
          replace F1 := (Nx.2.2.1 1 rfl).trans F1
          replace F2 := (Nx.2.2.1 2 rfl).trans F2
          replace F3 := (Nx.2.2.1 3 rfl).trans F3
          replace F4 := (Nx.2.2.1 4 rfl).trans F4
          replace F5 := (Nx.2.2.1 5 rfl).trans F5
          replace F6 := (Nx.2.2.1 6 rfl).trans F6
          replace F7 := (Nx.2.2.1 7 rfl).trans F7
          replace F8 := (Nx.2.2.1 8 rfl).trans F8
          replace F9 := (Nx.2.2.1 9 rfl).trans F9
          replace F10 := (Nx.2.2.1 10 rfl).trans F10
          replace F11 := (Nx.2.2.1 11 rfl).trans F11
          replace F12 := (Nx.2.2.1 12 rfl).trans F12
          replace F13 := (Nx.2.2.1 13 rfl).trans F13
          replace F14 := (Nx.2.2.1 14 rfl).trans F14
          replace F15 := (Nx.2.2.1 15 rfl).trans F15
          replace F16 := (Nx.2.2.1 16 rfl).trans F16
          replace F17 := (Nx.2.2.1 17 rfl).trans F17
          replace F18 := (Nx.2.2.1 18 rfl).trans F18
          replace F19 := (Nx.2.2.1 19 rfl).trans F19
          replace F20 := (Nx.2.2.1 20 rfl).trans F20
          replace F21 := (Nx.2.2.1 21 rfl).trans F21
          replace F22 := (Nx.2.2.1 22 rfl).trans F22
          replace F23 := (Nx.2.2.1 23 rfl).trans F23
          replace F24 := (Nx.2.2.1 24 rfl).trans F24
          replace F25 := (Nx.2.2.1 25 rfl).trans F25
          replace F26 := (Nx.2.2.1 26 rfl).trans F26
          replace F27 := (Nx.2.2.1 27 rfl).trans F27
          replace F28 := (Nx.2.2.1 28 rfl).trans F28
          replace F29 := (Nx.2.2.1 29 rfl).trans F29
          replace F30 := (Nx.2.2.1 30 rfl).trans F30
          replace F31 := (Nx.2.2.1 31 rfl).trans F31
          replace F32 := (Nx.2.2.1 32 rfl).trans F32
          replace F33 := (Nx.2.2.1 33 rfl).trans F33
          replace F34 := (Nx.2.2.1 34 rfl).trans F34
          replace F35 := (Nx.2.2.1 35 rfl).trans F35
          replace F36 := (Nx.2.2.1 36 rfl).trans F36
          replace F37 := (Nx.2.2.1 37 rfl).trans F37
          replace F38 := (Nx.2.2.1 38 rfl).trans F38
          replace F39 := (Nx.2.2.1 39 rfl).trans F39
          replace F40 := (Nx.2.2.1 40 rfl).trans F40
          replace F41 := (Nx.2.2.1 41 rfl).trans F41
          replace F42 := (Nx.2.2.1 42 rfl).trans F42
          replace F43 := (Nx.2.2.1 43 rfl).trans F43
          replace F44 := (Nx.2.2.1 44 rfl).trans F44
          replace F45 := (Nx.2.2.1 45 rfl).trans F45
          replace F46 := (Nx.2.2.1 46 rfl).trans F46
          replace F47 := (Nx.2.2.1 47 rfl).trans F47
          replace F48 := (Nx.2.2.1 48 rfl).trans F48
          replace F49 := (Nx.2.2.1 49 rfl).trans F49
          replace F50 := (Nx.2.2.1 50 rfl).trans F50
          replace F51 := (Nx.2.2.1 51 rfl).trans F51
          replace F53 := (Nx.2.2.1 53 rfl).trans F53
          replace F54 := (Nx.2.2.1 54 rfl).trans F54
          replace F55 := (Nx.2.2.1 55 rfl).trans F55
          replace F56 := (Nx.2.2.1 56 rfl).trans F56
          replace F57 := (Nx.2.2.1 57 rfl).trans F57
          replace F58 := (Nx.2.2.1 58 rfl).trans F58
          replace F59 := (Nx.2.2.1 59 rfl).trans F59
          replace F60 := (Nx.2.2.1 60 rfl).trans F60
          replace F61 := (Nx.2.2.1 61 rfl).trans F61
          replace F62 := (Nx.2.2.1 62 rfl).trans F62
          replace F63 := (Nx.2.2.1 63 rfl).trans F63
          replace F64 := (Nx.2.2.1 64 rfl).trans F64
          replace F65 := (Nx.2.2.1 65 rfl).trans F65
          replace F66 := (Nx.2.2.1 66 rfl).trans F66
          replace F69 := (Nx.2.2.1 69 rfl).trans F69
          replace F71 := (Nx.2.2.1 71 rfl).trans F71
          replace F75 := (Nx.2.2.1 75 rfl).trans F75
          clear F76
          clear F77
          replace F83 := (Nx.2.2.1 83 rfl).trans F83
          have F78 := Nx.2.1
          replace D := Nx.2.2.2.trans D
          clear Z Nx
          have Z := Zn
          clear Zn af11
          refine' dqo_pure (d := 79) (by rfl) (by rfl) Z (by rfl) (wanted_yes (by rfl) (by rfl) F69) ?hv25 ?rest25
          case hv25 => (intro ρ hρ; have E78 := (hρ.1 78).trans F78; have Ec := hρ.2.1; have Ef := hρ.2.2.1; clear hρ; intro w hw; (try dsimp only at hw); go_split_ands; go_simp; try with_reducible rfl)
          case' rest25 => intro af13 Zn Nx
          replace F0 := (Nx.2.2.1 0 rfl).trans F0
          replace F1 := (Nx.2.2.1 1 rfl).trans F1
          replace F2 := (Nx.2.2.1 2 rfl).trans F2
          replace F3 := (Nx.2.2.1 3 rfl).trans F3
          replace F4 := (Nx.2.2.1 4 rfl).trans F4
          replace F5 := (Nx.2.2.1 5 rfl).trans F5
          replace F6 := (Nx.2.2.1 6 rfl).trans F6
          replace F7 := (Nx.2.2.1 7 rfl).trans F7
          replace F8 := (Nx.2.2.1 8 rfl).trans F8
          replace F9 := (Nx.2.2.1 9 rfl).trans F9
          replace F10 := (Nx.2.2.1 10 rfl).trans F10
          replace F11 := (Nx.2.2.1 11 rfl).trans F11
          replace F12 := (Nx.2.2.1 12 rfl).trans F12
          replace F13 := (Nx.2.2.1 13 rfl).trans F13
          replace F14 := (Nx.2.2.1 14 rfl).trans F14
          replace F15 := (Nx.2.2.1 15 rfl).trans F15
          replace F16 := (Nx.2.2.1 16 rfl).trans F16
          replace F17 := (Nx.2.2.1 17 rfl).trans F17
          replace F18 := (Nx.2.2.1 18 rfl).trans F18
          replace F19 := (Nx.2.2.1 19 rfl).trans F19
          replace F20 := (Nx.2.2.1 20 rfl).trans F20
          replace F21 := (Nx.2.2.1 21 rfl).trans F21
          replace F22 := (Nx.2.2.1 22 rfl).trans F22
          replace F23 := (Nx.2.2.1 23 rfl).trans F23
          replace F24 := (Nx.2.2.1 24 rfl).trans F24
          replace F25 := (Nx.2.2.1 25 rfl).trans F25
          replace F26 := (Nx.2.2.1 26 rfl).trans F26
          replace F27 := (Nx.2.2.1 27 rfl).trans F27
          replace F28 := (Nx.2.2.1 28 rfl).trans F28
          replace F29 := (Nx.2.2.1 29 rfl).trans F29
          replace F30 := (Nx.2.2.1 30 rfl).trans F30
          replace F31 := (Nx.2.2.1 31 rfl).trans F31
          replace F32 := (Nx.2.2.1 32 rfl).trans F32
          replace F33 := (Nx.2.2.1 33 rfl).trans F33
          replace F34 := (Nx.2.2.1 34 rfl).trans F34
          replace F35 := (Nx.2.2.1 35 rfl).trans F35
          replace F36 := (Nx.2.2.1 36 rfl).trans F36
          replace F37 := (Nx.2.2.1 37 rfl).trans F37
          replace F38 := (Nx.2.2.1 38 rfl).trans F38
          replace F39 := (Nx.2.2.1 39 rfl).trans F39
          replace F40 := (Nx.2.2.1 40 rfl).trans F40
          replace F41 := (Nx.2.2.1 41 rfl).trans F41
          replace F42 := (Nx.2.2.1 42 rfl).trans F42
          replace F43 := (Nx.2.2.1 43 rfl).trans F43
          replace F44 := (Nx.2.2.1 44 rfl).trans F44
          replace F45 := (Nx.2.2.1 45 rfl).trans F45
          replace F46 := (Nx.2.2.1 46 rfl).trans F46
          replace F47 := (Nx.2.2.1 47 rfl).trans F47
          replace F48 := (Nx.2.2.1 48 rfl).trans F48
          replace F49 := (Nx.2.2.1 49 rfl).trans F49
          replace F50 := (Nx.2.2.1 50 rfl).trans F50
          replace F51 := (Nx.2.2.1 51 rfl).trans F51
          replace F53 := (Nx.2.2.1 53 rfl).trans F53
          replace F54 := (Nx.2.2.1 54 rfl).trans F54
          replace F55 := (Nx.2.2.1 55 rfl).trans F55
          replace F56 := (Nx.2.2.1 56 rfl).trans F56
          replace F57 := (Nx.2.2.1 57 rfl).trans F57
          replace F58 := (Nx.2.2.1 58 rfl).trans F58
          replace F59 := (Nx.2.2.1 59 rfl).trans F59
          replace F60 := (Nx.2.2.1 60 rfl).trans F60
          replace F61 := (Nx.2.2.1 61 rfl).trans F61
          replace F62 := (Nx.2.2.1 62 rfl).trans F62
          replace F63 := (Nx.2.2.1 63 rfl).trans F63
          replace F64 := (Nx.2.2.1 64 rfl).trans F64
          replace F65 := (Nx.2.2.1 65 rfl).trans F65
          replace F66 := (Nx.2.2.1 66 rfl).trans F66
          replace F69 := (Nx.2.2.1 69 rfl).trans F69
          replace F71 := (Nx.2.2.1 71 rfl).trans F71
          replace F75 := (Nx.2.2.1 75 rfl).trans F75
          clear F78
          replace F83 := (Nx.2.2.1 83 rfl).trans F83
          have F79 := Nx.2.1
          replace D := Nx.2.2.2.trans D
          clear Z Nx
          have Z := Zn
          clear Zn af12
          refine' dqo_call (d := 80) (by rfl) (by rfl) Z (by rfl) (wanted_yes (by rfl) (by rfl) F69) ?hv26 ?hc26 ?rest26
          case hv26 => (intro ρ hρ; have E75 := (hρ.1 75).trans F75; have E79 := (hρ.1 79).trans F79; have Ec := hρ.2.1; have Ef := hρ.2.2.1; clear hρ; intro w; go_simp; exact ⟨rfl, rfl⟩)
          case hc26 => exact (fun w hw => calls_gt (K2 w hw.1))
          case' rest26 => intro af14 Zn Nx
          replace F0 := (Nx.2.2.1 0 rfl).trans F0
          replace F1 := (Nx.2.2.1 1 rfl).trans F1
          replace F2 := (Nx.2.2.1 2 rfl).trans F2
          replace F3 := (Nx.2.2.1 3 rfl).trans F3
          replace F4 := (Nx.2.2.1 4 rfl).trans F4
          replace F5 := (Nx.2.2.1 5 rfl).trans F5
          replace F6 := (Nx.2.2.1 6 rfl).trans F6
          replace F7 := (Nx.2.2.1 7 rfl).trans F7
          replace F8 := (Nx.2.2.1 8 rfl).trans F8
          replace F9 := (Nx.2.2.1 9 rfl).trans F9
          replace F10 := (Nx.2.2.1 10 rfl).trans F10
          replace F11 := (Nx.2.2.1 11 rfl).trans F11
          replace F12 := (Nx.2.2.1 12 rfl).trans F12
          replace F13 := (Nx.2.2.1 13 rfl).trans F13
          replace F14 := (Nx.2.2.1 14 rfl).trans F14
          replace F15 := (Nx.2.2.1 15 rfl).trans F15
          replace F16 := (Nx.2.2.1 16 rfl).trans F16
          replace F17 := (Nx.2.2.1 17 rfl).trans F17
          replace F18 := (Nx.2.2.1 18 rfl).trans F18
          replace F19 := (Nx.2.2.1 19 rfl).trans F19
          replace F20 := (Nx.2.2.1 20 rfl).trans F20
          replace F21 := (Nx.2.2.1 21 rfl).trans F21
          replace F22 := (Nx.2.2.1 22 rfl).trans F22
          replace F23 := (Nx.2.2.1 23 rfl).trans F23
          replace F24 := (Nx.2.2.1 24 rfl).trans F24
          replace F25 := (Nx.2.2.1 25 rfl).trans F25
          replace F26 := (Nx.2.2.1 26 rfl).trans F26
          replace F27 := (Nx.2.2.1 27 rfl).trans F27
          replace F28 := (Nx.2.2.1 28 rfl).trans F28
          replace F29 := (Nx.2.2.1 29 rfl).trans F29
          replace F30 := (Nx.2.2.1 30 rfl).trans F30
          replace F31 := (Nx.2.2.1 31 rfl).trans F31
          replace F32 := (Nx.2.2.1 32 rfl).trans F32
          replace F33 := (Nx.2.2.1 33 rfl).trans F33
          replace F34 := (Nx.2.2.1 34 rfl).trans F34
          replace F35 := (Nx.2.2.1 35 rfl).trans F35
          replace F36 := (Nx.2.2.1 36 rfl).trans F36
          replace F37 := (Nx.2.2.1 37 rfl).trans F37
          replace F38 := (Nx.2.2.1 38 rfl).trans F38
          replace F39 := (Nx.2.2.1 39 rfl).trans F39
          replace F40 := (Nx.2.2.1 40 rfl).trans F40
          replace F41 := (Nx.2.2.1 41 rfl).trans F41
          replace F42 := (Nx.2.2.1 42 rfl).trans F42
          replace F43 := (Nx.2.2.1 43 rfl).trans F43
          replace F44 := (Nx.2.2.1 44 rfl).trans F44
          replace F45 := (Nx.2.2.1 45 rfl).trans F45
          replace F46 := (Nx.2.2.1 46 rfl).trans F46
          replace F47 := (Nx.2.2.1 47 rfl).trans F47
          replace F48 := (Nx.2.2.1 48 rfl).trans F48
          replace F49 := (Nx.2.2.1 49 rfl).trans F49
          replace F50 := (Nx.2.2.1 50 rfl).trans F50
          replace F51 := (Nx.2.2.1 51 rfl).trans F51
          replace F53 := (Nx.2.2.1 53 rfl).trans F53
          replace F54 := (Nx.2.2.1 54 rfl).trans F54
          replace F55 := (Nx.2.2.1 55 rfl).trans F55
          replace F56 := (Nx.2.2.1 56 rfl).trans F56
          replace F57 := (Nx.2.2.1 57 rfl).trans F57
          replace F58 := (Nx.2.2.1 58 rfl).trans F58
          replace F59 := (Nx.2.2.1 59 rfl).trans F59
          replace F60 := (Nx.2.2.1 60 rfl).trans F60
          replace F61 := (Nx.2.2.1 61 rfl).trans F61
          replace F62 := (Nx.2.2.1 62 rfl).trans F62
          replace F63 := (Nx.2.2.1 63 rfl).trans F63
          replace F64 := (Nx.2.2.1 64 rfl).trans F64
          replace F65 := (Nx.2.2.1 65 rfl).trans F65
          replace F66 := (Nx.2.2.1 66 rfl).trans F66
          replace F69 := (Nx.2.2.1 69 rfl).trans F69
          replace F71 := (Nx.2.2.1 71 rfl).trans F71
          clear F75
          clear F79
          replace F83 := (Nx.2.2.1 83 rfl).trans F83
          have F80 := Nx.2.1
          replace D := Nx.2.2.2.trans D
          clear Z Nx
          have Z := Zn
          clear Zn af13
          refine' dqo_pure (d := 81) (by rfl) (by rfl) Z (by rfl) (wanted_yes (by rfl) (by rfl) F69) ?hv27 ?rest27
          case hv27 => (intro ρ hρ; have E71 := (hρ.1 71).trans F71; have E80 := (hρ.1 80).trans F80; have Ec := hρ.2.1; have Ef := hρ.2.2.1; clear hρ; intro w hw; (try dsimp only at hw); go_split_ands; go_simp; try with_reducible rfl)
          case' rest27 => intro af15 Zn Nx
          replace F0 := (Nx.2.2.1 0 rfl).trans F0
          replace F1 := (Nx.2.2.1 1 rfl).trans F1
          replace F2 := (Nx.2.2.1 2 rfl).trans F2
          replace F3 := (Nx.2.2.1 3 rfl).trans F3
          replace F4 := (Nx.2.2.1 4 rfl).trans F4
          replace F5 := (Nx.2.2.1 5 rfl).trans F5
          replace F6 := (Nx.2.2.1 6 rfl).trans F6
          replace F7 := (Nx.2.2.1 7 rfl).trans F7
          replace F8 := (Nx.2.2.1 8 rfl).trans F8
          replace F9 := (Nx.2.2.1 9 rfl).trans F9
          replace F10 := (Nx.2.2.1 10 rfl).trans F10
          replace F11 := (Nx.2.2.1 11 rfl).trans F11
          replace F12 := (Nx.2.2.1 12 rfl).trans F12
          replace F13 := (Nx.2.2.1 13 rfl).trans F13
          replace F14 := (Nx.2.2.1 14 rfl).trans F14
          replace F15 := (Nx.2.2.1 15 rfl).trans F15
          replace F16 := (Nx.2.2.1 16 rfl).trans F16
          replace F17 := (Nx.2.2.1 17 rfl).trans F17
          replace F18 := (Nx.2.2.1 18 rfl).trans F18
          replace F19 := (Nx.2.2.1 19 rfl).trans F19
          replace F20 := (Nx.2.2.1 20 rfl).trans F20
          replace F21 := (Nx.2.2.1 21 rfl).trans F21
          replace F22 := (Nx.2.2.1 22 rfl).trans F22
          replace F23 := (Nx.2.2.1 23 rfl).trans F23
          replace F24 := (Nx.2.2.1 24 rfl).trans F24
          replace F25 := (Nx.2.2.1 25 rfl).trans F25
          replace F26 := (Nx.2.2.1 26 rfl).trans F26
          replace F27 := (Nx.2.2.1 27 rfl).trans F27
          replace F28 := (Nx.2.2.1 28 rfl).trans F28
          replace F29 := (Nx.2.2.1 29 rfl).trans F29
          replace F30 := (Nx.2.2.1 30 rfl).trans F30
          replace F31 := (Nx.2.2.1 31 rfl).trans F31
          replace F32 := (Nx.2.2.1 32 rfl).trans F32
          replace F33 := (Nx.2.2.1 33 rfl).trans F33
          replace F34 := (Nx.2.2.1 34 rfl).trans F34
          replace F35 := (Nx.2.2.1 35 rfl).trans F35
          replace F36 := (Nx.2.2.1 36 rfl).trans F36
          replace F37 := (Nx.2.2.1 37 rfl).trans F37
          replace F38 := (Nx.2.2.1 38 rfl).trans F38
          replace F39 := (Nx.2.2.1 39 rfl).trans F39
          replace F40 := (Nx.2.2.1 40 rfl).trans F40
          replace F41 := (Nx.2.2.1 41 rfl).trans F41
          replace F42 := (Nx.2.2.1 42 rfl).trans F42
          replace F43 := (Nx.2.2.1 43 rfl).trans F43
          replace F44 := (Nx.2.2.1 44 rfl).trans F44
          replace F45 := (Nx.2.2.1 45 rfl).trans F45
          replace F46 := (Nx.2.2.1 46 rfl).trans F46
          replace F47 := (Nx.2.2.1 47 rfl).trans F47
          replace F48 := (Nx.2.2.1 48 rfl).trans F48
          replace F49 := (Nx.2.2.1 49 rfl).trans F49
          replace F50 := (Nx.2.2.1 50 rfl).trans F50
          replace F51 := (Nx.2.2.1 51 rfl).trans F51
          replace F53 := (Nx.2.2.1 53 rfl).trans F53
          replace F54 := (Nx.2.2.1 54 rfl).trans F54
          replace F55 := (Nx.2.2.1 55 rfl).trans F55
          replace F56 := (Nx.2.2.1 56 rfl).trans F56
          replace F57 := (Nx.2.2.1 57 rfl).trans F57
          replace F58 := (Nx.2.2.1 58 rfl).trans F58
          replace F59 := (Nx.2.2.1 59 rfl).trans F59
          replace F60 := (Nx.2.2.1 60 rfl).trans F60
          replace F61 := (Nx.2.2.1 61 rfl).trans F61
          replace F62 := (Nx.2.2.1 62 rfl).trans F62
          replace F63 := (Nx.2.2.1 63 rfl).trans F63
          replace F64 := (Nx.2.2.1 64 rfl).trans F64
          replace F65 := (Nx.2.2.1 65 rfl).trans F65
          replace F66 := (Nx.2.2.1 66 rfl).trans F66
          replace F69 := (Nx.2.2.1 69 rfl).trans F69
          clear F71
          clear F80
          replace F83 := (Nx.2.2.1 83 rfl).trans F83
          have F81 := Nx.2.1
          replace D := Nx.2.2.2.trans D
          clear Z Nx
          have Z := Zn
          clear Zn af14
          refine' dqo_pure (d := 82) (by rfl) (by rfl) Z (by rfl) (wanted_not (by rfl)) ?hv28 ?rest28
          case hv28 => (intro ρ hρ; have E69 := (hρ.1 69).trans F69; have E81 := (hρ.1 81).trans F81; have Ec := hρ.2.1; have Ef := hρ.2.2.1; clear hρ; intro w hw; (try dsimp only at hw); go_split_ands; go_simp; try with_reducible rfl)
          case' rest28 => intro af16 Zn Nx
          replace F0 := (Nx.2.2.1 0 rfl).trans F0
          replace F1 := (Nx.2.2.1 1 rfl).trans F1
          replace F2 := (Nx.2.2.1 2 rfl).trans F2
          replace F3 := (Nx.2.2.1 3 rfl).trans F3
          replace F4 := (Nx.2.2.1 4 rfl).trans F4
          replace F5 := (Nx.2.2.1 5 rfl).trans F5
          replace F6 := (Nx.2.2.1 6 rfl).trans F6
          replace F7 := (Nx.2.2.1 7 rfl).trans F7
          replace F8 := (Nx.2.2.1 8 rfl).trans F8
          replace F9 := (Nx.2.2.1 9 rfl).trans F9
          replace F10 := (Nx.2.2.1 10 rfl).trans F10
          replace F11 := (Nx.2.2.1 11 rfl).trans F11
          replace F12 := (Nx.2.2.1 12 rfl).trans F12
          replace F13 := (Nx.2.2.1 13 rfl).trans F13
          replace F14 := (Nx.2.2.1 14 rfl).trans F14
          replace F15 := (Nx.2.2.1 15 rfl).trans F15
          replace F16 := (Nx.2.2.1 16 rfl).trans F16
          replace F17 := (Nx.2.2.1 17 rfl).trans F17
          replace F18 := (Nx.2.2.1 18 rfl).trans F18
          replace F19 := (Nx.2.2.1 19 rfl).trans F19
          replace F20 := (Nx.2.2.1 20 rfl).trans F20
          replace F21 := (Nx.2.2.1 21 rfl).trans F21
          replace F22 := (Nx.2.2.1 22 rfl).trans F22
          replace F23 := (Nx.2.2.1 23 rfl).trans F23
          replace F24 := (Nx.2.2.1 24 rfl).trans F24
          replace F25 := (Nx.2.2.1 25 rfl).trans F25
          replace F26 := (Nx.2.2.1 26 rfl).trans F26
          replace F27 := (Nx.2.2.1 27 rfl).trans F27
          replace F28 := (Nx.2.2.1 28 rfl).trans F28
          replace F29 := (Nx.2.2.1 29 rfl).trans F29
          replace F30 := (Nx.2.2.1 30 rfl).trans F30
          replace F31 := (Nx.2.2.1 31 rfl).trans F31
          replace F32 := (Nx.2.2.1 32 rfl).trans F32
          replace F33 := (Nx.2.2.1 33 rfl).trans F33
          replace F34 := (Nx.2.2.1 34 rfl).trans F34
          replace F35 := (Nx.2.2.1 35 rfl).trans F35
          replace F36 := (Nx.2.2.1 36 rfl).trans F36
          replace F37 := (Nx.2.2.1 37 rfl).trans F37
          replace F38 := (Nx.2.2.1 38 rfl).trans F38
          replace F39 := (Nx.2.2.1 39 rfl).trans F39
          replace F40 := (Nx.2.2.1 40 rfl).trans F40
          replace F41 := (Nx.2.2.1 41 rfl).trans F41
          replace F42 := (Nx.2.2.1 42 rfl).trans F42
          replace F43 := (Nx.2.2.1 43 rfl).trans F43
          replace F44 := (Nx.2.2.1 44 rfl).trans F44
          replace F45 := (Nx.2.2.1 45 rfl).trans F45
          replace F46 := (Nx.2.2.1 46 rfl).trans F46
          replace F47 := (Nx.2.2.1 47 rfl).trans F47
          replace F48 := (Nx.2.2.1 48 rfl).trans F48
          replace F49 := (Nx.2.2.1 49 rfl).trans F49
          replace F50 := (Nx.2.2.1 50 rfl).trans F50
          replace F51 := (Nx.2.2.1 51 rfl).trans F51
          replace F53 := (Nx.2.2.1 53 rfl).trans F53
          replace F54 := (Nx.2.2.1 54 rfl).trans F54
          replace F55 := (Nx.2.2.1 55 rfl).trans F55
          replace F56 := (Nx.2.2.1 56 rfl).trans F56
          replace F57 := (Nx.2.2.1 57 rfl).trans F57
          replace F58 := (Nx.2.2.1 58 rfl).trans F58
          replace F59 := (Nx.2.2.1 59 rfl).trans F59
          replace F60 := (Nx.2.2.1 60 rfl).trans F60
          replace F61 := (Nx.2.2.1 61 rfl).trans F61
          replace F62 := (Nx.2.2.1 62 rfl).trans F62
          replace F63 := (Nx.2.2.1 63 rfl).trans F63
          replace F64 := (Nx.2.2.1 64 rfl).trans F64
          replace F65 := (Nx.2.2.1 65 rfl).trans F65
          replace F66 := (Nx.2.2.1 66 rfl).trans F66
          clear F69
          clear F81
          replace F83 := (Nx.2.2.1 83 rfl).trans F83
          have F82 := Nx.2.1
          replace D := Nx.2.2.2.trans D
          clear Z Nx
          have Z := Zn
          clear Zn af15
          refine dq_nil ?_
          refine fa_nil ?_
          rintro W ⟨⟨hb0, hn0, ⟨B1, B1c, B1f, B1l⟩, ⟨B2, B2c, B2f, B2l⟩⟩, hgl⟩ hbs
          clear hbs hgl
          obtain ⟨ρ, hρ⟩ := rho_of af16
          have hL := act_lit (l := [_, _, _, _, _, _, _, _, _, _, _, _, _, _, _, _, _, _, _, _, _, _, _, _, _, _, _, _, _, _, _, _, _, _, _, _, _, _, _, _, _, _, _, _, _, _, _, _, _, _, _, _, ρ (.tmp 52), _, _, _, _, _, _, _, _, _, _, _, _, _, _, ρ (.tmp 67), ρ (.tmp 68), ρ (.tmp 69), ρ (.tmp 70), ρ (.tmp 71), ρ (.tmp 72), ρ (.tmp 73), ρ (.tmp 74), ρ (.tmp 75), ρ (.tmp 76), ρ (.tmp 77), ρ (.tmp 78), ρ (.tmp 79), ρ (.tmp 80), ρ (.tmp 81), _, _]) Z D (by rfl) ⟨F0, F1, F2, F3, F4, F5, F6, F7, F8, F9, F10, F11, F12, F13, F14, F15, F16, F17, F18, F19, F20, F21, F22, F23, F24, F25, F26, F27, F28, F29, F30, F31, F32, F33, F34, F35, F36, F37, F38, F39, F40, F41, F42, F43, F44, F45, F46, F47, F48, F49, F50, F51, hρ 52, F53, F54, F55, F56, F57, F58, F59, F60, F61, F62, F63, F64, F65, F66, hρ 67, hρ 68, hρ 69, hρ 70, hρ 71, hρ 72, hρ 73, hρ 74, hρ 75, hρ 76, hρ 77, hρ 78, hρ 79, hρ 80, hρ 81, F82, F83, trivial⟩
          clear hρ Z D F0 F1 F2 F3 F4 F5 F6 F7 F8 F9 F10 F11 F12 F13 F14 F15 F16 F17 F18 F19 F20 F21 F22 F23 F24 F25 F26 F27 F28 F29 F30 F31 F32 F33 F34 F35 F36 F37 F38 F39 F40 F41 F42 F43 F44 F45 F46 F47 F48 F49 F50 F51 F53 F54 F55 F56 F57 F58 F59 F60 F61 F62 F63 F64 F65 F66 F82 F83
          subst hL
          simp only [List.drop_succ_cons, List.drop_zero]
          clear K2 pka pke
          (repeat' (first | go_values | go_skip | go_guarded | go_step | go_upon | (simp only [Int.not_lt, Int.not_le] at *; go_simp) | (go_values <;> (try go_simp)) | (go_ite <;> go_prune <;> (try go_simp)) | (split <;> (first | (rename_i hx; exact (hx _ rfl).elim) | go_prune))))
          go_roundw
          case rel => exact rl3 ii hi3 B1 B2 hB5 hb0
          case measure => exact ms3 ii hi3
        · have hbw0 : Below w.heap.size w wr := hb5.trans (hB5.mono hb5.size)
          have hi4 : 3 ≤ ii := by omega
          (repeat' (first | (go_big_may; (first | (go_at_call 32; refine (known15_any _).mono ?_; rintro e w' ⟨rfl, hbw⟩; have hsz := hbw.size; (try simp only [World.size_alloc, World.size_setCell, World.size_drew] at hsz)))) | go_values | go_skip | go_guarded | go_step | go_upon | (simp only [Int.not_lt, Int.not_le] at *; go_simp) | (go_values <;> (try go_simp)) | (go_ite <;> go_prune <;> (try go_simp)) | (split <;> (first | (rename_i hx; exact (hx _ rfl).elim) | go_prune))))
          refine bodyPost_ret (v := .bool true) ?_ rfl ⟨rfl, by (repeat' (first | (with_reducible assumption) | (with_reducible exact Below.refl _ _) | (with_reducible refine Below.alloc ?_ ?_ _) | (with_reducible refine Below.setCell ?_ ?_ _) | (with_reducible refine Below.drew ?_) | (with_reducible refine below_more ?_ (by with_reducible assumption)) | go_size | omega | (with_reducible refine below_drewN ?_)))⟩
          simp [results, Try.results9, go_sem]

theorem walk (w : World) (s0 : Option Addr) (l0 c0 : Nat) (z0 : List Int) (h0 : SlZ w .i64 (.slice s0 l0 c0) z0) (a1 : Int) (h1 : I64 a1) (s2 : Option Addr) (l2 c2 : Nat) (z2 : List Int) (h2 : SlZ w .i64 (.slice s2 l2 c2) z2) :
    Calls Try.prog 9 #[.slice s0 l0 c0, .int .i64 a1, .slice s2 l2 c2] w fun e w' => e = .returned (.bool true) ∧ Below w.heap.size w w' := by
  by_cases h : l0 ≤ 200
  · exact walk_lo w s0 l0 c0 z0 h0 a1 h1 s2 l2 c2 z2 h2 h
  · exact walk_hi w s0 l0 c0 z0 h0 a1 h1 s2 l2 c2 z2 h2 (by omega)

/-! ### The row -/
set_option maxRecDepth 100000 in
theorem lifted (os : Os) (started : os.Started) (H : Type) (enc : TypeId × Value → H) :
    ReturnsInHanded {} Try.checked os 9 .any (Rows.midLeastSpec.pre6 enc Try.prog Try.f9 Rows.midLeastRow.domain false) (Rows.midLeastSpec.post enc Try.prog Try.f9 false true false false) := by
  refine returnsInHanded_of_change_sized (C := Try.checked) own started (by kernel_rfl) Try.func9
    (ChangeSpec.witness6 (enc := enc) (C := Try.checked) false ⟨#[], #[.slice none 0 0, .int .i64 0, .slice none 0 0], []⟩ 8 (by kernel_rfl) (by kernel_rfl) (by kernel_rfl) (by kernel_rfl)) ?_
  intro W base args ds gs before hval0 hW hcnd hsz _
  have hval : ∀ (j : Nat) t v, Try.f9.params[j]? = some t → args[j]? = some v → Value.okWide Try.prog W .any base t v := hval0
  have hW' := hW
  obtain ⟨p, q, hA0, hV, rfl, hfz, hnd⟩ := hW
  have hA : DataW.TrodAll enc Try.prog W 0 (fun _ => true) true Try.f9.params.toList args.toList ds p := hA0
  rw [Try.params9] at hA hval
  obtain ⟨v0, vs0, d0, ds0, p0, q0, hargs, rfl, rfl, g0, r0⟩ := trodAll_cons hA
  obtain ⟨v1, vs1, d1, ds1, p1, q1, rfl, rfl, rfl, g1, r1⟩ := trodAll_cons r0
  obtain ⟨v2, vs2, d2, ds2, p2, q2, rfl, rfl, rfl, g2, r2⟩ := trodAll_cons r1
  obtain ⟨rfl, rfl, rfl⟩ := trodAll_nil r2
  obtain rfl : args = #[v0, v1, v2] := by cases args; simp_all
  obtain ⟨rfl, rfl⟩ := trodVars_none hV
  have hlt : ∀ x ∈ (p0 ++ (p1 ++ (p2 ++ []))) ++ [], x.block < W.heap.size := fun x hx => hW'.lt x hx
  obtain ⟨z0, hs0⟩ := open_slz Try.underlying38 Try.underlying2 (by kernel_rfl) (hval 0 38 v0 rfl rfl) g0 (fun x hx => hlt x (by simp [hx]))
  have hs0' := hs0
  obtain ⟨s0, l0, c0, rfl, _⟩ := hs0'
  obtain ⟨a1, rfl, rfl, rfl, w1⟩ := open_int Try.underlying3 (hval 1 3 v1 rfl rfl) g1
  obtain ⟨z2, hs2⟩ := open_slz Try.underlying27 Try.underlying3 (by kernel_rfl) (hval 2 27 v2 rfl rfl) g2 (fun x hx => hlt x (by simp [hx]))
  have hs2' := hs2
  obtain ⟨s2, l2, c2, rfl, _⟩ := hs2'
  refine (walk W s0 l0 c0 z0 hs0 a1 (I64.of_wf w1) s2 l2 c2 z2 hs2).mono fun e W' ⟨he, hb⟩ => ?_
  subst he
  exact ⟨_, rfl, law_post laidOut (by kernel_rfl) rfl rfl Try.underlying4 hW' rfl rfl rfl hb⟩

theorem over : Rows.midLeastRow.holds Try.pinned (OpenSpec.ofChange Rows.midLeastSpec) :=
  OpenClaim.holds_of_wide 9 Try.f9 rfl rfl rfl rfl rfl rfl rfl ⟨rfl, rfl, rfl, rfl, rfl⟩ rfl rfl rfl rfl rfl (by kernel_rfl) Try.func9 (by kernel_rfl)
    (of_decide_eq_true (by kernel_rfl)) (by unfold Func.isWrapper; first | (rw [if_pos (by decide +kernel)]; kernel_rfl) | (rw [if_neg (by decide +kernel)]; exact ⟨rfl, rfl⟩))
    (fun os started H enc _ => lifted os started H enc)

/-- The given statement. -/
theorem proved : Rows.MidLeastSaid :=
  over
#print axioms proved
end Go.Proofs.Ytenaeaojnebokaa.midLeast
