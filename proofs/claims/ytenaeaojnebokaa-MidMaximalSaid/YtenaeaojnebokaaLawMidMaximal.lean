/- Proved: tscodeclaw15.MidMaximal returns true for all arguments. No condition. -/
import Derived.Test.YtenaeaojnebokaaRows
import Derived.Test.YtenaeaojnebokaaMidQ
import Derived.WalkKit
import Derived.ProofKit
import Derived.OpenShut
import Derived.SizedLaws
import Derived.Outline
import Derived.WalkLawsBesides
import Derived.WalkSpells
import Derived.RegionTactic
import Derived.ChangeAlike
import Derived.BigRegion
import Derived.Handy
import Derived.Deep.RegionWith
import Derived.Deep.QuietTactic
import Derived.BigQuiet
namespace Go.Proofs.Ytenaeaojnebokaa.midMaximal
open Go.ChangeShapes Go.WideShapes Go.ChangeAt Go.RowKit
set_option linter.unusedVariables false
set_option linter.unusedSimpArgs false

theorem own : ownKnob Try.prog.godebug = none := by kernel_rfl
theorem own_cells {W : World} {base n cap : Nat} {e : TypeId} {a : Option Addr} {zs : List Int} (h : W.ownsRow base e 1 (.slice a n cap) zs.length (zs.map (Value.int .i64))) : 0 < zs.length → ∃ g, a = some ⟨g, 0, none⟩ ∧ g < W.heap.size ∧ ∀ j, j < zs.length → W.cell? ⟨g, j, none⟩ = some (.int .i64 (zs.getD j 0)) := fun h0 => by
  obtain ⟨a9, c9, e9, _, _, hc9⟩ := own_slice h (by simp)
  cases e9
  obtain ⟨g, hg, _, hgl, hcs⟩ := hc9 h0
  exact ⟨g, hg, hgl, fun j hj => hcs j _ (by rw [List.getElem?_map, List.getElem?_eq_getElem hj, List.getD_eq_getElem?_getD, List.getElem?_eq_getElem hj]; rfl)⟩
theorem foldl_take {α : Type} (f : Int → Int → Int) (b : List Int) (x : Int) {q : Nat} (h : q < b.length) : (b.take (q + 1)).foldl f x = f ((b.take q).foldl f x) (b.getD q 0) := by
  rw [List.take_succ_eq_append_getElem h, List.foldl_append, List.getD_eq_getElem?_getD, List.getElem?_eq_getElem h]; rfl
theorem head_of {b : List Int} {x : Int} (hb : b ≠ []) (h : b.getD 0 0 = x) : b.head? = some x := by
  cases b with
  | nil => exact absurd rfl hb
  | cons y ys => simp at h; simp [h]

set_option maxHeartbeats 8000000 in
set_option maxRecDepth 100000 in
theorem walk (w : World) (s0 : Option Addr) (l0 c0 : Nat) (z0 : List Int) (h0 : SlZ w .i64 (.slice s0 l0 c0) z0) :
    Calls Try.prog 10 #[.slice s0 l0 c0] w fun e w' => e = .returned (.bool true) ∧ Below w.heap.size w w' := by
  have hG := grown_refl w (some w.heap.size)
  go_enter Try.func10, Try.ntmps10
  (repeat' (first | (go_big_may; (first | (go_at_call 16; refine (new_tape (SlZ.below h0 (by (repeat' (first | (with_reducible assumption) | (with_reducible exact Below.refl _ _) | (with_reducible refine Below.alloc ?_ ?_ _) | (with_reducible refine Below.setCell ?_ ?_ _) | (with_reducible refine Below.drew ?_) | (with_reducible refine below_more ?_ (by with_reducible assumption)) | go_size | omega | (with_reducible refine below_drewN ?_)))))).mono ?_; rintro e w' ⟨rfl, ht, hbw⟩; have hle := ht.leB; have hG' : w.grownBy w' (some (w.heap.size)) := grown_bel (by (repeat' (first | (with_reducible exact hG) | (with_reducible refine grown_alloc ?_ _) | (with_reducible refine grown_drew ?_) | (with_reducible refine grown_setCell ?_ (.inr (by first | go_size | (dsimp only; omega))) _)))) hbw; clear hG; have hG := hG'; clear hG' hbw; (try simp only [World.size_alloc, World.size_setCell, World.size_drew] at ht hle)) | (go_at_call 28; refine (values_any (B := w.heap.size + 1) _ 30 (by decide) (by decide) _ (by (repeat' (first | (with_reducible exact ht) | (with_reducible refine TapeOk.alloc ?_ _) | (with_reducible refine TapeOk.drew ?_) | (with_reducible refine TapeOk.setc (by first | go_size | (dsimp only; omega)) ?_))))).mono ?_; rintro e w' ⟨vl, zs, ⟨hzi, hzl⟩, rfl, hown, ht', hg⟩; have hG' : w.grownBy w' (some (w.heap.size)) := grown_trans (by (repeat' (first | (with_reducible exact hG) | (with_reducible refine grown_alloc ?_ _) | (with_reducible refine grown_drew ?_) | (with_reducible refine grown_setCell ?_ (.inr (by first | go_size | (dsimp only; omega))) _)))) hg; have hsz := hg.size; clear ht hG; have ht := ht'; have hG := hG'; clear ht' hG'; (try simp only [World.size_alloc, World.size_setCell, World.size_drew] at hsz); clear hg))) | go_values | go_skip | go_guarded | go_step | go_upon | (simp only [Int.not_lt, Int.not_le] at *; go_simp) | (go_values <;> (try go_simp)) | (go_ite <;> go_prune <;> (try go_simp)) | (split <;> (first | (rename_i hx; exact (hx _ rfl).elim) | go_prune))))
  go_at_call 29
  refine (tol_any (B := w.heap.size + 1) _ _ (by (repeat' (first | (with_reducible exact ht) | (with_reducible refine TapeOk.alloc ?_ _) | (with_reducible refine TapeOk.drew ?_) | (with_reducible refine TapeOk.setc (by first | go_size | (dsimp only; omega)) ?_))))).mono ?_
  rintro e wt ⟨tl, htl, rfl, ht2, hg2⟩
  have hown2 := hown.kept hg2 (own_ne hown (by have := below_tape hG (by omega); have := this.size; omega))
  have hG2 : w.grownBy wt (some w.heap.size) := grown_trans hG hg2
  have hbt : Below w.heap.size w wt := below_tape hG2 (by omega)
  have hsl := slz_own hown2 hzi
  have hti := tol_i64 htl
  have htb := tol_tolb htl
  obtain ⟨tl1, tl2⟩ := tolb_yes htb
  obtain ⟨av, cv, rfl⟩ := slz_form hsl
  have hcl := own_cells hown2
  have hz30 : zs.length ≤ 30 := by omega
  have A := fun W (h : SlZ W .i64 (.slice av zs.length cv) zs) => all_any hti W h
  unfold AllP at A
  rw [show erra tl zs.length = 0 by unfold erra; rw [htb]; simp; omega, show segs tl zs = mall tl zs by unfold segs; rw [htb]; simp; omega] at A
  have hP := parts_all htb zs
  have hol : (mall tl zs).length ≤ 31 := by
    have := (mok tl zs hzi).2.2.2.2
    have := fin_len (mfold tl zs).1.1 (mfold tl zs).1.2.1 (mfold tl zs).1.2.2
    unfold mall
    rw [List.length_append]
    omega
  obtain ⟨os, hos⟩ : ∃ os, mall tl zs = os := ⟨_, rfl⟩
  rw [hos] at A hP hol
  clear hos hown hown2 hG hG2 hg2 ht ht2 h0 hzl
  (repeat' (first | go_values | go_skip | go_guarded | go_step | go_upon | (simp only [Int.not_lt, Int.not_le] at *; go_simp) | (go_values <;> (try go_simp)) | (go_ite <;> go_prune <;> (try go_simp)) | (split <;> (first | (rename_i hx; exact (hx _ rfl).elim) | go_prune))))
  go_at_call 30
  refine (A _ hsl).mono ?_
  rintro e w0 ⟨v, rfl, ho, hb1⟩
  obtain ⟨asl, csl, rfl, hcs⟩ := RdC.own ho
  have HS := hid hcs
  have hL : 0 < zs.length → ∃ g, av = some ⟨g, 0, none⟩ ∧ g < w0.heap.size ∧ ∀ j, j < zs.length → w0.cell? ⟨g, j, none⟩ = some (.int .i64 (zs.getD j 0)) := fun h => by
    obtain ⟨g, rfl, hg, hc⟩ := hcl h
    exact ⟨g, rfl, Nat.lt_of_lt_of_le hg hb1.size, fun j hj => (hb1.cell (p := ⟨g, j, none⟩) hg).trans (hc j hj)⟩
  have HL := hid hL
  have hbw0 : Below w.heap.size w w0 := hbt.trans (hb1.mono hbt.size)
  have HP := hid hP
  clear A ho hsl hcs hcl hL hbt hb1 hP
  (repeat' (first | go_values | go_skip | go_guarded | go_step | go_upon | (simp only [Int.not_lt, Int.not_le] at *; go_simp) | (go_values <;> (try go_simp)) | (go_ite <;> go_prune <;> (try go_simp)) | (split <;> (first | (rename_i hx; exact (hx _ rfl).elim) | go_prune))))
  go_loopw [8, 9] (fun a i wr => ∃ n k : Nat, a = .int .i64 n ∧ i = .int .i64 k ∧ k ≤ os.length ∧ n ≤ zs.length ∧ Hid (Parts tl (os.drop k) (zs.drop n)) ∧ Below w0.heap.size w0 wr) (fun _ i _ => os.length - (intOf i).toNat)
  case atStart => exact ⟨0, 0, rfl, rfl, Nat.zero_le _, Nat.zero_le _, by simpa using HP, Below.refl _ _⟩
  case round =>
    obtain ⟨n, k, rfl, rfl, hk, hn, hp, hB⟩ := hrel
    by_cases hlt : k < os.length
    · obtain ⟨blk, hbne, hbl, hc1, hm1, hblk, hnx, hp2, hnr⟩ := parts_step hlt hn hp.out
      obtain ⟨gs, rfl, hgs, hcs⟩ := HS.out (by omega)
      have hb1 : 1 ≤ blk.length := by cases blk with
        | nil => exact absurd rfl hbne
        | cons x xs => simp
      obtain ⟨gl, rfl, hgl, hls⟩ := HL.out (by omega)
      obtain ⟨m, hm⟩ : ∃ m, (bmn blk + bmx blk) / 2 = m := ⟨_, rfl⟩
      obtain ⟨x0, hx0⟩ : ∃ x0, zs.getD n 0 = x0 := ⟨_, rfl⟩
      have e1 : ∀ Wz, Below w0.heap.size w0 Wz → Wz.cell? ⟨gs, k * 2, none⟩ = some (.int .i64 (blk.length : Int)) := fun Wz hz => (hz.cell (p := ⟨gs, k * 2, none⟩) hgs).trans (hc1 ▸ (hcs k hlt).1)
      have e2 : ∀ Wz, Below w0.heap.size w0 Wz → Wz.cell? ⟨gs, k * 2 + 1, none⟩ = some (.int .i64 m) := fun Wz hz => (hz.cell (p := ⟨gs, k * 2 + 1, none⟩) hgs).trans (hm ▸ hm1 ▸ (hcs k hlt).2)
      have e3 : ∀ j, j < zs.length → ∀ Wz, Below w0.heap.size w0 Wz → Wz.cell? ⟨gl, j, none⟩ = some (.int .i64 (zs.getD j 0)) := fun j hj Wz hz => (hz.cell (p := ⟨gl, j, none⟩) hgl).trans (hls j hj)
      have f1 := e1 wr hB
      have hnl : n < zs.length := by omega
      have x0i : I64 x0 := hx0 ▸ getD_i64 (fun z hz => i64_wf (hzi z hz)) n
      have g1 : ∀ Wz, Below wr.heap.size wr Wz → Wz.cell? ⟨gl, n, none⟩ = some (.int .i64 x0) := fun Wz hz => hx0 ▸ e3 n hnl Wz (hB.trans (hz.mono hB.size))
      have bI : ∀ z ∈ blk, I64 z := fun z hz => by
        obtain ⟨j, hj, rfl⟩ := List.getElem_of_mem hz
        have := hblk j hj
        rw [List.getD_eq_getElem?_getD, List.getElem?_eq_getElem hj] at this
        have e : blk[j] = zs.getD (n + j) 0 := this
        rw [e]
        exact getD_i64 (fun z hz => i64_wf (hzi z hz)) _
      have hh0 : blk.head? = some x0 := head_of hbne ((hblk 0 (by omega)).trans hx0)
      have HE1 := hid e1
      have HE2 := hid e2
      have HE3 := hid e3
      have HBLK := hid hblk
      have HNX := hid hnx
      have HP2 := hid hp2
      have HM := hid hm
      have HBI := hid bI
      have HX0 := hid hx0
      have HH0 := hid hh0
      clear e1 e2 e3 hblk hnx hp2 hm bI hx0 hh0 hc1 hm1 hcs hls hnr hbne
      (repeat' (first | go_values | go_skip | go_guarded | go_step | go_upon | (simp only [Int.not_lt, Int.not_le] at *; go_simp) | (go_values <;> (try go_simp)) | (go_ite <;> go_prune <;> (try go_simp)) | (split <;> (first | (rename_i hx; exact (hx _ rfl).elim) | go_prune))))
      have fx := g1 wr (Below.refl _ _)
      have hmx : Try.prog.follows .mixedOrders = true := by kernel_rfl
      clear g1
      go_quiet (fail)
      clear f1 fx
      (repeat' (first | go_values | go_skip | go_guarded | go_step | go_upon | (simp only [Int.not_lt, Int.not_le] at *; go_simp) | (go_values <;> (try go_simp)) | (go_ite <;> go_prune <;> (try go_simp)) | (split <;> (first | (rename_i hx; exact (hx _ rfl).elim) | go_prune))))
      go_loopw [8, 10, 11, 12] (fun a lo hi j wq => ∃ (q p : Nat) (lo0 hi0 : Int), p = n + q ∧ q ≤ blk.length ∧ a = .int .i64 p ∧ j = .int .i64 q ∧ lo = .int .i64 lo0 ∧ hi = .int .i64 hi0 ∧ Hid (lo0 = (blk.take q).foldl min x0) ∧ Hid (hi0 = (blk.take q).foldl max x0) ∧ Below w0.heap.size w0 wq) (fun _ _ _ j _ => blk.length - (intOf j).toNat)
      case atStart => exact ⟨0, n, x0, x0, rfl, Nat.zero_le _, rfl, rfl, rfl, rfl, hid rfl, hid rfl, hB.trans (by (repeat' (first | (with_reducible assumption) | (with_reducible exact Below.refl _ _) | (with_reducible refine Below.alloc ?_ ?_ _) | (with_reducible refine Below.setCell ?_ ?_ _) | (with_reducible refine Below.drew ?_) | (with_reducible refine below_more ?_ (by with_reducible assumption)) | go_size | omega | (with_reducible refine below_drewN ?_))))⟩
      case round =>
        obtain ⟨q, p, lo0, hi0, hpq, hq, rfl, rfl, rfl, rfl, hlo, hhi, hBq⟩ := hrel
        have f1 := HE1.out _ hBq
        by_cases hql : q < blk.length
        · obtain ⟨y, hy⟩ : ∃ y, zs.getD p 0 = y := ⟨_, rfl⟩
          have hpl : p < zs.length := by omega
          have fy : wr.cell? ⟨gl, p, none⟩ = some (.int .i64 y) := hy ▸ HE3.out p hpl wr hBq
          have hby : blk.getD q 0 = y := by rw [HBLK.out q hql, ← hpq, hy]
          have hlo2 : min lo0 y = (blk.take (q + 1)).foldl min x0 := by rw [foldl_take (α := Int) min blk x0 hql, hby, ← hlo.out]
          have hhi2 : max hi0 y = (blk.take (q + 1)).foldl max x0 := by rw [foldl_take (α := Int) max blk x0 hql, hby, ← hhi.out]
          have HLO := hid hlo2
          have HHI := hid hhi2
          have HY := hid hy
          have HPQ := hid hpq
          clear hlo2 hhi2 hby hy hpq
          have H : (lo0 ≤ y ∧ y ≤ hi0) ∨ (lo0 ≤ y ∧ hi0 < y) ∨ (y < lo0 ∧ y ≤ hi0) ∨ (y < lo0 ∧ hi0 < y) := by omega
          rcases H with ⟨o1, o2⟩ | ⟨o1, o2⟩ | ⟨o1, o2⟩ | ⟨o1, o2⟩
          all_goals
            (repeat' (first | go_values | go_skip | go_guarded | go_step | go_upon | (simp only [Int.not_lt, Int.not_le] at *; go_simp) | (go_values <;> (try go_simp)) | (go_ite <;> go_prune <;> (try go_simp)) | (split <;> (first | (rename_i hx; exact (hx _ rfl).elim) | go_prune))))
            go_quiet (fail)
            (repeat' (first | go_values | go_skip | go_guarded | go_step | go_upon | (simp only [Int.not_lt, Int.not_le] at *; go_simp) | (go_values <;> (try go_simp)) | (go_ite <;> go_prune <;> (try go_simp)) | (split <;> (first | (rename_i hx; exact (hx _ rfl).elim) | go_prune))))
            go_roundw
            case rel => exact ⟨q + 1, p + 1, _, _, by have := HPQ.out; omega, by omega, by simp, by simp, rfl, rfl, hid (by rw [← HLO.out]; omega), hid (by rw [← HHI.out]; omega), hBq.trans (by (repeat' (first | (with_reducible assumption) | (with_reducible exact Below.refl _ _) | (with_reducible refine Below.alloc ?_ ?_ _) | (with_reducible refine Below.setCell ?_ ?_ _) | (with_reducible refine Below.drew ?_) | (with_reducible refine below_more ?_ (by with_reducible assumption)) | go_size | omega | (with_reducible refine below_drewN ?_))))⟩
            case measure => simp [intOf]; omega
        · have hqe : q = blk.length := by omega
          have hlo2 : lo0 = bmn blk := by rw [hlo.out, hqe, List.take_length]; exact fold_min_self blk x0 HH0.out
          have hhi2 : hi0 = bmx blk := by rw [hhi.out, hqe, List.take_length]; exact fold_max_self blk x0 HH0.out
          have hloi : I64 lo0 := by rw [hlo.out]; exact fold_min_i64 _ _ x0i (fun z hz => HBI.out z (List.mem_of_mem_take hz))
          have hhii : I64 hi0 := by rw [hhi.out]; exact fold_max_i64 _ _ x0i (fun z hz => HBI.out z (List.mem_of_mem_take hz))
          have hmid : (lo0 + hi0) / 2 = m := by rw [hlo2, hhi2]; exact HM.out
          have CM := fun W => Chk.rmid_any lo0 hi0 hloi hhii W
          rw [hmid] at CM
          have CM' := fun W => (CM W).mono (fun e w' (h : e = .returned (.int .i64 m) ∧ W = w') => (⟨h.1, h.2.symm⟩ : e = .returned (.int .i64 m) ∧ w' = W))
          clear CM
          have f2 := HE2.out wr hBq
          have hp3 : Hid (Parts tl (os.drop (k + 1)) (zs.drop p)) := by rw [hpq, hqe]; exact HP2.out
          have hpe : p = n + blk.length := by omega
          by_cases hend : p < zs.length
          · obtain ⟨y, hy⟩ : ∃ y, zs.getD p 0 = y := ⟨_, rfl⟩
            have fy : wr.cell? ⟨gl, p, none⟩ = some (.int .i64 y) := hy ▸ HE3.out p hend wr hBq
            have hyi : I64 y := hy ▸ getD_i64 (fun z hz => i64_wf (hzi z hz)) p
            have hnr : narr tl (min lo0 y) (max hi0 y) = false := by rw [hlo2, hhi2, ← hy, hpe]; exact HNX.out (by omega)
            have hnd : 2 * tl < dst (min lo0 y) (max hi0 y) := by
              unfold narr at hnr
              rw [dst_comm] at hnr
              have := of_decide_eq_false hnr
              omega
            have CD := fun W => Chk.rdist_any (min lo0 y) (max hi0 y) (min_i64 hloi hyi) (max_i64 hhii hyi) W
            generalize dst (min lo0 y) (max hi0 y) = d at *
            have hpb : n + blk.length ≤ p := by omega
            clear hnr hy hlo2 hhi2 hmid hqe hpq hpe
            have H : (lo0 ≤ y ∧ y ≤ hi0) ∨ (lo0 ≤ y ∧ hi0 < y) ∨ (y < lo0 ∧ y ≤ hi0) ∨ (y < lo0 ∧ hi0 < y) := by omega
            rcases H with ⟨o1, o2⟩ | ⟨o1, o2⟩ | ⟨o1, o2⟩ | ⟨o1, o2⟩
            all_goals
              (first | (have c1 : min lo0 y = lo0 := by omega) | (have c1 : min lo0 y = y := by omega))
              (first | (have c2 : max hi0 y = hi0 := by omega) | (have c2 : max hi0 y = y := by omega))
              rw [c1, c2] at CD
              clear c1 c2
              have CD' := fun W => (CD W).mono (fun e w' (h : e = .returned (.int .u64 d) ∧ W = w') => (⟨h.1, h.2.symm⟩ : e = .returned (.int .u64 d) ∧ w' = W))
              clear CD
              (repeat' (first | go_values | go_skip | go_guarded | go_step | go_upon | (simp only [Int.not_lt, Int.not_le] at *; go_simp) | (go_values <;> (try go_simp)) | (go_ite <;> go_prune <;> (try go_simp)) | (split <;> (first | (rename_i hx; exact (hx _ rfl).elim) | go_prune))))
              go_quiet (first | (go_at_call 36; exact Calls.quiet_of_same (CM' _)) | (go_at_call 37; exact Calls.quiet_of_same (CD' _)))
              (repeat' (first | go_values | go_skip | go_guarded | go_step | go_upon | (simp only [Int.not_lt, Int.not_le] at *; go_simp) | (go_values <;> (try go_simp)) | (go_ite <;> go_prune <;> (try go_simp)) | (split <;> (first | (rename_i hx; exact (hx _ rfl).elim) | go_prune))))
              go_roundw
              case rel => exact ⟨p, k + 1, by simp, by simp, by omega, by omega, hp3, hBq.trans (by (repeat' (first | (with_reducible assumption) | (with_reducible exact Below.refl _ _) | (with_reducible refine Below.alloc ?_ ?_ _) | (with_reducible refine Below.setCell ?_ ?_ _) | (with_reducible refine Below.drew ?_) | (with_reducible refine below_more ?_ (by with_reducible assumption)) | go_size | omega | (with_reducible refine below_drewN ?_))))⟩
              case measure => simp [intOf]; omega
          · have hend2 : zs.length ≤ p := by omega
            have hpb : p ≤ zs.length := by omega
            clear hlo2 hhi2 hmid hqe hpq hpe
            (repeat' (first | go_values | go_skip | go_guarded | go_step | go_upon | (simp only [Int.not_lt, Int.not_le] at *; go_simp) | (go_values <;> (try go_simp)) | (go_ite <;> go_prune <;> (try go_simp)) | (split <;> (first | (rename_i hx; exact (hx _ rfl).elim) | go_prune))))
            go_quiet (first | (go_at_call 36; exact Calls.quiet_of_same (CM' _)))
            (repeat' (first | go_values | go_skip | go_guarded | go_step | go_upon | (simp only [Int.not_lt, Int.not_le] at *; go_simp) | (go_values <;> (try go_simp)) | (go_ite <;> go_prune <;> (try go_simp)) | (split <;> (first | (rename_i hx; exact (hx _ rfl).elim) | go_prune))))
            go_roundw
            case rel => exact ⟨p, k + 1, by simp, by simp, by omega, by omega, hp3, hBq.trans (by (repeat' (first | (with_reducible assumption) | (with_reducible exact Below.refl _ _) | (with_reducible refine Below.alloc ?_ ?_ _) | (with_reducible refine Below.setCell ?_ ?_ _) | (with_reducible refine Below.drew ?_) | (with_reducible refine below_more ?_ (by with_reducible assumption)) | go_size | omega | (with_reducible refine below_drewN ?_))))⟩
            case measure => simp [intOf]; omega
    · have hke : k = os.length := by omega
      have hz0 : zs.drop n = [] := by have := hp.out; rw [hke, List.drop_length] at this; exact this
      have hne : n = zs.length := by
        have := congrArg List.length hz0
        rw [List.length_drop] at this
        simp at this
        omega
      clear hz0
      have hBw : Below w.heap.size w wr := hbw0.trans (hB.mono hbw0.size)
      subst hke
      subst hne
      (repeat' (first | (go_big_may; (first | (go_at_call 32; refine (known15_any _).mono ?_; rintro e w' ⟨rfl, hbw⟩; have hsz := hbw.size; (try simp only [World.size_alloc, World.size_setCell, World.size_drew] at hsz)))) | go_values | go_skip | go_guarded | go_step | go_upon | (simp only [Int.not_lt, Int.not_le] at *; go_simp) | (go_values <;> (try go_simp)) | (go_ite <;> go_prune <;> (try go_simp)) | (split <;> (first | (rename_i hx; exact (hx _ rfl).elim) | go_prune))))
      refine bodyPost_ret (v := .bool true) ?_ rfl ⟨rfl, by (repeat' (first | (with_reducible assumption) | (with_reducible exact Below.refl _ _) | (with_reducible refine Below.alloc ?_ ?_ _) | (with_reducible refine Below.setCell ?_ ?_ _) | (with_reducible refine Below.drew ?_) | (with_reducible refine below_more ?_ (by with_reducible assumption)) | go_size | omega | (with_reducible refine below_drewN ?_)))⟩
      simp [results, Try.results10, go_sem]

/-! ### The row -/
set_option maxRecDepth 100000 in
theorem lifted (os : Os) (started : os.Started) (H : Type) (enc : TypeId × Value → H) :
    ReturnsInHanded {} Try.checked os 10 .any (Rows.midMaximalSpec.pre6 enc Try.prog Try.f10 Rows.midMaximalRow.domain false) (Rows.midMaximalSpec.post enc Try.prog Try.f10 false true false false) := by
  refine returnsInHanded_of_change_sized (C := Try.checked) own started (by kernel_rfl) Try.func10
    (ChangeSpec.witness6 (enc := enc) (C := Try.checked) false ⟨#[], #[.slice none 0 0], []⟩ 8 (by kernel_rfl) (by kernel_rfl) (by kernel_rfl) (by kernel_rfl)) ?_
  intro W base args ds gs before hval0 hW hcnd hsz _
  have hval : ∀ (j : Nat) t v, Try.f10.params[j]? = some t → args[j]? = some v → Value.okWide Try.prog W .any base t v := hval0
  have hW' := hW
  obtain ⟨p, q, hA0, hV, rfl, hfz, hnd⟩ := hW
  have hA : DataW.TrodAll enc Try.prog W 0 (fun _ => true) true Try.f10.params.toList args.toList ds p := hA0
  rw [Try.params10] at hA hval
  obtain ⟨v0, vs0, d0, ds0, p0, q0, hargs, rfl, rfl, g0, r0⟩ := trodAll_cons hA
  obtain ⟨rfl, rfl, rfl⟩ := trodAll_nil r0
  obtain rfl : args = #[v0] := by cases args; simp_all
  obtain ⟨rfl, rfl⟩ := trodVars_none hV
  have hlt : ∀ x ∈ (p0 ++ []) ++ [], x.block < W.heap.size := fun x hx => hW'.lt x hx
  obtain ⟨z0, hs0⟩ := open_slz Try.underlying27 Try.underlying3 (by kernel_rfl) (hval 0 27 v0 rfl rfl) g0 (fun x hx => hlt x (by simp [hx]))
  have hs0' := hs0
  obtain ⟨s0, l0, c0, rfl, _⟩ := hs0'
  refine (walk W s0 l0 c0 z0 hs0).mono fun e W' ⟨he, hb⟩ => ?_
  subst he
  exact ⟨_, rfl, law_post laidOut (by kernel_rfl) rfl rfl Try.underlying4 hW' rfl rfl rfl hb⟩

theorem over : Rows.midMaximalRow.holds Try.pinned (OpenSpec.ofChange Rows.midMaximalSpec) :=
  OpenClaim.holds_of_wide 10 Try.f10 rfl rfl rfl rfl rfl rfl rfl ⟨rfl, rfl, rfl, rfl, rfl⟩ rfl rfl rfl rfl rfl (by kernel_rfl) Try.func10 (by kernel_rfl)
    (of_decide_eq_true (by kernel_rfl)) (by unfold Func.isWrapper; first | (rw [if_pos (by decide +kernel)]; kernel_rfl) | (rw [if_neg (by decide +kernel)]; exact ⟨rfl, rfl⟩))
    (fun os started H enc _ => lifted os started H enc)

/-- The given statement. -/
theorem proved : Rows.MidMaximalSaid :=
  over
#print axioms proved
end Go.Proofs.Ytenaeaojnebokaa.midMaximal
