/- Proved: tscodeclaw15.MidWithin returns true for all arguments. No condition. -/
import Derived.Test.YtenaeaojnebokaaRows
import Derived.Test.YtenaeaojnebokaaMidQ
import Derived.WalkKit
import Derived.ProofKit
import Derived.OpenShut
import Derived.SizedLaws
import Derived.Outline
import Derived.WalkLawsBesides
import Derived.WalkSpells
import Derived.RegionTactic
import Derived.ChangeAlike
import Derived.BigRegion
import Derived.Handy
import Derived.Deep.RegionWith
import Derived.Deep.QuietTactic
import Derived.BigQuiet
namespace Go.Proofs.Ytenaeaojnebokaa.midWithin
open Go.ChangeShapes Go.WideShapes Go.ChangeAt Go.RowKit
set_option linter.unusedVariables false
set_option linter.unusedSimpArgs false

theorem own : ownKnob Try.prog.godebug = none := by kernel_rfl
/-- A list's cells. -/
def RdZ (W : World) (a : Option Addr) (zs : List Int) : Prop := 0 < zs.length → ∃ g off, a = some ⟨g, off, none⟩ ∧ g < W.heap.size ∧ ∀ j, j < zs.length → W.cell? ⟨g, off + j, none⟩ = some (.int .i64 (zs.getD j 0))
theorem rdz_slz {W : World} {a : Option Addr} {n cap : Nat} {zs : List Int} (h : SlZ W .i64 (.slice a n cap) zs) : RdZ W a zs := by
  obtain ⟨a9, l9, c9, e9, h1, h2, h3, h4, h5⟩ := h
  cases e9
  subst h1
  intro h0
  obtain ⟨g, off, h6, h7, h8⟩ := h5 h0
  exact ⟨g, off, h6, h7, h8⟩
theorem take_slz {W : World} {a : Option Addr} {n cap m : Nat} {zs : List Int} (h : SlZ W .i64 (.slice a n cap) zs) (hm : m ≤ n) : SlZ W .i64 (.slice a m cap) (zs.take m) := by
  obtain ⟨a9, l9, c9, e9, h1, h2, h3, h4, h5⟩ := h
  cases e9
  refine ⟨a, m, cap, rfl, by rw [List.length_take]; omega, by omega, h3, fun z hz => h4 z (List.mem_of_mem_take hz), fun h0 => ?_⟩
  obtain ⟨g, off, h6, h7, h8⟩ := h5 (by omega)
  refine ⟨g, off, h6, h7, fun i hi => ?_⟩
  rw [h8 i (by omega), List.getD_eq_getElem?_getD, List.getD_eq_getElem?_getD, List.getElem?_take_of_lt hi]
theorem bmn_le : ∀ (vs : List Int) (x z : Int), z = x ∨ z ∈ vs → vs.foldl min x ≤ z
  | [], x, z, h => by rcases h with rfl | h; · exact Int.le_refl _
                      · cases h
  | y :: ys, x, z, h => by
    rcases h with rfl | h
    · exact Int.le_trans (bmn_le ys (min z y) (min z y) (.inl rfl)) (by omega)
    · rcases List.mem_cons.1 h with rfl | h
      · exact Int.le_trans (bmn_le ys (min x z) (min x z) (.inl rfl)) (by omega)
      · exact bmn_le ys (min x y) z (.inr h)
theorem le_bmx : ∀ (vs : List Int) (x z : Int), z = x ∨ z ∈ vs → z ≤ vs.foldl max x
  | [], x, z, h => by rcases h with rfl | h; · exact Int.le_refl _
                      · cases h
  | y :: ys, x, z, h => by
    rcases h with rfl | h
    · exact Int.le_trans (by omega) (le_bmx ys (max z y) (max z y) (.inl rfl))
    · rcases List.mem_cons.1 h with rfl | h
      · exact Int.le_trans (by omega) (le_bmx ys (max x z) (max x z) (.inl rfl))
      · exact le_bmx ys (max x y) z (.inr h)
theorem bmn_i64 {b : List Int} (hb : b ≠ []) (h : ∀ z ∈ b, I64 z) : I64 (bmn b) := by
  cases b with
  | nil => exact absurd rfl hb
  | cons x xs => exact fold_min_i64 xs x (h x (by simp)) (fun z hz => h z (by simp [hz]))
theorem bmx_i64 {b : List Int} (hb : b ≠ []) (h : ∀ z ∈ b, I64 z) : I64 (bmx b) := by
  cases b with
  | nil => exact absurd rfl hb
  | cons x xs => exact fold_max_i64 xs x (h x (by simp)) (fun z hz => h z (by simp [hz]))
theorem near_blk {t : Int} {blk : List Int} (ht : tolb t = true) (hn : narr t (bmn blk) (bmx blk) = true) {z : Int} (hz : z ∈ blk) : near z ((bmn blk + bmx blk) / 2) t = true := by
  obtain ⟨t1, t2⟩ := tolb_yes ht
  cases blk with
  | nil => cases hz
  | cons x xs =>
    have h1 : bmn (x :: xs) ≤ z := bmn_le xs x z (by simpa using hz)
    have h2 : z ≤ bmx (x :: xs) := le_bmx xs x z (by simpa using hz)
    unfold narr dst at hn
    have hn := of_decide_eq_true hn
    unfold near dst
    simp only [Bool.and_eq_true, decide_eq_true_eq]
    split at hn <;> split <;> omega

set_option maxHeartbeats 8000000 in
set_option maxRecDepth 100000 in
theorem walk (w : World) (s0 : Option Addr) (l0 c0 : Nat) (z0 : List Int) (h0 : SlZ w .i64 (.slice s0 l0 c0) z0) (s1 : Option Addr) (l1 c1 : Nat) (z1 : List Int) (h1 : SlZ w .i64 (.slice s1 l1 c1) z1) :
    Calls Try.prog 8 #[.slice s0 l0 c0, .slice s1 l1 c1] w fun e w' => e = .returned (.bool true) ∧ Below w.heap.size w w' := by
  have hG := grown_refl w (some w.heap.size)
  have h0' := h0
  obtain ⟨a9, l9, c9, e9, q1, q2, q3, q4, -⟩ := h0'
  cases e9
  clear q4
  obtain ⟨lm, hlm, hlm2⟩ : ∃ lm : Nat, lm ≤ l0 ∧ ((l0 ≤ 2000 ∧ lm = l0) ∨ (2000 < l0 ∧ lm = 2000)) := by
    by_cases h : l0 ≤ 2000
    · exact ⟨l0, Nat.le_refl _, .inl ⟨h, rfl⟩⟩
    · exact ⟨2000, by omega, .inr ⟨by omega, rfl⟩⟩
  have hs := take_slz h0 hlm
  have hmx : Try.prog.follows .mixedOrders = true := by kernel_rfl
  rcases hlm2 with ⟨o1, rfl⟩ | ⟨o1, rfl⟩
  · obtain ⟨zr, hzr⟩ : ∃ zr, z0.take lm = zr := ⟨_, rfl⟩
    rw [hzr] at hs
    have hrl : zr.length = lm := by rw [← hzr, List.length_take]; omega
    have hr2 : zr.length ≤ 2000 := by omega
    have hri := slz_i64 hs
    have hlc : lm ≤ c0 := by omega
    clear hzr h0 q1 q2 q3
    go_enter Try.func8, Try.ntmps8
    (repeat' (first | (go_big_may; (first | (go_at_call 16; refine (new_tape (SlZ.below h1 (by (repeat' (first | (with_reducible assumption) | (with_reducible exact Below.refl _ _) | (with_reducible refine Below.alloc ?_ ?_ _) | (with_reducible refine Below.setCell ?_ ?_ _) | (with_reducible refine Below.drew ?_) | (with_reducible refine below_more ?_ (by with_reducible assumption)) | go_size | omega | (with_reducible refine below_drewN ?_)))))).mono ?_; rintro e w' ⟨rfl, ht, hbw⟩; have hle := ht.leB; have hG' : w.grownBy w' (some (w.heap.size)) := grown_bel (by (repeat' (first | (with_reducible exact hG) | (with_reducible refine grown_alloc ?_ _) | (with_reducible refine grown_drew ?_) | (with_reducible refine grown_setCell ?_ (.inr (by first | go_size | (dsimp only; omega))) _)))) hbw; clear hG; have hG := hG'; clear hG' hbw; (try simp only [World.size_alloc, World.size_setCell, World.size_drew] at ht hle)) | (go_at_call 29; refine (tol_any (B := w.heap.size + 1) _ _ (by (repeat' (first | (with_reducible exact ht) | (with_reducible refine TapeOk.alloc ?_ _) | (with_reducible refine TapeOk.drew ?_) | (with_reducible refine TapeOk.setc (by first | go_size | (dsimp only; omega)) ?_))))).mono ?_; rintro e w' ⟨tl, htl, rfl, ht', hg⟩; have hG' : w.grownBy w' (some (w.heap.size)) := grown_trans (by (repeat' (first | (with_reducible exact hG) | (with_reducible refine grown_alloc ?_ _) | (with_reducible refine grown_drew ?_) | (with_reducible refine grown_setCell ?_ (.inr (by first | go_size | (dsimp only; omega))) _)))) hg; have hsz := hg.size; clear ht hG; have ht := ht'; have hG := hG'; clear ht' hG'; (try simp only [World.size_alloc, World.size_setCell, World.size_drew] at hsz); clear hg))) | go_values | go_skip | go_guarded | go_step | go_upon | (simp only [Int.not_lt, Int.not_le] at *; go_simp) | (go_values <;> (try go_simp)) | (go_ite <;> go_prune <;> (try go_simp)) | (split <;> (first | (rename_i hx; exact (hx _ rfl).elim) | go_prune))))
    go_at_call 28
    refine (values_any (B := w.heap.size + 1) _ 30 (by decide) (by decide) _ (by (repeat' (first | (with_reducible exact ht) | (with_reducible refine TapeOk.alloc ?_ _) | (with_reducible refine TapeOk.drew ?_) | (with_reducible refine TapeOk.setc (by first | go_size | (dsimp only; omega)) ?_))))).mono ?_
    rintro e wt ⟨vl, zs, ⟨hzi, hzl⟩, rfl, hown, ht2, hg2⟩
    have hG2 : w.grownBy wt (some w.heap.size) := grown_trans (by (repeat' (first | (with_reducible exact hG) | (with_reducible refine grown_alloc ?_ _) | (with_reducible refine grown_drew ?_) | (with_reducible refine grown_setCell ?_ (.inr (by first | go_size | (dsimp only; omega))) _)))) hg2
    have hbt : Below w.heap.size w wt := below_tape hG2 (by omega)
    have hsv := slz_own hown hzi
    have hsr := SlZ.below hs hbt
    have hti := tol_i64 htl
    have htb := tol_tolb htl
    obtain ⟨tl1, tl2⟩ := tolb_yes htb
    obtain ⟨av, cv, rfl⟩ := slz_form hsv
    have hz30 : zs.length ≤ 2000 := by omega
    have A := fun W z (h9 : z.length ≤ 2000) a n cp (h : SlZ W .i64 (.slice a n cp) z) => all_any hti W h
    clear hown hG hG2 hg2 ht ht2 h1 hzl hs
    (repeat' (first | go_values | go_skip | go_guarded | go_step | go_upon | (simp only [Int.not_lt, Int.not_le] at *; go_simp) | (go_values <;> (try go_simp)) | (go_ite <;> go_prune <;> (try go_simp)) | (split <;> (first | (rename_i hx; exact (hx _ rfl).elim) | go_prune))))
    go_loopw [8] (fun i wr => ∃ ii : Nat, i = .int .i64 ii ∧ ii ≤ 2 ∧ HB wr wt.heap.size #[.slice s0 lm c0, .slice av zs.length cv] ∧ Below wt.heap.size wt wr) (fun i _ => 2 - (intOf i).toNat)
    case atStart => exact ⟨0, rfl, by decide, by (repeat' (first | (with_reducible assumption) | ((with_reducible refine HB.new _ _ _ ?_) <;> (go_size; done)) | (with_reducible refine HB.old (by go_size) ?_) | (with_reducible refine HB.drew ?_) | (with_reducible refine HB.over5 ?_) | (with_reducible refine HB.over4 ?_) | (with_reducible refine HB.setne (by first | go_size | (dsimp only; omega)) ?_) | (with_reducible refine HN.set ?_) | (with_reducible refine HN.setne (by first | go_size | (dsimp only; omega)) ?_) | (with_reducible refine HN.drew ?_) | (with_reducible refine HN.old (by go_size) ?_) | (with_reducible exact HN.of5 (by assumption)) | (with_reducible exact HN.new5 _ _ (by go_size)) | (with_reducible exact HN.of4 (by assumption)) | (with_reducible exact HN.new4 _ _ (by go_size)))), by (repeat' (first | (with_reducible assumption) | (with_reducible exact Below.refl _ _) | (with_reducible refine Below.alloc ?_ ?_ _) | (with_reducible refine Below.setCell ?_ ?_ _) | (with_reducible refine Below.drew ?_) | (with_reducible refine below_more ?_ (by with_reducible assumption)) | go_size | omega | (with_reducible refine below_drewN ?_)))⟩
    case round =>
      obtain ⟨ii, rfl, hii, hAB, hBt⟩ := hrel
      by_cases hi2 : ii < 2
      · have hpick : ∃ (a : Option Addr) (cap : Nat) (zz : List Int), (#[Value.slice s0 lm c0, Value.slice av zs.length cv][ii]? = some (.slice a zz.length cap)) ∧ SlZ wt .i64 (.slice a zz.length cap) zz ∧ zz.length ≤ 2000 ∧ ∀ z ∈ zz, I64 z := by
          rcases (show ii = 0 ∨ ii = 1 by omega) with rfl | rfl
          · exact ⟨s0, c0, zr, by rw [hrl]; rfl, by rw [hrl]; exact hsr, hr2, hri⟩
          · exact ⟨av, cv, zs, rfl, hsv, hz30, hzi⟩
        obtain ⟨a, cap, zz, hpk, hsz, hz2, hzzi⟩ := hpick
        have fA : ∀ Wz, Below wr.heap.size wr Wz → Wz.cell? ⟨wt.heap.size, ii, none⟩ = some (.slice a zz.length cap) := fun Wz hz => by
          obtain ⟨_, hc9, _, _⟩ := Bx.of (hAB.below hz)
          rw [hc9 ii]; exact hpk
        have fa := fA wr (Below.refl _ _)
        have hlAB := hAB.lt
        have hsw := SlZ.below hsz hBt
        have hrdz := rdz_slz hsw
        have A2 := fun W (h : SlZ W .i64 (.slice a zz.length cap) zz) => all_any hti W h
        unfold AllP at A2
        rw [show erra tl zz.length = 0 by unfold erra; rw [htb]; simp; omega, show segs tl zz = mall tl zz by unfold segs; rw [htb]; simp; omega] at A2
        have hP := parts_all htb zz
        have hol : (mall tl zz).length ≤ 2001 := by
          have := (mok tl zz hzzi).2.2.2.2
          have := fin_len (mfold tl zz).1.1 (mfold tl zz).1.2.1 (mfold tl zz).1.2.2
          unfold mall
          rw [List.length_append]
          omega
        obtain ⟨os, hos⟩ : ∃ os, mall tl zz = os := ⟨_, rfl⟩
        rw [hos] at A2 hP hol
        have HAB := hid hAB
        clear hos hpk hsz hAB A
        (repeat' (first | go_values | go_skip | go_guarded | go_step | go_upon | (simp only [Int.not_lt, Int.not_le] at *; go_simp) | (go_values <;> (try go_simp)) | (go_ite <;> go_prune <;> (try go_simp)) | (split <;> (first | (rename_i hx; exact (hx _ rfl).elim) | go_prune))))
        go_at_call 30
        refine (A2 _ hsw).mono ?_
        rintro e w0 ⟨v, rfl, ho, hb1⟩
        obtain ⟨asl, csl, rfl, hcs⟩ := RdC.own ho
        have HS := hid hcs
        have hL : RdZ w0 a zz := fun h => by
          obtain ⟨g, off, h1, hg, hc⟩ := hrdz h
          exact ⟨g, off, h1, Nat.lt_of_lt_of_le hg hb1.size, fun j hj => (hb1.cell (p := ⟨g, off + j, none⟩) hg).trans (hc j hj)⟩
        have HL := hid hL
        have HP := hid hP
        have HA := hid (fun Wz (hz : Below w0.heap.size w0 Wz) => fA Wz (hb1.trans (hz.mono hb1.size)))
        have hBt0 : Below wt.heap.size wt w0 := hBt.trans (hb1.mono hBt.size)
        have HAB0 := hid (HB.below HAB.out hb1)
        clear A2 ho hsw hcs hrdz hL hP fA fa hb1
        (repeat' (first | go_values | go_skip | go_guarded | go_step | go_upon | (simp only [Int.not_lt, Int.not_le] at *; go_simp) | (go_values <;> (try go_simp)) | (go_ite <;> go_prune <;> (try go_simp)) | (split <;> (first | (rename_i hx; exact (hx _ rfl).elim) | go_prune))))
        go_loopw [11, 12] (fun c i wr => ∃ n k : Nat, c = .int .i64 n ∧ i = .int .i64 k ∧ k ≤ os.length ∧ n ≤ zz.length ∧ Hid (Parts tl (os.drop k) (zz.drop n)) ∧ Below w0.heap.size w0 wr) (fun _ i _ => os.length - (intOf i).toNat)
        case atStart => exact ⟨0, 0, rfl, rfl, Nat.zero_le _, Nat.zero_le _, by simpa using HP, Below.refl _ _⟩
        case round =>
          obtain ⟨n, k, rfl, rfl, hk, hn, hp, hB⟩ := hrel
          have fa := HA.out wr hB
          by_cases hlt : k < os.length
          · obtain ⟨blk, hbne, hbl, hc1, hm1, hblk, -, hp2, hnr⟩ := parts_step hlt hn hp.out
            obtain ⟨gs, rfl, hgs, hcs⟩ := HS.out (by omega)
            have hb1 : 1 ≤ blk.length := by cases blk with
              | nil => exact absurd rfl hbne
              | cons x xs => simp
            obtain ⟨gl, off, rfl, hgl, hls⟩ := HL.out (by omega)
            obtain ⟨m, hm⟩ : ∃ m, (bmn blk + bmx blk) / 2 = m := ⟨_, rfl⟩
            have bI : ∀ z ∈ blk, I64 z := fun z hz => by
              obtain ⟨j, hj, rfl⟩ := List.getElem_of_mem hz
              have := hblk j hj
              rw [List.getD_eq_getElem?_getD, List.getElem?_eq_getElem hj] at this
              have e : blk[j] = zz.getD (n + j) 0 := this
              rw [e]
              exact getD_i64 (fun z hz => i64_wf (hzzi z hz)) _
            have hmi : I64 m := hm ▸ mid_in _ _ (bmn_i64 hbne bI) (bmx_i64 hbne bI)
            clear bI
            have hnear : ∀ z ∈ blk, near z m tl = true := fun z hz => hm ▸ near_blk htb hnr hz
            have e1 : ∀ Wz, Below w0.heap.size w0 Wz → Wz.cell? ⟨gs, k * 2, none⟩ = some (.int .i64 (blk.length : Int)) := fun Wz hz => (hz.cell (p := ⟨gs, k * 2, none⟩) hgs).trans (hc1 ▸ (hcs k hlt).1)
            have e2 : ∀ Wz, Below w0.heap.size w0 Wz → Wz.cell? ⟨gs, k * 2 + 1, none⟩ = some (.int .i64 m) := fun Wz hz => (hz.cell (p := ⟨gs, k * 2 + 1, none⟩) hgs).trans (hm ▸ hm1 ▸ (hcs k hlt).2)
            have e3 : ∀ j, j < zz.length → ∀ Wz, Below w0.heap.size w0 Wz → Wz.cell? ⟨gl, off + j, none⟩ = some (.int .i64 (zz.getD j 0)) := fun j hj Wz hz => (hz.cell (p := ⟨gl, off + j, none⟩) hgl).trans (hls j hj)
            have f1 := e1 wr hB
            have HE1 := hid e1
            have HE2 := hid e2
            have HE3 := hid e3
            have HBLK := hid hblk
            have HP2 := hid hp2
            have HN := hid hnear
            have hmx : Try.prog.follows .mixedOrders = true := by kernel_rfl
            have hbI : ¬ ((blk.length : Int) < 1) := by omega
            have hcI : ¬ ((zz.length : Int) - n < blk.length) := by omega
            have hwr : IntKind.i64.wrap ((zz.length : Int) - n) = (zz.length : Int) - n := IntWalk.i64_in _ ⟨by omega, by omega⟩
            clear e1 e2 e3 hblk hp2 hm hnear hc1 hm1 hcs hls hnr
            (repeat' (first | go_values | go_skip | go_guarded | go_step | go_upon | (simp only [Int.not_lt, Int.not_le] at *; go_simp) | (go_values <;> (try go_simp)) | (go_ite <;> go_prune <;> (try go_simp)) | (split <;> (first | (rename_i hx; exact (hx _ rfl).elim) | go_prune))))
            go_quiet (fail)
            (repeat' (first | go_values | go_skip | go_guarded | go_step | go_upon | (simp only [Int.not_lt, Int.not_le] at *; go_simp) | (go_values <;> (try go_simp)) | (go_ite <;> go_prune <;> (try go_simp)) | (split <;> (first | (rename_i hx; exact (hx _ rfl).elim) | go_prune))))
            clear f1 fa hbI hcI hbne hwr
            go_loopw [11, 13] (fun c j wr => ∃ q p : Nat, p = n + q ∧ q ≤ blk.length ∧ c = .int .i64 p ∧ j = .int .i64 q ∧ Below w0.heap.size w0 wr) (fun _ j _ => blk.length - (intOf j).toNat)
            case atStart => exact ⟨0, n, rfl, Nat.zero_le _, rfl, rfl, hB.trans (by (repeat' (first | (with_reducible assumption) | (with_reducible exact Below.refl _ _) | (with_reducible refine Below.alloc ?_ ?_ _) | (with_reducible refine Below.setCell ?_ ?_ _) | (with_reducible refine Below.drew ?_) | (with_reducible refine below_more ?_ (by with_reducible assumption)) | go_size | omega | (with_reducible refine below_drewN ?_))))⟩
            case round =>
              obtain ⟨q, p, hpq, hq, rfl, rfl, hBq⟩ := hrel
              have f1 := HE1.out _ hBq
              by_cases hql : q < blk.length
              · obtain ⟨y, hy⟩ : ∃ y, zz.getD p 0 = y := ⟨_, rfl⟩
                have hpl : p < zz.length := by omega
                have f2 := HE2.out wr hBq
                have fa := HA.out wr hBq
                have fy : wr.cell? ⟨gl, off + p, none⟩ = some (.int .i64 y) := hy ▸ HE3.out p hpl wr hBq
                have hyi : I64 y := hy ▸ getD_i64 (fun z hz => i64_wf (hzzi z hz)) p
                have hym : y ∈ blk := by
                  have := HBLK.out q hql
                  rw [← hpq, hy, List.getD_eq_getElem?_getD, List.getElem?_eq_getElem hql] at this
                  have e : blk[q] = y := this
                  exact e ▸ List.getElem_mem hql
                have CN := fun W => (Chk.rnear_any y m tl hyi hmi hti W).mono (fun e w' (h : e = .returned (.bool (near y m tl)) ∧ W = w') => (⟨h.1.trans (by rw [HN.out y hym]), h.2.symm⟩ : e = .returned (.bool true) ∧ w' = W))
                have HPQ := hid hpq
                clear hy hym hpq
                (repeat' (first | go_values | go_skip | go_guarded | go_step | go_upon | (simp only [Int.not_lt, Int.not_le] at *; go_simp) | (go_values <;> (try go_simp)) | (go_ite <;> go_prune <;> (try go_simp)) | (split <;> (first | (rename_i hx; exact (hx _ rfl).elim) | go_prune))))
                go_quiet (first | (go_at_call 20; exact Calls.quiet_of_same (CN _)))
                (repeat' (first | go_values | go_skip | go_guarded | go_step | go_upon | (simp only [Int.not_lt, Int.not_le] at *; go_simp) | (go_values <;> (try go_simp)) | (go_ite <;> go_prune <;> (try go_simp)) | (split <;> (first | (rename_i hx; exact (hx _ rfl).elim) | go_prune))))
                go_roundw
                case rel => exact ⟨q + 1, p + 1, by have := HPQ.out; omega, by omega, by simp, by simp, hBq.trans (by (repeat' (first | (with_reducible assumption) | (with_reducible exact Below.refl _ _) | (with_reducible refine Below.alloc ?_ ?_ _) | (with_reducible refine Below.setCell ?_ ?_ _) | (with_reducible refine Below.drew ?_) | (with_reducible refine below_more ?_ (by with_reducible assumption)) | go_size | omega | (with_reducible refine below_drewN ?_))))⟩
                case measure => simp [intOf]; omega
              · have hqe : q = blk.length := by omega
                have hp3 : Hid (Parts tl (os.drop (k + 1)) (zz.drop p)) := by rw [hpq, hqe]; exact HP2.out
                have hpb : p ≤ zz.length := by omega
                have hqb : blk.length ≤ q := by omega
                clear hpq hqe
                (repeat' (first | go_values | go_skip | go_guarded | go_step | go_upon | (simp only [Int.not_lt, Int.not_le] at *; go_simp) | (go_values <;> (try go_simp)) | (go_ite <;> go_prune <;> (try go_simp)) | (split <;> (first | (rename_i hx; exact (hx _ rfl).elim) | go_prune))))
                go_roundw
                case rel => exact ⟨p, k + 1, by simp, by simp, by omega, by omega, hp3, hBq.trans (by (repeat' (first | (with_reducible assumption) | (with_reducible exact Below.refl _ _) | (with_reducible refine Below.alloc ?_ ?_ _) | (with_reducible refine Below.setCell ?_ ?_ _) | (with_reducible refine Below.drew ?_) | (with_reducible refine below_more ?_ (by with_reducible assumption)) | go_size | omega | (with_reducible refine below_drewN ?_))))⟩
                case measure => simp [intOf]; omega
          · have hke : k = os.length := by omega
            have hz0 : zz.drop n = [] := by have := hp.out; rw [hke, List.drop_length] at this; exact this
            have hne : n = zz.length := by
              have := congrArg List.length hz0
              rw [List.length_drop] at this
              simp at this
              omega
            clear hz0
            subst hke
            subst hne
            (repeat' (first | go_values | go_skip | go_guarded | go_step | go_upon | (simp only [Int.not_lt, Int.not_le] at *; go_simp) | (go_values <;> (try go_simp)) | (go_ite <;> go_prune <;> (try go_simp)) | (split <;> (first | (rename_i hx; exact (hx _ rfl).elim) | go_prune))))
            go_roundw
            case rel => exact ⟨ii + 1, by simp, by omega, HB.below HAB0.out (hB.trans (by (repeat' (first | (with_reducible assumption) | (with_reducible exact Below.refl _ _) | (with_reducible refine Below.alloc ?_ ?_ _) | (with_reducible refine Below.setCell ?_ ?_ _) | (with_reducible refine Below.drew ?_) | (with_reducible refine below_more ?_ (by with_reducible assumption)) | go_size | omega | (with_reducible refine below_drewN ?_))))), hBt0.trans ((hB.trans (by (repeat' (first | (with_reducible assumption) | (with_reducible exact Below.refl _ _) | (with_reducible refine Below.alloc ?_ ?_ _) | (with_reducible refine Below.setCell ?_ ?_ _) | (with_reducible refine Below.drew ?_) | (with_reducible refine below_more ?_ (by with_reducible assumption)) | go_size | omega | (with_reducible refine below_drewN ?_))))).mono hBt0.size)⟩
            case measure => simp [intOf]; omega
      · have hbw0 : Below w.heap.size w wr := hbt.trans (hBt.mono hbt.size)
        have hi3 : 2 ≤ ii := by omega
        (repeat' (first | (go_big_may; (first | (go_at_call 32; refine (known15_any _).mono ?_; rintro e w' ⟨rfl, hbw⟩; have hsz := hbw.size; (try simp only [World.size_alloc, World.size_setCell, World.size_drew] at hsz)))) | go_values | go_skip | go_guarded | go_step | go_upon | (simp only [Int.not_lt, Int.not_le] at *; go_simp) | (go_values <;> (try go_simp)) | (go_ite <;> go_prune <;> (try go_simp)) | (split <;> (first | (rename_i hx; exact (hx _ rfl).elim) | go_prune))))
        refine bodyPost_ret (v := .bool true) ?_ rfl ⟨rfl, by (repeat' (first | (with_reducible assumption) | (with_reducible exact Below.refl _ _) | (with_reducible refine Below.alloc ?_ ?_ _) | (with_reducible refine Below.setCell ?_ ?_ _) | (with_reducible refine Below.drew ?_) | (with_reducible refine below_more ?_ (by with_reducible assumption)) | go_size | omega | (with_reducible refine below_drewN ?_)))⟩
        simp [results, Try.results8, go_sem]
  · obtain ⟨zr, hzr⟩ : ∃ zr, z0.take 2000 = zr := ⟨_, rfl⟩
    rw [hzr] at hs
    have hrl : zr.length = 2000 := by rw [← hzr, List.length_take]; omega
    have hr2 : zr.length ≤ 2000 := by omega
    have hri := slz_i64 hs
    have hlc : 2000 ≤ c0 := by omega
    clear hzr h0 q1 q2 q3
    go_enter Try.func8, Try.ntmps8
    (repeat' (first | (go_big_may; (first | (go_at_call 16; refine (new_tape (SlZ.below h1 (by (repeat' (first | (with_reducible assumption) | (with_reducible exact Below.refl _ _) | (with_reducible refine Below.alloc ?_ ?_ _) | (with_reducible refine Below.setCell ?_ ?_ _) | (with_reducible refine Below.drew ?_) | (with_reducible refine below_more ?_ (by with_reducible assumption)) | go_size | omega | (with_reducible refine below_drewN ?_)))))).mono ?_; rintro e w' ⟨rfl, ht, hbw⟩; have hle := ht.leB; have hG' : w.grownBy w' (some (w.heap.size)) := grown_bel (by (repeat' (first | (with_reducible exact hG) | (with_reducible refine grown_alloc ?_ _) | (with_reducible refine grown_drew ?_) | (with_reducible refine grown_setCell ?_ (.inr (by first | go_size | (dsimp only; omega))) _)))) hbw; clear hG; have hG := hG'; clear hG' hbw; (try simp only [World.size_alloc, World.size_setCell, World.size_drew] at ht hle)) | (go_at_call 29; refine (tol_any (B := w.heap.size + 1) _ _ (by (repeat' (first | (with_reducible exact ht) | (with_reducible refine TapeOk.alloc ?_ _) | (with_reducible refine TapeOk.drew ?_) | (with_reducible refine TapeOk.setc (by first | go_size | (dsimp only; omega)) ?_))))).mono ?_; rintro e w' ⟨tl, htl, rfl, ht', hg⟩; have hG' : w.grownBy w' (some (w.heap.size)) := grown_trans (by (repeat' (first | (with_reducible exact hG) | (with_reducible refine grown_alloc ?_ _) | (with_reducible refine grown_drew ?_) | (with_reducible refine grown_setCell ?_ (.inr (by first | go_size | (dsimp only; omega))) _)))) hg; have hsz := hg.size; clear ht hG; have ht := ht'; have hG := hG'; clear ht' hG'; (try simp only [World.size_alloc, World.size_setCell, World.size_drew] at hsz); clear hg))) | go_values | go_skip | go_guarded | go_step | go_upon | (simp only [Int.not_lt, Int.not_le] at *; go_simp) | (go_values <;> (try go_simp)) | (go_ite <;> go_prune <;> (try go_simp)) | (split <;> (first | (rename_i hx; exact (hx _ rfl).elim) | go_prune))))
    go_at_call 28
    refine (values_any (B := w.heap.size + 1) _ 30 (by decide) (by decide) _ (by (repeat' (first | (with_reducible exact ht) | (with_reducible refine TapeOk.alloc ?_ _) | (with_reducible refine TapeOk.drew ?_) | (with_reducible refine TapeOk.setc (by first | go_size | (dsimp only; omega)) ?_))))).mono ?_
    rintro e wt ⟨vl, zs, ⟨hzi, hzl⟩, rfl, hown, ht2, hg2⟩
    have hG2 : w.grownBy wt (some w.heap.size) := grown_trans (by (repeat' (first | (with_reducible exact hG) | (with_reducible refine grown_alloc ?_ _) | (with_reducible refine grown_drew ?_) | (with_reducible refine grown_setCell ?_ (.inr (by first | go_size | (dsimp only; omega))) _)))) hg2
    have hbt : Below w.heap.size w wt := below_tape hG2 (by omega)
    have hsv := slz_own hown hzi
    have hsr := SlZ.below hs hbt
    have hti := tol_i64 htl
    have htb := tol_tolb htl
    obtain ⟨tl1, tl2⟩ := tolb_yes htb
    obtain ⟨av, cv, rfl⟩ := slz_form hsv
    have hz30 : zs.length ≤ 2000 := by omega
    have A := fun W z (h9 : z.length ≤ 2000) a n cp (h : SlZ W .i64 (.slice a n cp) z) => all_any hti W h
    clear hown hG hG2 hg2 ht ht2 h1 hzl hs
    (repeat' (first | go_values | go_skip | go_guarded | go_step | go_upon | (simp only [Int.not_lt, Int.not_le] at *; go_simp) | (go_values <;> (try go_simp)) | (go_ite <;> go_prune <;> (try go_simp)) | (split <;> (first | (rename_i hx; exact (hx _ rfl).elim) | go_prune))))
    go_loopw [8] (fun i wr => ∃ ii : Nat, i = .int .i64 ii ∧ ii ≤ 2 ∧ HB wr wt.heap.size #[.slice s0 2000 c0, .slice av zs.length cv] ∧ Below wt.heap.size wt wr) (fun i _ => 2 - (intOf i).toNat)
    case atStart => exact ⟨0, rfl, by decide, by (repeat' (first | (with_reducible assumption) | ((with_reducible refine HB.new _ _ _ ?_) <;> (go_size; done)) | (with_reducible refine HB.old (by go_size) ?_) | (with_reducible refine HB.drew ?_) | (with_reducible refine HB.over5 ?_) | (with_reducible refine HB.over4 ?_) | (with_reducible refine HB.setne (by first | go_size | (dsimp only; omega)) ?_) | (with_reducible refine HN.set ?_) | (with_reducible refine HN.setne (by first | go_size | (dsimp only; omega)) ?_) | (with_reducible refine HN.drew ?_) | (with_reducible refine HN.old (by go_size) ?_) | (with_reducible exact HN.of5 (by assumption)) | (with_reducible exact HN.new5 _ _ (by go_size)) | (with_reducible exact HN.of4 (by assumption)) | (with_reducible exact HN.new4 _ _ (by go_size)))), by (repeat' (first | (with_reducible assumption) | (with_reducible exact Below.refl _ _) | (with_reducible refine Below.alloc ?_ ?_ _) | (with_reducible refine Below.setCell ?_ ?_ _) | (with_reducible refine Below.drew ?_) | (with_reducible refine below_more ?_ (by with_reducible assumption)) | go_size | omega | (with_reducible refine below_drewN ?_)))⟩
    case round =>
      obtain ⟨ii, rfl, hii, hAB, hBt⟩ := hrel
      by_cases hi2 : ii < 2
      · have hpick : ∃ (a : Option Addr) (cap : Nat) (zz : List Int), (#[Value.slice s0 2000 c0, Value.slice av zs.length cv][ii]? = some (.slice a zz.length cap)) ∧ SlZ wt .i64 (.slice a zz.length cap) zz ∧ zz.length ≤ 2000 ∧ ∀ z ∈ zz, I64 z := by
          rcases (show ii = 0 ∨ ii = 1 by omega) with rfl | rfl
          · exact ⟨s0, c0, zr, by rw [hrl]; rfl, by rw [hrl]; exact hsr, hr2, hri⟩
          · exact ⟨av, cv, zs, rfl, hsv, hz30, hzi⟩
        obtain ⟨a, cap, zz, hpk, hsz, hz2, hzzi⟩ := hpick
        have fA : ∀ Wz, Below wr.heap.size wr Wz → Wz.cell? ⟨wt.heap.size, ii, none⟩ = some (.slice a zz.length cap) := fun Wz hz => by
          obtain ⟨_, hc9, _, _⟩ := Bx.of (hAB.below hz)
          rw [hc9 ii]; exact hpk
        have fa := fA wr (Below.refl _ _)
        have hlAB := hAB.lt
        have hsw := SlZ.below hsz hBt
        have hrdz := rdz_slz hsw
        have A2 := fun W (h : SlZ W .i64 (.slice a zz.length cap) zz) => all_any hti W h
        unfold AllP at A2
        rw [show erra tl zz.length = 0 by unfold erra; rw [htb]; simp; omega, show segs tl zz = mall tl zz by unfold segs; rw [htb]; simp; omega] at A2
        have hP := parts_all htb zz
        have hol : (mall tl zz).length ≤ 2001 := by
          have := (mok tl zz hzzi).2.2.2.2
          have := fin_len (mfold tl zz).1.1 (mfold tl zz).1.2.1 (mfold tl zz).1.2.2
          unfold mall
          rw [List.length_append]
          omega
        obtain ⟨os, hos⟩ : ∃ os, mall tl zz = os := ⟨_, rfl⟩
        rw [hos] at A2 hP hol
        have HAB := hid hAB
        clear hos hpk hsz hAB A
        (repeat' (first | go_values | go_skip | go_guarded | go_step | go_upon | (simp only [Int.not_lt, Int.not_le] at *; go_simp) | (go_values <;> (try go_simp)) | (go_ite <;> go_prune <;> (try go_simp)) | (split <;> (first | (rename_i hx; exact (hx _ rfl).elim) | go_prune))))
        go_at_call 30
        refine (A2 _ hsw).mono ?_
        rintro e w0 ⟨v, rfl, ho, hb1⟩
        obtain ⟨asl, csl, rfl, hcs⟩ := RdC.own ho
        have HS := hid hcs
        have hL : RdZ w0 a zz := fun h => by
          obtain ⟨g, off, h1, hg, hc⟩ := hrdz h
          exact ⟨g, off, h1, Nat.lt_of_lt_of_le hg hb1.size, fun j hj => (hb1.cell (p := ⟨g, off + j, none⟩) hg).trans (hc j hj)⟩
        have HL := hid hL
        have HP := hid hP
        have HA := hid (fun Wz (hz : Below w0.heap.size w0 Wz) => fA Wz (hb1.trans (hz.mono hb1.size)))
        have hBt0 : Below wt.heap.size wt w0 := hBt.trans (hb1.mono hBt.size)
        have HAB0 := hid (HB.below HAB.out hb1)
        clear A2 ho hsw hcs hrdz hL hP fA fa hb1
        (repeat' (first | go_values | go_skip | go_guarded | go_step | go_upon | (simp only [Int.not_lt, Int.not_le] at *; go_simp) | (go_values <;> (try go_simp)) | (go_ite <;> go_prune <;> (try go_simp)) | (split <;> (first | (rename_i hx; exact (hx _ rfl).elim) | go_prune))))
        go_loopw [11, 12] (fun c i wr => ∃ n k : Nat, c = .int .i64 n ∧ i = .int .i64 k ∧ k ≤ os.length ∧ n ≤ zz.length ∧ Hid (Parts tl (os.drop k) (zz.drop n)) ∧ Below w0.heap.size w0 wr) (fun _ i _ => os.length - (intOf i).toNat)
        case atStart => exact ⟨0, 0, rfl, rfl, Nat.zero_le _, Nat.zero_le _, by simpa using HP, Below.refl _ _⟩
        case round =>
          obtain ⟨n, k, rfl, rfl, hk, hn, hp, hB⟩ := hrel
          have fa := HA.out wr hB
          by_cases hlt : k < os.length
          · obtain ⟨blk, hbne, hbl, hc1, hm1, hblk, -, hp2, hnr⟩ := parts_step hlt hn hp.out
            obtain ⟨gs, rfl, hgs, hcs⟩ := HS.out (by omega)
            have hb1 : 1 ≤ blk.length := by cases blk with
              | nil => exact absurd rfl hbne
              | cons x xs => simp
            obtain ⟨gl, off, rfl, hgl, hls⟩ := HL.out (by omega)
            obtain ⟨m, hm⟩ : ∃ m, (bmn blk + bmx blk) / 2 = m := ⟨_, rfl⟩
            have bI : ∀ z ∈ blk, I64 z := fun z hz => by
              obtain ⟨j, hj, rfl⟩ := List.getElem_of_mem hz
              have := hblk j hj
              rw [List.getD_eq_getElem?_getD, List.getElem?_eq_getElem hj] at this
              have e : blk[j] = zz.getD (n + j) 0 := this
              rw [e]
              exact getD_i64 (fun z hz => i64_wf (hzzi z hz)) _
            have hmi : I64 m := hm ▸ mid_in _ _ (bmn_i64 hbne bI) (bmx_i64 hbne bI)
            clear bI
            have hnear : ∀ z ∈ blk, near z m tl = true := fun z hz => hm ▸ near_blk htb hnr hz
            have e1 : ∀ Wz, Below w0.heap.size w0 Wz → Wz.cell? ⟨gs, k * 2, none⟩ = some (.int .i64 (blk.length : Int)) := fun Wz hz => (hz.cell (p := ⟨gs, k * 2, none⟩) hgs).trans (hc1 ▸ (hcs k hlt).1)
            have e2 : ∀ Wz, Below w0.heap.size w0 Wz → Wz.cell? ⟨gs, k * 2 + 1, none⟩ = some (.int .i64 m) := fun Wz hz => (hz.cell (p := ⟨gs, k * 2 + 1, none⟩) hgs).trans (hm ▸ hm1 ▸ (hcs k hlt).2)
            have e3 : ∀ j, j < zz.length → ∀ Wz, Below w0.heap.size w0 Wz → Wz.cell? ⟨gl, off + j, none⟩ = some (.int .i64 (zz.getD j 0)) := fun j hj Wz hz => (hz.cell (p := ⟨gl, off + j, none⟩) hgl).trans (hls j hj)
            have f1 := e1 wr hB
            have HE1 := hid e1
            have HE2 := hid e2
            have HE3 := hid e3
            have HBLK := hid hblk
            have HP2 := hid hp2
            have HN := hid hnear
            have hmx : Try.prog.follows .mixedOrders = true := by kernel_rfl
            have hbI : ¬ ((blk.length : Int) < 1) := by omega
            have hcI : ¬ ((zz.length : Int) - n < blk.length) := by omega
            have hwr : IntKind.i64.wrap ((zz.length : Int) - n) = (zz.length : Int) - n := IntWalk.i64_in _ ⟨by omega, by omega⟩
            clear e1 e2 e3 hblk hp2 hm hnear hc1 hm1 hcs hls hnr
            (repeat' (first | go_values | go_skip | go_guarded | go_step | go_upon | (simp only [Int.not_lt, Int.not_le] at *; go_simp) | (go_values <;> (try go_simp)) | (go_ite <;> go_prune <;> (try go_simp)) | (split <;> (first | (rename_i hx; exact (hx _ rfl).elim) | go_prune))))
            go_quiet (fail)
            (repeat' (first | go_values | go_skip | go_guarded | go_step | go_upon | (simp only [Int.not_lt, Int.not_le] at *; go_simp) | (go_values <;> (try go_simp)) | (go_ite <;> go_prune <;> (try go_simp)) | (split <;> (first | (rename_i hx; exact (hx _ rfl).elim) | go_prune))))
            clear f1 fa hbI hcI hbne hwr
            go_loopw [11, 13] (fun c j wr => ∃ q p : Nat, p = n + q ∧ q ≤ blk.length ∧ c = .int .i64 p ∧ j = .int .i64 q ∧ Below w0.heap.size w0 wr) (fun _ j _ => blk.length - (intOf j).toNat)
            case atStart => exact ⟨0, n, rfl, Nat.zero_le _, rfl, rfl, hB.trans (by (repeat' (first | (with_reducible assumption) | (with_reducible exact Below.refl _ _) | (with_reducible refine Below.alloc ?_ ?_ _) | (with_reducible refine Below.setCell ?_ ?_ _) | (with_reducible refine Below.drew ?_) | (with_reducible refine below_more ?_ (by with_reducible assumption)) | go_size | omega | (with_reducible refine below_drewN ?_))))⟩
            case round =>
              obtain ⟨q, p, hpq, hq, rfl, rfl, hBq⟩ := hrel
              have f1 := HE1.out _ hBq
              by_cases hql : q < blk.length
              · obtain ⟨y, hy⟩ : ∃ y, zz.getD p 0 = y := ⟨_, rfl⟩
                have hpl : p < zz.length := by omega
                have f2 := HE2.out wr hBq
                have fa := HA.out wr hBq
                have fy : wr.cell? ⟨gl, off + p, none⟩ = some (.int .i64 y) := hy ▸ HE3.out p hpl wr hBq
                have hyi : I64 y := hy ▸ getD_i64 (fun z hz => i64_wf (hzzi z hz)) p
                have hym : y ∈ blk := by
                  have := HBLK.out q hql
                  rw [← hpq, hy, List.getD_eq_getElem?_getD, List.getElem?_eq_getElem hql] at this
                  have e : blk[q] = y := this
                  exact e ▸ List.getElem_mem hql
                have CN := fun W => (Chk.rnear_any y m tl hyi hmi hti W).mono (fun e w' (h : e = .returned (.bool (near y m tl)) ∧ W = w') => (⟨h.1.trans (by rw [HN.out y hym]), h.2.symm⟩ : e = .returned (.bool true) ∧ w' = W))
                have HPQ := hid hpq
                clear hy hym hpq
                (repeat' (first | go_values | go_skip | go_guarded | go_step | go_upon | (simp only [Int.not_lt, Int.not_le] at *; go_simp) | (go_values <;> (try go_simp)) | (go_ite <;> go_prune <;> (try go_simp)) | (split <;> (first | (rename_i hx; exact (hx _ rfl).elim) | go_prune))))
                go_quiet (first | (go_at_call 20; exact Calls.quiet_of_same (CN _)))
                (repeat' (first | go_values | go_skip | go_guarded | go_step | go_upon | (simp only [Int.not_lt, Int.not_le] at *; go_simp) | (go_values <;> (try go_simp)) | (go_ite <;> go_prune <;> (try go_simp)) | (split <;> (first | (rename_i hx; exact (hx _ rfl).elim) | go_prune))))
                go_roundw
                case rel => exact ⟨q + 1, p + 1, by have := HPQ.out; omega, by omega, by simp, by simp, hBq.trans (by (repeat' (first | (with_reducible assumption) | (with_reducible exact Below.refl _ _) | (with_reducible refine Below.alloc ?_ ?_ _) | (with_reducible refine Below.setCell ?_ ?_ _) | (with_reducible refine Below.drew ?_) | (with_reducible refine below_more ?_ (by with_reducible assumption)) | go_size | omega | (with_reducible refine below_drewN ?_))))⟩
                case measure => simp [intOf]; omega
              · have hqe : q = blk.length := by omega
                have hp3 : Hid (Parts tl (os.drop (k + 1)) (zz.drop p)) := by rw [hpq, hqe]; exact HP2.out
                have hpb : p ≤ zz.length := by omega
                have hqb : blk.length ≤ q := by omega
                clear hpq hqe
                (repeat' (first | go_values | go_skip | go_guarded | go_step | go_upon | (simp only [Int.not_lt, Int.not_le] at *; go_simp) | (go_values <;> (try go_simp)) | (go_ite <;> go_prune <;> (try go_simp)) | (split <;> (first | (rename_i hx; exact (hx _ rfl).elim) | go_prune))))
                go_roundw
                case rel => exact ⟨p, k + 1, by simp, by simp, by omega, by omega, hp3, hBq.trans (by (repeat' (first | (with_reducible assumption) | (with_reducible exact Below.refl _ _) | (with_reducible refine Below.alloc ?_ ?_ _) | (with_reducible refine Below.setCell ?_ ?_ _) | (with_reducible refine Below.drew ?_) | (with_reducible refine below_more ?_ (by with_reducible assumption)) | go_size | omega | (with_reducible refine below_drewN ?_))))⟩
                case measure => simp [intOf]; omega
          · have hke : k = os.length := by omega
            have hz0 : zz.drop n = [] := by have := hp.out; rw [hke, List.drop_length] at this; exact this
            have hne : n = zz.length := by
              have := congrArg List.length hz0
              rw [List.length_drop] at this
              simp at this
              omega
            clear hz0
            subst hke
            subst hne
            (repeat' (first | go_values | go_skip | go_guarded | go_step | go_upon | (simp only [Int.not_lt, Int.not_le] at *; go_simp) | (go_values <;> (try go_simp)) | (go_ite <;> go_prune <;> (try go_simp)) | (split <;> (first | (rename_i hx; exact (hx _ rfl).elim) | go_prune))))
            go_roundw
            case rel => exact ⟨ii + 1, by simp, by omega, HB.below HAB0.out (hB.trans (by (repeat' (first | (with_reducible assumption) | (with_reducible exact Below.refl _ _) | (with_reducible refine Below.alloc ?_ ?_ _) | (with_reducible refine Below.setCell ?_ ?_ _) | (with_reducible refine Below.drew ?_) | (with_reducible refine below_more ?_ (by with_reducible assumption)) | go_size | omega | (with_reducible refine below_drewN ?_))))), hBt0.trans ((hB.trans (by (repeat' (first | (with_reducible assumption) | (with_reducible exact Below.refl _ _) | (with_reducible refine Below.alloc ?_ ?_ _) | (with_reducible refine Below.setCell ?_ ?_ _) | (with_reducible refine Below.drew ?_) | (with_reducible refine below_more ?_ (by with_reducible assumption)) | go_size | omega | (with_reducible refine below_drewN ?_))))).mono hBt0.size)⟩
            case measure => simp [intOf]; omega
      · have hbw0 : Below w.heap.size w wr := hbt.trans (hBt.mono hbt.size)
        have hi3 : 2 ≤ ii := by omega
        (repeat' (first | (go_big_may; (first | (go_at_call 32; refine (known15_any _).mono ?_; rintro e w' ⟨rfl, hbw⟩; have hsz := hbw.size; (try simp only [World.size_alloc, World.size_setCell, World.size_drew] at hsz)))) | go_values | go_skip | go_guarded | go_step | go_upon | (simp only [Int.not_lt, Int.not_le] at *; go_simp) | (go_values <;> (try go_simp)) | (go_ite <;> go_prune <;> (try go_simp)) | (split <;> (first | (rename_i hx; exact (hx _ rfl).elim) | go_prune))))
        refine bodyPost_ret (v := .bool true) ?_ rfl ⟨rfl, by (repeat' (first | (with_reducible assumption) | (with_reducible exact Below.refl _ _) | (with_reducible refine Below.alloc ?_ ?_ _) | (with_reducible refine Below.setCell ?_ ?_ _) | (with_reducible refine Below.drew ?_) | (with_reducible refine below_more ?_ (by with_reducible assumption)) | go_size | omega | (with_reducible refine below_drewN ?_)))⟩
        simp [results, Try.results8, go_sem]

/-! ### The row -/
set_option maxRecDepth 100000 in
theorem lifted (os : Os) (started : os.Started) (H : Type) (enc : TypeId × Value → H) :
    ReturnsInHanded {} Try.checked os 8 .any (Rows.midWithinSpec.pre6 enc Try.prog Try.f8 Rows.midWithinRow.domain false) (Rows.midWithinSpec.post enc Try.prog Try.f8 false true false false) := by
  refine returnsInHanded_of_change_sized (C := Try.checked) own started (by kernel_rfl) Try.func8
    (ChangeSpec.witness6 (enc := enc) (C := Try.checked) false ⟨#[], #[.slice none 0 0, .slice none 0 0], []⟩ 8 (by kernel_rfl) (by kernel_rfl) (by kernel_rfl) (by kernel_rfl)) ?_
  intro W base args ds gs before hval0 hW hcnd hsz _
  have hval : ∀ (j : Nat) t v, Try.f8.params[j]? = some t → args[j]? = some v → Value.okWide Try.prog W .any base t v := hval0
  have hW' := hW
  obtain ⟨p, q, hA0, hV, rfl, hfz, hnd⟩ := hW
  have hA : DataW.TrodAll enc Try.prog W 0 (fun _ => true) true Try.f8.params.toList args.toList ds p := hA0
  rw [Try.params8] at hA hval
  obtain ⟨v0, vs0, d0, ds0, p0, q0, hargs, rfl, rfl, g0, r0⟩ := trodAll_cons hA
  obtain ⟨v1, vs1, d1, ds1, p1, q1, rfl, rfl, rfl, g1, r1⟩ := trodAll_cons r0
  obtain ⟨rfl, rfl, rfl⟩ := trodAll_nil r1
  obtain rfl : args = #[v0, v1] := by cases args; simp_all
  obtain ⟨rfl, rfl⟩ := trodVars_none hV
  have hlt : ∀ x ∈ (p0 ++ (p1 ++ [])) ++ [], x.block < W.heap.size := fun x hx => hW'.lt x hx
  obtain ⟨z0, hs0⟩ := open_slz Try.underlying38 Try.underlying2 (by kernel_rfl) (hval 0 38 v0 rfl rfl) g0 (fun x hx => hlt x (by simp [hx]))
  have hs0' := hs0
  obtain ⟨s0, l0, c0, rfl, _⟩ := hs0'
  obtain ⟨z1, hs1⟩ := open_slz Try.underlying27 Try.underlying3 (by kernel_rfl) (hval 1 27 v1 rfl rfl) g1 (fun x hx => hlt x (by simp [hx]))
  have hs1' := hs1
  obtain ⟨s1, l1, c1, rfl, _⟩ := hs1'
  refine (walk W s0 l0 c0 z0 hs0 s1 l1 c1 z1 hs1).mono fun e W' ⟨he, hb⟩ => ?_
  subst he
  exact ⟨_, rfl, law_post laidOut (by kernel_rfl) rfl rfl Try.underlying4 hW' rfl rfl rfl hb⟩

theorem over : Rows.midWithinRow.holds Try.pinned (OpenSpec.ofChange Rows.midWithinSpec) :=
  OpenClaim.holds_of_wide 8 Try.f8 rfl rfl rfl rfl rfl rfl rfl ⟨rfl, rfl, rfl, rfl, rfl⟩ rfl rfl rfl rfl rfl (by kernel_rfl) Try.func8 (by kernel_rfl)
    (of_decide_eq_true (by kernel_rfl)) (by unfold Func.isWrapper; first | (rw [if_pos (by decide +kernel)]; kernel_rfl) | (rw [if_neg (by decide +kernel)]; exact ⟨rfl, rfl⟩))
    (fun os started H enc _ => lifted os started H enc)

/-- The given statement. -/
theorem proved : Rows.MidWithinSaid :=
  over
#print axioms proved
end Go.Proofs.Ytenaeaojnebokaa.midWithin
