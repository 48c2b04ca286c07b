/- tscodeclaw15.least: the number of segments. -/
import Derived.Test.YtenaeaojnebokaaRows
import Derived.Test.YtenaeaojnebokaaMidN
import Derived.WalkKit
import Derived.ProofKit
import Derived.WalkLawsBesides
import Derived.WalkSpells
import Derived.RegionTactic
import Derived.ChangeAlike
import Derived.BigRegion
import Derived.Outline
import Derived.Handy
import Derived.Deep.QuietTactic
import Derived.BigQuiet
namespace Go.Proofs.Ytenaeaojnebokaa
open Go.ChangeShapes Go.WideShapes Go.ChangeAt Go.RowKit
set_option linter.unusedVariables false
set_option linter.unusedSimpArgs false

theorem info_int : (Try.prog.info? 3).map (fun i => (i.zero, i.size, i.bytes)) = some (some (.int .i64 0), 1, 8) := by kernel_rfl
/-- A slice of ints of one's own. -/
def OwnI (W : World) (base g n : Nat) (bs : List Int) : Prop := W.ownsRow base 3 1 (.slice (some ⟨g, 0, none⟩) n n) n (bs.map (Value.int .i64)) ∧ bs.length = n
theorem OwnI.cell {W : World} {base g n : Nat} {bs : List Int} (h : OwnI W base g n bs) (j : Nat) (hj : j < n) : W.cell? ⟨g, j, none⟩ = some (.int .i64 (bs.getD j 0)) := by
  obtain ⟨h1, h2⟩ := h
  rw [h1.cellAt j (by omega), List.getElem?_map, List.getElem?_eq_getElem (by omega), List.getD_eq_getElem?_getD, List.getElem?_eq_getElem (by omega)]; rfl
theorem OwnI.frozen {W : World} {base g n : Nat} {bs : List Int} (h : OwnI W base g n bs) (j : Nat) : W.frozen? ⟨g, j, none⟩ = false := h.1.frozenAt j
theorem OwnI.stored {W : World} {base g n : Nat} {bs : List Int} (h : OwnI W base g n bs) (j : Nat) (x : Int) : OwnI (W.setCell ⟨g, j, none⟩ (.int .i64 x)) base g n (bs.set j x) := by
  obtain ⟨h1, h2⟩ := h
  refine ⟨?_, by rw [List.length_set]; exact h2⟩
  have := h1.stored j (.int .i64 x)
  have e : (bs.set j x).map (Value.int .i64) = (bs.map (Value.int .i64)).set j (.int .i64 x) := by simp [List.map_set]
  rw [e]
  exact this.1
theorem OwnI.drewN {W : World} {base g n : Nat} {bs : List Int} (h : OwnI W base g n bs) (k : Nat) : OwnI (W.drewN k) base g n bs := by
  have : ∀ k, OwnI (W.drewN k) base g n bs := fun k => by
    induction k with
    | zero => exact h
    | succ k ih => exact ih
  exact this k
theorem OwnI.drew {W : World} {base g n : Nat} {bs : List Int} (h : OwnI W base g n bs) : OwnI W.drew base g n bs := h
theorem OwnI.base {W : World} {base g n : Nat} {bs : List Int} (h : OwnI W base g n bs) : base ≤ g := (h.1.lt g rfl).1
theorem OwnI.lt {W : World} {base g n : Nat} {bs : List Int} (h : OwnI W base g n bs) : g < W.heap.size := (h.1.lt g rfl).2
theorem OwnI.zeros {w : World} {base g n : Nat} (h : w.ownsRow base 3 1 (.slice (some ⟨g, 0, none⟩) n n) n (madeCells (Value.int .i64 0).cells (n * 1)).toList) : OwnI w base g n (List.replicate n 0) := by
  have e : (madeCells (Value.int .i64 0).cells (n * 1)).toList = (List.replicate n (0 : Int)).map (Value.int .i64) := by
    rw [show (Value.int .i64 0).cells = #[Value.int .i64 0] from rfl, toList_madeCells_one, Nat.mul_one]
    simp
  rw [e] at h
  exact ⟨h, by simp⟩
theorem getD_set_eq {bs : List Int} {j : Nat} (h : j < bs.length) (x : Int) : (bs.set j x).getD j 0 = x := by simp [List.getD_eq_getElem?_getD, h]
theorem getD_set_ne {bs : List Int} {i j : Nat} (h : i ≠ j) (x : Int) : (bs.set i x).getD j 0 = bs.getD j 0 := by simp [List.getD_eq_getElem?_getD, List.getElem?_set_ne h]
/-- The range that the inner loop has looked at. -/
def Lk (zs : List Int) (q i : Nat) (lo hi : Int) : Prop := (q = i ∧ lo = zs.getD (i - 1) 0 ∧ hi = zs.getD (i - 1) 0) ∨ (q < i ∧ Rng zs q i lo hi)
theorem Lk.next {zs : List Int} {q i : Nat} {lo hi : Int} (hq : 1 ≤ q) (h : Lk zs q i lo hi) : Rng zs (q - 1) i (min lo (zs.getD (q - 1) 0)) (max hi (zs.getD (q - 1) 0)) := by
  rcases h with ⟨rfl, rfl, rfl⟩ | ⟨h1, h2⟩
  · have := Rng.one zs (q - 1)
    rw [show q - 1 + 1 = q by omega] at this
    rwa [show min (zs.getD (q - 1) 0) (zs.getD (q - 1) 0) = zs.getD (q - 1) 0 by omega, show max (zs.getD (q - 1) 0) (zs.getD (q - 1) 0) = zs.getD (q - 1) 0 by omega]
  · exact Rng.left (by rwa [show q - 1 + 1 = q by omega])

set_option maxHeartbeats 8000000 in
set_option maxRecDepth 100000 in
theorem least_any {t : Int} (ht : tolb t = true) {a : Option Addr} {cp : Nat} {zs : List Int} (hz : zs.length ≤ 200) (w : World) (hs : SlZ w .i64 (.slice a zs.length cp) zs) : Calls Try.prog 35 #[.slice a zs.length cp, .int .i64 t] w fun e w' => e = .returned (.int .i64 (G t zs zs.length : Nat)) ∧ Below w.heap.size w w' := by
  obtain ⟨i0, hi, hz0, hz1, hz2⟩ := info_parts info_int
  obtain ⟨t1, t2⟩ := tolb_yes ht
  have hzi := slz_i64 hs
  have hrd : 0 < zs.length → ∃ g off, a = some ⟨g, off, none⟩ ∧ g < w.heap.size ∧ ∀ j, j < zs.length → w.cell? ⟨g, off + j, none⟩ = some (.int .i64 (zs.getD j 0)) := by
    obtain ⟨a9, l9, c9, e9, h1, h2, h3, h4, h5⟩ := hs
    cases e9
    exact fun h0 => h5 h0
  have HRD := hid hrd
  clear hrd hs
  go_enter Try.func35, Try.ntmps35
  (repeat' (first | (go_big_may; (first | (refine wpList_make_full _ rfl _ _ 27 rfl w.heap.size 3 i0 (.int .i64 0) 1 Try.underlying27 hi hz0 hz1 .i64 .i64 _ _ (zs.length + 1) rfl rfl (by simp) (by simp) (by rw [hz2]; omega) (by unfold maxLen; omega) (Nat.le_refl _) ?_; intro wm hown hgr))) | go_values | go_skip | go_guarded | go_step | go_upon | (simp only [Int.not_lt, Int.not_le] at *; go_simp) | (go_values <;> (try go_simp)) | (go_ite <;> go_prune <;> (try go_simp)) | (split <;> (first | (rename_i hx; exact (hx _ rfl).elim) | go_prune))))
  have hO0 : OwnI wm w.heap.size w.heap.size (zs.length + 1) (List.replicate (zs.length + 1) 0) := OwnI.zeros hown
  have hB0 : Below w.heap.size w wm := below_gt hgr
  clear hown hgr
  go_loopw [6] (fun i wr => ∃ (k : Nat) (bs : List Int), i = .int .i64 k ∧ 1 ≤ k ∧ k ≤ zs.length + 1 ∧ Hid (∀ j, j < k → bs.getD j 0 = (G t zs j : Nat)) ∧ Hid (OwnI wr w.heap.size w.heap.size (zs.length + 1) bs) ∧ Below w.heap.size w wr) (fun i _ => zs.length + 1 - (intOf i).toNat)
  case atStart => exact ⟨1, _, rfl, by omega, by omega, hid (fun j hj => by obtain rfl : j = 0 := by omega
                                                                            rw [G_zero]; rfl), hid hO0, hB0⟩
  case round =>
    obtain ⟨k, bs, rfl, hk1, hk, hG, hO, hB⟩ := hrel
    by_cases hkl : k ≤ zs.length
    · obtain ⟨gl, off, rfl, hgl, hls⟩ := HRD.out (by omega)
      obtain ⟨s, hs1, hs2, hs3⟩ := G_last ht (show 0 < k by omega) hkl
      have HLAST := hid (And.intro hs2 hs3)
      have HLS := hid (fun j (hj : j < zs.length) (Wz : World) (hz : Below w.heap.size w Wz) => (hz.cell (p := ⟨gl, off + j, none⟩) hgl).trans (hls j hj))
      clear hs2 hs3 hls
      obtain ⟨x, hx⟩ : ∃ x, zs.getD (k - 1) 0 = x := ⟨_, rfl⟩
      have HX := hid hx
      have f0 := hO.out.cell k (by omega)
      have f1 := hO.out.frozen k
      have hO2 := hid (hO.out.stored k (k : Int))
      have hB2 : Below w.heap.size w (wr.setCell ⟨w.heap.size, k, none⟩ (.int .i64 (k : Int))) := by (repeat' (first | (with_reducible assumption) | (with_reducible exact Below.refl _ _) | (with_reducible refine Below.alloc ?_ ?_ _) | (with_reducible refine Below.setCell ?_ ?_ _) | (with_reducible refine Below.drew ?_) | (with_reducible refine below_more ?_ (by with_reducible assumption)) | go_size | omega | (with_reducible refine below_drewN ?_)))
      have fx : (wr.setCell ⟨w.heap.size, k, none⟩ (.int .i64 (k : Int))).cell? ⟨gl, off + (k - 1), none⟩ = some (.int .i64 x) := hx ▸ HLS.out (k - 1) (by omega) _ hB2
      have hne : gl ≠ w.heap.size := by omega
      have fx0 : wr.cell? ⟨gl, off + (k - 1), none⟩ = some (.int .i64 x) := hx ▸ HLS.out (k - 1) (by omega) _ hB
      have hmx : Try.prog.follows .mixedOrders = true := by kernel_rfl
      have hk0 : ((k : Int) - 1).toNat = k - 1 := by omega
      have hk2 : IntKind.i64.wrap ((k : Int) - 1) = (k : Int) - 1 := IntWalk.i64_in _ ⟨by omega, by omega⟩
      have hk3 : 0 ≤ (k : Int) - 1 := by omega
      have hk4 : (k : Int) - 1 < zs.length := by omega
      clear hx fx
      (repeat' (first | go_values | go_skip | go_guarded | go_step | go_upon | (simp only [Int.not_lt, Int.not_le] at *; go_simp) | (go_values <;> (try go_simp)) | (go_ite <;> go_prune <;> (try go_simp)) | (split <;> (first | (rename_i hx; exact (hx _ rfl).elim) | go_prune))))
      go_quiet (fail)
      clear f0 f1 fx0
      (repeat' (first | go_values | go_skip | go_guarded | go_step | go_upon | (simp only [Int.not_lt, Int.not_le] at *; go_simp) | (go_values <;> (try go_simp)) | (go_ite <;> go_prune <;> (try go_simp)) | (split <;> (first | (rename_i hx; exact (hx _ rfl).elim) | go_prune))))
      have hxi : I64 x := HX.out ▸ getD_i64 (fun z hz => i64_wf (hzi z hz)) _
      have hskk : s < k := hs1
      go_loopw [7, 8, 9] (fun lo hi j wr => ∃ (q : Nat) (lo0 hi0 : Int) (cur : Nat) (bs : List Int), lo = .int .i64 lo0 ∧ hi = .int .i64 hi0 ∧ j = .int .i64 ((q : Int) - 1) ∧ q ≤ k ∧ I64 lo0 ∧ I64 hi0 ∧ Hid (Lk zs q k lo0 hi0) ∧ Hid (∀ j, j < k → bs.getD j 0 = (G t zs j : Nat)) ∧ Hid (bs.getD k 0 = (cur : Int)) ∧
        G t zs k ≤ cur ∧ cur ≤ k ∧ (q ≤ s → cur = G t zs k) ∧ Hid (OwnI wr w.heap.size w.heap.size (zs.length + 1) bs) ∧ Below w.heap.size w wr) (fun _ _ j _ => (intOf j + 1).toNat)
      case atStart =>
        exact ⟨k, x, x, k, bs.set k (k : Int), rfl, rfl, rfl, Nat.le_refl _, hxi, hxi, hid (.inl ⟨rfl, HX.out.symm, HX.out.symm⟩), hid (fun j hj => by rw [getD_set_ne (by omega)]; exact hG.out j hj), hid (getD_set_eq (by have := hO.out.2; omega) _), G_le ht k hkl, Nat.le_refl _, fun h => by omega, hid (by (repeat' (first | (with_reducible exact hO.out) | (with_reducible refine OwnI.drew ?_) | (with_reducible refine OwnI.drewN ?_ _) | (with_reducible refine OwnI.stored ?_ _ _)))), by (repeat' (first | (with_reducible assumption) | (with_reducible exact Below.refl _ _) | (with_reducible refine Below.alloc ?_ ?_ _) | (with_reducible refine Below.setCell ?_ ?_ _) | (with_reducible refine Below.drew ?_) | (with_reducible refine below_more ?_ (by with_reducible assumption)) | go_size | omega | (with_reducible refine below_drewN ?_)))⟩
      case round =>
        clear hG hO hO2 hB hB2
        obtain ⟨q, lo0, hi0, cur, bs, rfl, rfl, rfl, hqk, ilo, ihi, hlk, hG, hcu, hg1, hg2, hg3, hO, hB⟩ := hrel
        by_cases hq : 1 ≤ q
        · obtain ⟨r, rfl⟩ : ∃ r, q = r + 1 := ⟨q - 1, by omega⟩
          rw [show (((r + 1 : Nat) : Int) - 1) = (r : Int) by omega]
          obtain ⟨v, hv⟩ : ∃ v, zs.getD r 0 = v := ⟨_, rfl⟩
          have hvi : I64 v := hv ▸ getD_i64 (fun z hz => i64_wf (hzi z hz)) _
          have hR := hlk.out.next (by omega)
          rw [show r + 1 - 1 = r by omega, hv] at hR
          have hrk : r < k := by omega
          have hrl : r < zs.length := by omega
          have fv : wr.cell? ⟨gl, off + r, none⟩ = some (.int .i64 v) := hv ▸ HLS.out r hrl wr hB
          have fr : wr.cell? ⟨w.heap.size, r, none⟩ = some (.int .i64 (G t zs r : Nat)) := hG.out r hrk ▸ hO.out.cell r (by omega)
          have fk : wr.cell? ⟨w.heap.size, k, none⟩ = some (.int .i64 (cur : Nat)) := hcu.out ▸ hO.out.cell k (by omega)
          have ff := hO.out.frozen k
          have hdd : dst (min lo0 v) (max hi0 v) = max hi0 v - min lo0 v := by have := hR.le; unfold dst; split <;> omega
          have CD := fun W => Chk.rdist_any (min lo0 v) (max hi0 v) (min_i64 ilo hvi) (max_i64 ihi hvi) W
          have hnw := hR.nw (t := t)
          rw [← hdd] at hnw
          generalize dst (min lo0 v) (max hi0 v) = d at *
          have hcase : (d ≤ 2 * t ∧ NW t zs r k ∧ G t zs k ≤ G t zs r + 1) ∨ (2 * t < d ∧ ¬ NW t zs r k) := by
            by_cases h : NW t zs r k
            · exact .inl ⟨hnw.2 h, h, G_near ht (by omega) hkl h⟩
            · exact .inr ⟨by have := mt hnw.1 h; omega, h⟩
          have hGr := G_le ht (zs := zs) r (by omega)
          obtain ⟨gr, hgr⟩ : ∃ gr, G t zs r = gr := ⟨_, rfl⟩
          have HGR := hid hgr
          rw [hgr] at fr hcase hGr
          have hG2 : ∀ u : Int, ∀ j, j < k → (bs.set k u).getD j 0 = (G t zs j : Nat) := fun u j hj => by rw [getD_set_ne (by omega)]; exact hG.out j hj
          have hK2 : ∀ u : Int, (bs.set k u).getD k 0 = u := fun u => getD_set_eq (by have := hO.out.2; omega) u
          have HG2 := hid hG2
          have HK2 := hid hK2
          clear hnw hdd hv hG2 hK2 hgr
          have H : (lo0 ≤ v ∧ v ≤ hi0) ∨ (lo0 ≤ v ∧ hi0 < v) ∨ (v < lo0 ∧ v ≤ hi0) ∨ (v < lo0 ∧ hi0 < v) := by omega
          rcases hcase with ⟨hd, hN, hnr⟩ | ⟨hd, hN⟩
          · have hs9 : r ≤ s → min cur (gr + 1) = G t zs k := fun h => by
              by_cases e : r = s
              · have := HLAST.out.2
                rw [← e, HGR.out] at this
                omega
              · have := hg3 (by omega); omega
            have HN := hid hN
            have HS9 := hid hs9
            clear hN hs9
            have HC : cur ≤ gr + 1 ∨ gr + 1 < cur := by omega
            rcases H with ⟨o1, o2⟩ | ⟨o1, o2⟩ | ⟨o1, o2⟩ | ⟨o1, o2⟩ <;> rcases HC with o3 | o3
            all_goals
              (first | (have c1 : min lo0 v = lo0 := by omega) | (have c1 : min lo0 v = v := by omega))
              (first | (have c2 : max hi0 v = hi0 := by omega) | (have c2 : max hi0 v = v := by omega))
              rw [c1, c2] at CD hR
              have HR := hid hR
              clear c1 c2 hR
              (repeat' (first | go_values | go_skip | go_guarded | go_step | go_upon | (simp only [Int.not_lt, Int.not_le] at *; go_simp) | (go_values <;> (try go_simp)) | (go_ite <;> go_prune <;> (try go_simp)) | (split <;> (first | (rename_i hx; exact (hx _ rfl).elim) | go_prune))))
              go_quiet (fail)
              (repeat' (first | (go_big_may; (first | (go_at_call 37; refine (CD _).mono ?_; rintro e w' ⟨rfl, rfl⟩))) | go_values | go_skip | go_guarded | go_step | go_upon | (simp only [Int.not_lt, Int.not_le] at *; go_simp) | (go_values <;> (try go_simp)) | (go_ite <;> go_prune <;> (try go_simp)) | (split <;> (first | (rename_i hx; exact (hx _ rfl).elim) | go_prune))))
              go_region
              all_goals (repeat' (first | go_values | go_skip | go_guarded | go_step | go_upon | (simp only [Int.not_lt, Int.not_le] at *; go_simp) | (go_values <;> (try go_simp)) | (go_ite <;> go_prune <;> (try go_simp)) | (split <;> (first | (rename_i hx; exact (hx _ rfl).elim) | go_prune))))
              all_goals go_roundw
              all_goals first | exact ⟨r, _, _, cur, bs.set k (cur : Int), rfl, rfl, rfl, by omega, by assumption, by assumption, hid (.inr ⟨hrk, HR.out⟩), hid (HG2.out _), hid (HK2.out _), hg1, hg2, (fun h => by have := HS9.out h; omega), hid (by (repeat' (first | (with_reducible exact hO.out) | (with_reducible refine OwnI.drew ?_) | (with_reducible refine OwnI.drewN ?_ _) | (with_reducible refine OwnI.stored ?_ _ _)))), by (repeat' (first | (with_reducible assumption) | (with_reducible exact Below.refl _ _) | (with_reducible refine Below.alloc ?_ ?_ _) | (with_reducible refine Below.setCell ?_ ?_ _) | (with_reducible refine Below.drew ?_) | (with_reducible refine below_more ?_ (by with_reducible assumption)) | go_size | omega | (with_reducible refine below_drewN ?_)))⟩ | exact ⟨r, _, _, gr + 1, bs.set k ((gr : Int) + 1), rfl, rfl, rfl, by omega, by assumption, by assumption, hid (.inr ⟨hrk, HR.out⟩), hid (HG2.out _), hid ((HK2.out _).trans (by simp)), hnr, by omega, (fun h => by have := HS9.out h; omega), hid (by (repeat' (first | (with_reducible exact hO.out) | (with_reducible refine OwnI.drew ?_) | (with_reducible refine OwnI.drewN ?_ _) | (with_reducible refine OwnI.stored ?_ _ _)))), by (repeat' (first | (with_reducible assumption) | (with_reducible exact Below.refl _ _) | (with_reducible refine Below.alloc ?_ ?_ _) | (with_reducible refine Below.setCell ?_ ?_ _) | (with_reducible refine Below.drew ?_) | (with_reducible refine below_more ?_ (by with_reducible assumption)) | go_size | omega | (with_reducible refine below_drewN ?_)))⟩ | (simp [intOf]; omega) | (simp [intOf]; done)
          · have hs9 : r ≤ s → cur = G t zs k := fun h => by
              by_cases e : r = s
              · exact absurd (e ▸ HLAST.out.1) hN
              · exact hg3 (by omega)
            have HS9 := hid hs9
            clear hN hs9
            rcases H with ⟨o1, o2⟩ | ⟨o1, o2⟩ | ⟨o1, o2⟩ | ⟨o1, o2⟩
            all_goals
              (first | (have c1 : min lo0 v = lo0 := by omega) | (have c1 : min lo0 v = v := by omega))
              (first | (have c2 : max hi0 v = hi0 := by omega) | (have c2 : max hi0 v = v := by omega))
              rw [c1, c2] at CD hR
              have HR := hid hR
              clear c1 c2 hR
              (repeat' (first | go_values | go_skip | go_guarded | go_step | go_upon | (simp only [Int.not_lt, Int.not_le] at *; go_simp) | (go_values <;> (try go_simp)) | (go_ite <;> go_prune <;> (try go_simp)) | (split <;> (first | (rename_i hx; exact (hx _ rfl).elim) | go_prune))))
              go_quiet (fail)
              (repeat' (first | (go_big_may; (first | (go_at_call 37; refine (CD _).mono ?_; rintro e w' ⟨rfl, rfl⟩))) | go_values | go_skip | go_guarded | go_step | go_upon | (simp only [Int.not_lt, Int.not_le] at *; go_simp) | (go_values <;> (try go_simp)) | (go_ite <;> go_prune <;> (try go_simp)) | (split <;> (first | (rename_i hx; exact (hx _ rfl).elim) | go_prune))))
              go_roundw
              all_goals first | exact ⟨r, _, _, cur, bs, rfl, rfl, rfl, by omega, by assumption, by assumption, hid (.inr ⟨hrk, HR.out⟩), hG, hcu, hg1, hg2, HS9.out, hid (by (repeat' (first | (with_reducible exact hO.out) | (with_reducible refine OwnI.drew ?_) | (with_reducible refine OwnI.drewN ?_ _) | (with_reducible refine OwnI.stored ?_ _ _)))), by (repeat' (first | (with_reducible assumption) | (with_reducible exact Below.refl _ _) | (with_reducible refine Below.alloc ?_ ?_ _) | (with_reducible refine Below.setCell ?_ ?_ _) | (with_reducible refine Below.drew ?_) | (with_reducible refine below_more ?_ (by with_reducible assumption)) | go_size | omega | (with_reducible refine below_drewN ?_)))⟩ | (simp [intOf]; omega) | (simp [intOf]; done)
        · obtain rfl : q = 0 := by omega
          have hck : cur = G t zs k := hg3 (by omega)
          have hG3 : ∀ j, j < k + 1 → bs.getD j 0 = (G t zs j : Nat) := fun j hj => by
            by_cases e : j = k
            · rw [e, hcu.out, hck]
            · exact hG.out j (by omega)
          have HG3 := hid hG3
          clear hG3 hck
          rw [show (((0 : Nat) : Int) - 1) = -1 by omega]
          (repeat' (first | go_values | go_skip | go_guarded | go_step | go_upon | (simp only [Int.not_lt, Int.not_le] at *; go_simp) | (go_values <;> (try go_simp)) | (go_ite <;> go_prune <;> (try go_simp)) | (split <;> (first | (rename_i hx; exact (hx _ rfl).elim) | go_prune))))
          go_roundw
          all_goals first | exact ⟨k + 1, bs, by simp, by omega, by omega, HG3, hid (by (repeat' (first | (with_reducible exact hO.out) | (with_reducible refine OwnI.drew ?_) | (with_reducible refine OwnI.drewN ?_ _) | (with_reducible refine OwnI.stored ?_ _ _)))), by (repeat' (first | (with_reducible assumption) | (with_reducible exact Below.refl _ _) | (with_reducible refine Below.alloc ?_ ?_ _) | (with_reducible refine Below.setCell ?_ ?_ _) | (with_reducible refine Below.drew ?_) | (with_reducible refine below_more ?_ (by with_reducible assumption)) | go_size | omega | (with_reducible refine below_drewN ?_)))⟩ | (simp [intOf]; omega) | (simp [intOf]; done)
    · obtain rfl : k = zs.length + 1 := by omega
      have fl : wr.cell? ⟨w.heap.size, zs.length, none⟩ = some (.int .i64 (G t zs zs.length : Nat)) := hG.out zs.length (by omega) ▸ hO.out.cell zs.length (by omega)
      have hlx : zs.length < zs.length + 1 := by omega
      obtain ⟨gn, hgn⟩ : ∃ gn, G t zs zs.length = gn := ⟨_, rfl⟩
      have HGN := hid hgn
      rw [hgn] at fl
      clear hgn
      (repeat' (first | go_values | go_skip | go_guarded | go_step | go_upon | (simp only [Int.not_lt, Int.not_le] at *; go_simp) | (go_values <;> (try go_simp)) | (go_ite <;> go_prune <;> (try go_simp)) | (split <;> (first | (rename_i hx; exact (hx _ rfl).elim) | go_prune))))
      go_ret
      exact ⟨by rw [HGN.out]; rfl, hB⟩
end Go.Proofs.Ytenaeaojnebokaa
