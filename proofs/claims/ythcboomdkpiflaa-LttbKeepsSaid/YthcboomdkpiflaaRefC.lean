/- The reference of wide, continued: its functions on Wides. -/
import Derived.Test.YthcboomdkpiflaaRows
import Derived.Test.YthcboomdkpiflaaRefB
import Derived.Test.YthcboomdkpiflaaWideC
import Derived.WalkKit
import Derived.ProofKit
import Derived.WalkLawsBesides
import Derived.WalkSpells
import Derived.RegionTactic
import Derived.ChangeAlike
import Derived.BigRegion
import Derived.Outline
import Derived.Handy
namespace Go.Proofs.Ythcboomdkpiflaa
open Go.ChangeShapes Go.WideShapes Go.ChangeAt Go.RowKit
set_option linter.unusedVariables false
set_option linter.unusedSimpArgs false

theorem mz_len {a b c d : Int} (ha : U64 a) (hb : U64 b) (hc : U64 c) (hd : U64 d) : decide (0 < (wl (MV a b c d)).length) = !mz a b c d := by
  have h1 := mz_iff ha hb hc hd
  by_cases hm : MV a b c d = 0
  · rw [h1.2 hm, hm, wl_nil (Int.le_refl _)]; rfl
  · have h0 := mv_nonneg ha hb hc hd
    have h2 : (wl (MV a b c d)).length ≠ 0 := fun h => wl_ne (show 0 < MV a b c d by omega) (List.length_eq_zero_iff.1 h)
    have h3 : mz a b c d = false := by
      cases hz : mz a b c d
      · rfl
      · exact absurd (h1.1 hz) hm
    rw [h3]; exact dT (by omega)
theorem MagP.open {w w' : World} {m : Int} {e : Ending} (h : MagP w m e w') : ∃ a len cap, e = .returned (.slice a len cap) ∧ (wl m).length = len ∧ SlU w' (.slice a len cap) (wl m) ∧ Below w.heap.size w w' := by
  obtain ⟨v, rfl, hs, hb⟩ := h
  have hs' := hs
  obtain ⟨a, len, cap, rfl, hl, _⟩ := hs
  exact ⟨a, len, cap, rfl, hl, hs', hb⟩
theorem mag_ask {P : Program} {f : FuncId} {args : Array Value} {w : World} {m : Int} (h : Calls P f args w (MagP w m)) : Calls P f args w fun e w' => ∃ v, e = .returned v ∧ SlU w' v (wl m) ∧ w.grownBy w' none :=
  h.mono fun e w' ⟨v, he, hs, hb⟩ => ⟨v, he, hs, gt_below hb _⟩

theorem rvalid_any (n : Bool) (a b c d : Int) (ha : U64 a) (hb : U64 b) (hc : U64 c) (hd : U64 d) (w : World) :
    Calls Try.prog 64 #[WV n a b c d] w fun e w' => e = .returned (.bool (!n || !mz a b c d)) ∧ Below w.heap.size w w' := by
  cases n
  · clear ha hb hc hd
    go_enter Try.func64, Try.ntmps64
    go_wp2
    go_returns
    exact ⟨ret_b rfl, by (repeat' (first | (with_reducible assumption) | (with_reducible exact Below.refl _ _) | (with_reducible refine Below.alloc ?_ ?_ _) | (with_reducible refine Below.setCell ?_ ?_ _) | (with_reducible refine Below.drew ?_) | (with_reducible refine below_more ?_ (by with_reducible assumption)) | go_size | omega | (with_reducible refine below_drewN ?_)))⟩
  · have hz := hid (mz_len ha hb hc hd)
    go_enter Try.func64, Try.ntmps64
    (repeat' (first | (go_big_may; (first | (go_at_call 49; refine (rof_any true a b c d ha hb hc hd _).mono ?_; rintro e w' hmag; obtain ⟨a1, l1, c1, rfl, hl1, hs1, hb1⟩ := hmag.open; have HL := hid hl1; clear hl1 hmag))) | go_values | go_skip | go_guarded | go_step | go_upon | (simp only [Int.not_lt, Int.not_le] at *; go_simp) | (go_values <;> (try go_simp)) | (go_ite <;> go_prune <;> (try go_simp)) | (split <;> (first | (rename_i hx; exact (hx _ rfl).elim) | go_prune))))
    go_ret
    refine ⟨ret_b ?_, by (repeat' (first | (with_reducible assumption) | (with_reducible exact Below.refl _ _) | (with_reducible refine Below.alloc ?_ ?_ _) | (with_reducible refine Below.setCell ?_ ?_ _) | (with_reducible refine Below.drew ?_) | (with_reducible refine below_more ?_ (by with_reducible assumption)) | go_size | omega | (with_reducible refine below_drewN ?_)))⟩
    have := hz.out
    rw [HL.out] at this
    simp [this]
  
theorem rclean_any (n : Bool) (a b c d : Int) (ha : U64 a) (hb : U64 b) (hc : U64 c) (hd : U64 d) (w : World) :
    Calls Try.prog 46 #[WV n a b c d] w fun e w' => e = .returned (WV (cn n a b c d) a b c d) ∧ Below w.heap.size w w' := by
  cases hz : (n && mz a b c d)
  · have hv : (!n || !mz a b c d) = true := by revert hz; cases n <;> cases mz a b c d <;> simp
    have hcn : cn n a b c d = n := by revert hz; unfold cn; cases n <;> cases mz a b c d <;> simp
    rw [hcn]
    have C := fun W => rvalid_any n a b c d ha hb hc hd W
    simp only [hv] at C
    clear hz hcn hv ha hb hc hd
    go_enter Try.func46, Try.ntmps46
    (repeat' (first | (go_big_may; (first | (go_at_call 64; refine (C _).mono ?_; rintro e w' ⟨rfl, hbw⟩; have N1 := Bx.of (HB.below (b := w.heap.size) (cs := #[.bool n, .int .u64 a, .int .u64 b, .int .u64 c, .int .u64 d]) (by (repeat' (first | (with_reducible assumption) | ((with_reducible refine HB.new _ _ _ ?_) <;> (go_size; done)) | (with_reducible refine HB.old (by go_size) ?_) | (with_reducible refine HB.drew ?_) | (with_reducible refine HB.over5 ?_) | (with_reducible refine HB.over4 ?_) | (with_reducible refine HB.setne (by first | go_size | (dsimp only; omega)) ?_) | (with_reducible refine HN.set ?_) | (with_reducible refine HN.setne (by first | go_size | (dsimp only; omega)) ?_) | (with_reducible refine HN.drew ?_) | (with_reducible refine HN.old (by go_size) ?_) | (with_reducible exact HN.of5 (by assumption)) | (with_reducible exact HN.new5 _ _ (by go_size)) | (with_reducible exact HN.of4 (by assumption)) | (with_reducible exact HN.new4 _ _ (by go_size))))) hbw); have N2 := Bx.of (HB.below (b := w.heap.size + 1) (cs := #[.bool false, .int .u64 0, .int .u64 0, .int .u64 0, .int .u64 0]) (by (repeat' (first | (with_reducible assumption) | ((with_reducible refine HB.new _ _ _ ?_) <;> (go_size; done)) | (with_reducible refine HB.old (by go_size) ?_) | (with_reducible refine HB.drew ?_) | (with_reducible refine HB.over5 ?_) | (with_reducible refine HB.over4 ?_) | (with_reducible refine HB.setne (by first | go_size | (dsimp only; omega)) ?_) | (with_reducible refine HN.set ?_) | (with_reducible refine HN.setne (by first | go_size | (dsimp only; omega)) ?_) | (with_reducible refine HN.drew ?_) | (with_reducible refine HN.old (by go_size) ?_) | (with_reducible exact HN.of5 (by assumption)) | (with_reducible exact HN.new5 _ _ (by go_size)) | (with_reducible exact HN.of4 (by assumption)) | (with_reducible exact HN.new4 _ _ (by go_size))))) hbw); (try clear B1 B1c B1f B1l); (try clear B2 B2c B2f B2l); obtain ⟨B1, B1c, B1f, B1l⟩ := N1; obtain ⟨B2, B2c, B2f, B2l⟩ := N2; have hsz := hbw.size; (try simp only [World.size_alloc, World.size_setCell, World.size_drew] at hsz)))) | go_values | go_skip | go_guarded | go_step | go_upon | (simp only [Int.not_lt, Int.not_le] at *; go_simp) | (go_values <;> (try go_simp)) | (go_ite <;> go_prune <;> (try go_simp)) | (split <;> (first | (rename_i hx; exact (hx _ rfl).elim) | go_prune))))
    refine bodyPost_ret (v := WV n a b c d) ?_ rfl ⟨rfl, by (repeat' (first | (with_reducible assumption) | (with_reducible exact Below.refl _ _) | (with_reducible refine Below.alloc ?_ ?_ _) | (with_reducible refine Below.setCell ?_ ?_ _) | (with_reducible refine Below.drew ?_) | (with_reducible refine below_more ?_ (by with_reducible assumption)) | go_size | omega | (with_reducible refine below_drewN ?_)))⟩
    simp [results, Try.results46, go_sem, B2c, B2f, B2l]
  · have hv : (!n || !mz a b c d) = false := by revert hz; cases n <;> cases mz a b c d <;> simp
    have hzz : mz a b c d = true := by revert hz; cases n <;> simp
    have hcn : cn n a b c d = false := by unfold cn; rw [hzz]; simp
    have hw : a = 0 ∧ b = 0 ∧ c = 0 ∧ d = 0 := by simpa [mz, meq] using hzz
    have C := fun W => rvalid_any n a b c d ha hb hc hd W
    simp only [hv] at C
    obtain ⟨rfl, rfl, rfl, rfl⟩ := hw
    rw [hcn]
    clear hz hcn hzz hv ha hb hc hd
    go_enter Try.func46, Try.ntmps46
    (repeat' (first | (go_big_may; (first | (go_at_call 64; refine (C _).mono ?_; rintro e w' ⟨rfl, hbw⟩; have N1 := Bx.of (HB.below (b := w.heap.size) (cs := #[.bool n, .int .u64 0, .int .u64 0, .int .u64 0, .int .u64 0]) (by (repeat' (first | (with_reducible assumption) | ((with_reducible refine HB.new _ _ _ ?_) <;> (go_size; done)) | (with_reducible refine HB.old (by go_size) ?_) | (with_reducible refine HB.drew ?_) | (with_reducible refine HB.over5 ?_) | (with_reducible refine HB.over4 ?_) | (with_reducible refine HB.setne (by first | go_size | (dsimp only; omega)) ?_) | (with_reducible refine HN.set ?_) | (with_reducible refine HN.setne (by first | go_size | (dsimp only; omega)) ?_) | (with_reducible refine HN.drew ?_) | (with_reducible refine HN.old (by go_size) ?_) | (with_reducible exact HN.of5 (by assumption)) | (with_reducible exact HN.new5 _ _ (by go_size)) | (with_reducible exact HN.of4 (by assumption)) | (with_reducible exact HN.new4 _ _ (by go_size))))) hbw); have N2 := Bx.of (HB.below (b := w.heap.size + 1) (cs := #[.bool false, .int .u64 0, .int .u64 0, .int .u64 0, .int .u64 0]) (by (repeat' (first | (with_reducible assumption) | ((with_reducible refine HB.new _ _ _ ?_) <;> (go_size; done)) | (with_reducible refine HB.old (by go_size) ?_) | (with_reducible refine HB.drew ?_) | (with_reducible refine HB.over5 ?_) | (with_reducible refine HB.over4 ?_) | (with_reducible refine HB.setne (by first | go_size | (dsimp only; omega)) ?_) | (with_reducible refine HN.set ?_) | (with_reducible refine HN.setne (by first | go_size | (dsimp only; omega)) ?_) | (with_reducible refine HN.drew ?_) | (with_reducible refine HN.old (by go_size) ?_) | (with_reducible exact HN.of5 (by assumption)) | (with_reducible exact HN.new5 _ _ (by go_size)) | (with_reducible exact HN.of4 (by assumption)) | (with_reducible exact HN.new4 _ _ (by go_size))))) hbw); (try clear B1 B1c B1f B1l); (try clear B2 B2c B2f B2l); obtain ⟨B1, B1c, B1f, B1l⟩ := N1; obtain ⟨B2, B2c, B2f, B2l⟩ := N2; have hsz := hbw.size; (try simp only [World.size_alloc, World.size_setCell, World.size_drew] at hsz)))) | go_values | go_skip | go_guarded | go_step | go_upon | (simp only [Int.not_lt, Int.not_le] at *; go_simp) | (go_values <;> (try go_simp)) | (go_ite <;> go_prune <;> (try go_simp)) | (split <;> (first | (rename_i hx; exact (hx _ rfl).elim) | go_prune))))
    refine bodyPost_ret (v := WV false 0 0 0 0) ?_ rfl ⟨rfl, by (repeat' (first | (with_reducible assumption) | (with_reducible exact Below.refl _ _) | (with_reducible refine Below.alloc ?_ ?_ _) | (with_reducible refine Below.setCell ?_ ?_ _) | (with_reducible refine Below.drew ?_) | (with_reducible refine below_more ?_ (by with_reducible assumption)) | go_size | omega | (with_reducible refine below_drewN ?_)))⟩
    simp [results, Try.results46, go_sem, B2c, B2f, B2l]

theorem rOf_any (v : Int) (hv : I64 v) (w : World) :
    Calls Try.prog 20 #[.int .i64 v] w fun e w' => e = .returned (WE v) ∧ Below w.heap.size w w' := by
  obtain ⟨v1, v2⟩ := hv
  generalize hR : WE v = R
  have HR := hid hR
  by_cases h : v < 0
  · have e : WE v = WV true (IntKind.u64.wrap (-IntKind.u64.wrap v)) 0 0 0 := we_of_neg v ⟨v1, v2⟩ h
    have E := hid (e.symm.trans hR)
    clear e hR
    go_enter Try.func20, Try.ntmps20
    (repeat' (first | go_values | go_skip | go_guarded | go_step | go_upon | (simp only [Int.not_lt, Int.not_le] at *; go_simp) | (go_values <;> (try go_simp)) | (go_ite <;> go_prune <;> (try go_simp)) | (split <;> (first | (rename_i hx; exact (hx _ rfl).elim) | go_prune))))
    refine bodyPost_ret (v := WV true (IntKind.u64.wrap (-IntKind.u64.wrap v)) 0 0 0) ?_ rfl ⟨congrArg Ending.returned E.out, by (repeat' (first | (with_reducible assumption) | (with_reducible exact Below.refl _ _) | (with_reducible refine Below.alloc ?_ ?_ _) | (with_reducible refine Below.setCell ?_ ?_ _) | (with_reducible refine Below.drew ?_) | (with_reducible refine below_more ?_ (by with_reducible assumption)) | go_size | omega | (with_reducible refine below_drewN ?_)))⟩
    simp [results, Try.results20, go_sem]
  · have e : WE v = WV false v 0 0 0 := we_uns v ⟨by omega, by omega⟩
    have E := hid (e.symm.trans hR)
    clear e hR
    go_enter Try.func20, Try.ntmps20
    (repeat' (first | go_values | go_skip | go_guarded | go_step | go_upon | (simp only [Int.not_lt, Int.not_le] at *; go_simp) | (go_values <;> (try go_simp)) | (go_ite <;> go_prune <;> (try go_simp)) | (split <;> (first | (rename_i hx; exact (hx _ rfl).elim) | go_prune))))
    refine bodyPost_ret (v := WV false v 0 0 0) ?_ rfl ⟨congrArg Ending.returned E.out, by (repeat' (first | (with_reducible assumption) | (with_reducible exact Below.refl _ _) | (with_reducible refine Below.alloc ?_ ?_ _) | (with_reducible refine Below.setCell ?_ ?_ _) | (with_reducible refine Below.drew ?_) | (with_reducible refine below_more ?_ (by with_reducible assumption)) | go_size | omega | (with_reducible refine below_drewN ?_)))⟩
    simp [results, Try.results20, go_sem]

theorem rneg_any (n : Bool) (a b c d : Int) (ha : U64 a) (hb : U64 b) (hc : U64 c) (hd : U64 d) (w : World) :
    Calls Try.prog 37 #[WV n a b c d] w fun e w' => e = .returned (WE (-wv n a b c d)) ∧ Below w.heap.size w w' := by
  have m1 := mv_nonneg ha hb hc hd
  have e1 : sv (!n) (MV a b c d) = -wv n a b c d := by unfold sv wv; cases n <;> simp
  have f1 : Fits (-wv n a b c d) := by rw [← e1]; exact (fits_sv m1).2 (mv_up4 ha hb hc hd)
  have C := fun (W : World) (a0 : Option Addr) (len cap : Nat) (h : SlU W (.slice a0 len cap) (wl (MV a b c d))) => rwide_any (!n) a0 len cap _ W h
  rw [VL_wl m1, e1, cl_fit f1, fb_fit f1] at C
  have O := fun W => mag_ask (rof_any n a b c d ha hb hc hd W)
  generalize -wv n a b c d = z at *
  clear m1 e1 f1 ha hb hc hd
  generalize hR : WE z = R
  have HR := hid hR
  clear hR
  go_enter Try.func37, Try.ntmps37
  go_wp2_with fail
  
  
  (refine wp_region_dq (row := none) (S := (fun Wz => Below w.heap.size w Wz ∧ w.heap.size + 2 ≤ Wz.heap.size ∧ Bx Wz (w.heap.size) (#[.bool n, .int .u64 a, .int .u64 b, .int .u64 c, .int .u64 d]) ∧ Bx Wz (w.heap.size + 1) (#[.bool false, .int .u64 0, .int .u64 0, .int .u64 0, .int .u64 0]))) (n0 := w.heap.size + 2) 10 [8] [(0, 0), (1, 0), (2, 0), (3, 0), (4, 1), (5, 1), (6, 0), (7, 0), (8, 2)] [(9, 3, #[.bool false, .int .u64 0, .int .u64 0, .int .u64 0, .int .u64 0])] (by kernel_rfl) (by kernel_rfl) (fun _ _ d _ _ h => by cases d <;> exact h) ⟨by (repeat' (first | (with_reducible assumption) | (with_reducible exact Below.refl _ _) | (with_reducible refine Below.alloc ?_ ?_ _) | (with_reducible refine Below.setCell ?_ ?_ _) | (with_reducible refine Below.drew ?_) | (with_reducible refine below_more ?_ (by with_reducible assumption)) | go_size | omega | (with_reducible refine below_drewN ?_))), (by first | go_size | omega), Bx.of (by (repeat' (first | (with_reducible assumption) | ((with_reducible refine HB.new _ _ _ ?_) <;> (go_size; done)) | (with_reducible refine HB.old (by go_size) ?_) | (with_reducible refine HB.drew ?_) | (with_reducible refine HB.over5 ?_) | (with_reducible refine HB.over4 ?_) | (with_reducible refine HB.setne (by first | go_size | (dsimp only; omega)) ?_) | (with_reducible refine HN.set ?_) | (with_reducible refine HN.setne (by first | go_size | (dsimp only; omega)) ?_) | (with_reducible refine HN.drew ?_) | (with_reducible refine HN.old (by go_size) ?_) | (with_reducible exact HN.of5 (by assumption)) | (with_reducible exact HN.new5 _ _ (by go_size)) | (with_reducible exact HN.of4 (by assumption)) | (with_reducible exact HN.new4 _ _ (by go_size))))), Bx.of (by (repeat' (first | (with_reducible assumption) | ((with_reducible refine HB.new _ _ _ ?_) <;> (go_size; done)) | (with_reducible refine HB.old (by go_size) ?_) | (with_reducible refine HB.drew ?_) | (with_reducible refine HB.over5 ?_) | (with_reducible refine HB.over4 ?_) | (with_reducible refine HB.setne (by first | go_size | (dsimp only; omega)) ?_) | (with_reducible refine HN.set ?_) | (with_reducible refine HN.setne (by first | go_size | (dsimp only; omega)) ?_) | (with_reducible refine HN.drew ?_) | (with_reducible refine HN.old (by go_size) ?_) | (with_reducible exact HN.of5 (by assumption)) | (with_reducible exact HN.new5 _ _ (by go_size)) | (with_reducible exact HN.of4 (by assumption)) | (with_reducible exact HN.new4 _ _ (by go_size)))))⟩ (fun _ _ h g => keep2 h (below_gt g) rfl) (fun _ h => h.2.1) (fun _ h => by cases h) (by intro x hx; simp only [List.mem_cons, List.not_mem_nil, or_false] at hx; rcases hx with rfl <;> exact ⟨_, rfl, rfl, rfl, rfl, fun ρ w => ⟨27, by kernel_rfl⟩⟩) ?_)
  refine' dq_pure (by rfl) (by rfl) ?hv1 ?rest1
  case hv1 => (intro w hw; (try dsimp only at hw); go_split_ands; go_simp; try with_reducible rfl)
  case' rest1 => try simp only [Act.put, List.setIfInBounds_toArray, List.set_cons_zero, List.set_cons_succ]
  refine' dq_pure (by rfl) (by rfl) ?hv2 ?rest2
  case hv2 => (intro w hw; (try dsimp only at hw); go_split_ands; go_simp; try with_reducible rfl)
  case' rest2 => try simp only [Act.put, List.setIfInBounds_toArray, List.set_cons_zero, List.set_cons_succ]
  refine' dq_pure (by rfl) (by rfl) ?hv3 ?rest3
  case hv3 => (intro w hw; (try dsimp only at hw); go_split_ands; go_simp; try with_reducible rfl)
  case' rest3 => try simp only [Act.put, List.setIfInBounds_toArray, List.set_cons_zero, List.set_cons_succ]
  refine' dq_pure (by rfl) (by rfl) ?hv4 ?rest4
  case hv4 => (intro w hw; (try dsimp only at hw); go_split_ands; go_simp; try with_reducible rfl)
  case' rest4 => try simp only [Act.put, List.setIfInBounds_toArray, List.set_cons_zero, List.set_cons_succ]
  refine' dq_ask (R := fun v w' => SlU w' v (wl (MV a b c d))) (by rfl) (by rfl) ?hv5 ?hc5 ?rest5 (fun _ _ h g => keep2 h (below_gt g) rfl)
  case hv5 => (intro w; go_simp; exact ⟨rfl, rfl⟩)
  case hc5 => exact (fun wq hsq htq => O wq)
  case' rest5 => try simp only [Act.put, List.setIfInBounds_toArray, List.set_cons_zero, List.set_cons_succ]
  (rintro v1 x1 hS1 hg1 hs1; have hs1' := hs1; obtain ⟨a1, l1, c1, rfl, -⟩ := hs1')
  refine' dq_ask (R := fun v _ => v = .tuple #[WE z, .bool true]) (by rfl) (by rfl) ?hv6 ?hc6 ?rest6 (fun _ _ h g => keep2 h (below_gt g) rfl)
  case hv6 => (intro w; go_simp; exact ⟨rfl, rfl⟩)
  case hc6 => exact (fun wq hsq htq => (C _ a1 l1 c1 (hs1.below (below_gt htq))).mono (fun e w' ⟨he, hb⟩ => ⟨_, he, rfl, gt_below hb _⟩))
  case' rest6 => try simp only [Act.put, List.setIfInBounds_toArray, List.set_cons_zero, List.set_cons_succ]
  (rintro v2 x2 hS2 hg2 rfl; clear hs1)
  refine' dq_pure (by rfl) (by rfl) ?hv7 ?rest7
  case hv7 => (intro w hw; (try dsimp only at hw); go_split_ands; go_simp; try with_reducible rfl)
  case' rest7 => try simp only [Act.put, List.setIfInBounds_toArray, List.set_cons_zero, List.set_cons_succ]
  refine' dq_pure (by rfl) (by rfl) ?hv8 ?rest8
  case hv8 => (intro w hw; (try dsimp only at hw); go_split_ands; go_simp; try with_reducible rfl)
  case' rest8 => try simp only [Act.put, List.setIfInBounds_toArray, List.set_cons_zero, List.set_cons_succ]
  refine' dq_late (by rfl) (by rfl) ?hv9 ?rest9
  case hv9 => (intro w; go_simp; try with_reducible rfl)
  case' rest9 => try simp only [Act.put, List.setIfInBounds_toArray, List.set_cons_zero, List.set_cons_succ]
  refine dq_nil ?_
  simp only [fa, List.drop_succ_cons, List.drop_zero]
  intro p3 hp3 hd3
  rintro W ⟨⟨hb0, hn0, ⟨B1, B1c, B1f, B1l⟩, ⟨B2, B2c, B2f, B2l⟩⟩, hgl⟩ hbs
  obtain ⟨P3, P3c, P3f, P3l⟩ := Bx.of (hbs (p3, #[.bool false, .int .u64 0, .int .u64 0, .int .u64 0, .int .u64 0]) (by simp))
  clear hd3
  clear hbs
  (repeat' (first | go_values | go_skip | go_guarded | go_step | go_upon | (simp only [Int.not_lt, Int.not_le] at *; go_simp) | (go_values <;> (try go_simp)) | (go_ite <;> go_prune <;> (try go_simp)) | (split <;> (first | (rename_i hx; exact (hx _ rfl).elim) | go_prune))))
  refine bodyPost_ret (v := WE z) ?_ rfl ⟨congrArg Ending.returned HR.out, by (repeat' (first | (with_reducible assumption) | (with_reducible exact Below.refl _ _) | (with_reducible refine Below.alloc ?_ ?_ _) | (with_reducible refine Below.setCell ?_ ?_ _) | (with_reducible refine Below.drew ?_) | (with_reducible refine below_more ?_ (by with_reducible assumption)) | go_size | omega | (with_reducible refine below_drewN ?_)))⟩
  simp [results, Try.results37, go_sem, B1c, B1f, B1l, B2c, B2f, B2l]





theorem two_tuple {z : Int} : Value.tuple #[WE (cl z), .bool (fb z)] = Value.tuple #[WE (cl z), .bool (fb z)] := rfl
set_option maxHeartbeats 3000000 in
set_option maxRecDepth 100000 in
theorem rmul2_any (n : Bool) (a b c d : Int) (n' : Bool) (a' b' c' d' : Int) (ha : U64 a) (hb : U64 b) (hc : U64 c) (hd : U64 d) (ha' : U64 a') (hb' : U64 b') (hc' : U64 c') (hd' : U64 d') (w : World) :
    Calls Try.prog 23 #[WV n a b c d, WV n' a' b' c' d'] w fun e w' => e = .returned (.tuple #[WE (cl (wv n a b c d * wv n' a' b' c' d')), .bool (fb (wv n a b c d * wv n' a' b' c' d'))]) ∧ Below w.heap.size w w' := by
  obtain ⟨z, hz⟩ : ∃ z, z = wv n a b c d * wv n' a' b' c' d' := ⟨_, rfl⟩
  rw [← hz]
  generalize hR : Value.tuple #[WE (cl z), .bool (fb z)] = R
  have HR := hid hR
  clear hR
  rw [wv_sv n a b c d, wv_sv n' a' b' c' d', sv_mul] at hz
  have CA := fun W => rclean_any n a b c d ha hb hc hd W
  have CB := fun W => rclean_any n' a' b' c' d' ha' hb' hc' hd' W
  generalize cn n a b c d = p at *
  generalize cn n' a' b' c' d' = q at *
  have OA := fun W => mag_ask (rof_any p a b c d ha hb hc hd W)
  have OB := fun W => mag_ask (rof_any q a' b' c' d' ha' hb' hc' hd' W)
  have m1 := mv_nonneg ha hb hc hd
  have m2 := mv_nonneg ha' hb' hc' hd'
  have k1 := (wl_fit m1).2 (mv_up4 ha hb hc hd)
  have k2 := (wl_fit m2).2 (mv_up4 ha' hb' hc' hd')
  have m3 := Int.mul_nonneg m1 m2
  have C := fun (W : World) (a0 : Option Addr) (len cap : Nat) (h : SlU W (.slice a0 len cap) (wl (MV a b c d * MV a' b' c' d'))) => rwide_any (p != q) a0 len cap _ W h
  rw [VL_wl m3, ← hz] at C
  generalize MV a b c d = m at *
  generalize MV a' b' c' d' = m' at *
  clear hz ha hb hc hd ha' hb' hc' hd' m3
  go_enter Try.func23, Try.ntmps23
  go_wp2_with fail
  (refine wp_region_dq (row := none) (S := (fun Wz => Below w.heap.size w Wz ∧ w.heap.size + 3 ≤ Wz.heap.size ∧ Bx Wz (w.heap.size) (#[.bool n, .int .u64 a, .int .u64 b, .int .u64 c, .int .u64 d]) ∧ Bx Wz (w.heap.size + 1) (#[.bool n', .int .u64 a', .int .u64 b', .int .u64 c', .int .u64 d']) ∧ Bx Wz (w.heap.size + 1 + 1) (#[.bool false, .int .u64 0, .int .u64 0, .int .u64 0, .int .u64 0]))) (n0 := w.heap.size + 3) 4 [] [(0, 0), (1, 0), (2, 0), (3, 0)] [] (by kernel_rfl) (by kernel_rfl) (fun _ _ d _ _ h => by cases d <;> exact h) ⟨by (repeat' (first | (with_reducible assumption) | (with_reducible exact Below.refl _ _) | (with_reducible refine Below.alloc ?_ ?_ _) | (with_reducible refine Below.setCell ?_ ?_ _) | (with_reducible refine Below.drew ?_) | (with_reducible refine below_more ?_ (by with_reducible assumption)) | go_size | omega | (with_reducible refine below_drewN ?_))), (by first | go_size | omega), Bx.of (by (repeat' (first | (with_reducible assumption) | ((with_reducible refine HB.new _ _ _ ?_) <;> (go_size; done)) | (with_reducible refine HB.old (by go_size) ?_) | (with_reducible refine HB.drew ?_) | (with_reducible refine HB.over5 ?_) | (with_reducible refine HB.over4 ?_) | (with_reducible refine HB.setne (by first | go_size | (dsimp only; omega)) ?_) | (with_reducible refine HN.set ?_) | (with_reducible refine HN.setne (by first | go_size | (dsimp only; omega)) ?_) | (with_reducible refine HN.drew ?_) | (with_reducible refine HN.old (by go_size) ?_) | (with_reducible exact HN.of5 (by assumption)) | (with_reducible exact HN.new5 _ _ (by go_size)) | (with_reducible exact HN.of4 (by assumption)) | (with_reducible exact HN.new4 _ _ (by go_size))))), Bx.of (by (repeat' (first | (with_reducible assumption) | ((with_reducible refine HB.new _ _ _ ?_) <;> (go_size; done)) | (with_reducible refine HB.old (by go_size) ?_) | (with_reducible refine HB.drew ?_) | (with_reducible refine HB.over5 ?_) | (with_reducible refine HB.over4 ?_) | (with_reducible refine HB.setne (by first | go_size | (dsimp only; omega)) ?_) | (with_reducible refine HN.set ?_) | (with_reducible refine HN.setne (by first | go_size | (dsimp only; omega)) ?_) | (with_reducible refine HN.drew ?_) | (with_reducible refine HN.old (by go_size) ?_) | (with_reducible exact HN.of5 (by assumption)) | (with_reducible exact HN.new5 _ _ (by go_size)) | (with_reducible exact HN.of4 (by assumption)) | (with_reducible exact HN.new4 _ _ (by go_size))))), Bx.of (by (repeat' (first | (with_reducible assumption) | ((with_reducible refine HB.new _ _ _ ?_) <;> (go_size; done)) | (with_reducible refine HB.old (by go_size) ?_) | (with_reducible refine HB.drew ?_) | (with_reducible refine HB.over5 ?_) | (with_reducible refine HB.over4 ?_) | (with_reducible refine HB.setne (by first | go_size | (dsimp only; omega)) ?_) | (with_reducible refine HN.set ?_) | (with_reducible refine HN.setne (by first | go_size | (dsimp only; omega)) ?_) | (with_reducible refine HN.drew ?_) | (with_reducible refine HN.old (by go_size) ?_) | (with_reducible exact HN.of5 (by assumption)) | (with_reducible exact HN.new5 _ _ (by go_size)) | (with_reducible exact HN.of4 (by assumption)) | (with_reducible exact HN.new4 _ _ (by go_size)))))⟩ (fun _ _ h g => keep3 h (below_gt g) rfl) (fun _ h => h.2.1) (fun _ h => by cases h) (by simp) ?_)
  refine' dq_pure (by rfl) (by rfl) ?hv10 ?rest10
  case hv10 => (intro w hw; (try dsimp only at hw); go_split_ands; go_simp; try with_reducible rfl)
  case' rest10 => try simp only [Act.put, List.setIfInBounds_toArray, List.set_cons_zero, List.set_cons_succ]
  refine' dq_call (by rfl) (by rfl) ?hv11 ?hc11 ?rest11
  case hv11 => (intro w; go_simp; exact ⟨rfl, rfl⟩)
  case hc11 => exact (fun w hw => calls_gt (by first | exact CA _ | exact CB _))
  case' rest11 => try simp only [Act.put, List.setIfInBounds_toArray, List.set_cons_zero, List.set_cons_succ]
  refine' dq_pure (by rfl) (by rfl) ?hv12 ?rest12
  case hv12 => (intro w hw; (try dsimp only at hw); go_split_ands; go_simp; try with_reducible rfl)
  case' rest12 => try simp only [Act.put, List.setIfInBounds_toArray, List.set_cons_zero, List.set_cons_succ]
  refine' dq_call (by rfl) (by rfl) ?hv13 ?hc13 ?rest13
  case hv13 => (intro w; go_simp; exact ⟨rfl, rfl⟩)
  case hc13 => exact (fun w hw => calls_gt (by first | exact CA _ | exact CB _))
  case' rest13 => try simp only [Act.put, List.setIfInBounds_toArray, List.set_cons_zero, List.set_cons_succ]
  refine dq_nil ?_
  simp only [fa, List.drop_succ_cons, List.drop_zero]
  rintro W ⟨⟨hb0, hn0, ⟨B1, B1c, B1f, B1l⟩, ⟨B2, B2c, B2f, B2l⟩, ⟨B3, B3c, B3f, B3l⟩⟩, hgl⟩ hbs
  clear hbs hgl
  (repeat' (first | go_values | go_skip | go_guarded | go_step | go_upon | (simp only [Int.not_lt, Int.not_le] at *; go_simp) | (go_values <;> (try go_simp)) | (go_ite <;> go_prune <;> (try go_simp)) | (split <;> (first | (rename_i hx; exact (hx _ rfl).elim) | go_prune))))
  
  
  
  
  (refine wp_region_dq (row := none) (S := (fun Wz => Below w.heap.size w Wz ∧ w.heap.size + 3 ≤ Wz.heap.size ∧ Bx Wz (w.heap.size) (#[.bool p, .int .u64 a, .int .u64 b, .int .u64 c, .int .u64 d]) ∧ Bx Wz (w.heap.size + 1) (#[.bool q, .int .u64 a', .int .u64 b', .int .u64 c', .int .u64 d']) ∧ Bx Wz (w.heap.size + 1 + 1) (#[.bool false, .int .u64 0, .int .u64 0, .int .u64 0, .int .u64 0]))) (n0 := w.heap.size + 3) 13 [] [(0, 0), (1, 0), (2, 0), (3, 0), (4, 0), (5, 0), (7, 0), (6, 1), (8, 1), (9, 1), (10, 1), (11, 0), (12, 0)] [] (by kernel_rfl) (by kernel_rfl) (fun _ _ d _ _ h => by cases d <;> exact h) ⟨by (repeat' (first | (with_reducible assumption) | (with_reducible exact Below.refl _ _) | (with_reducible refine Below.alloc ?_ ?_ _) | (with_reducible refine Below.setCell ?_ ?_ _) | (with_reducible refine Below.drew ?_) | (with_reducible refine below_more ?_ (by with_reducible assumption)) | go_size | omega | (with_reducible refine below_drewN ?_))), (by first | go_size | omega), Bx.of (by (repeat' (first | (with_reducible assumption) | ((with_reducible refine HB.new _ _ _ ?_) <;> (go_size; done)) | (with_reducible refine HB.old (by go_size) ?_) | (with_reducible refine HB.drew ?_) | (with_reducible refine HB.over5 ?_) | (with_reducible refine HB.over4 ?_) | (with_reducible refine HB.setne (by first | go_size | (dsimp only; omega)) ?_) | (with_reducible refine HN.set ?_) | (with_reducible refine HN.setne (by first | go_size | (dsimp only; omega)) ?_) | (with_reducible refine HN.drew ?_) | (with_reducible refine HN.old (by go_size) ?_) | (with_reducible exact HN.of5 (by assumption)) | (with_reducible exact HN.new5 _ _ (by go_size)) | (with_reducible exact HN.of4 (by assumption)) | (with_reducible exact HN.new4 _ _ (by go_size))))), Bx.of (by (repeat' (first | (with_reducible assumption) | ((with_reducible refine HB.new _ _ _ ?_) <;> (go_size; done)) | (with_reducible refine HB.old (by go_size) ?_) | (with_reducible refine HB.drew ?_) | (with_reducible refine HB.over5 ?_) | (with_reducible refine HB.over4 ?_) | (with_reducible refine HB.setne (by first | go_size | (dsimp only; omega)) ?_) | (with_reducible refine HN.set ?_) | (with_reducible refine HN.setne (by first | go_size | (dsimp only; omega)) ?_) | (with_reducible refine HN.drew ?_) | (with_reducible refine HN.old (by go_size) ?_) | (with_reducible exact HN.of5 (by assumption)) | (with_reducible exact HN.new5 _ _ (by go_size)) | (with_reducible exact HN.of4 (by assumption)) | (with_reducible exact HN.new4 _ _ (by go_size))))), Bx.of (by (repeat' (first | (with_reducible assumption) | ((with_reducible refine HB.new _ _ _ ?_) <;> (go_size; done)) | (with_reducible refine HB.old (by go_size) ?_) | (with_reducible refine HB.drew ?_) | (with_reducible refine HB.over5 ?_) | (with_reducible refine HB.over4 ?_) | (with_reducible refine HB.setne (by first | go_size | (dsimp only; omega)) ?_) | (with_reducible refine HN.set ?_) | (with_reducible refine HN.setne (by first | go_size | (dsimp only; omega)) ?_) | (with_reducible refine HN.drew ?_) | (with_reducible refine HN.old (by go_size) ?_) | (with_reducible exact HN.of5 (by assumption)) | (with_reducible exact HN.new5 _ _ (by go_size)) | (with_reducible exact HN.of4 (by assumption)) | (with_reducible exact HN.new4 _ _ (by go_size)))))⟩ (fun _ _ h g => keep3 h (below_gt g) rfl) (fun _ h => h.2.1) (fun _ h => by cases h) (by simp) ?_)
  refine' dq_pure (by rfl) (by rfl) ?hv14 ?rest14
  case hv14 => (intro w hw; (try dsimp only at hw); go_split_ands; go_simp; try with_reducible rfl)
  case' rest14 => try simp only [Act.put, List.setIfInBounds_toArray, List.set_cons_zero, List.set_cons_succ]
  refine' dq_pure (by rfl) (by rfl) ?hv15 ?rest15
  case hv15 => (intro w hw; (try dsimp only at hw); go_split_ands; go_simp; try with_reducible rfl)
  case' rest15 => try simp only [Act.put, List.setIfInBounds_toArray, List.set_cons_zero, List.set_cons_succ]
  refine' dq_pure (by rfl) (by rfl) ?hv16 ?rest16
  case hv16 => (intro w hw; (try dsimp only at hw); go_split_ands; go_simp; try with_reducible rfl)
  case' rest16 => try simp only [Act.put, List.setIfInBounds_toArray, List.set_cons_zero, List.set_cons_succ]
  refine' dq_pure (by rfl) (by rfl) ?hv17 ?rest17
  case hv17 => (intro w hw; (try dsimp only at hw); go_split_ands; go_simp; try with_reducible rfl)
  case' rest17 => try simp only [Act.put, List.setIfInBounds_toArray, List.set_cons_zero, List.set_cons_succ]
  refine' dq_pure (by rfl) (by rfl) ?hv18 ?rest18
  case hv18 => (intro w hw; (try dsimp only at hw); go_split_ands; go_simp; try with_reducible rfl)
  case' rest18 => try simp only [Act.put, List.setIfInBounds_toArray, List.set_cons_zero, List.set_cons_succ]
  refine' dq_pure (by rfl) (by rfl) ?hv19 ?rest19
  case hv19 => (intro w hw; (try dsimp only at hw); go_split_ands; go_simp; try with_reducible rfl)
  case' rest19 => try simp only [Act.put, List.setIfInBounds_toArray, List.set_cons_zero, List.set_cons_succ]
  refine' dq_pure (by rfl) (by rfl) ?hv20 ?rest20
  case hv20 => (intro w hw; (try dsimp only at hw); go_split_ands; go_simp; try with_reducible rfl)
  case' rest20 => try simp only [Act.put, List.setIfInBounds_toArray, List.set_cons_zero, List.set_cons_succ]
  refine' dq_ask (R := fun v w' => SlU w' v (wl m)) (by rfl) (by rfl) ?hv21 ?hc21 ?rest21 (fun _ _ h g => keep3 h (below_gt g) rfl)
  case hv21 => (intro w; go_simp; exact ⟨rfl, rfl⟩)
  case hc21 => exact (fun wq hsq htq => OA wq)
  case' rest21 => try simp only [Act.put, List.setIfInBounds_toArray, List.set_cons_zero, List.set_cons_succ]
  (rintro v1 x1 hS1 hg1 hs1; have hs1' := hs1; obtain ⟨a1, l1, c1, rfl, -⟩ := hs1')
  refine' dq_ask (R := fun v w' => SlU w' v (wl m')) (by rfl) (by rfl) ?hv22 ?hc22 ?rest22 (fun _ _ h g => keep3 h (below_gt g) rfl)
  case hv22 => (intro w; go_simp; exact ⟨rfl, rfl⟩)
  case hc22 => exact (fun wq hsq htq => OB wq)
  case' rest22 => try simp only [Act.put, List.setIfInBounds_toArray, List.set_cons_zero, List.set_cons_succ]
  (rintro v2 x2 hS2 hg2 hs2; have hs1 := hs1.below (below_gt hg2); have hs2' := hs2; obtain ⟨a2, l2, c2, rfl, -⟩ := hs2')
  refine' dq_ask (R := fun v w' => SlU w' v (wl (m * m'))) (by rfl) (by rfl) ?hv23 ?hc23 ?rest23 (fun _ _ h g => keep3 h (below_gt g) rfl)
  case hv23 => (intro w; go_simp; exact ⟨rfl, rfl⟩)
  case hc23 => exact (fun wq hsq htq => mag_ask (rmul_any a1 a2 l1 c1 l2 c2 _ _ m1 m2 (by have := hs1.len.1; omega) (by have := hs2.len.1; omega) wq (hs1.below (below_gt htq)) (hs2.below (below_gt htq))))
  case' rest23 => try simp only [Act.put, List.setIfInBounds_toArray, List.set_cons_zero, List.set_cons_succ]
  (rintro v3 x3 hS3 hg3 hs3; clear hs1 hs2; have hs3' := hs3; obtain ⟨a3, l3, c3, rfl, -⟩ := hs3')
  refine' dq_ask (R := fun v _ => v = .tuple #[WE (cl z), .bool (fb z)]) (by rfl) (by rfl) ?hv24 ?hc24 ?rest24 (fun _ _ h g => keep3 h (below_gt g) rfl)
  case hv24 => (intro w; go_simp; exact ⟨rfl, rfl⟩)
  case hc24 => exact (fun wq hsq htq => (C _ a3 l3 c3 (hs3.below (below_gt htq))).mono (fun e w' ⟨he, hb⟩ => ⟨_, he, rfl, gt_below hb _⟩))
  case' rest24 => try simp only [Act.put, List.setIfInBounds_toArray, List.set_cons_zero, List.set_cons_succ]
  (rintro v4 x4 hS4 hg4 rfl; clear hs3)
  refine' dq_pure (by rfl) (by rfl) ?hv25 ?rest25
  case hv25 => (intro w hw; (try dsimp only at hw); go_split_ands; go_simp; try with_reducible rfl)
  case' rest25 => try simp only [Act.put, List.setIfInBounds_toArray, List.set_cons_zero, List.set_cons_succ]
  refine' dq_pure (by rfl) (by rfl) ?hv26 ?rest26
  case hv26 => (intro w hw; (try dsimp only at hw); go_split_ands; go_simp; try with_reducible rfl)
  case' rest26 => try simp only [Act.put, List.setIfInBounds_toArray, List.set_cons_zero, List.set_cons_succ]
  refine dq_nil ?_
  simp only [fa, List.drop_succ_cons, List.drop_zero]
  rintro W ⟨⟨hb0, hn0, ⟨B1, B1c, B1f, B1l⟩, ⟨B2, B2c, B2f, B2l⟩, ⟨B3, B3c, B3f, B3l⟩⟩, hgl⟩ hbs
  clear hbs
  (repeat' (first | go_values | go_skip | go_guarded | go_step | go_upon | (simp only [Int.not_lt, Int.not_le] at *; go_simp) | (go_values <;> (try go_simp)) | (go_ite <;> go_prune <;> (try go_simp)) | (split <;> (first | (rename_i hx; exact (hx _ rfl).elim) | go_prune))))
  refine bodyPost_ret (v := .tuple #[WE (cl z), .bool (fb z)]) ?_ rfl ⟨congrArg Ending.returned HR.out, by (repeat' (first | (with_reducible assumption) | (with_reducible exact Below.refl _ _) | (with_reducible refine Below.alloc ?_ ?_ _) | (with_reducible refine Below.setCell ?_ ?_ _) | (with_reducible refine Below.drew ?_) | (with_reducible refine below_more ?_ (by with_reducible assumption)) | go_size | omega | (with_reducible refine below_drewN ?_)))⟩
  simp [results, Try.results23, go_sem, B3c, B3f, B3l]

theorem rcompare_b (m n : Int) (hm : 0 ≤ m) (hn : 0 ≤ n) (a a' : Option Addr) (len cap len' cap' : Nat) (w : World) (h : SlU w (.slice a len cap) (wl m)) (h' : SlU w (.slice a' len' cap') (wl n)) :
    Calls Try.prog 51 #[.slice a len cap, .slice a' len' cap'] w fun e w' => e = .returned (.int .i64 (cm m n)) ∧ Below w.heap.size w w' :=
  (rcompare_any a a' len cap len' cap' m n hm hn w h h').mono (fun e w' ⟨he, d, hd⟩ => ⟨he, by subst hd; exact below_drewN (Below.refl _ _)⟩)

set_option maxHeartbeats 3000000 in
set_option maxRecDepth 100000 in
theorem radd2_any (n : Bool) (a b c d : Int) (n' : Bool) (a' b' c' d' : Int) (ha : U64 a) (hb : U64 b) (hc : U64 c) (hd : U64 d) (ha' : U64 a') (hb' : U64 b') (hc' : U64 c') (hd' : U64 d') (w : World) :
    Calls Try.prog 24 #[WV n a b c d, WV n' a' b' c' d'] w fun e w' => e = .returned (.tuple #[WE (cl (wv n a b c d + wv n' a' b' c' d')), .bool (fb (wv n a b c d + wv n' a' b' c' d'))]) ∧ Below w.heap.size w w' := by
  obtain ⟨z, hz⟩ : ∃ z, z = wv n a b c d + wv n' a' b' c' d' := ⟨_, rfl⟩
  rw [← hz]
  generalize hR : Value.tuple #[WE (cl z), .bool (fb z)] = R
  have HR := hid hR
  clear hR
  rw [wv_sv n a b c d, wv_sv n' a' b' c' d'] at hz
  have CA := fun W => rclean_any n a b c d ha hb hc hd W
  have CB := fun W => rclean_any n' a' b' c' d' ha' hb' hc' hd' W
  generalize cn n a b c d = p at *
  generalize cn n' a' b' c' d' = q at *
  have OA := fun W => mag_ask (rof_any p a b c d ha hb hc hd W)
  have OB := fun W => mag_ask (rof_any q a' b' c' d' ha' hb' hc' hd' W)
  have m1 := mv_nonneg ha hb hc hd
  have m2 := mv_nonneg ha' hb' hc' hd'
  have k1 := (wl_fit m1).2 (mv_up4 ha hb hc hd)
  have k2 := (wl_fit m2).2 (mv_up4 ha' hb' hc' hd')
  generalize MV a b c d = m at *
  generalize MV a' b' c' d' = m' at *
  have CC := rcompare_b m m' m1 m2
  have HZ := hid hz
  clear hz ha hb hc hd ha' hb' hc' hd'
  go_enter Try.func24, Try.ntmps24
  go_wp2_with fail
  (refine wp_region_dq (row := none) (S := (fun Wz => Below w.heap.size w Wz ∧ w.heap.size + 3 ≤ Wz.heap.size ∧ Bx Wz (w.heap.size) (#[.bool n, .int .u64 a, .int .u64 b, .int .u64 c, .int .u64 d]) ∧ Bx Wz (w.heap.size + 1) (#[.bool n', .int .u64 a', .int .u64 b', .int .u64 c', .int .u64 d']) ∧ Bx Wz (w.heap.size + 1 + 1) (#[.bool false, .int .u64 0, .int .u64 0, .int .u64 0, .int .u64 0]))) (n0 := w.heap.size + 3) 4 [] [(0, 0), (1, 0), (2, 0), (3, 0)] [] (by kernel_rfl) (by kernel_rfl) (fun _ _ d _ _ h => by cases d <;> exact h) ⟨by (repeat' (first | (with_reducible assumption) | (with_reducible exact Below.refl _ _) | (with_reducible refine Below.alloc ?_ ?_ _) | (with_reducible refine Below.setCell ?_ ?_ _) | (with_reducible refine Below.drew ?_) | (with_reducible refine below_more ?_ (by with_reducible assumption)) | go_size | omega | (with_reducible refine below_drewN ?_))), (by first | go_size | omega), Bx.of (by (repeat' (first | (with_reducible assumption) | ((with_reducible refine HB.new _ _ _ ?_) <;> (go_size; done)) | (with_reducible refine HB.old (by go_size) ?_) | (with_reducible refine HB.drew ?_) | (with_reducible refine HB.over5 ?_) | (with_reducible refine HB.over4 ?_) | (with_reducible refine HB.setne (by first | go_size | (dsimp only; omega)) ?_) | (with_reducible refine HN.set ?_) | (with_reducible refine HN.setne (by first | go_size | (dsimp only; omega)) ?_) | (with_reducible refine HN.drew ?_) | (with_reducible refine HN.old (by go_size) ?_) | (with_reducible exact HN.of5 (by assumption)) | (with_reducible exact HN.new5 _ _ (by go_size)) | (with_reducible exact HN.of4 (by assumption)) | (with_reducible exact HN.new4 _ _ (by go_size))))), Bx.of (by (repeat' (first | (with_reducible assumption) | ((with_reducible refine HB.new _ _ _ ?_) <;> (go_size; done)) | (with_reducible refine HB.old (by go_size) ?_) | (with_reducible refine HB.drew ?_) | (with_reducible refine HB.over5 ?_) | (with_reducible refine HB.over4 ?_) | (with_reducible refine HB.setne (by first | go_size | (dsimp only; omega)) ?_) | (with_reducible refine HN.set ?_) | (with_reducible refine HN.setne (by first | go_size | (dsimp only; omega)) ?_) | (with_reducible refine HN.drew ?_) | (with_reducible refine HN.old (by go_size) ?_) | (with_reducible exact HN.of5 (by assumption)) | (with_reducible exact HN.new5 _ _ (by go_size)) | (with_reducible exact HN.of4 (by assumption)) | (with_reducible exact HN.new4 _ _ (by go_size))))), Bx.of (by (repeat' (first | (with_reducible assumption) | ((with_reducible refine HB.new _ _ _ ?_) <;> (go_size; done)) | (with_reducible refine HB.old (by go_size) ?_) | (with_reducible refine HB.drew ?_) | (with_reducible refine HB.over5 ?_) | (with_reducible refine HB.over4 ?_) | (with_reducible refine HB.setne (by first | go_size | (dsimp only; omega)) ?_) | (with_reducible refine HN.set ?_) | (with_reducible refine HN.setne (by first | go_size | (dsimp only; omega)) ?_) | (with_reducible refine HN.drew ?_) | (with_reducible refine HN.old (by go_size) ?_) | (with_reducible exact HN.of5 (by assumption)) | (with_reducible exact HN.new5 _ _ (by go_size)) | (with_reducible exact HN.of4 (by assumption)) | (with_reducible exact HN.new4 _ _ (by go_size)))))⟩ (fun _ _ h g => keep3 h (below_gt g) rfl) (fun _ h => h.2.1) (fun _ h => by cases h) (by simp) ?_)
  refine' dq_pure (by rfl) (by rfl) ?hv27 ?rest27
  case hv27 => (intro w hw; (try dsimp only at hw); go_split_ands; go_simp; try with_reducible rfl)
  case' rest27 => try simp only [Act.put, List.setIfInBounds_toArray, List.set_cons_zero, List.set_cons_succ]
  refine' dq_call (by rfl) (by rfl) ?hv28 ?hc28 ?rest28
  case hv28 => (intro w; go_simp; exact ⟨rfl, rfl⟩)
  case hc28 => exact (fun w hw => calls_gt (by first | exact CA _ | exact CB _))
  case' rest28 => try simp only [Act.put, List.setIfInBounds_toArray, List.set_cons_zero, List.set_cons_succ]
  refine' dq_pure (by rfl) (by rfl) ?hv29 ?rest29
  case hv29 => (intro w hw; (try dsimp only at hw); go_split_ands; go_simp; try with_reducible rfl)
  case' rest29 => try simp only [Act.put, List.setIfInBounds_toArray, List.set_cons_zero, List.set_cons_succ]
  refine' dq_call (by rfl) (by rfl) ?hv30 ?hc30 ?rest30
  case hv30 => (intro w; go_simp; exact ⟨rfl, rfl⟩)
  case hc30 => exact (fun w hw => calls_gt (by first | exact CA _ | exact CB _))
  case' rest30 => try simp only [Act.put, List.setIfInBounds_toArray, List.set_cons_zero, List.set_cons_succ]
  refine dq_nil ?_
  simp only [fa, List.drop_succ_cons, List.drop_zero]
  rintro W ⟨⟨hb0, hn0, ⟨B1, B1c, B1f, B1l⟩, ⟨B2, B2c, B2f, B2l⟩, ⟨B3, B3c, B3f, B3l⟩⟩, hgl⟩ hbs
  clear hbs hgl
  (repeat' (first | go_values | go_skip | go_guarded | go_step | go_upon | (simp only [Int.not_lt, Int.not_le] at *; go_simp) | (go_values <;> (try go_simp)) | (go_ite <;> go_prune <;> (try go_simp)) | (split <;> (first | (rename_i hx; exact (hx _ rfl).elim) | go_prune))))
  
  
  (refine wp_region_dq (row := none) (S := (fun Wz => Below w.heap.size w Wz ∧ w.heap.size + 3 ≤ Wz.heap.size ∧ Bx Wz (w.heap.size) (#[.bool p, .int .u64 a, .int .u64 b, .int .u64 c, .int .u64 d]) ∧ Bx Wz (w.heap.size + 1) (#[.bool q, .int .u64 a', .int .u64 b', .int .u64 c', .int .u64 d']) ∧ Bx Wz (w.heap.size + 1 + 1) (#[.bool false, .int .u64 0, .int .u64 0, .int .u64 0, .int .u64 0]))) (n0 := w.heap.size + 3) 4 [] [(0, 0), (2, 0), (1, 1), (3, 1)] [] (by kernel_rfl) (by kernel_rfl) (fun _ _ d _ _ h => by cases d <;> exact h) ⟨by (repeat' (first | (with_reducible assumption) | (with_reducible exact Below.refl _ _) | (with_reducible refine Below.alloc ?_ ?_ _) | (with_reducible refine Below.setCell ?_ ?_ _) | (with_reducible refine Below.drew ?_) | (with_reducible refine below_more ?_ (by with_reducible assumption)) | go_size | omega | (with_reducible refine below_drewN ?_))), (by first | go_size | omega), Bx.of (by (repeat' (first | (with_reducible assumption) | ((with_reducible refine HB.new _ _ _ ?_) <;> (go_size; done)) | (with_reducible refine HB.old (by go_size) ?_) | (with_reducible refine HB.drew ?_) | (with_reducible refine HB.over5 ?_) | (with_reducible refine HB.over4 ?_) | (with_reducible refine HB.setne (by first | go_size | (dsimp only; omega)) ?_) | (with_reducible refine HN.set ?_) | (with_reducible refine HN.setne (by first | go_size | (dsimp only; omega)) ?_) | (with_reducible refine HN.drew ?_) | (with_reducible refine HN.old (by go_size) ?_) | (with_reducible exact HN.of5 (by assumption)) | (with_reducible exact HN.new5 _ _ (by go_size)) | (with_reducible exact HN.of4 (by assumption)) | (with_reducible exact HN.new4 _ _ (by go_size))))), Bx.of (by (repeat' (first | (with_reducible assumption) | ((with_reducible refine HB.new _ _ _ ?_) <;> (go_size; done)) | (with_reducible refine HB.old (by go_size) ?_) | (with_reducible refine HB.drew ?_) | (with_reducible refine HB.over5 ?_) | (with_reducible refine HB.over4 ?_) | (with_reducible refine HB.setne (by first | go_size | (dsimp only; omega)) ?_) | (with_reducible refine HN.set ?_) | (with_reducible refine HN.setne (by first | go_size | (dsimp only; omega)) ?_) | (with_reducible refine HN.drew ?_) | (with_reducible refine HN.old (by go_size) ?_) | (with_reducible exact HN.of5 (by assumption)) | (with_reducible exact HN.new5 _ _ (by go_size)) | (with_reducible exact HN.of4 (by assumption)) | (with_reducible exact HN.new4 _ _ (by go_size))))), Bx.of (by (repeat' (first | (with_reducible assumption) | ((with_reducible refine HB.new _ _ _ ?_) <;> (go_size; done)) | (with_reducible refine HB.old (by go_size) ?_) | (with_reducible refine HB.drew ?_) | (with_reducible refine HB.over5 ?_) | (with_reducible refine HB.over4 ?_) | (with_reducible refine HB.setne (by first | go_size | (dsimp only; omega)) ?_) | (with_reducible refine HN.set ?_) | (with_reducible refine HN.setne (by first | go_size | (dsimp only; omega)) ?_) | (with_reducible refine HN.drew ?_) | (with_reducible refine HN.old (by go_size) ?_) | (with_reducible exact HN.of5 (by assumption)) | (with_reducible exact HN.new5 _ _ (by go_size)) | (with_reducible exact HN.of4 (by assumption)) | (with_reducible exact HN.new4 _ _ (by go_size)))))⟩ (fun _ _ h g => keep3 h (below_gt g) rfl) (fun _ h => h.2.1) (fun _ h => by cases h) (by simp) ?_)
  refine' dq_pure (by rfl) (by rfl) ?hv31 ?rest31
  case hv31 => (intro w hw; (try dsimp only at hw); go_split_ands; go_simp; try with_reducible rfl)
  case' rest31 => try simp only [Act.put, List.setIfInBounds_toArray, List.set_cons_zero, List.set_cons_succ]
  refine' dq_pure (by rfl) (by rfl) ?hv32 ?rest32
  case hv32 => (intro w hw; (try dsimp only at hw); go_split_ands; go_simp; try with_reducible rfl)
  case' rest32 => try simp only [Act.put, List.setIfInBounds_toArray, List.set_cons_zero, List.set_cons_succ]
  refine' dq_ask (R := fun v w' => SlU w' v (wl m)) (by rfl) (by rfl) ?hv33 ?hc33 ?rest33 (fun _ _ h g => keep3 h (below_gt g) rfl)
  case hv33 => (intro w; go_simp; exact ⟨rfl, rfl⟩)
  case hc33 => exact (fun wq hsq htq => OA wq)
  case' rest33 => try simp only [Act.put, List.setIfInBounds_toArray, List.set_cons_zero, List.set_cons_succ]
  (rintro v1 x1 hS1 hg1 hs1; have hs1' := hs1; obtain ⟨a1, l1, c1, rfl, -⟩ := hs1')
  refine' dq_ask (R := fun v w' => SlU w' v (wl m')) (by rfl) (by rfl) ?hv34 ?hc34 ?rest34 (fun _ _ h g => keep3 h (below_gt g) rfl)
  case hv34 => (intro w; go_simp; exact ⟨rfl, rfl⟩)
  case hc34 => exact (fun wq hsq htq => OB wq)
  case' rest34 => try simp only [Act.put, List.setIfInBounds_toArray, List.set_cons_zero, List.set_cons_succ]
  (rintro v2 x2 hS2 hg2 hs2; have hs1 := hs1.below (below_gt hg2); have hs2' := hs2; obtain ⟨a2, l2, c2, rfl, -⟩ := hs2')
  refine dq_nil ?_
  simp only [fa, List.drop_succ_cons, List.drop_zero]
  rintro W ⟨⟨hb0, hn0, ⟨B1, B1c, B1f, B1l⟩, ⟨B2, B2c, B2f, B2l⟩, ⟨B3, B3c, B3f, B3l⟩⟩, hgl⟩ hbs
  clear hbs
  have hs1 := hs1.below (below_gt hgl)
  have hs2 := hs2.below (below_gt hgl)
  have hz := HZ.out
  by_cases hpq : p = q
  · subst hpq
    
    have hz' := hz
    rw [sv_add] at hz'
    have mm : 0 ≤ m + m' := by omega
    have C := fun (W : World) (a0 : Option Addr) (len cap : Nat) (h : SlU W (.slice a0 len cap) (wl (m + m'))) => rwide_any p a0 len cap _ W h
    rw [VL_wl mm, ← hz'] at C
    clear hz hz' mm
    (repeat' (first | go_values | go_skip | go_guarded | go_step | go_upon | (simp only [Int.not_lt, Int.not_le] at *; go_simp) | (go_values <;> (try go_simp)) | (go_ite <;> go_prune <;> (try go_simp)) | (split <;> (first | (rename_i hx; exact (hx _ rfl).elim) | go_prune))))
    
    
    (refine wp_region_dq (row := none) (S := (fun Wz => Below w.heap.size w Wz ∧ w.heap.size + 3 ≤ Wz.heap.size ∧ Bx Wz (w.heap.size) (#[.bool p, .int .u64 a, .int .u64 b, .int .u64 c, .int .u64 d]) ∧ Bx Wz (w.heap.size + 1) (#[.bool p, .int .u64 a', .int .u64 b', .int .u64 c', .int .u64 d']) ∧ Bx Wz (w.heap.size + 1 + 1) (#[.bool false, .int .u64 0, .int .u64 0, .int .u64 0, .int .u64 0]))) (n0 := w.heap.size + 3) 8 [] [(0, 0), (1, 0), (2, 0), (3, 0), (4, 1), (5, 1), (6, 0), (7, 0)] [] (by kernel_rfl) (by kernel_rfl) (fun _ _ d _ _ h => by cases d <;> exact h) ⟨by (repeat' (first | (with_reducible assumption) | (with_reducible exact Below.refl _ _) | (with_reducible refine Below.alloc ?_ ?_ _) | (with_reducible refine Below.setCell ?_ ?_ _) | (with_reducible refine Below.drew ?_) | (with_reducible refine below_more ?_ (by with_reducible assumption)) | go_size | omega | (with_reducible refine below_drewN ?_))), (by first | go_size | omega), Bx.of (by (repeat' (first | (with_reducible assumption) | ((with_reducible refine HB.new _ _ _ ?_) <;> (go_size; done)) | (with_reducible refine HB.old (by go_size) ?_) | (with_reducible refine HB.drew ?_) | (with_reducible refine HB.over5 ?_) | (with_reducible refine HB.over4 ?_) | (with_reducible refine HB.setne (by first | go_size | (dsimp only; omega)) ?_) | (with_reducible refine HN.set ?_) | (with_reducible refine HN.setne (by first | go_size | (dsimp only; omega)) ?_) | (with_reducible refine HN.drew ?_) | (with_reducible refine HN.old (by go_size) ?_) | (with_reducible exact HN.of5 (by assumption)) | (with_reducible exact HN.new5 _ _ (by go_size)) | (with_reducible exact HN.of4 (by assumption)) | (with_reducible exact HN.new4 _ _ (by go_size))))), Bx.of (by (repeat' (first | (with_reducible assumption) | ((with_reducible refine HB.new _ _ _ ?_) <;> (go_size; done)) | (with_reducible refine HB.old (by go_size) ?_) | (with_reducible refine HB.drew ?_) | (with_reducible refine HB.over5 ?_) | (with_reducible refine HB.over4 ?_) | (with_reducible refine HB.setne (by first | go_size | (dsimp only; omega)) ?_) | (with_reducible refine HN.set ?_) | (with_reducible refine HN.setne (by first | go_size | (dsimp only; omega)) ?_) | (with_reducible refine HN.drew ?_) | (with_reducible refine HN.old (by go_size) ?_) | (with_reducible exact HN.of5 (by assumption)) | (with_reducible exact HN.new5 _ _ (by go_size)) | (with_reducible exact HN.of4 (by assumption)) | (with_reducible exact HN.new4 _ _ (by go_size))))), Bx.of (by (repeat' (first | (with_reducible assumption) | ((with_reducible refine HB.new _ _ _ ?_) <;> (go_size; done)) | (with_reducible refine HB.old (by go_size) ?_) | (with_reducible refine HB.drew ?_) | (with_reducible refine HB.over5 ?_) | (with_reducible refine HB.over4 ?_) | (with_reducible refine HB.setne (by first | go_size | (dsimp only; omega)) ?_) | (with_reducible refine HN.set ?_) | (with_reducible refine HN.setne (by first | go_size | (dsimp only; omega)) ?_) | (with_reducible refine HN.drew ?_) | (with_reducible refine HN.old (by go_size) ?_) | (with_reducible exact HN.of5 (by assumption)) | (with_reducible exact HN.new5 _ _ (by go_size)) | (with_reducible exact HN.of4 (by assumption)) | (with_reducible exact HN.new4 _ _ (by go_size)))))⟩ (fun _ _ h g => keep3 h (below_gt g) rfl) (fun _ h => h.2.1) (fun _ h => by cases h) (by simp) ?_)
    refine' dq_pure (by rfl) (by rfl) ?hv35 ?rest35
    case hv35 => (intro w hw; (try dsimp only at hw); go_split_ands; go_simp; try with_reducible rfl)
    case' rest35 => try simp only [Act.put, List.setIfInBounds_toArray, List.set_cons_zero, List.set_cons_succ]
    refine' dq_pure (by rfl) (by rfl) ?hv36 ?rest36
    case hv36 => (intro w hw; (try dsimp only at hw); go_split_ands; go_simp; try with_reducible rfl)
    case' rest36 => try simp only [Act.put, List.setIfInBounds_toArray, List.set_cons_zero, List.set_cons_succ]
    refine' dq_pure (by rfl) (by rfl) ?hv37 ?rest37
    case hv37 => (intro w hw; (try dsimp only at hw); go_split_ands; go_simp; try with_reducible rfl)
    case' rest37 => try simp only [Act.put, List.setIfInBounds_toArray, List.set_cons_zero, List.set_cons_succ]
    refine' dq_pure (by rfl) (by rfl) ?hv38 ?rest38
    case hv38 => (intro w hw; (try dsimp only at hw); go_split_ands; go_simp; try with_reducible rfl)
    case' rest38 => try simp only [Act.put, List.setIfInBounds_toArray, List.set_cons_zero, List.set_cons_succ]
    refine' dq_ask (R := fun v w' => SlU w' v (wl (m + m'))) (by rfl) (by rfl) ?hv39 ?hc39 ?rest39 (fun _ _ h g => keep3 h (below_gt g) rfl)
    case hv39 => (intro w; go_simp; exact ⟨rfl, rfl⟩)
    case hc39 => exact (fun wq hsq htq => mag_ask (radd_any a1 a2 l1 c1 l2 c2 _ _ m1 m2 (by have := hs1.len.1; omega) (by have := hs2.len.1; omega) wq (hs1.drew.below (below_gt htq)) (hs2.drew.below (below_gt htq))))
    case' rest39 => try simp only [Act.put, List.setIfInBounds_toArray, List.set_cons_zero, List.set_cons_succ]
    (rintro v3 x3 hS3 hg3 hs3; clear hs1 hs2; have hs3' := hs3; obtain ⟨a3, l3, c3, rfl, -⟩ := hs3')
    refine' dq_ask (R := fun v _ => v = .tuple #[WE (cl z), .bool (fb z)]) (by rfl) (by rfl) ?hv40 ?hc40 ?rest40 (fun _ _ h g => keep3 h (below_gt g) rfl)
    case hv40 => (intro w; go_simp; exact ⟨rfl, rfl⟩)
    case hc40 => exact (fun wq hsq htq => (C _ a3 l3 c3 (hs3.below (below_gt htq))).mono (fun e w' ⟨he, hb⟩ => ⟨_, he, rfl, gt_below hb _⟩))
    case' rest40 => try simp only [Act.put, List.setIfInBounds_toArray, List.set_cons_zero, List.set_cons_succ]
    (rintro v4 x4 hS4 hg4 rfl; clear hs3)
    refine' dq_pure (by rfl) (by rfl) ?hv41 ?rest41
    case hv41 => (intro w hw; (try dsimp only at hw); go_split_ands; go_simp; try with_reducible rfl)
    case' rest41 => try simp only [Act.put, List.setIfInBounds_toArray, List.set_cons_zero, List.set_cons_succ]
    refine' dq_pure (by rfl) (by rfl) ?hv42 ?rest42
    case hv42 => (intro w hw; (try dsimp only at hw); go_split_ands; go_simp; try with_reducible rfl)
    case' rest42 => try simp only [Act.put, List.setIfInBounds_toArray, List.set_cons_zero, List.set_cons_succ]
    refine dq_nil ?_
    simp only [fa, List.drop_succ_cons, List.drop_zero]
    rintro W ⟨⟨hb0, hn0, ⟨B1, B1c, B1f, B1l⟩, ⟨B2, B2c, B2f, B2l⟩, ⟨B3, B3c, B3f, B3l⟩⟩, hgl⟩ hbs
    clear hbs
    (repeat' (first | go_values | go_skip | go_guarded | go_step | go_upon | (simp only [Int.not_lt, Int.not_le] at *; go_simp) | (go_values <;> (try go_simp)) | (go_ite <;> go_prune <;> (try go_simp)) | (split <;> (first | (rename_i hx; exact (hx _ rfl).elim) | go_prune))))
    refine bodyPost_ret (v := .tuple #[WE (cl z), .bool (fb z)]) ?_ rfl ⟨congrArg Ending.returned HR.out, by (repeat' (first | (with_reducible assumption) | (with_reducible exact Below.refl _ _) | (with_reducible refine Below.alloc ?_ ?_ _) | (with_reducible refine Below.setCell ?_ ?_ _) | (with_reducible refine Below.drew ?_) | (with_reducible refine below_more ?_ (by with_reducible assumption)) | go_size | omega | (with_reducible refine below_drewN ?_)))⟩
    simp [results, Try.results24, go_sem, B3c, B3f, B3l]
  · have T0 : (p == q) = false := beq_eq_false_iff_ne.2 hpq
    
    by_cases hle : m' ≤ m
    · have hz' := hz.trans (sv_sub hpq _ _)
      have mm : 0 ≤ m - m' := by omega
      have T : decide (0 ≤ cm m m') = true := dT ((cm_ge _ _).2 hle)
      have C := fun (W : World) (a0 : Option Addr) (len cap : Nat) (h : SlU W (.slice a0 len cap) (wl (m - m'))) => rwide_any p a0 len cap _ W h
      rw [VL_wl mm, ← hz'] at C
      clear hz hz' mm
      (repeat' (first | (go_big_may; (first | ((go_at_call 51; refine (CC _ _ _ _ _ _ _ hs1 hs2).mono ?_; rintro e w' ⟨rfl, hbw⟩; have N1 := Bx.of (HB.below (b := w.heap.size) (cs := #[.bool p, .int .u64 a, .int .u64 b, .int .u64 c, .int .u64 d]) (by (repeat' (first | (with_reducible assumption) | ((with_reducible refine HB.new _ _ _ ?_) <;> (go_size; done)) | (with_reducible refine HB.old (by go_size) ?_) | (with_reducible refine HB.drew ?_) | (with_reducible refine HB.over5 ?_) | (with_reducible refine HB.over4 ?_) | (with_reducible refine HB.setne (by first | go_size | (dsimp only; omega)) ?_) | (with_reducible refine HN.set ?_) | (with_reducible refine HN.setne (by first | go_size | (dsimp only; omega)) ?_) | (with_reducible refine HN.drew ?_) | (with_reducible refine HN.old (by go_size) ?_) | (with_reducible exact HN.of5 (by assumption)) | (with_reducible exact HN.new5 _ _ (by go_size)) | (with_reducible exact HN.of4 (by assumption)) | (with_reducible exact HN.new4 _ _ (by go_size))))) hbw); have N2 := Bx.of (HB.below (b := w.heap.size + 1) (cs := #[.bool q, .int .u64 a', .int .u64 b', .int .u64 c', .int .u64 d']) (by (repeat' (first | (with_reducible assumption) | ((with_reducible refine HB.new _ _ _ ?_) <;> (go_size; done)) | (with_reducible refine HB.old (by go_size) ?_) | (with_reducible refine HB.drew ?_) | (with_reducible refine HB.over5 ?_) | (with_reducible refine HB.over4 ?_) | (with_reducible refine HB.setne (by first | go_size | (dsimp only; omega)) ?_) | (with_reducible refine HN.set ?_) | (with_reducible refine HN.setne (by first | go_size | (dsimp only; omega)) ?_) | (with_reducible refine HN.drew ?_) | (with_reducible refine HN.old (by go_size) ?_) | (with_reducible exact HN.of5 (by assumption)) | (with_reducible exact HN.new5 _ _ (by go_size)) | (with_reducible exact HN.of4 (by assumption)) | (with_reducible exact HN.new4 _ _ (by go_size))))) hbw); have N3 := Bx.of (HB.below (b := w.heap.size + 1 + 1) (cs := #[.bool false, .int .u64 0, .int .u64 0, .int .u64 0, .int .u64 0]) (by (repeat' (first | (with_reducible assumption) | ((with_reducible refine HB.new _ _ _ ?_) <;> (go_size; done)) | (with_reducible refine HB.old (by go_size) ?_) | (with_reducible refine HB.drew ?_) | (with_reducible refine HB.over5 ?_) | (with_reducible refine HB.over4 ?_) | (with_reducible refine HB.setne (by first | go_size | (dsimp only; omega)) ?_) | (with_reducible refine HN.set ?_) | (with_reducible refine HN.setne (by first | go_size | (dsimp only; omega)) ?_) | (with_reducible refine HN.drew ?_) | (with_reducible refine HN.old (by go_size) ?_) | (with_reducible exact HN.of5 (by assumption)) | (with_reducible exact HN.new5 _ _ (by go_size)) | (with_reducible exact HN.of4 (by assumption)) | (with_reducible exact HN.new4 _ _ (by go_size))))) hbw); (try clear B1 B1c B1f B1l); (try clear B2 B2c B2f B2l); (try clear B3 B3c B3f B3l); obtain ⟨B1, B1c, B1f, B1l⟩ := N1; obtain ⟨B2, B2c, B2f, B2l⟩ := N2; obtain ⟨B3, B3c, B3f, B3l⟩ := N3; have hsz := hbw.size; (try simp only [World.size_alloc, World.size_setCell, World.size_drew] at hsz)); have hs1 := SlU.below hs1 hbw; have hs2 := SlU.below hs2 hbw))) | go_values | go_skip | go_guarded | go_step | go_upon | (simp only [Int.not_lt, Int.not_le] at *; go_simp) | (go_values <;> (try go_simp)) | (go_ite <;> go_prune <;> (try go_simp)) | (split <;> (first | (rename_i hx; exact (hx _ rfl).elim) | go_prune))))
      
      
      (refine wp_region_dq (row := none) (S := (fun Wz => Below w.heap.size w Wz ∧ w.heap.size + 3 ≤ Wz.heap.size ∧ Bx Wz (w.heap.size) (#[.bool p, .int .u64 a, .int .u64 b, .int .u64 c, .int .u64 d]) ∧ Bx Wz (w.heap.size + 1) (#[.bool q, .int .u64 a', .int .u64 b', .int .u64 c', .int .u64 d']) ∧ Bx Wz (w.heap.size + 1 + 1) (#[.bool false, .int .u64 0, .int .u64 0, .int .u64 0, .int .u64 0]))) (n0 := w.heap.size + 3) 8 [] [(0, 0), (1, 0), (2, 0), (3, 0), (4, 1), (5, 1), (6, 0), (7, 0)] [] (by kernel_rfl) (by kernel_rfl) (fun _ _ d _ _ h => by cases d <;> exact h) ⟨by (repeat' (first | (with_reducible assumption) | (with_reducible exact Below.refl _ _) | (with_reducible refine Below.alloc ?_ ?_ _) | (with_reducible refine Below.setCell ?_ ?_ _) | (with_reducible refine Below.drew ?_) | (with_reducible refine below_more ?_ (by with_reducible assumption)) | go_size | omega | (with_reducible refine below_drewN ?_))), (by first | go_size | omega), Bx.of (by (repeat' (first | (with_reducible assumption) | ((with_reducible refine HB.new _ _ _ ?_) <;> (go_size; done)) | (with_reducible refine HB.old (by go_size) ?_) | (with_reducible refine HB.drew ?_) | (with_reducible refine HB.over5 ?_) | (with_reducible refine HB.over4 ?_) | (with_reducible refine HB.setne (by first | go_size | (dsimp only; omega)) ?_) | (with_reducible refine HN.set ?_) | (with_reducible refine HN.setne (by first | go_size | (dsimp only; omega)) ?_) | (with_reducible refine HN.drew ?_) | (with_reducible refine HN.old (by go_size) ?_) | (with_reducible exact HN.of5 (by assumption)) | (with_reducible exact HN.new5 _ _ (by go_size)) | (with_reducible exact HN.of4 (by assumption)) | (with_reducible exact HN.new4 _ _ (by go_size))))), Bx.of (by (repeat' (first | (with_reducible assumption) | ((with_reducible refine HB.new _ _ _ ?_) <;> (go_size; done)) | (with_reducible refine HB.old (by go_size) ?_) | (with_reducible refine HB.drew ?_) | (with_reducible refine HB.over5 ?_) | (with_reducible refine HB.over4 ?_) | (with_reducible refine HB.setne (by first | go_size | (dsimp only; omega)) ?_) | (with_reducible refine HN.set ?_) | (with_reducible refine HN.setne (by first | go_size | (dsimp only; omega)) ?_) | (with_reducible refine HN.drew ?_) | (with_reducible refine HN.old (by go_size) ?_) | (with_reducible exact HN.of5 (by assumption)) | (with_reducible exact HN.new5 _ _ (by go_size)) | (with_reducible exact HN.of4 (by assumption)) | (with_reducible exact HN.new4 _ _ (by go_size))))), Bx.of (by (repeat' (first | (with_reducible assumption) | ((with_reducible refine HB.new _ _ _ ?_) <;> (go_size; done)) | (with_reducible refine HB.old (by go_size) ?_) | (with_reducible refine HB.drew ?_) | (with_reducible refine HB.over5 ?_) | (with_reducible refine HB.over4 ?_) | (with_reducible refine HB.setne (by first | go_size | (dsimp only; omega)) ?_) | (with_reducible refine HN.set ?_) | (with_reducible refine HN.setne (by first | go_size | (dsimp only; omega)) ?_) | (with_reducible refine HN.drew ?_) | (with_reducible refine HN.old (by go_size) ?_) | (with_reducible exact HN.of5 (by assumption)) | (with_reducible exact HN.new5 _ _ (by go_size)) | (with_reducible exact HN.of4 (by assumption)) | (with_reducible exact HN.new4 _ _ (by go_size)))))⟩ (fun _ _ h g => keep3 h (below_gt g) rfl) (fun _ h => h.2.1) (fun _ h => by cases h) (by simp) ?_)
      refine' dq_pure (by rfl) (by rfl) ?hv43 ?rest43
      case hv43 => (intro w hw; (try dsimp only at hw); go_split_ands; go_simp; try with_reducible rfl)
      case' rest43 => try simp only [Act.put, List.setIfInBounds_toArray, List.set_cons_zero, List.set_cons_succ]
      refine' dq_pure (by rfl) (by rfl) ?hv44 ?rest44
      case hv44 => (intro w hw; (try dsimp only at hw); go_split_ands; go_simp; try with_reducible rfl)
      case' rest44 => try simp only [Act.put, List.setIfInBounds_toArray, List.set_cons_zero, List.set_cons_succ]
      refine' dq_pure (by rfl) (by rfl) ?hv45 ?rest45
      case hv45 => (intro w hw; (try dsimp only at hw); go_split_ands; go_simp; try with_reducible rfl)
      case' rest45 => try simp only [Act.put, List.setIfInBounds_toArray, List.set_cons_zero, List.set_cons_succ]
      refine' dq_pure (by rfl) (by rfl) ?hv46 ?rest46
      case hv46 => (intro w hw; (try dsimp only at hw); go_split_ands; go_simp; try with_reducible rfl)
      case' rest46 => try simp only [Act.put, List.setIfInBounds_toArray, List.set_cons_zero, List.set_cons_succ]
      refine' dq_ask (R := fun v w' => SlU w' v (wl (m - m'))) (by rfl) (by rfl) ?hv47 ?hc47 ?rest47 (fun _ _ h g => keep3 h (below_gt g) rfl)
      case hv47 => (intro w; go_simp; exact ⟨rfl, rfl⟩)
      case hc47 => exact (fun wq hsq htq => mag_ask (rsub_any a1 a2 l1 c1 l2 c2 _ _ m2 hle (by have := hs1.len.1; omega) wq (hs1.drew.below (below_gt htq)) (hs2.drew.below (below_gt htq))))
      case' rest47 => try simp only [Act.put, List.setIfInBounds_toArray, List.set_cons_zero, List.set_cons_succ]
      (rintro v3 x3 hS3 hg3 hs3; clear hs1 hs2; have hs3' := hs3; obtain ⟨a3, l3, c3, rfl, -⟩ := hs3')
      refine' dq_ask (R := fun v _ => v = .tuple #[WE (cl z), .bool (fb z)]) (by rfl) (by rfl) ?hv48 ?hc48 ?rest48 (fun _ _ h g => keep3 h (below_gt g) rfl)
      case hv48 => (intro w; go_simp; exact ⟨rfl, rfl⟩)
      case hc48 => exact (fun wq hsq htq => (C _ a3 l3 c3 (hs3.below (below_gt htq))).mono (fun e w' ⟨he, hb⟩ => ⟨_, he, rfl, gt_below hb _⟩))
      case' rest48 => try simp only [Act.put, List.setIfInBounds_toArray, List.set_cons_zero, List.set_cons_succ]
      (rintro v4 x4 hS4 hg4 rfl; clear hs3)
      refine' dq_pure (by rfl) (by rfl) ?hv49 ?rest49
      case hv49 => (intro w hw; (try dsimp only at hw); go_split_ands; go_simp; try with_reducible rfl)
      case' rest49 => try simp only [Act.put, List.setIfInBounds_toArray, List.set_cons_zero, List.set_cons_succ]
      refine' dq_pure (by rfl) (by rfl) ?hv50 ?rest50
      case hv50 => (intro w hw; (try dsimp only at hw); go_split_ands; go_simp; try with_reducible rfl)
      case' rest50 => try simp only [Act.put, List.setIfInBounds_toArray, List.set_cons_zero, List.set_cons_succ]
      refine dq_nil ?_
      simp only [fa, List.drop_succ_cons, List.drop_zero]
      rintro W ⟨⟨hb0, hn0, ⟨B1, B1c, B1f, B1l⟩, ⟨B2, B2c, B2f, B2l⟩, ⟨B3, B3c, B3f, B3l⟩⟩, hgl⟩ hbs
      clear hbs
      (repeat' (first | go_values | go_skip | go_guarded | go_step | go_upon | (simp only [Int.not_lt, Int.not_le] at *; go_simp) | (go_values <;> (try go_simp)) | (go_ite <;> go_prune <;> (try go_simp)) | (split <;> (first | (rename_i hx; exact (hx _ rfl).elim) | go_prune))))
      refine bodyPost_ret (v := .tuple #[WE (cl z), .bool (fb z)]) ?_ rfl ⟨congrArg Ending.returned HR.out, by (repeat' (first | (with_reducible assumption) | (with_reducible exact Below.refl _ _) | (with_reducible refine Below.alloc ?_ ?_ _) | (with_reducible refine Below.setCell ?_ ?_ _) | (with_reducible refine Below.drew ?_) | (with_reducible refine below_more ?_ (by with_reducible assumption)) | go_size | omega | (with_reducible refine below_drewN ?_)))⟩
      simp [results, Try.results24, go_sem, B3c, B3f, B3l]
    · have hz' := hz.trans (sv_sub' hpq _ _)
      have mm : 0 ≤ m' - m := by omega
      have T : decide (0 ≤ cm m m') = false := dF (fun h => hle ((cm_ge _ _).1 h))
      have C := fun (W : World) (a0 : Option Addr) (len cap : Nat) (h : SlU W (.slice a0 len cap) (wl (m' - m))) => rwide_any q a0 len cap _ W h
      rw [VL_wl mm, ← hz'] at C
      clear hz hz' mm
      (repeat' (first | (go_big_may; (first | ((go_at_call 51; refine (CC _ _ _ _ _ _ _ hs1 hs2).mono ?_; rintro e w' ⟨rfl, hbw⟩; have N1 := Bx.of (HB.below (b := w.heap.size) (cs := #[.bool p, .int .u64 a, .int .u64 b, .int .u64 c, .int .u64 d]) (by (repeat' (first | (with_reducible assumption) | ((with_reducible refine HB.new _ _ _ ?_) <;> (go_size; done)) | (with_reducible refine HB.old (by go_size) ?_) | (with_reducible refine HB.drew ?_) | (with_reducible refine HB.over5 ?_) | (with_reducible refine HB.over4 ?_) | (with_reducible refine HB.setne (by first | go_size | (dsimp only; omega)) ?_) | (with_reducible refine HN.set ?_) | (with_reducible refine HN.setne (by first | go_size | (dsimp only; omega)) ?_) | (with_reducible refine HN.drew ?_) | (with_reducible refine HN.old (by go_size) ?_) | (with_reducible exact HN.of5 (by assumption)) | (with_reducible exact HN.new5 _ _ (by go_size)) | (with_reducible exact HN.of4 (by assumption)) | (with_reducible exact HN.new4 _ _ (by go_size))))) hbw); have N2 := Bx.of (HB.below (b := w.heap.size + 1) (cs := #[.bool q, .int .u64 a', .int .u64 b', .int .u64 c', .int .u64 d']) (by (repeat' (first | (with_reducible assumption) | ((with_reducible refine HB.new _ _ _ ?_) <;> (go_size; done)) | (with_reducible refine HB.old (by go_size) ?_) | (with_reducible refine HB.drew ?_) | (with_reducible refine HB.over5 ?_) | (with_reducible refine HB.over4 ?_) | (with_reducible refine HB.setne (by first | go_size | (dsimp only; omega)) ?_) | (with_reducible refine HN.set ?_) | (with_reducible refine HN.setne (by first | go_size | (dsimp only; omega)) ?_) | (with_reducible refine HN.drew ?_) | (with_reducible refine HN.old (by go_size) ?_) | (with_reducible exact HN.of5 (by assumption)) | (with_reducible exact HN.new5 _ _ (by go_size)) | (with_reducible exact HN.of4 (by assumption)) | (with_reducible exact HN.new4 _ _ (by go_size))))) hbw); have N3 := Bx.of (HB.below (b := w.heap.size + 1 + 1) (cs := #[.bool false, .int .u64 0, .int .u64 0, .int .u64 0, .int .u64 0]) (by (repeat' (first | (with_reducible assumption) | ((with_reducible refine HB.new _ _ _ ?_) <;> (go_size; done)) | (with_reducible refine HB.old (by go_size) ?_) | (with_reducible refine HB.drew ?_) | (with_reducible refine HB.over5 ?_) | (with_reducible refine HB.over4 ?_) | (with_reducible refine HB.setne (by first | go_size | (dsimp only; omega)) ?_) | (with_reducible refine HN.set ?_) | (with_reducible refine HN.setne (by first | go_size | (dsimp only; omega)) ?_) | (with_reducible refine HN.drew ?_) | (with_reducible refine HN.old (by go_size) ?_) | (with_reducible exact HN.of5 (by assumption)) | (with_reducible exact HN.new5 _ _ (by go_size)) | (with_reducible exact HN.of4 (by assumption)) | (with_reducible exact HN.new4 _ _ (by go_size))))) hbw); (try clear B1 B1c B1f B1l); (try clear B2 B2c B2f B2l); (try clear B3 B3c B3f B3l); obtain ⟨B1, B1c, B1f, B1l⟩ := N1; obtain ⟨B2, B2c, B2f, B2l⟩ := N2; obtain ⟨B3, B3c, B3f, B3l⟩ := N3; have hsz := hbw.size; (try simp only [World.size_alloc, World.size_setCell, World.size_drew] at hsz)); have hs1 := SlU.below hs1 hbw; have hs2 := SlU.below hs2 hbw))) | go_values | go_skip | go_guarded | go_step | go_upon | (simp only [Int.not_lt, Int.not_le] at *; go_simp) | (go_values <;> (try go_simp)) | (go_ite <;> go_prune <;> (try go_simp)) | (split <;> (first | (rename_i hx; exact (hx _ rfl).elim) | go_prune))))
      
      
      (refine wp_region_dq (row := none) (S := (fun Wz => Below w.heap.size w Wz ∧ w.heap.size + 3 ≤ Wz.heap.size ∧ Bx Wz (w.heap.size) (#[.bool p, .int .u64 a, .int .u64 b, .int .u64 c, .int .u64 d]) ∧ Bx Wz (w.heap.size + 1) (#[.bool q, .int .u64 a', .int .u64 b', .int .u64 c', .int .u64 d']) ∧ Bx Wz (w.heap.size + 1 + 1) (#[.bool false, .int .u64 0, .int .u64 0, .int .u64 0, .int .u64 0]))) (n0 := w.heap.size + 3) 8 [] [(0, 0), (1, 0), (2, 0), (3, 0), (4, 1), (5, 1), (6, 0), (7, 0)] [] (by kernel_rfl) (by kernel_rfl) (fun _ _ d _ _ h => by cases d <;> exact h) ⟨by (repeat' (first | (with_reducible assumption) | (with_reducible exact Below.refl _ _) | (with_reducible refine Below.alloc ?_ ?_ _) | (with_reducible refine Below.setCell ?_ ?_ _) | (with_reducible refine Below.drew ?_) | (with_reducible refine below_more ?_ (by with_reducible assumption)) | go_size | omega | (with_reducible refine below_drewN ?_))), (by first | go_size | omega), Bx.of (by (repeat' (first | (with_reducible assumption) | ((with_reducible refine HB.new _ _ _ ?_) <;> (go_size; done)) | (with_reducible refine HB.old (by go_size) ?_) | (with_reducible refine HB.drew ?_) | (with_reducible refine HB.over5 ?_) | (with_reducible refine HB.over4 ?_) | (with_reducible refine HB.setne (by first | go_size | (dsimp only; omega)) ?_) | (with_reducible refine HN.set ?_) | (with_reducible refine HN.setne (by first | go_size | (dsimp only; omega)) ?_) | (with_reducible refine HN.drew ?_) | (with_reducible refine HN.old (by go_size) ?_) | (with_reducible exact HN.of5 (by assumption)) | (with_reducible exact HN.new5 _ _ (by go_size)) | (with_reducible exact HN.of4 (by assumption)) | (with_reducible exact HN.new4 _ _ (by go_size))))), Bx.of (by (repeat' (first | (with_reducible assumption) | ((with_reducible refine HB.new _ _ _ ?_) <;> (go_size; done)) | (with_reducible refine HB.old (by go_size) ?_) | (with_reducible refine HB.drew ?_) | (with_reducible refine HB.over5 ?_) | (with_reducible refine HB.over4 ?_) | (with_reducible refine HB.setne (by first | go_size | (dsimp only; omega)) ?_) | (with_reducible refine HN.set ?_) | (with_reducible refine HN.setne (by first | go_size | (dsimp only; omega)) ?_) | (with_reducible refine HN.drew ?_) | (with_reducible refine HN.old (by go_size) ?_) | (with_reducible exact HN.of5 (by assumption)) | (with_reducible exact HN.new5 _ _ (by go_size)) | (with_reducible exact HN.of4 (by assumption)) | (with_reducible exact HN.new4 _ _ (by go_size))))), Bx.of (by (repeat' (first | (with_reducible assumption) | ((with_reducible refine HB.new _ _ _ ?_) <;> (go_size; done)) | (with_reducible refine HB.old (by go_size) ?_) | (with_reducible refine HB.drew ?_) | (with_reducible refine HB.over5 ?_) | (with_reducible refine HB.over4 ?_) | (with_reducible refine HB.setne (by first | go_size | (dsimp only; omega)) ?_) | (with_reducible refine HN.set ?_) | (with_reducible refine HN.setne (by first | go_size | (dsimp only; omega)) ?_) | (with_reducible refine HN.drew ?_) | (with_reducible refine HN.old (by go_size) ?_) | (with_reducible exact HN.of5 (by assumption)) | (with_reducible exact HN.new5 _ _ (by go_size)) | (with_reducible exact HN.of4 (by assumption)) | (with_reducible exact HN.new4 _ _ (by go_size)))))⟩ (fun _ _ h g => keep3 h (below_gt g) rfl) (fun _ h => h.2.1) (fun _ h => by cases h) (by simp) ?_)
      refine' dq_pure (by rfl) (by rfl) ?hv51 ?rest51
      case hv51 => (intro w hw; (try dsimp only at hw); go_split_ands; go_simp; try with_reducible rfl)
      case' rest51 => try simp only [Act.put, List.setIfInBounds_toArray, List.set_cons_zero, List.set_cons_succ]
      refine' dq_pure (by rfl) (by rfl) ?hv52 ?rest52
      case hv52 => (intro w hw; (try dsimp only at hw); go_split_ands; go_simp; try with_reducible rfl)
      case' rest52 => try simp only [Act.put, List.setIfInBounds_toArray, List.set_cons_zero, List.set_cons_succ]
      refine' dq_pure (by rfl) (by rfl) ?hv53 ?rest53
      case hv53 => (intro w hw; (try dsimp only at hw); go_split_ands; go_simp; try with_reducible rfl)
      case' rest53 => try simp only [Act.put, List.setIfInBounds_toArray, List.set_cons_zero, List.set_cons_succ]
      refine' dq_pure (by rfl) (by rfl) ?hv54 ?rest54
      case hv54 => (intro w hw; (try dsimp only at hw); go_split_ands; go_simp; try with_reducible rfl)
      case' rest54 => try simp only [Act.put, List.setIfInBounds_toArray, List.set_cons_zero, List.set_cons_succ]
      refine' dq_ask (R := fun v w' => SlU w' v (wl (m' - m))) (by rfl) (by rfl) ?hv55 ?hc55 ?rest55 (fun _ _ h g => keep3 h (below_gt g) rfl)
      case hv55 => (intro w; go_simp; exact ⟨rfl, rfl⟩)
      case hc55 => exact (fun wq hsq htq => mag_ask (rsub_any a2 a1 l2 c2 l1 c1 _ _ m1 (by omega) (by have := hs2.len.1; omega) wq (hs2.drew.below (below_gt htq)) (hs1.drew.below (below_gt htq))))
      case' rest55 => try simp only [Act.put, List.setIfInBounds_toArray, List.set_cons_zero, List.set_cons_succ]
      (rintro v3 x3 hS3 hg3 hs3; clear hs1 hs2; have hs3' := hs3; obtain ⟨a3, l3, c3, rfl, -⟩ := hs3')
      refine' dq_ask (R := fun v _ => v = .tuple #[WE (cl z), .bool (fb z)]) (by rfl) (by rfl) ?hv56 ?hc56 ?rest56 (fun _ _ h g => keep3 h (below_gt g) rfl)
      case hv56 => (intro w; go_simp; exact ⟨rfl, rfl⟩)
      case hc56 => exact (fun wq hsq htq => (C _ a3 l3 c3 (hs3.below (below_gt htq))).mono (fun e w' ⟨he, hb⟩ => ⟨_, he, rfl, gt_below hb _⟩))
      case' rest56 => try simp only [Act.put, List.setIfInBounds_toArray, List.set_cons_zero, List.set_cons_succ]
      (rintro v4 x4 hS4 hg4 rfl; clear hs3)
      refine' dq_pure (by rfl) (by rfl) ?hv57 ?rest57
      case hv57 => (intro w hw; (try dsimp only at hw); go_split_ands; go_simp; try with_reducible rfl)
      case' rest57 => try simp only [Act.put, List.setIfInBounds_toArray, List.set_cons_zero, List.set_cons_succ]
      refine' dq_pure (by rfl) (by rfl) ?hv58 ?rest58
      case hv58 => (intro w hw; (try dsimp only at hw); go_split_ands; go_simp; try with_reducible rfl)
      case' rest58 => try simp only [Act.put, List.setIfInBounds_toArray, List.set_cons_zero, List.set_cons_succ]
      refine dq_nil ?_
      simp only [fa, List.drop_succ_cons, List.drop_zero]
      rintro W ⟨⟨hb0, hn0, ⟨B1, B1c, B1f, B1l⟩, ⟨B2, B2c, B2f, B2l⟩, ⟨B3, B3c, B3f, B3l⟩⟩, hgl⟩ hbs
      clear hbs
      (repeat' (first | go_values | go_skip | go_guarded | go_step | go_upon | (simp only [Int.not_lt, Int.not_le] at *; go_simp) | (go_values <;> (try go_simp)) | (go_ite <;> go_prune <;> (try go_simp)) | (split <;> (first | (rename_i hx; exact (hx _ rfl).elim) | go_prune))))
      refine bodyPost_ret (v := .tuple #[WE (cl z), .bool (fb z)]) ?_ rfl ⟨congrArg Ending.returned HR.out, by (repeat' (first | (with_reducible assumption) | (with_reducible exact Below.refl _ _) | (with_reducible refine Below.alloc ?_ ?_ _) | (with_reducible refine Below.setCell ?_ ?_ _) | (with_reducible refine Below.drew ?_) | (with_reducible refine below_more ?_ (by with_reducible assumption)) | go_size | omega | (with_reducible refine below_drewN ?_)))⟩
      simp [results, Try.results24, go_sem, B3c, B3f, B3l]
end Go.Proofs.Ythcboomdkpiflaa
