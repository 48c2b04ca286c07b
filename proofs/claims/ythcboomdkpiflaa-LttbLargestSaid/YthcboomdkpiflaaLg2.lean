/- Several texts in one: WideC, RefC, WideD, Tri, TriP, Made, Law, LtP, LtS, MadeB, LtO, LtB. -/
import Derived.Test.YthcboomdkpiflaaRows
import Derived.WalkKit
import Derived.ProofKit
import Derived.WalkLawsBesides
import Derived.WalkSpells
import Derived.RegionTactic
import Derived.ChangeAlike
import Derived.BigRegion
import Derived.Deep.QuietTactic
import Derived.BigQuiet
import Derived.Deep.DeepCutAuto
import Derived.StillTailTactics
import Derived.Outline
import Derived.Handy
import Derived.Deep.RegionWith
import Derived.OpenShut
import Derived.SizedLaws
import Derived.OwnWalk
import Derived.Test.YthcboomdkpiflaaLg1

/- WideC: The package wide, continued: sums, differences, products. -/
namespace Go.Proofs.Ythcboomdkpiflaa
open Go.ChangeShapes Go.WideShapes Go.ChangeAt Go.RowKit
set_option linter.unusedVariables false
set_option linter.unusedSimpArgs false
set_option maxHeartbeats 3000000 in
theorem add_any (n : Bool) (a b c d : Int) (n' : Bool) (a' b' c' d' : Int) (ha : U64 a) (hb : U64 b) (hc : U64 c) (hd : U64 d) (ha' : U64 a') (hb' : U64 b') (hc' : U64 c') (hd' : U64 d') (w : World) :
    Calls Try.prog 76 #[WV n a b c d, WV n' a' b' c' d'] w fun e w' => e = .returned (.tuple #[WE (cl (wv n a b c d + wv n' a' b' c' d')), .bool (fb (wv n a b c d + wv n' a' b' c' d'))]) ∧ Below w.heap.size w w' := by
  obtain ⟨z, hz⟩ : ∃ z, z = wv n a b c d + wv n' a' b' c' d' := ⟨_, rfl⟩
  rw [← hz]
  generalize hR : Value.tuple #[WE (cl z), .bool (fb z)] = R
  have HR := hid hR
  clear hR
  rw [wv_sv n a b c d, wv_sv n' a' b' c' d'] at hz
  have m1 := mv_nonneg ha hb hc hd
  have m2 := mv_nonneg ha' hb' hc' hd'
  have u1 := mv_up4 ha hb hc hd
  have u2 := mv_up4 ha' hb' hc' hd'
  have C1 := hid (cm4_mv (a3 := d) (b3 := d') ha hb hc ha' hb' hc')
  have H := hid (And.intro hz (And.intro m1 (And.intro m2 (And.intro u1 u2))))
  clear hz m1 m2 u1 u2
  go_enter Try.func76, Try.ntmps76
  go_wp2_with fail
  (refine wp_region_dq (row := none) (S := (fun Wz => Below w.heap.size w Wz ∧ w.heap.size + 3 ≤ Wz.heap.size ∧ Bx Wz (w.heap.size) (#[.bool n, .int .u64 a, .int .u64 b, .int .u64 c, .int .u64 d]) ∧ Bx Wz (w.heap.size + 1) (#[.bool n', .int .u64 a', .int .u64 b', .int .u64 c', .int .u64 d']) ∧ Bx Wz (w.heap.size + 1 + 1) (#[.bool false, .int .u64 0, .int .u64 0, .int .u64 0, .int .u64 0]))) (n0 := w.heap.size + 3) 4 [] [(0, 0), (1, 0), (2, 0), (3, 0)] [] (by kernel_rfl) (by kernel_rfl) (fun _ _ d _ _ h => by cases d <;> exact h) ⟨by (repeat' (first | (with_reducible assumption) | (with_reducible exact Below.refl _ _) | (with_reducible refine Below.alloc ?_ ?_ _) | (with_reducible refine Below.setCell ?_ ?_ _) | (with_reducible refine Below.drew ?_) | (with_reducible refine below_more ?_ (by with_reducible assumption)) | go_size | omega | (with_reducible refine below_drewN ?_))), (by first | go_size | omega), Bx.of (by (repeat' (first | (with_reducible assumption) | ((with_reducible refine HB.new _ _ _ ?_) <;> (go_size; done)) | (with_reducible refine HB.old (by go_size) ?_) | (with_reducible refine HB.drew ?_) | (with_reducible refine HB.over5 ?_) | (with_reducible refine HB.over4 ?_) | (with_reducible refine HB.setne (by first | go_size | (dsimp only; omega)) ?_) | (with_reducible refine HN.set ?_) | (with_reducible refine HN.setne (by first | go_size | (dsimp only; omega)) ?_) | (with_reducible refine HN.drew ?_) | (with_reducible refine HN.old (by go_size) ?_) | (with_reducible exact HN.of5 (by assumption)) | (with_reducible exact HN.new5 _ _ (by go_size)) | (with_reducible exact HN.of4 (by assumption)) | (with_reducible exact HN.new4 _ _ (by go_size))))), Bx.of (by (repeat' (first | (with_reducible assumption) | ((with_reducible refine HB.new _ _ _ ?_) <;> (go_size; done)) | (with_reducible refine HB.old (by go_size) ?_) | (with_reducible refine HB.drew ?_) | (with_reducible refine HB.over5 ?_) | (with_reducible refine HB.over4 ?_) | (with_reducible refine HB.setne (by first | go_size | (dsimp only; omega)) ?_) | (with_reducible refine HN.set ?_) | (with_reducible refine HN.setne (by first | go_size | (dsimp only; omega)) ?_) | (with_reducible refine HN.drew ?_) | (with_reducible refine HN.old (by go_size) ?_) | (with_reducible exact HN.of5 (by assumption)) | (with_reducible exact HN.new5 _ _ (by go_size)) | (with_reducible exact HN.of4 (by assumption)) | (with_reducible exact HN.new4 _ _ (by go_size))))), Bx.of (by (repeat' (first | (with_reducible assumption) | ((with_reducible refine HB.new _ _ _ ?_) <;> (go_size; done)) | (with_reducible refine HB.old (by go_size) ?_) | (with_reducible refine HB.drew ?_) | (with_reducible refine HB.over5 ?_) | (with_reducible refine HB.over4 ?_) | (with_reducible refine HB.setne (by first | go_size | (dsimp only; omega)) ?_) | (with_reducible refine HN.set ?_) | (with_reducible refine HN.setne (by first | go_size | (dsimp only; omega)) ?_) | (with_reducible refine HN.drew ?_) | (with_reducible refine HN.old (by go_size) ?_) | (with_reducible exact HN.of5 (by assumption)) | (with_reducible exact HN.new5 _ _ (by go_size)) | (with_reducible exact HN.of4 (by assumption)) | (with_reducible exact HN.new4 _ _ (by go_size)))))⟩ (fun _ _ h g => keep3 h (below_gt g) rfl) (fun _ h => h.2.1) (fun _ h => by cases h) (by simp) ?_)
  refine' dq_pure (by rfl) (by rfl) ?hv1 ?rest1
  case hv1 => (intro w hw; (try dsimp only at hw); go_split_ands; go_simp; try with_reducible rfl)
  case' rest1 => try simp only [Act.put, List.setIfInBounds_toArray, List.set_cons_zero, List.set_cons_succ]
  refine' dq_call (by rfl) (by rfl) ?hv2 ?hc2 ?rest2
  case hv2 => (intro w; go_simp; exact ⟨rfl, rfl⟩)
  case hc2 => exact (fun w hw => calls_gt (clean_any _ _ _ _ _ _))
  case' rest2 => try simp only [Act.put, List.setIfInBounds_toArray, List.set_cons_zero, List.set_cons_succ]
  refine' dq_pure (by rfl) (by rfl) ?hv3 ?rest3
  case hv3 => (intro w hw; (try dsimp only at hw); go_split_ands; go_simp; try with_reducible rfl)
  case' rest3 => try simp only [Act.put, List.setIfInBounds_toArray, List.set_cons_zero, List.set_cons_succ]
  refine' dq_call (by rfl) (by rfl) ?hv4 ?hc4 ?rest4
  case hv4 => (intro w; go_simp; exact ⟨rfl, rfl⟩)
  case hc4 => exact (fun w hw => calls_gt (clean_any _ _ _ _ _ _))
  case' rest4 => try simp only [Act.put, List.setIfInBounds_toArray, List.set_cons_zero, List.set_cons_succ]
  refine dq_nil ?_
  simp only [fa, List.drop_succ_cons, List.drop_zero]
  rintro W ⟨⟨hb0, hn0, ⟨B1, B1c, B1f, B1l⟩, ⟨B2, B2c, B2f, B2l⟩, ⟨B3, B3c, B3f, B3l⟩⟩, hgl⟩ hbs
  clear hbs hgl
  generalize cn n a b c d = p at *
  generalize cn n' a' b' c' d' = q at *
  obtain ⟨hz, m1, m2, u1, u2⟩ := H.out
  clear H
  by_cases hpq : p = q
  · subst hpq
    rw [sv_add] at hz
    
    by_cases hu : up4 (MV a b c d + MV a' b' c' d') = 0
    · have hf : Fits (sv p (MV a b c d + MV a' b' c' d')) := (fits_sv (by omega)).2 hu
      have E := hid (And.intro ((sv_signed (p := p) (m := MV a b c d + MV a' b' c' d') (by omega) hu).trans (by rw [hz, cl_fit hf]) : _ = WE (cl z)) (by rw [hz, fb_fit hf] : true = fb z))
      have T : (up4 (MV a b c d + MV a' b' c' d') != 0) = false := by rw [hu]; rfl
      clear hu hf hz m1 m2 u1 u2 C1
      (repeat' (first | (go_big_may; (first | (go_at_call 87; refine (wadd_any a b c d a' b' c' d' ha hb hc hd ha' hb' hc' hd' _).mono ?_; rintro e w' ⟨rfl, hbw⟩; have N1 := Bx.of (HB.below (b := w.heap.size) (cs := #[.bool p, .int .u64 a, .int .u64 b, .int .u64 c, .int .u64 d]) (by (repeat' (first | (with_reducible assumption) | ((with_reducible refine HB.new _ _ _ ?_) <;> (go_size; done)) | (with_reducible refine HB.old (by go_size) ?_) | (with_reducible refine HB.drew ?_) | (with_reducible refine HB.over5 ?_) | (with_reducible refine HB.over4 ?_) | (with_reducible refine HB.setne (by first | go_size | (dsimp only; omega)) ?_) | (with_reducible refine HN.set ?_) | (with_reducible refine HN.setne (by first | go_size | (dsimp only; omega)) ?_) | (with_reducible refine HN.drew ?_) | (with_reducible refine HN.old (by go_size) ?_) | (with_reducible exact HN.of5 (by assumption)) | (with_reducible exact HN.new5 _ _ (by go_size)) | (with_reducible exact HN.of4 (by assumption)) | (with_reducible exact HN.new4 _ _ (by go_size))))) hbw); have N2 := Bx.of (HB.below (b := w.heap.size + 1) (cs := #[.bool p, .int .u64 a', .int .u64 b', .int .u64 c', .int .u64 d']) (by (repeat' (first | (with_reducible assumption) | ((with_reducible refine HB.new _ _ _ ?_) <;> (go_size; done)) | (with_reducible refine HB.old (by go_size) ?_) | (with_reducible refine HB.drew ?_) | (with_reducible refine HB.over5 ?_) | (with_reducible refine HB.over4 ?_) | (with_reducible refine HB.setne (by first | go_size | (dsimp only; omega)) ?_) | (with_reducible refine HN.set ?_) | (with_reducible refine HN.setne (by first | go_size | (dsimp only; omega)) ?_) | (with_reducible refine HN.drew ?_) | (with_reducible refine HN.old (by go_size) ?_) | (with_reducible exact HN.of5 (by assumption)) | (with_reducible exact HN.new5 _ _ (by go_size)) | (with_reducible exact HN.of4 (by assumption)) | (with_reducible exact HN.new4 _ _ (by go_size))))) hbw); have N3 := Bx.of (HB.below (b := w.heap.size + 1 + 1) (cs := #[.bool false, .int .u64 0, .int .u64 0, .int .u64 0, .int .u64 0]) (by (repeat' (first | (with_reducible assumption) | ((with_reducible refine HB.new _ _ _ ?_) <;> (go_size; done)) | (with_reducible refine HB.old (by go_size) ?_) | (with_reducible refine HB.drew ?_) | (with_reducible refine HB.over5 ?_) | (with_reducible refine HB.over4 ?_) | (with_reducible refine HB.setne (by first | go_size | (dsimp only; omega)) ?_) | (with_reducible refine HN.set ?_) | (with_reducible refine HN.setne (by first | go_size | (dsimp only; omega)) ?_) | (with_reducible refine HN.drew ?_) | (with_reducible refine HN.old (by go_size) ?_) | (with_reducible exact HN.of5 (by assumption)) | (with_reducible exact HN.new5 _ _ (by go_size)) | (with_reducible exact HN.of4 (by assumption)) | (with_reducible exact HN.new4 _ _ (by go_size))))) hbw); (try clear B1 B1c B1f B1l); (try clear B2 B2c B2f B2l); (try clear B3 B3c B3f B3l); obtain ⟨B1, B1c, B1f, B1l⟩ := N1; obtain ⟨B2, B2c, B2f, B2l⟩ := N2; obtain ⟨B3, B3c, B3f, B3l⟩ := N3; have hsz := hbw.size; (try simp only [World.size_alloc, World.size_setCell, World.size_drew] at hsz)) | (go_at_call 80; refine (signed_any _ _ _ _ _ _).mono ?_; rintro e w' ⟨rfl, hbw⟩; have N1 := Bx.of (HB.below (b := w.heap.size) (cs := #[.bool p, .int .u64 a, .int .u64 b, .int .u64 c, .int .u64 d]) (by (repeat' (first | (with_reducible assumption) | ((with_reducible refine HB.new _ _ _ ?_) <;> (go_size; done)) | (with_reducible refine HB.old (by go_size) ?_) | (with_reducible refine HB.drew ?_) | (with_reducible refine HB.over5 ?_) | (with_reducible refine HB.over4 ?_) | (with_reducible refine HB.setne (by first | go_size | (dsimp only; omega)) ?_) | (with_reducible refine HN.set ?_) | (with_reducible refine HN.setne (by first | go_size | (dsimp only; omega)) ?_) | (with_reducible refine HN.drew ?_) | (with_reducible refine HN.old (by go_size) ?_) | (with_reducible exact HN.of5 (by assumption)) | (with_reducible exact HN.new5 _ _ (by go_size)) | (with_reducible exact HN.of4 (by assumption)) | (with_reducible exact HN.new4 _ _ (by go_size))))) hbw); have N2 := Bx.of (HB.below (b := w.heap.size + 1) (cs := #[.bool p, .int .u64 a', .int .u64 b', .int .u64 c', .int .u64 d']) (by (repeat' (first | (with_reducible assumption) | ((with_reducible refine HB.new _ _ _ ?_) <;> (go_size; done)) | (with_reducible refine HB.old (by go_size) ?_) | (with_reducible refine HB.drew ?_) | (with_reducible refine HB.over5 ?_) | (with_reducible refine HB.over4 ?_) | (with_reducible refine HB.setne (by first | go_size | (dsimp only; omega)) ?_) | (with_reducible refine HN.set ?_) | (with_reducible refine HN.setne (by first | go_size | (dsimp only; omega)) ?_) | (with_reducible refine HN.drew ?_) | (with_reducible refine HN.old (by go_size) ?_) | (with_reducible exact HN.of5 (by assumption)) | (with_reducible exact HN.new5 _ _ (by go_size)) | (with_reducible exact HN.of4 (by assumption)) | (with_reducible exact HN.new4 _ _ (by go_size))))) hbw); have N3 := Bx.of (HB.below (b := w.heap.size + 1 + 1) (cs := #[.bool false, .int .u64 0, .int .u64 0, .int .u64 0, .int .u64 0]) (by (repeat' (first | (with_reducible assumption) | ((with_reducible refine HB.new _ _ _ ?_) <;> (go_size; done)) | (with_reducible refine HB.old (by go_size) ?_) | (with_reducible refine HB.drew ?_) | (with_reducible refine HB.over5 ?_) | (with_reducible refine HB.over4 ?_) | (with_reducible refine HB.setne (by first | go_size | (dsimp only; omega)) ?_) | (with_reducible refine HN.set ?_) | (with_reducible refine HN.setne (by first | go_size | (dsimp only; omega)) ?_) | (with_reducible refine HN.drew ?_) | (with_reducible refine HN.old (by go_size) ?_) | (with_reducible exact HN.of5 (by assumption)) | (with_reducible exact HN.new5 _ _ (by go_size)) | (with_reducible exact HN.of4 (by assumption)) | (with_reducible exact HN.new4 _ _ (by go_size))))) hbw); (try clear B1 B1c B1f B1l); (try clear B2 B2c B2f B2l); (try clear B3 B3c B3f B3l); obtain ⟨B1, B1c, B1f, B1l⟩ := N1; obtain ⟨B2, B2c, B2f, B2l⟩ := N2; obtain ⟨B3, B3c, B3f, B3l⟩ := N3; have hsz := hbw.size; (try simp only [World.size_alloc, World.size_setCell, World.size_drew] at hsz)))) | go_values | go_skip | go_guarded | go_step | go_upon | (simp only [Int.not_lt, Int.not_le] at *; go_simp) | (go_values <;> (try go_simp)) | (go_ite <;> go_prune <;> (try go_simp)) | (split <;> (first | (rename_i hx; exact (hx _ rfl).elim) | go_prune))))
      refine bodyPost_ret (v := .tuple #[_, .bool true]) ?_ rfl ⟨congrArg Ending.returned ((ret_w E.out.1 E.out.2).trans HR.out), by (repeat' (first | (with_reducible assumption) | (with_reducible exact Below.refl _ _) | (with_reducible refine Below.alloc ?_ ?_ _) | (with_reducible refine Below.setCell ?_ ?_ _) | (with_reducible refine Below.drew ?_) | (with_reducible refine below_more ?_ (by with_reducible assumption)) | go_size | omega | (with_reducible refine below_drewN ?_)))⟩
      simp [results, Try.results76, go_sem, B3c, B3f, B3l]
    · have hf : ¬Fits (sv p (MV a b c d + MV a' b' c' d')) := fun h => hu ((fits_sv (by omega)).1 h)
      have E := hid (And.intro (we_zero.symm.trans (by rw [hz, cl_not hf]) : WV false 0 0 0 0 = WE (cl z)) (by rw [hz, fb_not hf] : false = fb z))
      have T : (up4 (MV a b c d + MV a' b' c' d') != 0) = true := bne_iff_ne.2 hu
      clear hu hf hz m1 m2 u1 u2 C1
      (repeat' (first | (go_big_may; (first | (go_at_call 87; refine (wadd_any a b c d a' b' c' d' ha hb hc hd ha' hb' hc' hd' _).mono ?_; rintro e w' ⟨rfl, hbw⟩; have N1 := Bx.of (HB.below (b := w.heap.size) (cs := #[.bool p, .int .u64 a, .int .u64 b, .int .u64 c, .int .u64 d]) (by (repeat' (first | (with_reducible assumption) | ((with_reducible refine HB.new _ _ _ ?_) <;> (go_size; done)) | (with_reducible refine HB.old (by go_size) ?_) | (with_reducible refine HB.drew ?_) | (with_reducible refine HB.over5 ?_) | (with_reducible refine HB.over4 ?_) | (with_reducible refine HB.setne (by first | go_size | (dsimp only; omega)) ?_) | (with_reducible refine HN.set ?_) | (with_reducible refine HN.setne (by first | go_size | (dsimp only; omega)) ?_) | (with_reducible refine HN.drew ?_) | (with_reducible refine HN.old (by go_size) ?_) | (with_reducible exact HN.of5 (by assumption)) | (with_reducible exact HN.new5 _ _ (by go_size)) | (with_reducible exact HN.of4 (by assumption)) | (with_reducible exact HN.new4 _ _ (by go_size))))) hbw); have N2 := Bx.of (HB.below (b := w.heap.size + 1) (cs := #[.bool p, .int .u64 a', .int .u64 b', .int .u64 c', .int .u64 d']) (by (repeat' (first | (with_reducible assumption) | ((with_reducible refine HB.new _ _ _ ?_) <;> (go_size; done)) | (with_reducible refine HB.old (by go_size) ?_) | (with_reducible refine HB.drew ?_) | (with_reducible refine HB.over5 ?_) | (with_reducible refine HB.over4 ?_) | (with_reducible refine HB.setne (by first | go_size | (dsimp only; omega)) ?_) | (with_reducible refine HN.set ?_) | (with_reducible refine HN.setne (by first | go_size | (dsimp only; omega)) ?_) | (with_reducible refine HN.drew ?_) | (with_reducible refine HN.old (by go_size) ?_) | (with_reducible exact HN.of5 (by assumption)) | (with_reducible exact HN.new5 _ _ (by go_size)) | (with_reducible exact HN.of4 (by assumption)) | (with_reducible exact HN.new4 _ _ (by go_size))))) hbw); have N3 := Bx.of (HB.below (b := w.heap.size + 1 + 1) (cs := #[.bool false, .int .u64 0, .int .u64 0, .int .u64 0, .int .u64 0]) (by (repeat' (first | (with_reducible assumption) | ((with_reducible refine HB.new _ _ _ ?_) <;> (go_size; done)) | (with_reducible refine HB.old (by go_size) ?_) | (with_reducible refine HB.drew ?_) | (with_reducible refine HB.over5 ?_) | (with_reducible refine HB.over4 ?_) | (with_reducible refine HB.setne (by first | go_size | (dsimp only; omega)) ?_) | (with_reducible refine HN.set ?_) | (with_reducible refine HN.setne (by first | go_size | (dsimp only; omega)) ?_) | (with_reducible refine HN.drew ?_) | (with_reducible refine HN.old (by go_size) ?_) | (with_reducible exact HN.of5 (by assumption)) | (with_reducible exact HN.new5 _ _ (by go_size)) | (with_reducible exact HN.of4 (by assumption)) | (with_reducible exact HN.new4 _ _ (by go_size))))) hbw); (try clear B1 B1c B1f B1l); (try clear B2 B2c B2f B2l); (try clear B3 B3c B3f B3l); obtain ⟨B1, B1c, B1f, B1l⟩ := N1; obtain ⟨B2, B2c, B2f, B2l⟩ := N2; obtain ⟨B3, B3c, B3f, B3l⟩ := N3; have hsz := hbw.size; (try simp only [World.size_alloc, World.size_setCell, World.size_drew] at hsz)))) | go_values | go_skip | go_guarded | go_step | go_upon | (simp only [Int.not_lt, Int.not_le] at *; go_simp) | (go_values <;> (try go_simp)) | (go_ite <;> go_prune <;> (try go_simp)) | (split <;> (first | (rename_i hx; exact (hx _ rfl).elim) | go_prune))))
      refine bodyPost_ret (v := .tuple #[WV false 0 0 0 0, .bool false]) ?_ rfl ⟨congrArg Ending.returned ((ret_w E.out.1 E.out.2).trans HR.out), by (repeat' (first | (with_reducible assumption) | (with_reducible exact Below.refl _ _) | (with_reducible refine Below.alloc ?_ ?_ _) | (with_reducible refine Below.setCell ?_ ?_ _) | (with_reducible refine Below.drew ?_) | (with_reducible refine below_more ?_ (by with_reducible assumption)) | go_size | omega | (with_reducible refine below_drewN ?_)))⟩
      simp [results, Try.results76, go_sem, B3c, B3f, B3l]
  · have T0 : (p == q) = false := beq_eq_false_iff_ne.2 hpq
    by_cases hle : MV a' b' c' d' ≤ MV a b c d
    · have hu : up4 (MV a b c d - MV a' b' c' d') = 0 := up4_le (by omega) (by omega) u1
      have hz' := hz.trans (sv_sub hpq _ _)
      have hf : Fits (sv p (MV a b c d - MV a' b' c' d')) := (fits_sv (by omega)).2 hu
      have E := hid (And.intro ((sv_signed (p := p) (m := MV a b c d - MV a' b' c' d') (by omega) hu).trans (by rw [hz', cl_fit hf]) : _ = WE (cl z)) (by rw [hz', fb_fit hf] : true = fb z))
      have T : decide (0 ≤ cm4 a b c d a' b' c' d') = true := by rw [C1.out]; exact dT ((cm_ge _ _).2 hle)
      clear hu hf hz hz' m1 m2 u1 u2 C1 hle hpq
      (repeat' (first | (go_big_may; (first | (go_at_call 85; refine (wcompare_any a b c d a' b' c' d' _).mono ?_; rintro e w' ⟨rfl, hbw⟩; have N1 := Bx.of (HB.below (b := w.heap.size) (cs := #[.bool p, .int .u64 a, .int .u64 b, .int .u64 c, .int .u64 d]) (by (repeat' (first | (with_reducible assumption) | ((with_reducible refine HB.new _ _ _ ?_) <;> (go_size; done)) | (with_reducible refine HB.old (by go_size) ?_) | (with_reducible refine HB.drew ?_) | (with_reducible refine HB.over5 ?_) | (with_reducible refine HB.over4 ?_) | (with_reducible refine HB.setne (by first | go_size | (dsimp only; omega)) ?_) | (with_reducible refine HN.set ?_) | (with_reducible refine HN.setne (by first | go_size | (dsimp only; omega)) ?_) | (with_reducible refine HN.drew ?_) | (with_reducible refine HN.old (by go_size) ?_) | (with_reducible exact HN.of5 (by assumption)) | (with_reducible exact HN.new5 _ _ (by go_size)) | (with_reducible exact HN.of4 (by assumption)) | (with_reducible exact HN.new4 _ _ (by go_size))))) hbw); have N2 := Bx.of (HB.below (b := w.heap.size + 1) (cs := #[.bool q, .int .u64 a', .int .u64 b', .int .u64 c', .int .u64 d']) (by (repeat' (first | (with_reducible assumption) | ((with_reducible refine HB.new _ _ _ ?_) <;> (go_size; done)) | (with_reducible refine HB.old (by go_size) ?_) | (with_reducible refine HB.drew ?_) | (with_reducible refine HB.over5 ?_) | (with_reducible refine HB.over4 ?_) | (with_reducible refine HB.setne (by first | go_size | (dsimp only; omega)) ?_) | (with_reducible refine HN.set ?_) | (with_reducible refine HN.setne (by first | go_size | (dsimp only; omega)) ?_) | (with_reducible refine HN.drew ?_) | (with_reducible refine HN.old (by go_size) ?_) | (with_reducible exact HN.of5 (by assumption)) | (with_reducible exact HN.new5 _ _ (by go_size)) | (with_reducible exact HN.of4 (by assumption)) | (with_reducible exact HN.new4 _ _ (by go_size))))) hbw); have N3 := Bx.of (HB.below (b := w.heap.size + 1 + 1) (cs := #[.bool false, .int .u64 0, .int .u64 0, .int .u64 0, .int .u64 0]) (by (repeat' (first | (with_reducible assumption) | ((with_reducible refine HB.new _ _ _ ?_) <;> (go_size; done)) | (with_reducible refine HB.old (by go_size) ?_) | (with_reducible refine HB.drew ?_) | (with_reducible refine HB.over5 ?_) | (with_reducible refine HB.over4 ?_) | (with_reducible refine HB.setne (by first | go_size | (dsimp only; omega)) ?_) | (with_reducible refine HN.set ?_) | (with_reducible refine HN.setne (by first | go_size | (dsimp only; omega)) ?_) | (with_reducible refine HN.drew ?_) | (with_reducible refine HN.old (by go_size) ?_) | (with_reducible exact HN.of5 (by assumption)) | (with_reducible exact HN.new5 _ _ (by go_size)) | (with_reducible exact HN.of4 (by assumption)) | (with_reducible exact HN.new4 _ _ (by go_size))))) hbw); (try clear B1 B1c B1f B1l); (try clear B2 B2c B2f B2l); (try clear B3 B3c B3f B3l); obtain ⟨B1, B1c, B1f, B1l⟩ := N1; obtain ⟨B2, B2c, B2f, B2l⟩ := N2; obtain ⟨B3, B3c, B3f, B3l⟩ := N3; have hsz := hbw.size; (try simp only [World.size_alloc, World.size_setCell, World.size_drew] at hsz)))) | go_values | go_skip | go_guarded | go_step | go_upon | (simp only [Int.not_lt, Int.not_le] at *; go_simp) | (go_values <;> (try go_simp)) | (go_ite <;> go_prune <;> (try go_simp)) | (split <;> (first | (rename_i hx; exact (hx _ rfl).elim) | go_prune))))
      
      (refine wp_region_dq (row := none) (S := (fun Wz => Below w.heap.size w Wz ∧ w.heap.size + 3 ≤ Wz.heap.size ∧ Bx Wz (w.heap.size) (#[.bool p, .int .u64 a, .int .u64 b, .int .u64 c, .int .u64 d]) ∧ Bx Wz (w.heap.size + 1) (#[.bool q, .int .u64 a', .int .u64 b', .int .u64 c', .int .u64 d']) ∧ Bx Wz (w.heap.size + 1 + 1) (#[.bool false, .int .u64 0, .int .u64 0, .int .u64 0, .int .u64 0]))) (n0 := w.heap.size + 3) 8 [] [(0, 0), (1, 0), (2, 0), (3, 0), (4, 0), (5, 0), (6, 0), (7, 0)] [] (by kernel_rfl) (by kernel_rfl) (fun _ _ d _ _ h => by cases d <;> exact h) ⟨by (repeat' (first | (with_reducible assumption) | (with_reducible exact Below.refl _ _) | (with_reducible refine Below.alloc ?_ ?_ _) | (with_reducible refine Below.setCell ?_ ?_ _) | (with_reducible refine Below.drew ?_) | (with_reducible refine below_more ?_ (by with_reducible assumption)) | go_size | omega | (with_reducible refine below_drewN ?_))), (by first | go_size | omega), Bx.of (by (repeat' (first | (with_reducible assumption) | ((with_reducible refine HB.new _ _ _ ?_) <;> (go_size; done)) | (with_reducible refine HB.old (by go_size) ?_) | (with_reducible refine HB.drew ?_) | (with_reducible refine HB.over5 ?_) | (with_reducible refine HB.over4 ?_) | (with_reducible refine HB.setne (by first | go_size | (dsimp only; omega)) ?_) | (with_reducible refine HN.set ?_) | (with_reducible refine HN.setne (by first | go_size | (dsimp only; omega)) ?_) | (with_reducible refine HN.drew ?_) | (with_reducible refine HN.old (by go_size) ?_) | (with_reducible exact HN.of5 (by assumption)) | (with_reducible exact HN.new5 _ _ (by go_size)) | (with_reducible exact HN.of4 (by assumption)) | (with_reducible exact HN.new4 _ _ (by go_size))))), Bx.of (by (repeat' (first | (with_reducible assumption) | ((with_reducible refine HB.new _ _ _ ?_) <;> (go_size; done)) | (with_reducible refine HB.old (by go_size) ?_) | (with_reducible refine HB.drew ?_) | (with_reducible refine HB.over5 ?_) | (with_reducible refine HB.over4 ?_) | (with_reducible refine HB.setne (by first | go_size | (dsimp only; omega)) ?_) | (with_reducible refine HN.set ?_) | (with_reducible refine HN.setne (by first | go_size | (dsimp only; omega)) ?_) | (with_reducible refine HN.drew ?_) | (with_reducible refine HN.old (by go_size) ?_) | (with_reducible exact HN.of5 (by assumption)) | (with_reducible exact HN.new5 _ _ (by go_size)) | (with_reducible exact HN.of4 (by assumption)) | (with_reducible exact HN.new4 _ _ (by go_size))))), Bx.of (by (repeat' (first | (with_reducible assumption) | ((with_reducible refine HB.new _ _ _ ?_) <;> (go_size; done)) | (with_reducible refine HB.old (by go_size) ?_) | (with_reducible refine HB.drew ?_) | (with_reducible refine HB.over5 ?_) | (with_reducible refine HB.over4 ?_) | (with_reducible refine HB.setne (by first | go_size | (dsimp only; omega)) ?_) | (with_reducible refine HN.set ?_) | (with_reducible refine HN.setne (by first | go_size | (dsimp only; omega)) ?_) | (with_reducible refine HN.drew ?_) | (with_reducible refine HN.old (by go_size) ?_) | (with_reducible exact HN.of5 (by assumption)) | (with_reducible exact HN.new5 _ _ (by go_size)) | (with_reducible exact HN.of4 (by assumption)) | (with_reducible exact HN.new4 _ _ (by go_size)))))⟩ (fun _ _ h g => keep3 h (below_gt g) rfl) (fun _ h => h.2.1) (fun _ h => by cases h) (by simp) ?_)
      refine' dq_pure (by rfl) (by rfl) ?hv5 ?rest5
      case hv5 => (intro w hw; (try dsimp only at hw); go_split_ands; go_simp; try with_reducible rfl)
      case' rest5 => try simp only [Act.put, List.setIfInBounds_toArray, List.set_cons_zero, List.set_cons_succ]
      refine' dq_pure (by rfl) (by rfl) ?hv6 ?rest6
      case hv6 => (intro w hw; (try dsimp only at hw); go_split_ands; go_simp; try with_reducible rfl)
      case' rest6 => try simp only [Act.put, List.setIfInBounds_toArray, List.set_cons_zero, List.set_cons_succ]
      refine' dq_pure (by rfl) (by rfl) ?hv7 ?rest7
      case hv7 => (intro w hw; (try dsimp only at hw); go_split_ands; go_simp; try with_reducible rfl)
      case' rest7 => try simp only [Act.put, List.setIfInBounds_toArray, List.set_cons_zero, List.set_cons_succ]
      refine' dq_pure (by rfl) (by rfl) ?hv8 ?rest8
      case hv8 => (intro w hw; (try dsimp only at hw); go_split_ands; go_simp; try with_reducible rfl)
      case' rest8 => try simp only [Act.put, List.setIfInBounds_toArray, List.set_cons_zero, List.set_cons_succ]
      refine' dq_pure (by rfl) (by rfl) ?hv9 ?rest9
      case hv9 => (intro w hw; (try dsimp only at hw); go_split_ands; go_simp; try with_reducible rfl)
      case' rest9 => try simp only [Act.put, List.setIfInBounds_toArray, List.set_cons_zero, List.set_cons_succ]
      refine' dq_pure (by rfl) (by rfl) ?hv10 ?rest10
      case hv10 => (intro w hw; (try dsimp only at hw); go_split_ands; go_simp; try with_reducible rfl)
      case' rest10 => try simp only [Act.put, List.setIfInBounds_toArray, List.set_cons_zero, List.set_cons_succ]
      refine' dq_call (by rfl) (by rfl) ?hv11 ?hc11 ?rest11
      case hv11 => (intro w; go_simp; exact ⟨rfl, rfl⟩)
      case hc11 => exact (fun w hw => calls_gt (wsub_any a b c d a' b' c' d' ha hb hc hd ha' hb' hc' hd' _))
      case' rest11 => try simp only [Act.put, List.setIfInBounds_toArray, List.set_cons_zero, List.set_cons_succ]
      refine' dq_call (by rfl) (by rfl) ?hv12 ?hc12 ?rest12
      case hv12 => (intro w; go_simp; exact ⟨rfl, rfl⟩)
      case hc12 => exact (fun w hw => calls_gt (signed_any _ _ _ _ _ _))
      case' rest12 => try simp only [Act.put, List.setIfInBounds_toArray, List.set_cons_zero, List.set_cons_succ]
      refine dq_nil ?_
      simp only [fa, List.drop_succ_cons, List.drop_zero]
      rintro W ⟨⟨hb0, hn0, ⟨B1, B1c, B1f, B1l⟩, ⟨B2, B2c, B2f, B2l⟩, ⟨B3, B3c, B3f, B3l⟩⟩, hgl⟩ hbs
      clear hbs hgl
      (repeat' (first | go_values | go_skip | go_guarded | go_step | go_upon | (simp only [Int.not_lt, Int.not_le] at *; go_simp) | (go_values <;> (try go_simp)) | (go_ite <;> go_prune <;> (try go_simp)) | (split <;> (first | (rename_i hx; exact (hx _ rfl).elim) | go_prune))))
      refine bodyPost_ret (v := .tuple #[_, .bool true]) ?_ rfl ⟨congrArg Ending.returned ((ret_w E.out.1 E.out.2).trans HR.out), by (repeat' (first | (with_reducible assumption) | (with_reducible exact Below.refl _ _) | (with_reducible refine Below.alloc ?_ ?_ _) | (with_reducible refine Below.setCell ?_ ?_ _) | (with_reducible refine Below.drew ?_) | (with_reducible refine below_more ?_ (by with_reducible assumption)) | go_size | omega | (with_reducible refine below_drewN ?_)))⟩
      simp [results, Try.results76, go_sem, B3c, B3f, B3l]
    · have hu : up4 (MV a' b' c' d' - MV a b c d) = 0 := up4_le (by omega) (by omega) u2
      have hz' := hz.trans (sv_sub' hpq _ _)
      have hf : Fits (sv q (MV a' b' c' d' - MV a b c d)) := (fits_sv (by omega)).2 hu
      have E := hid (And.intro ((sv_signed (p := q) (m := MV a' b' c' d' - MV a b c d) (by omega) hu).trans (by rw [hz', cl_fit hf]) : _ = WE (cl z)) (by rw [hz', fb_fit hf] : true = fb z))
      have T : decide (0 ≤ cm4 a b c d a' b' c' d') = false := by rw [C1.out]; exact dF (fun h => hle ((cm_ge _ _).1 h))
      clear hu hf hz hz' m1 m2 u1 u2 C1 hle hpq
      (repeat' (first | (go_big_may; (first | (go_at_call 85; refine (wcompare_any a b c d a' b' c' d' _).mono ?_; rintro e w' ⟨rfl, hbw⟩; have N1 := Bx.of (HB.below (b := w.heap.size) (cs := #[.bool p, .int .u64 a, .int .u64 b, .int .u64 c, .int .u64 d]) (by (repeat' (first | (with_reducible assumption) | ((with_reducible refine HB.new _ _ _ ?_) <;> (go_size; done)) | (with_reducible refine HB.old (by go_size) ?_) | (with_reducible refine HB.drew ?_) | (with_reducible refine HB.over5 ?_) | (with_reducible refine HB.over4 ?_) | (with_reducible refine HB.setne (by first | go_size | (dsimp only; omega)) ?_) | (with_reducible refine HN.set ?_) | (with_reducible refine HN.setne (by first | go_size | (dsimp only; omega)) ?_) | (with_reducible refine HN.drew ?_) | (with_reducible refine HN.old (by go_size) ?_) | (with_reducible exact HN.of5 (by assumption)) | (with_reducible exact HN.new5 _ _ (by go_size)) | (with_reducible exact HN.of4 (by assumption)) | (with_reducible exact HN.new4 _ _ (by go_size))))) hbw); have N2 := Bx.of (HB.below (b := w.heap.size + 1) (cs := #[.bool q, .int .u64 a', .int .u64 b', .int .u64 c', .int .u64 d']) (by (repeat' (first | (with_reducible assumption) | ((with_reducible refine HB.new _ _ _ ?_) <;> (go_size; done)) | (with_reducible refine HB.old (by go_size) ?_) | (with_reducible refine HB.drew ?_) | (with_reducible refine HB.over5 ?_) | (with_reducible refine HB.over4 ?_) | (with_reducible refine HB.setne (by first | go_size | (dsimp only; omega)) ?_) | (with_reducible refine HN.set ?_) | (with_reducible refine HN.setne (by first | go_size | (dsimp only; omega)) ?_) | (with_reducible refine HN.drew ?_) | (with_reducible refine HN.old (by go_size) ?_) | (with_reducible exact HN.of5 (by assumption)) | (with_reducible exact HN.new5 _ _ (by go_size)) | (with_reducible exact HN.of4 (by assumption)) | (with_reducible exact HN.new4 _ _ (by go_size))))) hbw); have N3 := Bx.of (HB.below (b := w.heap.size + 1 + 1) (cs := #[.bool false, .int .u64 0, .int .u64 0, .int .u64 0, .int .u64 0]) (by (repeat' (first | (with_reducible assumption) | ((with_reducible refine HB.new _ _ _ ?_) <;> (go_size; done)) | (with_reducible refine HB.old (by go_size) ?_) | (with_reducible refine HB.drew ?_) | (with_reducible refine HB.over5 ?_) | (with_reducible refine HB.over4 ?_) | (with_reducible refine HB.setne (by first | go_size | (dsimp only; omega)) ?_) | (with_reducible refine HN.set ?_) | (with_reducible refine HN.setne (by first | go_size | (dsimp only; omega)) ?_) | (with_reducible refine HN.drew ?_) | (with_reducible refine HN.old (by go_size) ?_) | (with_reducible exact HN.of5 (by assumption)) | (with_reducible exact HN.new5 _ _ (by go_size)) | (with_reducible exact HN.of4 (by assumption)) | (with_reducible exact HN.new4 _ _ (by go_size))))) hbw); (try clear B1 B1c B1f B1l); (try clear B2 B2c B2f B2l); (try clear B3 B3c B3f B3l); obtain ⟨B1, B1c, B1f, B1l⟩ := N1; obtain ⟨B2, B2c, B2f, B2l⟩ := N2; obtain ⟨B3, B3c, B3f, B3l⟩ := N3; have hsz := hbw.size; (try simp only [World.size_alloc, World.size_setCell, World.size_drew] at hsz)))) | go_values | go_skip | go_guarded | go_step | go_upon | (simp only [Int.not_lt, Int.not_le] at *; go_simp) | (go_values <;> (try go_simp)) | (go_ite <;> go_prune <;> (try go_simp)) | (split <;> (first | (rename_i hx; exact (hx _ rfl).elim) | go_prune))))
      
      (refine wp_region_dq (row := none) (S := (fun Wz => Below w.heap.size w Wz ∧ w.heap.size + 3 ≤ Wz.heap.size ∧ Bx Wz (w.heap.size) (#[.bool p, .int .u64 a, .int .u64 b, .int .u64 c, .int .u64 d]) ∧ Bx Wz (w.heap.size + 1) (#[.bool q, .int .u64 a', .int .u64 b', .int .u64 c', .int .u64 d']) ∧ Bx Wz (w.heap.size + 1 + 1) (#[.bool false, .int .u64 0, .int .u64 0, .int .u64 0, .int .u64 0]))) (n0 := w.heap.size + 3) 8 [] [(0, 0), (1, 0), (2, 0), (3, 0), (4, 0), (5, 0), (6, 0), (7, 0)] [] (by kernel_rfl) (by kernel_rfl) (fun _ _ d _ _ h => by cases d <;> exact h) ⟨by (repeat' (first | (with_reducible assumption) | (with_reducible exact Below.refl _ _) | (with_reducible refine Below.alloc ?_ ?_ _) | (with_reducible refine Below.setCell ?_ ?_ _) | (with_reducible refine Below.drew ?_) | (with_reducible refine below_more ?_ (by with_reducible assumption)) | go_size | omega | (with_reducible refine below_drewN ?_))), (by first | go_size | omega), Bx.of (by (repeat' (first | (with_reducible assumption) | ((with_reducible refine HB.new _ _ _ ?_) <;> (go_size; done)) | (with_reducible refine HB.old (by go_size) ?_) | (with_reducible refine HB.drew ?_) | (with_reducible refine HB.over5 ?_) | (with_reducible refine HB.over4 ?_) | (with_reducible refine HB.setne (by first | go_size | (dsimp only; omega)) ?_) | (with_reducible refine HN.set ?_) | (with_reducible refine HN.setne (by first | go_size | (dsimp only; omega)) ?_) | (with_reducible refine HN.drew ?_) | (with_reducible refine HN.old (by go_size) ?_) | (with_reducible exact HN.of5 (by assumption)) | (with_reducible exact HN.new5 _ _ (by go_size)) | (with_reducible exact HN.of4 (by assumption)) | (with_reducible exact HN.new4 _ _ (by go_size))))), Bx.of (by (repeat' (first | (with_reducible assumption) | ((with_reducible refine HB.new _ _ _ ?_) <;> (go_size; done)) | (with_reducible refine HB.old (by go_size) ?_) | (with_reducible refine HB.drew ?_) | (with_reducible refine HB.over5 ?_) | (with_reducible refine HB.over4 ?_) | (with_reducible refine HB.setne (by first | go_size | (dsimp only; omega)) ?_) | (with_reducible refine HN.set ?_) | (with_reducible refine HN.setne (by first | go_size | (dsimp only; omega)) ?_) | (with_reducible refine HN.drew ?_) | (with_reducible refine HN.old (by go_size) ?_) | (with_reducible exact HN.of5 (by assumption)) | (with_reducible exact HN.new5 _ _ (by go_size)) | (with_reducible exact HN.of4 (by assumption)) | (with_reducible exact HN.new4 _ _ (by go_size))))), Bx.of (by (repeat' (first | (with_reducible assumption) | ((with_reducible refine HB.new _ _ _ ?_) <;> (go_size; done)) | (with_reducible refine HB.old (by go_size) ?_) | (with_reducible refine HB.drew ?_) | (with_reducible refine HB.over5 ?_) | (with_reducible refine HB.over4 ?_) | (with_reducible refine HB.setne (by first | go_size | (dsimp only; omega)) ?_) | (with_reducible refine HN.set ?_) | (with_reducible refine HN.setne (by first | go_size | (dsimp only; omega)) ?_) | (with_reducible refine HN.drew ?_) | (with_reducible refine HN.old (by go_size) ?_) | (with_reducible exact HN.of5 (by assumption)) | (with_reducible exact HN.new5 _ _ (by go_size)) | (with_reducible exact HN.of4 (by assumption)) | (with_reducible exact HN.new4 _ _ (by go_size)))))⟩ (fun _ _ h g => keep3 h (below_gt g) rfl) (fun _ h => h.2.1) (fun _ h => by cases h) (by simp) ?_)
      refine' dq_pure (by rfl) (by rfl) ?hv13 ?rest13
      case hv13 => (intro w hw; (try dsimp only at hw); go_split_ands; go_simp; try with_reducible rfl)
      case' rest13 => try simp only [Act.put, List.setIfInBounds_toArray, List.set_cons_zero, List.set_cons_succ]
      refine' dq_pure (by rfl) (by rfl) ?hv14 ?rest14
      case hv14 => (intro w hw; (try dsimp only at hw); go_split_ands; go_simp; try with_reducible rfl)
      case' rest14 => try simp only [Act.put, List.setIfInBounds_toArray, List.set_cons_zero, List.set_cons_succ]
      refine' dq_pure (by rfl) (by rfl) ?hv15 ?rest15
      case hv15 => (intro w hw; (try dsimp only at hw); go_split_ands; go_simp; try with_reducible rfl)
      case' rest15 => try simp only [Act.put, List.setIfInBounds_toArray, List.set_cons_zero, List.set_cons_succ]
      refine' dq_pure (by rfl) (by rfl) ?hv16 ?rest16
      case hv16 => (intro w hw; (try dsimp only at hw); go_split_ands; go_simp; try with_reducible rfl)
      case' rest16 => try simp only [Act.put, List.setIfInBounds_toArray, List.set_cons_zero, List.set_cons_succ]
      refine' dq_pure (by rfl) (by rfl) ?hv17 ?rest17
      case hv17 => (intro w hw; (try dsimp only at hw); go_split_ands; go_simp; try with_reducible rfl)
      case' rest17 => try simp only [Act.put, List.setIfInBounds_toArray, List.set_cons_zero, List.set_cons_succ]
      refine' dq_pure (by rfl) (by rfl) ?hv18 ?rest18
      case hv18 => (intro w hw; (try dsimp only at hw); go_split_ands; go_simp; try with_reducible rfl)
      case' rest18 => try simp only [Act.put, List.setIfInBounds_toArray, List.set_cons_zero, List.set_cons_succ]
      refine' dq_call (by rfl) (by rfl) ?hv19 ?hc19 ?rest19
      case hv19 => (intro w; go_simp; exact ⟨rfl, rfl⟩)
      case hc19 => exact (fun w hw => calls_gt (wsub_any a' b' c' d' a b c d ha' hb' hc' hd' ha hb hc hd _))
      case' rest19 => try simp only [Act.put, List.setIfInBounds_toArray, List.set_cons_zero, List.set_cons_succ]
      refine' dq_call (by rfl) (by rfl) ?hv20 ?hc20 ?rest20
      case hv20 => (intro w; go_simp; exact ⟨rfl, rfl⟩)
      case hc20 => exact (fun w hw => calls_gt (signed_any _ _ _ _ _ _))
      case' rest20 => try simp only [Act.put, List.setIfInBounds_toArray, List.set_cons_zero, List.set_cons_succ]
      refine dq_nil ?_
      simp only [fa, List.drop_succ_cons, List.drop_zero]
      rintro W ⟨⟨hb0, hn0, ⟨B1, B1c, B1f, B1l⟩, ⟨B2, B2c, B2f, B2l⟩, ⟨B3, B3c, B3f, B3l⟩⟩, hgl⟩ hbs
      clear hbs hgl
      (repeat' (first | go_values | go_skip | go_guarded | go_step | go_upon | (simp only [Int.not_lt, Int.not_le] at *; go_simp) | (go_values <;> (try go_simp)) | (go_ite <;> go_prune <;> (try go_simp)) | (split <;> (first | (rename_i hx; exact (hx _ rfl).elim) | go_prune))))
      refine bodyPost_ret (v := .tuple #[_, .bool true]) ?_ rfl ⟨congrArg Ending.returned ((ret_w E.out.1 E.out.2).trans HR.out), by (repeat' (first | (with_reducible assumption) | (with_reducible exact Below.refl _ _) | (with_reducible refine Below.alloc ?_ ?_ _) | (with_reducible refine Below.setCell ?_ ?_ _) | (with_reducible refine Below.drew ?_) | (with_reducible refine below_more ?_ (by with_reducible assumption)) | go_size | omega | (with_reducible refine below_drewN ?_)))⟩
      simp [results, Try.results76, go_sem, B3c, B3f, B3l]
set_option maxHeartbeats 3000000 in
theorem mul_any (n : Bool) (a b c d : Int) (n' : Bool) (a' b' c' d' : Int) (ha : U64 a) (hb : U64 b) (hc : U64 c) (hd : U64 d) (ha' : U64 a') (hb' : U64 b') (hc' : U64 c') (hd' : U64 d') (w : World) :
    Calls Try.prog 63 #[WV n a b c d, WV n' a' b' c' d'] w fun e w' => e = .returned (.tuple #[WE (cl (wv n a b c d * wv n' a' b' c' d')), .bool (fb (wv n a b c d * wv n' a' b' c' d'))]) ∧ Below w.heap.size w w' := by
  obtain ⟨z, hz⟩ : ∃ z, z = wv n a b c d * wv n' a' b' c' d' := ⟨_, rfl⟩
  rw [← hz]
  generalize hR : Value.tuple #[WE (cl z), .bool (fb z)] = R
  have HR := hid hR
  clear hR
  rw [wv_sv n a b c d, wv_sv n' a' b' c' d', sv_mul] at hz
  have m3 := Int.mul_nonneg (mv_nonneg ha hb hc hd) (mv_nonneg ha' hb' hc' hd')
  go_enter Try.func63, Try.ntmps63
  go_wp2_with fail
  (refine wp_region_dq (row := none) (S := (fun Wz => Below w.heap.size w Wz ∧ w.heap.size + 3 ≤ Wz.heap.size ∧ Bx Wz (w.heap.size) (#[.bool n, .int .u64 a, .int .u64 b, .int .u64 c, .int .u64 d]) ∧ Bx Wz (w.heap.size + 1) (#[.bool n', .int .u64 a', .int .u64 b', .int .u64 c', .int .u64 d']) ∧ Bx Wz (w.heap.size + 1 + 1) (#[.bool false, .int .u64 0, .int .u64 0, .int .u64 0, .int .u64 0]))) (n0 := w.heap.size + 3) 4 [] [(0, 0), (1, 0), (2, 0), (3, 0)] [] (by kernel_rfl) (by kernel_rfl) (fun _ _ d _ _ h => by cases d <;> exact h) ⟨by (repeat' (first | (with_reducible assumption) | (with_reducible exact Below.refl _ _) | (with_reducible refine Below.alloc ?_ ?_ _) | (with_reducible refine Below.setCell ?_ ?_ _) | (with_reducible refine Below.drew ?_) | (with_reducible refine below_more ?_ (by with_reducible assumption)) | go_size | omega | (with_reducible refine below_drewN ?_))), (by first | go_size | omega), Bx.of (by (repeat' (first | (with_reducible assumption) | ((with_reducible refine HB.new _ _ _ ?_) <;> (go_size; done)) | (with_reducible refine HB.old (by go_size) ?_) | (with_reducible refine HB.drew ?_) | (with_reducible refine HB.over5 ?_) | (with_reducible refine HB.over4 ?_) | (with_reducible refine HB.setne (by first | go_size | (dsimp only; omega)) ?_) | (with_reducible refine HN.set ?_) | (with_reducible refine HN.setne (by first | go_size | (dsimp only; omega)) ?_) | (with_reducible refine HN.drew ?_) | (with_reducible refine HN.old (by go_size) ?_) | (with_reducible exact HN.of5 (by assumption)) | (with_reducible exact HN.new5 _ _ (by go_size)) | (with_reducible exact HN.of4 (by assumption)) | (with_reducible exact HN.new4 _ _ (by go_size))))), Bx.of (by (repeat' (first | (with_reducible assumption) | ((with_reducible refine HB.new _ _ _ ?_) <;> (go_size; done)) | (with_reducible refine HB.old (by go_size) ?_) | (with_reducible refine HB.drew ?_) | (with_reducible refine HB.over5 ?_) | (with_reducible refine HB.over4 ?_) | (with_reducible refine HB.setne (by first | go_size | (dsimp only; omega)) ?_) | (with_reducible refine HN.set ?_) | (with_reducible refine HN.setne (by first | go_size | (dsimp only; omega)) ?_) | (with_reducible refine HN.drew ?_) | (with_reducible refine HN.old (by go_size) ?_) | (with_reducible exact HN.of5 (by assumption)) | (with_reducible exact HN.new5 _ _ (by go_size)) | (with_reducible exact HN.of4 (by assumption)) | (with_reducible exact HN.new4 _ _ (by go_size))))), Bx.of (by (repeat' (first | (with_reducible assumption) | ((with_reducible refine HB.new _ _ _ ?_) <;> (go_size; done)) | (with_reducible refine HB.old (by go_size) ?_) | (with_reducible refine HB.drew ?_) | (with_reducible refine HB.over5 ?_) | (with_reducible refine HB.over4 ?_) | (with_reducible refine HB.setne (by first | go_size | (dsimp only; omega)) ?_) | (with_reducible refine HN.set ?_) | (with_reducible refine HN.setne (by first | go_size | (dsimp only; omega)) ?_) | (with_reducible refine HN.drew ?_) | (with_reducible refine HN.old (by go_size) ?_) | (with_reducible exact HN.of5 (by assumption)) | (with_reducible exact HN.new5 _ _ (by go_size)) | (with_reducible exact HN.of4 (by assumption)) | (with_reducible exact HN.new4 _ _ (by go_size)))))⟩ (fun _ _ h g => keep3 h (below_gt g) rfl) (fun _ h => h.2.1) (fun _ h => by cases h) (by simp) ?_)
  refine' dq_pure (by rfl) (by rfl) ?hv21 ?rest21
  case hv21 => (intro w hw; (try dsimp only at hw); go_split_ands; go_simp; try with_reducible rfl)
  case' rest21 => try simp only [Act.put, List.setIfInBounds_toArray, List.set_cons_zero, List.set_cons_succ]
  refine' dq_call (by rfl) (by rfl) ?hv22 ?hc22 ?rest22
  case hv22 => (intro w; go_simp; exact ⟨rfl, rfl⟩)
  case hc22 => exact (fun w hw => calls_gt (clean_any _ _ _ _ _ _))
  case' rest22 => try simp only [Act.put, List.setIfInBounds_toArray, List.set_cons_zero, List.set_cons_succ]
  refine' dq_pure (by rfl) (by rfl) ?hv23 ?rest23
  case hv23 => (intro w hw; (try dsimp only at hw); go_split_ands; go_simp; try with_reducible rfl)
  case' rest23 => try simp only [Act.put, List.setIfInBounds_toArray, List.set_cons_zero, List.set_cons_succ]
  refine' dq_call (by rfl) (by rfl) ?hv24 ?hc24 ?rest24
  case hv24 => (intro w; go_simp; exact ⟨rfl, rfl⟩)
  case hc24 => exact (fun w hw => calls_gt (clean_any _ _ _ _ _ _))
  case' rest24 => try simp only [Act.put, List.setIfInBounds_toArray, List.set_cons_zero, List.set_cons_succ]
  refine dq_nil ?_
  simp only [fa, List.drop_succ_cons, List.drop_zero]
  rintro W ⟨⟨hb0, hn0, ⟨B1, B1c, B1f, B1l⟩, ⟨B2, B2c, B2f, B2l⟩, ⟨B3, B3c, B3f, B3l⟩⟩, hgl⟩ hbs
  clear hbs hgl
  generalize cn n a b c d = p at *
  generalize cn n' a' b' c' d' = q at *
  by_cases hu : up4 (MV a b c d * MV a' b' c' d') = 0
  · have hf : Fits (sv (p != q) (MV a b c d * MV a' b' c' d')) := (fits_sv m3).2 hu
    have E := hid (And.intro ((sv_signed (p := p != q) m3 hu).trans (by rw [hz, cl_fit hf]) : _ = WE (cl z)) (by rw [hz, fb_fit hf] : true = fb z))
    have T : (up4 (MV a b c d * MV a' b' c' d') == 0) = true := by rw [hu]; rfl
    have C := fun W => wmul_any a b c d a' b' c' d' ha hb hc hd ha' hb' hc' hd' W
    simp only [T] at C
    clear hu hf hz m3 T
    (repeat' (first | (go_big_may; (first | (go_at_call 79; refine (C _).mono ?_; rintro e w' ⟨rfl, hbw⟩; have N1 := Bx.of (HB.below (b := w.heap.size) (cs := #[.bool p, .int .u64 a, .int .u64 b, .int .u64 c, .int .u64 d]) (by (repeat' (first | (with_reducible assumption) | ((with_reducible refine HB.new _ _ _ ?_) <;> (go_size; done)) | (with_reducible refine HB.old (by go_size) ?_) | (with_reducible refine HB.drew ?_) | (with_reducible refine HB.over5 ?_) | (with_reducible refine HB.over4 ?_) | (with_reducible refine HB.setne (by first | go_size | (dsimp only; omega)) ?_) | (with_reducible refine HN.set ?_) | (with_reducible refine HN.setne (by first | go_size | (dsimp only; omega)) ?_) | (with_reducible refine HN.drew ?_) | (with_reducible refine HN.old (by go_size) ?_) | (with_reducible exact HN.of5 (by assumption)) | (with_reducible exact HN.new5 _ _ (by go_size)) | (with_reducible exact HN.of4 (by assumption)) | (with_reducible exact HN.new4 _ _ (by go_size))))) hbw); have N2 := Bx.of (HB.below (b := w.heap.size + 1) (cs := #[.bool q, .int .u64 a', .int .u64 b', .int .u64 c', .int .u64 d']) (by (repeat' (first | (with_reducible assumption) | ((with_reducible refine HB.new _ _ _ ?_) <;> (go_size; done)) | (with_reducible refine HB.old (by go_size) ?_) | (with_reducible refine HB.drew ?_) | (with_reducible refine HB.over5 ?_) | (with_reducible refine HB.over4 ?_) | (with_reducible refine HB.setne (by first | go_size | (dsimp only; omega)) ?_) | (with_reducible refine HN.set ?_) | (with_reducible refine HN.setne (by first | go_size | (dsimp only; omega)) ?_) | (with_reducible refine HN.drew ?_) | (with_reducible refine HN.old (by go_size) ?_) | (with_reducible exact HN.of5 (by assumption)) | (with_reducible exact HN.new5 _ _ (by go_size)) | (with_reducible exact HN.of4 (by assumption)) | (with_reducible exact HN.new4 _ _ (by go_size))))) hbw); have N3 := Bx.of (HB.below (b := w.heap.size + 1 + 1) (cs := #[.bool false, .int .u64 0, .int .u64 0, .int .u64 0, .int .u64 0]) (by (repeat' (first | (with_reducible assumption) | ((with_reducible refine HB.new _ _ _ ?_) <;> (go_size; done)) | (with_reducible refine HB.old (by go_size) ?_) | (with_reducible refine HB.drew ?_) | (with_reducible refine HB.over5 ?_) | (with_reducible refine HB.over4 ?_) | (with_reducible refine HB.setne (by first | go_size | (dsimp only; omega)) ?_) | (with_reducible refine HN.set ?_) | (with_reducible refine HN.setne (by first | go_size | (dsimp only; omega)) ?_) | (with_reducible refine HN.drew ?_) | (with_reducible refine HN.old (by go_size) ?_) | (with_reducible exact HN.of5 (by assumption)) | (with_reducible exact HN.new5 _ _ (by go_size)) | (with_reducible exact HN.of4 (by assumption)) | (with_reducible exact HN.new4 _ _ (by go_size))))) hbw); (try clear B1 B1c B1f B1l); (try clear B2 B2c B2f B2l); (try clear B3 B3c B3f B3l); obtain ⟨B1, B1c, B1f, B1l⟩ := N1; obtain ⟨B2, B2c, B2f, B2l⟩ := N2; obtain ⟨B3, B3c, B3f, B3l⟩ := N3; have hsz := hbw.size; (try simp only [World.size_alloc, World.size_setCell, World.size_drew] at hsz)) | (go_at_call 80; refine (signed_any _ _ _ _ _ _).mono ?_; rintro e w' ⟨rfl, hbw⟩; have N1 := Bx.of (HB.below (b := w.heap.size) (cs := #[.bool p, .int .u64 a, .int .u64 b, .int .u64 c, .int .u64 d]) (by (repeat' (first | (with_reducible assumption) | ((with_reducible refine HB.new _ _ _ ?_) <;> (go_size; done)) | (with_reducible refine HB.old (by go_size) ?_) | (with_reducible refine HB.drew ?_) | (with_reducible refine HB.over5 ?_) | (with_reducible refine HB.over4 ?_) | (with_reducible refine HB.setne (by first | go_size | (dsimp only; omega)) ?_) | (with_reducible refine HN.set ?_) | (with_reducible refine HN.setne (by first | go_size | (dsimp only; omega)) ?_) | (with_reducible refine HN.drew ?_) | (with_reducible refine HN.old (by go_size) ?_) | (with_reducible exact HN.of5 (by assumption)) | (with_reducible exact HN.new5 _ _ (by go_size)) | (with_reducible exact HN.of4 (by assumption)) | (with_reducible exact HN.new4 _ _ (by go_size))))) hbw); have N2 := Bx.of (HB.below (b := w.heap.size + 1) (cs := #[.bool q, .int .u64 a', .int .u64 b', .int .u64 c', .int .u64 d']) (by (repeat' (first | (with_reducible assumption) | ((with_reducible refine HB.new _ _ _ ?_) <;> (go_size; done)) | (with_reducible refine HB.old (by go_size) ?_) | (with_reducible refine HB.drew ?_) | (with_reducible refine HB.over5 ?_) | (with_reducible refine HB.over4 ?_) | (with_reducible refine HB.setne (by first | go_size | (dsimp only; omega)) ?_) | (with_reducible refine HN.set ?_) | (with_reducible refine HN.setne (by first | go_size | (dsimp only; omega)) ?_) | (with_reducible refine HN.drew ?_) | (with_reducible refine HN.old (by go_size) ?_) | (with_reducible exact HN.of5 (by assumption)) | (with_reducible exact HN.new5 _ _ (by go_size)) | (with_reducible exact HN.of4 (by assumption)) | (with_reducible exact HN.new4 _ _ (by go_size))))) hbw); have N3 := Bx.of (HB.below (b := w.heap.size + 1 + 1) (cs := #[.bool false, .int .u64 0, .int .u64 0, .int .u64 0, .int .u64 0]) (by (repeat' (first | (with_reducible assumption) | ((with_reducible refine HB.new _ _ _ ?_) <;> (go_size; done)) | (with_reducible refine HB.old (by go_size) ?_) | (with_reducible refine HB.drew ?_) | (with_reducible refine HB.over5 ?_) | (with_reducible refine HB.over4 ?_) | (with_reducible refine HB.setne (by first | go_size | (dsimp only; omega)) ?_) | (with_reducible refine HN.set ?_) | (with_reducible refine HN.setne (by first | go_size | (dsimp only; omega)) ?_) | (with_reducible refine HN.drew ?_) | (with_reducible refine HN.old (by go_size) ?_) | (with_reducible exact HN.of5 (by assumption)) | (with_reducible exact HN.new5 _ _ (by go_size)) | (with_reducible exact HN.of4 (by assumption)) | (with_reducible exact HN.new4 _ _ (by go_size))))) hbw); (try clear B1 B1c B1f B1l); (try clear B2 B2c B2f B2l); (try clear B3 B3c B3f B3l); obtain ⟨B1, B1c, B1f, B1l⟩ := N1; obtain ⟨B2, B2c, B2f, B2l⟩ := N2; obtain ⟨B3, B3c, B3f, B3l⟩ := N3; have hsz := hbw.size; (try simp only [World.size_alloc, World.size_setCell, World.size_drew] at hsz)))) | go_values | go_skip | go_guarded | go_step | go_upon | (simp only [Int.not_lt, Int.not_le] at *; go_simp) | (go_values <;> (try go_simp)) | (go_ite <;> go_prune <;> (try go_simp)) | (split <;> (first | (rename_i hx; exact (hx _ rfl).elim) | go_prune))))
    refine bodyPost_ret (v := .tuple #[_, .bool true]) ?_ rfl ⟨congrArg Ending.returned ((ret_w E.out.1 E.out.2).trans HR.out), by (repeat' (first | (with_reducible assumption) | (with_reducible exact Below.refl _ _) | (with_reducible refine Below.alloc ?_ ?_ _) | (with_reducible refine Below.setCell ?_ ?_ _) | (with_reducible refine Below.drew ?_) | (with_reducible refine below_more ?_ (by with_reducible assumption)) | go_size | omega | (with_reducible refine below_drewN ?_)))⟩
    simp [results, Try.results63, go_sem, B3c, B3f, B3l, bne]
  · have hf : ¬Fits (sv (p != q) (MV a b c d * MV a' b' c' d')) := fun h => hu ((fits_sv m3).1 h)
    have E := hid (And.intro (we_zero.symm.trans (by rw [hz, cl_not hf]) : WV false 0 0 0 0 = WE (cl z)) (by rw [hz, fb_not hf] : false = fb z))
    have T : (up4 (MV a b c d * MV a' b' c' d') == 0) = false := beq_eq_false_iff_ne.2 hu
    have C := fun W => wmul_any a b c d a' b' c' d' ha hb hc hd ha' hb' hc' hd' W
    simp only [T] at C
    clear hu hf hz m3 T
    (repeat' (first | (go_big_may; (first | (go_at_call 79; refine (C _).mono ?_; rintro e w' ⟨rfl, hbw⟩; have N1 := Bx.of (HB.below (b := w.heap.size) (cs := #[.bool p, .int .u64 a, .int .u64 b, .int .u64 c, .int .u64 d]) (by (repeat' (first | (with_reducible assumption) | ((with_reducible refine HB.new _ _ _ ?_) <;> (go_size; done)) | (with_reducible refine HB.old (by go_size) ?_) | (with_reducible refine HB.drew ?_) | (with_reducible refine HB.over5 ?_) | (with_reducible refine HB.over4 ?_) | (with_reducible refine HB.setne (by first | go_size | (dsimp only; omega)) ?_) | (with_reducible refine HN.set ?_) | (with_reducible refine HN.setne (by first | go_size | (dsimp only; omega)) ?_) | (with_reducible refine HN.drew ?_) | (with_reducible refine HN.old (by go_size) ?_) | (with_reducible exact HN.of5 (by assumption)) | (with_reducible exact HN.new5 _ _ (by go_size)) | (with_reducible exact HN.of4 (by assumption)) | (with_reducible exact HN.new4 _ _ (by go_size))))) hbw); have N2 := Bx.of (HB.below (b := w.heap.size + 1) (cs := #[.bool q, .int .u64 a', .int .u64 b', .int .u64 c', .int .u64 d']) (by (repeat' (first | (with_reducible assumption) | ((with_reducible refine HB.new _ _ _ ?_) <;> (go_size; done)) | (with_reducible refine HB.old (by go_size) ?_) | (with_reducible refine HB.drew ?_) | (with_reducible refine HB.over5 ?_) | (with_reducible refine HB.over4 ?_) | (with_reducible refine HB.setne (by first | go_size | (dsimp only; omega)) ?_) | (with_reducible refine HN.set ?_) | (with_reducible refine HN.setne (by first | go_size | (dsimp only; omega)) ?_) | (with_reducible refine HN.drew ?_) | (with_reducible refine HN.old (by go_size) ?_) | (with_reducible exact HN.of5 (by assumption)) | (with_reducible exact HN.new5 _ _ (by go_size)) | (with_reducible exact HN.of4 (by assumption)) | (with_reducible exact HN.new4 _ _ (by go_size))))) hbw); have N3 := Bx.of (HB.below (b := w.heap.size + 1 + 1) (cs := #[.bool false, .int .u64 0, .int .u64 0, .int .u64 0, .int .u64 0]) (by (repeat' (first | (with_reducible assumption) | ((with_reducible refine HB.new _ _ _ ?_) <;> (go_size; done)) | (with_reducible refine HB.old (by go_size) ?_) | (with_reducible refine HB.drew ?_) | (with_reducible refine HB.over5 ?_) | (with_reducible refine HB.over4 ?_) | (with_reducible refine HB.setne (by first | go_size | (dsimp only; omega)) ?_) | (with_reducible refine HN.set ?_) | (with_reducible refine HN.setne (by first | go_size | (dsimp only; omega)) ?_) | (with_reducible refine HN.drew ?_) | (with_reducible refine HN.old (by go_size) ?_) | (with_reducible exact HN.of5 (by assumption)) | (with_reducible exact HN.new5 _ _ (by go_size)) | (with_reducible exact HN.of4 (by assumption)) | (with_reducible exact HN.new4 _ _ (by go_size))))) hbw); (try clear B1 B1c B1f B1l); (try clear B2 B2c B2f B2l); (try clear B3 B3c B3f B3l); obtain ⟨B1, B1c, B1f, B1l⟩ := N1; obtain ⟨B2, B2c, B2f, B2l⟩ := N2; obtain ⟨B3, B3c, B3f, B3l⟩ := N3; have hsz := hbw.size; (try simp only [World.size_alloc, World.size_setCell, World.size_drew] at hsz)))) | go_values | go_skip | go_guarded | go_step | go_upon | (simp only [Int.not_lt, Int.not_le] at *; go_simp) | (go_values <;> (try go_simp)) | (go_ite <;> go_prune <;> (try go_simp)) | (split <;> (first | (rename_i hx; exact (hx _ rfl).elim) | go_prune))))
    refine bodyPost_ret (v := .tuple #[WV false 0 0 0 0, .bool false]) ?_ rfl ⟨congrArg Ending.returned ((ret_w E.out.1 E.out.2).trans HR.out), by (repeat' (first | (with_reducible assumption) | (with_reducible exact Below.refl _ _) | (with_reducible refine Below.alloc ?_ ?_ _) | (with_reducible refine Below.setCell ?_ ?_ _) | (with_reducible refine Below.drew ?_) | (with_reducible refine below_more ?_ (by with_reducible assumption)) | go_size | omega | (with_reducible refine below_drewN ?_)))⟩
    simp [results, Try.results63, go_sem, B3c, B3f, B3l]
end Go.Proofs.Ythcboomdkpiflaa

/- RefC: The reference of wide, continued: its functions on Wides. -/
namespace Go.Proofs.Ythcboomdkpiflaa
open Go.ChangeShapes Go.WideShapes Go.ChangeAt Go.RowKit
set_option linter.unusedVariables false
set_option linter.unusedSimpArgs false
theorem mz_len {a b c d : Int} (ha : U64 a) (hb : U64 b) (hc : U64 c) (hd : U64 d) : decide (0 < (wl (MV a b c d)).length) = !mz a b c d := by
  have h1 := mz_iff ha hb hc hd
  by_cases hm : MV a b c d = 0
  · rw [h1.2 hm, hm, wl_nil (Int.le_refl _)]; rfl
  · have h0 := mv_nonneg ha hb hc hd
    have h2 : (wl (MV a b c d)).length ≠ 0 := fun h => wl_ne (show 0 < MV a b c d by omega) (List.length_eq_zero_iff.1 h)
    have h3 : mz a b c d = false := by
      cases hz : mz a b c d
      · rfl
      · exact absurd (h1.1 hz) hm
    rw [h3]; exact dT (by omega)
theorem MagP.open {w w' : World} {m : Int} {e : Ending} (h : MagP w m e w') : ∃ a len cap, e = .returned (.slice a len cap) ∧ (wl m).length = len ∧ SlU w' (.slice a len cap) (wl m) ∧ Below w.heap.size w w' := by
  obtain ⟨v, rfl, ⟨hs, -⟩, hb⟩ := h
  have hs' := hs
  obtain ⟨a, len, cap, rfl, hl, _⟩ := hs
  exact ⟨a, len, cap, rfl, hl, hs', hb⟩
theorem mag_ask {P : Program} {f : FuncId} {args : Array Value} {w : World} {m : Int} (h : Calls P f args w (MagP w m)) : Calls P f args w fun e w' => ∃ v, e = .returned v ∧ SlU w' v (wl m) ∧ w.grownBy w' none :=
  h.mono fun e w' ⟨v, he, hs, hb⟩ => ⟨v, he, hs.1, gt_below hb _⟩
theorem rvalid_any (n : Bool) (a b c d : Int) (ha : U64 a) (hb : U64 b) (hc : U64 c) (hd : U64 d) (w : World) :
    Calls Try.prog 64 #[WV n a b c d] w fun e w' => e = .returned (.bool (!n || !mz a b c d)) ∧ Below w.heap.size w w' := by
  cases n
  · clear ha hb hc hd
    go_enter Try.func64, Try.ntmps64
    go_wp2
    go_returns
    exact ⟨ret_b rfl, by (repeat' (first | (with_reducible assumption) | (with_reducible exact Below.refl _ _) | (with_reducible refine Below.alloc ?_ ?_ _) | (with_reducible refine Below.setCell ?_ ?_ _) | (with_reducible refine Below.drew ?_) | (with_reducible refine below_more ?_ (by with_reducible assumption)) | go_size | omega | (with_reducible refine below_drewN ?_)))⟩
  · have hz := hid (mz_len ha hb hc hd)
    go_enter Try.func64, Try.ntmps64
    (repeat' (first | (go_big_may; (first | (go_at_call 49; refine (rof_any true a b c d ha hb hc hd _).mono ?_; rintro e w' hmag; obtain ⟨a1, l1, c1, rfl, hl1, hs1, hb1⟩ := hmag.open; have HL := hid hl1; clear hl1 hmag))) | go_values | go_skip | go_guarded | go_step | go_upon | (simp only [Int.not_lt, Int.not_le] at *; go_simp) | (go_values <;> (try go_simp)) | (go_ite <;> go_prune <;> (try go_simp)) | (split <;> (first | (rename_i hx; exact (hx _ rfl).elim) | go_prune))))
    go_ret
    refine ⟨ret_b ?_, by (repeat' (first | (with_reducible assumption) | (with_reducible exact Below.refl _ _) | (with_reducible refine Below.alloc ?_ ?_ _) | (with_reducible refine Below.setCell ?_ ?_ _) | (with_reducible refine Below.drew ?_) | (with_reducible refine below_more ?_ (by with_reducible assumption)) | go_size | omega | (with_reducible refine below_drewN ?_)))⟩
    have := hz.out
    rw [HL.out] at this
    simp [this]
theorem rclean_any (n : Bool) (a b c d : Int) (ha : U64 a) (hb : U64 b) (hc : U64 c) (hd : U64 d) (w : World) :
    Calls Try.prog 46 #[WV n a b c d] w fun e w' => e = .returned (WV (cn n a b c d) a b c d) ∧ Below w.heap.size w w' := by
  cases hz : (n && mz a b c d)
  · have hv : (!n || !mz a b c d) = true := by revert hz; cases n <;> cases mz a b c d <;> simp
    have hcn : cn n a b c d = n := by revert hz; unfold cn; cases n <;> cases mz a b c d <;> simp
    rw [hcn]
    have C := fun W => rvalid_any n a b c d ha hb hc hd W
    simp only [hv] at C
    clear hz hcn hv ha hb hc hd
    go_enter Try.func46, Try.ntmps46
    (repeat' (first | (go_big_may; (first | (go_at_call 64; refine (C _).mono ?_; rintro e w' ⟨rfl, hbw⟩; have N1 := Bx.of (HB.below (b := w.heap.size) (cs := #[.bool n, .int .u64 a, .int .u64 b, .int .u64 c, .int .u64 d]) (by (repeat' (first | (with_reducible assumption) | ((with_reducible refine HB.new _ _ _ ?_) <;> (go_size; done)) | (with_reducible refine HB.old (by go_size) ?_) | (with_reducible refine HB.drew ?_) | (with_reducible refine HB.over5 ?_) | (with_reducible refine HB.over4 ?_) | (with_reducible refine HB.setne (by first | go_size | (dsimp only; omega)) ?_) | (with_reducible refine HN.set ?_) | (with_reducible refine HN.setne (by first | go_size | (dsimp only; omega)) ?_) | (with_reducible refine HN.drew ?_) | (with_reducible refine HN.old (by go_size) ?_) | (with_reducible exact HN.of5 (by assumption)) | (with_reducible exact HN.new5 _ _ (by go_size)) | (with_reducible exact HN.of4 (by assumption)) | (with_reducible exact HN.new4 _ _ (by go_size))))) hbw); have N2 := Bx.of (HB.below (b := w.heap.size + 1) (cs := #[.bool false, .int .u64 0, .int .u64 0, .int .u64 0, .int .u64 0]) (by (repeat' (first | (with_reducible assumption) | ((with_reducible refine HB.new _ _ _ ?_) <;> (go_size; done)) | (with_reducible refine HB.old (by go_size) ?_) | (with_reducible refine HB.drew ?_) | (with_reducible refine HB.over5 ?_) | (with_reducible refine HB.over4 ?_) | (with_reducible refine HB.setne (by first | go_size | (dsimp only; omega)) ?_) | (with_reducible refine HN.set ?_) | (with_reducible refine HN.setne (by first | go_size | (dsimp only; omega)) ?_) | (with_reducible refine HN.drew ?_) | (with_reducible refine HN.old (by go_size) ?_) | (with_reducible exact HN.of5 (by assumption)) | (with_reducible exact HN.new5 _ _ (by go_size)) | (with_reducible exact HN.of4 (by assumption)) | (with_reducible exact HN.new4 _ _ (by go_size))))) hbw); (try clear B1 B1c B1f B1l); (try clear B2 B2c B2f B2l); obtain ⟨B1, B1c, B1f, B1l⟩ := N1; obtain ⟨B2, B2c, B2f, B2l⟩ := N2; have hsz := hbw.size; (try simp only [World.size_alloc, World.size_setCell, World.size_drew] at hsz)))) | go_values | go_skip | go_guarded | go_step | go_upon | (simp only [Int.not_lt, Int.not_le] at *; go_simp) | (go_values <;> (try go_simp)) | (go_ite <;> go_prune <;> (try go_simp)) | (split <;> (first | (rename_i hx; exact (hx _ rfl).elim) | go_prune))))
    refine bodyPost_ret (v := WV n a b c d) ?_ rfl ⟨rfl, by (repeat' (first | (with_reducible assumption) | (with_reducible exact Below.refl _ _) | (with_reducible refine Below.alloc ?_ ?_ _) | (with_reducible refine Below.setCell ?_ ?_ _) | (with_reducible refine Below.drew ?_) | (with_reducible refine below_more ?_ (by with_reducible assumption)) | go_size | omega | (with_reducible refine below_drewN ?_)))⟩
    simp [results, Try.results46, go_sem, B2c, B2f, B2l]
  · have hv : (!n || !mz a b c d) = false := by revert hz; cases n <;> cases mz a b c d <;> simp
    have hzz : mz a b c d = true := by revert hz; cases n <;> simp
    have hcn : cn n a b c d = false := by unfold cn; rw [hzz]; simp
    have hw : a = 0 ∧ b = 0 ∧ c = 0 ∧ d = 0 := by simpa [mz, meq] using hzz
    have C := fun W => rvalid_any n a b c d ha hb hc hd W
    simp only [hv] at C
    obtain ⟨rfl, rfl, rfl, rfl⟩ := hw
    rw [hcn]
    clear hz hcn hzz hv ha hb hc hd
    go_enter Try.func46, Try.ntmps46
    (repeat' (first | (go_big_may; (first | (go_at_call 64; refine (C _).mono ?_; rintro e w' ⟨rfl, hbw⟩; have N1 := Bx.of (HB.below (b := w.heap.size) (cs := #[.bool n, .int .u64 0, .int .u64 0, .int .u64 0, .int .u64 0]) (by (repeat' (first | (with_reducible assumption) | ((with_reducible refine HB.new _ _ _ ?_) <;> (go_size; done)) | (with_reducible refine HB.old (by go_size) ?_) | (with_reducible refine HB.drew ?_) | (with_reducible refine HB.over5 ?_) | (with_reducible refine HB.over4 ?_) | (with_reducible refine HB.setne (by first | go_size | (dsimp only; omega)) ?_) | (with_reducible refine HN.set ?_) | (with_reducible refine HN.setne (by first | go_size | (dsimp only; omega)) ?_) | (with_reducible refine HN.drew ?_) | (with_reducible refine HN.old (by go_size) ?_) | (with_reducible exact HN.of5 (by assumption)) | (with_reducible exact HN.new5 _ _ (by go_size)) | (with_reducible exact HN.of4 (by assumption)) | (with_reducible exact HN.new4 _ _ (by go_size))))) hbw); have N2 := Bx.of (HB.below (b := w.heap.size + 1) (cs := #[.bool false, .int .u64 0, .int .u64 0, .int .u64 0, .int .u64 0]) (by (repeat' (first | (with_reducible assumption) | ((with_reducible refine HB.new _ _ _ ?_) <;> (go_size; done)) | (with_reducible refine HB.old (by go_size) ?_) | (with_reducible refine HB.drew ?_) | (with_reducible refine HB.over5 ?_) | (with_reducible refine HB.over4 ?_) | (with_reducible refine HB.setne (by first | go_size | (dsimp only; omega)) ?_) | (with_reducible refine HN.set ?_) | (with_reducible refine HN.setne (by first | go_size | (dsimp only; omega)) ?_) | (with_reducible refine HN.drew ?_) | (with_reducible refine HN.old (by go_size) ?_) | (with_reducible exact HN.of5 (by assumption)) | (with_reducible exact HN.new5 _ _ (by go_size)) | (with_reducible exact HN.of4 (by assumption)) | (with_reducible exact HN.new4 _ _ (by go_size))))) hbw); (try clear B1 B1c B1f B1l); (try clear B2 B2c B2f B2l); obtain ⟨B1, B1c, B1f, B1l⟩ := N1; obtain ⟨B2, B2c, B2f, B2l⟩ := N2; have hsz := hbw.size; (try simp only [World.size_alloc, World.size_setCell, World.size_drew] at hsz)))) | go_values | go_skip | go_guarded | go_step | go_upon | (simp only [Int.not_lt, Int.not_le] at *; go_simp) | (go_values <;> (try go_simp)) | (go_ite <;> go_prune <;> (try go_simp)) | (split <;> (first | (rename_i hx; exact (hx _ rfl).elim) | go_prune))))
    refine bodyPost_ret (v := WV false 0 0 0 0) ?_ rfl ⟨rfl, by (repeat' (first | (with_reducible assumption) | (with_reducible exact Below.refl _ _) | (with_reducible refine Below.alloc ?_ ?_ _) | (with_reducible refine Below.setCell ?_ ?_ _) | (with_reducible refine Below.drew ?_) | (with_reducible refine below_more ?_ (by with_reducible assumption)) | go_size | omega | (with_reducible refine below_drewN ?_)))⟩
    simp [results, Try.results46, go_sem, B2c, B2f, B2l]
theorem rOf_any (v : Int) (hv : I64 v) (w : World) :
    Calls Try.prog 20 #[.int .i64 v] w fun e w' => e = .returned (WE v) ∧ Below w.heap.size w w' := by
  obtain ⟨v1, v2⟩ := hv
  generalize hR : WE v = R
  have HR := hid hR
  by_cases h : v < 0
  · have e : WE v = WV true (IntKind.u64.wrap (-IntKind.u64.wrap v)) 0 0 0 := we_of_neg v ⟨v1, v2⟩ h
    have E := hid (e.symm.trans hR)
    clear e hR
    go_enter Try.func20, Try.ntmps20
    (repeat' (first | go_values | go_skip | go_guarded | go_step | go_upon | (simp only [Int.not_lt, Int.not_le] at *; go_simp) | (go_values <;> (try go_simp)) | (go_ite <;> go_prune <;> (try go_simp)) | (split <;> (first | (rename_i hx; exact (hx _ rfl).elim) | go_prune))))
    refine bodyPost_ret (v := WV true (IntKind.u64.wrap (-IntKind.u64.wrap v)) 0 0 0) ?_ rfl ⟨congrArg Ending.returned E.out, by (repeat' (first | (with_reducible assumption) | (with_reducible exact Below.refl _ _) | (with_reducible refine Below.alloc ?_ ?_ _) | (with_reducible refine Below.setCell ?_ ?_ _) | (with_reducible refine Below.drew ?_) | (with_reducible refine below_more ?_ (by with_reducible assumption)) | go_size | omega | (with_reducible refine below_drewN ?_)))⟩
    simp [results, Try.results20, go_sem]
  · have e : WE v = WV false v 0 0 0 := we_uns v ⟨by omega, by omega⟩
    have E := hid (e.symm.trans hR)
    clear e hR
    go_enter Try.func20, Try.ntmps20
    (repeat' (first | go_values | go_skip | go_guarded | go_step | go_upon | (simp only [Int.not_lt, Int.not_le] at *; go_simp) | (go_values <;> (try go_simp)) | (go_ite <;> go_prune <;> (try go_simp)) | (split <;> (first | (rename_i hx; exact (hx _ rfl).elim) | go_prune))))
    refine bodyPost_ret (v := WV false v 0 0 0) ?_ rfl ⟨congrArg Ending.returned E.out, by (repeat' (first | (with_reducible assumption) | (with_reducible exact Below.refl _ _) | (with_reducible refine Below.alloc ?_ ?_ _) | (with_reducible refine Below.setCell ?_ ?_ _) | (with_reducible refine Below.drew ?_) | (with_reducible refine below_more ?_ (by with_reducible assumption)) | go_size | omega | (with_reducible refine below_drewN ?_)))⟩
    simp [results, Try.results20, go_sem]
theorem rneg_any (n : Bool) (a b c d : Int) (ha : U64 a) (hb : U64 b) (hc : U64 c) (hd : U64 d) (w : World) :
    Calls Try.prog 37 #[WV n a b c d] w fun e w' => e = .returned (WE (-wv n a b c d)) ∧ Below w.heap.size w w' := by
  have m1 := mv_nonneg ha hb hc hd
  have e1 : sv (!n) (MV a b c d) = -wv n a b c d := by unfold sv wv; cases n <;> simp
  have f1 : Fits (-wv n a b c d) := by rw [← e1]; exact (fits_sv m1).2 (mv_up4 ha hb hc hd)
  have C := fun (W : World) (a0 : Option Addr) (len cap : Nat) (h : SlU W (.slice a0 len cap) (wl (MV a b c d))) => rwide_any (!n) a0 len cap _ W h
  rw [VL_wl m1, e1, cl_fit f1, fb_fit f1] at C
  have O := fun W => mag_ask (rof_any n a b c d ha hb hc hd W)
  generalize -wv n a b c d = z at *
  clear m1 e1 f1 ha hb hc hd
  generalize hR : WE z = R
  have HR := hid hR
  clear hR
  go_enter Try.func37, Try.ntmps37
  go_wp2_with fail
  
  
  (refine wp_region_dq (row := none) (S := (fun Wz => Below w.heap.size w Wz ∧ w.heap.size + 2 ≤ Wz.heap.size ∧ Bx Wz (w.heap.size) (#[.bool n, .int .u64 a, .int .u64 b, .int .u64 c, .int .u64 d]) ∧ Bx Wz (w.heap.size + 1) (#[.bool false, .int .u64 0, .int .u64 0, .int .u64 0, .int .u64 0]))) (n0 := w.heap.size + 2) 10 [8] [(0, 0), (1, 0), (2, 0), (3, 0), (4, 1), (5, 1), (6, 0), (7, 0), (8, 2)] [(9, 3, #[.bool false, .int .u64 0, .int .u64 0, .int .u64 0, .int .u64 0])] (by kernel_rfl) (by kernel_rfl) (fun _ _ d _ _ h => by cases d <;> exact h) ⟨by (repeat' (first | (with_reducible assumption) | (with_reducible exact Below.refl _ _) | (with_reducible refine Below.alloc ?_ ?_ _) | (with_reducible refine Below.setCell ?_ ?_ _) | (with_reducible refine Below.drew ?_) | (with_reducible refine below_more ?_ (by with_reducible assumption)) | go_size | omega | (with_reducible refine below_drewN ?_))), (by first | go_size | omega), Bx.of (by (repeat' (first | (with_reducible assumption) | ((with_reducible refine HB.new _ _ _ ?_) <;> (go_size; done)) | (with_reducible refine HB.old (by go_size) ?_) | (with_reducible refine HB.drew ?_) | (with_reducible refine HB.over5 ?_) | (with_reducible refine HB.over4 ?_) | (with_reducible refine HB.setne (by first | go_size | (dsimp only; omega)) ?_) | (with_reducible refine HN.set ?_) | (with_reducible refine HN.setne (by first | go_size | (dsimp only; omega)) ?_) | (with_reducible refine HN.drew ?_) | (with_reducible refine HN.old (by go_size) ?_) | (with_reducible exact HN.of5 (by assumption)) | (with_reducible exact HN.new5 _ _ (by go_size)) | (with_reducible exact HN.of4 (by assumption)) | (with_reducible exact HN.new4 _ _ (by go_size))))), Bx.of (by (repeat' (first | (with_reducible assumption) | ((with_reducible refine HB.new _ _ _ ?_) <;> (go_size; done)) | (with_reducible refine HB.old (by go_size) ?_) | (with_reducible refine HB.drew ?_) | (with_reducible refine HB.over5 ?_) | (with_reducible refine HB.over4 ?_) | (with_reducible refine HB.setne (by first | go_size | (dsimp only; omega)) ?_) | (with_reducible refine HN.set ?_) | (with_reducible refine HN.setne (by first | go_size | (dsimp only; omega)) ?_) | (with_reducible refine HN.drew ?_) | (with_reducible refine HN.old (by go_size) ?_) | (with_reducible exact HN.of5 (by assumption)) | (with_reducible exact HN.new5 _ _ (by go_size)) | (with_reducible exact HN.of4 (by assumption)) | (with_reducible exact HN.new4 _ _ (by go_size)))))⟩ (fun _ _ h g => keep2 h (below_gt g) rfl) (fun _ h => h.2.1) (fun _ h => by cases h) (by intro x hx; simp only [List.mem_cons, List.not_mem_nil, or_false] at hx; rcases hx with rfl <;> exact ⟨_, rfl, rfl, rfl, rfl, fun ρ w => ⟨27, by kernel_rfl⟩⟩) ?_)
  refine' dq_pure (by rfl) (by rfl) ?hv1 ?rest1
  case hv1 => (intro w hw; (try dsimp only at hw); go_split_ands; go_simp; try with_reducible rfl)
  case' rest1 => try simp only [Act.put, List.setIfInBounds_toArray, List.set_cons_zero, List.set_cons_succ]
  refine' dq_pure (by rfl) (by rfl) ?hv2 ?rest2
  case hv2 => (intro w hw; (try dsimp only at hw); go_split_ands; go_simp; try with_reducible rfl)
  case' rest2 => try simp only [Act.put, List.setIfInBounds_toArray, List.set_cons_zero, List.set_cons_succ]
  refine' dq_pure (by rfl) (by rfl) ?hv3 ?rest3
  case hv3 => (intro w hw; (try dsimp only at hw); go_split_ands; go_simp; try with_reducible rfl)
  case' rest3 => try simp only [Act.put, List.setIfInBounds_toArray, List.set_cons_zero, List.set_cons_succ]
  refine' dq_pure (by rfl) (by rfl) ?hv4 ?rest4
  case hv4 => (intro w hw; (try dsimp only at hw); go_split_ands; go_simp; try with_reducible rfl)
  case' rest4 => try simp only [Act.put, List.setIfInBounds_toArray, List.set_cons_zero, List.set_cons_succ]
  refine' dq_ask (R := fun v w' => SlU w' v (wl (MV a b c d))) (by rfl) (by rfl) ?hv5 ?hc5 ?rest5 (fun _ _ h g => keep2 h (below_gt g) rfl)
  case hv5 => (intro w; go_simp; exact ⟨rfl, rfl⟩)
  case hc5 => exact (fun wq hsq htq => O wq)
  case' rest5 => try simp only [Act.put, List.setIfInBounds_toArray, List.set_cons_zero, List.set_cons_succ]
  (rintro v1 x1 hS1 hg1 hs1; have hs1' := hs1; obtain ⟨a1, l1, c1, rfl, -⟩ := hs1')
  refine' dq_ask (R := fun v _ => v = .tuple #[WE z, .bool true]) (by rfl) (by rfl) ?hv6 ?hc6 ?rest6 (fun _ _ h g => keep2 h (below_gt g) rfl)
  case hv6 => (intro w; go_simp; exact ⟨rfl, rfl⟩)
  case hc6 => exact (fun wq hsq htq => (C _ a1 l1 c1 (hs1.below (below_gt htq))).mono (fun e w' ⟨he, hb⟩ => ⟨_, he, rfl, gt_below hb _⟩))
  case' rest6 => try simp only [Act.put, List.setIfInBounds_toArray, List.set_cons_zero, List.set_cons_succ]
  (rintro v2 x2 hS2 hg2 rfl; clear hs1)
  refine' dq_pure (by rfl) (by rfl) ?hv7 ?rest7
  case hv7 => (intro w hw; (try dsimp only at hw); go_split_ands; go_simp; try with_reducible rfl)
  case' rest7 => try simp only [Act.put, List.setIfInBounds_toArray, List.set_cons_zero, List.set_cons_succ]
  refine' dq_pure (by rfl) (by rfl) ?hv8 ?rest8
  case hv8 => (intro w hw; (try dsimp only at hw); go_split_ands; go_simp; try with_reducible rfl)
  case' rest8 => try simp only [Act.put, List.setIfInBounds_toArray, List.set_cons_zero, List.set_cons_succ]
  refine' dq_late (by rfl) (by rfl) ?hv9 ?rest9
  case hv9 => (intro w; go_simp; try with_reducible rfl)
  case' rest9 => try simp only [Act.put, List.setIfInBounds_toArray, List.set_cons_zero, List.set_cons_succ]
  refine dq_nil ?_
  simp only [fa, List.drop_succ_cons, List.drop_zero]
  intro p3 hp3 hd3
  rintro W ⟨⟨hb0, hn0, ⟨B1, B1c, B1f, B1l⟩, ⟨B2, B2c, B2f, B2l⟩⟩, hgl⟩ hbs
  obtain ⟨P3, P3c, P3f, P3l⟩ := Bx.of (hbs (p3, #[.bool false, .int .u64 0, .int .u64 0, .int .u64 0, .int .u64 0]) (by simp))
  clear hd3
  clear hbs
  (repeat' (first | go_values | go_skip | go_guarded | go_step | go_upon | (simp only [Int.not_lt, Int.not_le] at *; go_simp) | (go_values <;> (try go_simp)) | (go_ite <;> go_prune <;> (try go_simp)) | (split <;> (first | (rename_i hx; exact (hx _ rfl).elim) | go_prune))))
  refine bodyPost_ret (v := WE z) ?_ rfl ⟨congrArg Ending.returned HR.out, by (repeat' (first | (with_reducible assumption) | (with_reducible exact Below.refl _ _) | (with_reducible refine Below.alloc ?_ ?_ _) | (with_reducible refine Below.setCell ?_ ?_ _) | (with_reducible refine Below.drew ?_) | (with_reducible refine below_more ?_ (by with_reducible assumption)) | go_size | omega | (with_reducible refine below_drewN ?_)))⟩
  simp [results, Try.results37, go_sem, B1c, B1f, B1l, B2c, B2f, B2l]
set_option maxHeartbeats 3000000 in
set_option maxRecDepth 100000 in
theorem rmul2_any (n : Bool) (a b c d : Int) (n' : Bool) (a' b' c' d' : Int) (ha : U64 a) (hb : U64 b) (hc : U64 c) (hd : U64 d) (ha' : U64 a') (hb' : U64 b') (hc' : U64 c') (hd' : U64 d') (w : World) :
    Calls Try.prog 23 #[WV n a b c d, WV n' a' b' c' d'] w fun e w' => e = .returned (.tuple #[WE (cl (wv n a b c d * wv n' a' b' c' d')), .bool (fb (wv n a b c d * wv n' a' b' c' d'))]) ∧ Below w.heap.size w w' := by
  obtain ⟨z, hz⟩ : ∃ z, z = wv n a b c d * wv n' a' b' c' d' := ⟨_, rfl⟩
  rw [← hz]
  generalize hR : Value.tuple #[WE (cl z), .bool (fb z)] = R
  have HR := hid hR
  clear hR
  rw [wv_sv n a b c d, wv_sv n' a' b' c' d', sv_mul] at hz
  have CA := fun W => rclean_any n a b c d ha hb hc hd W
  have CB := fun W => rclean_any n' a' b' c' d' ha' hb' hc' hd' W
  generalize cn n a b c d = p at *
  generalize cn n' a' b' c' d' = q at *
  have OA := fun W => mag_ask (rof_any p a b c d ha hb hc hd W)
  have OB := fun W => mag_ask (rof_any q a' b' c' d' ha' hb' hc' hd' W)
  have m1 := mv_nonneg ha hb hc hd
  have m2 := mv_nonneg ha' hb' hc' hd'
  have k1 := (wl_fit m1).2 (mv_up4 ha hb hc hd)
  have k2 := (wl_fit m2).2 (mv_up4 ha' hb' hc' hd')
  have m3 := Int.mul_nonneg m1 m2
  have C := fun (W : World) (a0 : Option Addr) (len cap : Nat) (h : SlU W (.slice a0 len cap) (wl (MV a b c d * MV a' b' c' d'))) => rwide_any (p != q) a0 len cap _ W h
  rw [VL_wl m3, ← hz] at C
  generalize MV a b c d = m at *
  generalize MV a' b' c' d' = m' at *
  clear hz ha hb hc hd ha' hb' hc' hd' m3
  go_enter Try.func23, Try.ntmps23
  go_wp2_with fail
  (refine wp_region_dq (row := none) (S := (fun Wz => Below w.heap.size w Wz ∧ w.heap.size + 3 ≤ Wz.heap.size ∧ Bx Wz (w.heap.size) (#[.bool n, .int .u64 a, .int .u64 b, .int .u64 c, .int .u64 d]) ∧ Bx Wz (w.heap.size + 1) (#[.bool n', .int .u64 a', .int .u64 b', .int .u64 c', .int .u64 d']) ∧ Bx Wz (w.heap.size + 1 + 1) (#[.bool false, .int .u64 0, .int .u64 0, .int .u64 0, .int .u64 0]))) (n0 := w.heap.size + 3) 4 [] [(0, 0), (1, 0), (2, 0), (3, 0)] [] (by kernel_rfl) (by kernel_rfl) (fun _ _ d _ _ h => by cases d <;> exact h) ⟨by (repeat' (first | (with_reducible assumption) | (with_reducible exact Below.refl _ _) | (with_reducible refine Below.alloc ?_ ?_ _) | (with_reducible refine Below.setCell ?_ ?_ _) | (with_reducible refine Below.drew ?_) | (with_reducible refine below_more ?_ (by with_reducible assumption)) | go_size | omega | (with_reducible refine below_drewN ?_))), (by first | go_size | omega), Bx.of (by (repeat' (first | (with_reducible assumption) | ((with_reducible refine HB.new _ _ _ ?_) <;> (go_size; done)) | (with_reducible refine HB.old (by go_size) ?_) | (with_reducible refine HB.drew ?_) | (with_reducible refine HB.over5 ?_) | (with_reducible refine HB.over4 ?_) | (with_reducible refine HB.setne (by first | go_size | (dsimp only; omega)) ?_) | (with_reducible refine HN.set ?_) | (with_reducible refine HN.setne (by first | go_size | (dsimp only; omega)) ?_) | (with_reducible refine HN.drew ?_) | (with_reducible refine HN.old (by go_size) ?_) | (with_reducible exact HN.of5 (by assumption)) | (with_reducible exact HN.new5 _ _ (by go_size)) | (with_reducible exact HN.of4 (by assumption)) | (with_reducible exact HN.new4 _ _ (by go_size))))), Bx.of (by (repeat' (first | (with_reducible assumption) | ((with_reducible refine HB.new _ _ _ ?_) <;> (go_size; done)) | (with_reducible refine HB.old (by go_size) ?_) | (with_reducible refine HB.drew ?_) | (with_reducible refine HB.over5 ?_) | (with_reducible refine HB.over4 ?_) | (with_reducible refine HB.setne (by first | go_size | (dsimp only; omega)) ?_) | (with_reducible refine HN.set ?_) | (with_reducible refine HN.setne (by first | go_size | (dsimp only; omega)) ?_) | (with_reducible refine HN.drew ?_) | (with_reducible refine HN.old (by go_size) ?_) | (with_reducible exact HN.of5 (by assumption)) | (with_reducible exact HN.new5 _ _ (by go_size)) | (with_reducible exact HN.of4 (by assumption)) | (with_reducible exact HN.new4 _ _ (by go_size))))), Bx.of (by (repeat' (first | (with_reducible assumption) | ((with_reducible refine HB.new _ _ _ ?_) <;> (go_size; done)) | (with_reducible refine HB.old (by go_size) ?_) | (with_reducible refine HB.drew ?_) | (with_reducible refine HB.over5 ?_) | (with_reducible refine HB.over4 ?_) | (with_reducible refine HB.setne (by first | go_size | (dsimp only; omega)) ?_) | (with_reducible refine HN.set ?_) | (with_reducible refine HN.setne (by first | go_size | (dsimp only; omega)) ?_) | (with_reducible refine HN.drew ?_) | (with_reducible refine HN.old (by go_size) ?_) | (with_reducible exact HN.of5 (by assumption)) | (with_reducible exact HN.new5 _ _ (by go_size)) | (with_reducible exact HN.of4 (by assumption)) | (with_reducible exact HN.new4 _ _ (by go_size)))))⟩ (fun _ _ h g => keep3 h (below_gt g) rfl) (fun _ h => h.2.1) (fun _ h => by cases h) (by simp) ?_)
  refine' dq_pure (by rfl) (by rfl) ?hv10 ?rest10
  case hv10 => (intro w hw; (try dsimp only at hw); go_split_ands; go_simp; try with_reducible rfl)
  case' rest10 => try simp only [Act.put, List.setIfInBounds_toArray, List.set_cons_zero, List.set_cons_succ]
  refine' dq_call (by rfl) (by rfl) ?hv11 ?hc11 ?rest11
  case hv11 => (intro w; go_simp; exact ⟨rfl, rfl⟩)
  case hc11 => exact (fun w hw => calls_gt (by first | exact CA _ | exact CB _))
  case' rest11 => try simp only [Act.put, List.setIfInBounds_toArray, List.set_cons_zero, List.set_cons_succ]
  refine' dq_pure (by rfl) (by rfl) ?hv12 ?rest12
  case hv12 => (intro w hw; (try dsimp only at hw); go_split_ands; go_simp; try with_reducible rfl)
  case' rest12 => try simp only [Act.put, List.setIfInBounds_toArray, List.set_cons_zero, List.set_cons_succ]
  refine' dq_call (by rfl) (by rfl) ?hv13 ?hc13 ?rest13
  case hv13 => (intro w; go_simp; exact ⟨rfl, rfl⟩)
  case hc13 => exact (fun w hw => calls_gt (by first | exact CA _ | exact CB _))
  case' rest13 => try simp only [Act.put, List.setIfInBounds_toArray, List.set_cons_zero, List.set_cons_succ]
  refine dq_nil ?_
  simp only [fa, List.drop_succ_cons, List.drop_zero]
  rintro W ⟨⟨hb0, hn0, ⟨B1, B1c, B1f, B1l⟩, ⟨B2, B2c, B2f, B2l⟩, ⟨B3, B3c, B3f, B3l⟩⟩, hgl⟩ hbs
  clear hbs hgl
  (repeat' (first | go_values | go_skip | go_guarded | go_step | go_upon | (simp only [Int.not_lt, Int.not_le] at *; go_simp) | (go_values <;> (try go_simp)) | (go_ite <;> go_prune <;> (try go_simp)) | (split <;> (first | (rename_i hx; exact (hx _ rfl).elim) | go_prune))))
  
  
  
  
  (refine wp_region_dq (row := none) (S := (fun Wz => Below w.heap.size w Wz ∧ w.heap.size + 3 ≤ Wz.heap.size ∧ Bx Wz (w.heap.size) (#[.bool p, .int .u64 a, .int .u64 b, .int .u64 c, .int .u64 d]) ∧ Bx Wz (w.heap.size + 1) (#[.bool q, .int .u64 a', .int .u64 b', .int .u64 c', .int .u64 d']) ∧ Bx Wz (w.heap.size + 1 + 1) (#[.bool false, .int .u64 0, .int .u64 0, .int .u64 0, .int .u64 0]))) (n0 := w.heap.size + 3) 13 [] [(0, 0), (1, 0), (2, 0), (3, 0), (4, 0), (5, 0), (7, 0), (6, 1), (8, 1), (9, 1), (10, 1), (11, 0), (12, 0)] [] (by kernel_rfl) (by kernel_rfl) (fun _ _ d _ _ h => by cases d <;> exact h) ⟨by (repeat' (first | (with_reducible assumption) | (with_reducible exact Below.refl _ _) | (with_reducible refine Below.alloc ?_ ?_ _) | (with_reducible refine Below.setCell ?_ ?_ _) | (with_reducible refine Below.drew ?_) | (with_reducible refine below_more ?_ (by with_reducible assumption)) | go_size | omega | (with_reducible refine below_drewN ?_))), (by first | go_size | omega), Bx.of (by (repeat' (first | (with_reducible assumption) | ((with_reducible refine HB.new _ _ _ ?_) <;> (go_size; done)) | (with_reducible refine HB.old (by go_size) ?_) | (with_reducible refine HB.drew ?_) | (with_reducible refine HB.over5 ?_) | (with_reducible refine HB.over4 ?_) | (with_reducible refine HB.setne (by first | go_size | (dsimp only; omega)) ?_) | (with_reducible refine HN.set ?_) | (with_reducible refine HN.setne (by first | go_size | (dsimp only; omega)) ?_) | (with_reducible refine HN.drew ?_) | (with_reducible refine HN.old (by go_size) ?_) | (with_reducible exact HN.of5 (by assumption)) | (with_reducible exact HN.new5 _ _ (by go_size)) | (with_reducible exact HN.of4 (by assumption)) | (with_reducible exact HN.new4 _ _ (by go_size))))), Bx.of (by (repeat' (first | (with_reducible assumption) | ((with_reducible refine HB.new _ _ _ ?_) <;> (go_size; done)) | (with_reducible refine HB.old (by go_size) ?_) | (with_reducible refine HB.drew ?_) | (with_reducible refine HB.over5 ?_) | (with_reducible refine HB.over4 ?_) | (with_reducible refine HB.setne (by first | go_size | (dsimp only; omega)) ?_) | (with_reducible refine HN.set ?_) | (with_reducible refine HN.setne (by first | go_size | (dsimp only; omega)) ?_) | (with_reducible refine HN.drew ?_) | (with_reducible refine HN.old (by go_size) ?_) | (with_reducible exact HN.of5 (by assumption)) | (with_reducible exact HN.new5 _ _ (by go_size)) | (with_reducible exact HN.of4 (by assumption)) | (with_reducible exact HN.new4 _ _ (by go_size))))), Bx.of (by (repeat' (first | (with_reducible assumption) | ((with_reducible refine HB.new _ _ _ ?_) <;> (go_size; done)) | (with_reducible refine HB.old (by go_size) ?_) | (with_reducible refine HB.drew ?_) | (with_reducible refine HB.over5 ?_) | (with_reducible refine HB.over4 ?_) | (with_reducible refine HB.setne (by first | go_size | (dsimp only; omega)) ?_) | (with_reducible refine HN.set ?_) | (with_reducible refine HN.setne (by first | go_size | (dsimp only; omega)) ?_) | (with_reducible refine HN.drew ?_) | (with_reducible refine HN.old (by go_size) ?_) | (with_reducible exact HN.of5 (by assumption)) | (with_reducible exact HN.new5 _ _ (by go_size)) | (with_reducible exact HN.of4 (by assumption)) | (with_reducible exact HN.new4 _ _ (by go_size)))))⟩ (fun _ _ h g => keep3 h (below_gt g) rfl) (fun _ h => h.2.1) (fun _ h => by cases h) (by simp) ?_)
  refine' dq_pure (by rfl) (by rfl) ?hv14 ?rest14
  case hv14 => (intro w hw; (try dsimp only at hw); go_split_ands; go_simp; try with_reducible rfl)
  case' rest14 => try simp only [Act.put, List.setIfInBounds_toArray, List.set_cons_zero, List.set_cons_succ]
  refine' dq_pure (by rfl) (by rfl) ?hv15 ?rest15
  case hv15 => (intro w hw; (try dsimp only at hw); go_split_ands; go_simp; try with_reducible rfl)
  case' rest15 => try simp only [Act.put, List.setIfInBounds_toArray, List.set_cons_zero, List.set_cons_succ]
  refine' dq_pure (by rfl) (by rfl) ?hv16 ?rest16
  case hv16 => (intro w hw; (try dsimp only at hw); go_split_ands; go_simp; try with_reducible rfl)
  case' rest16 => try simp only [Act.put, List.setIfInBounds_toArray, List.set_cons_zero, List.set_cons_succ]
  refine' dq_pure (by rfl) (by rfl) ?hv17 ?rest17
  case hv17 => (intro w hw; (try dsimp only at hw); go_split_ands; go_simp; try with_reducible rfl)
  case' rest17 => try simp only [Act.put, List.setIfInBounds_toArray, List.set_cons_zero, List.set_cons_succ]
  refine' dq_pure (by rfl) (by rfl) ?hv18 ?rest18
  case hv18 => (intro w hw; (try dsimp only at hw); go_split_ands; go_simp; try with_reducible rfl)
  case' rest18 => try simp only [Act.put, List.setIfInBounds_toArray, List.set_cons_zero, List.set_cons_succ]
  refine' dq_pure (by rfl) (by rfl) ?hv19 ?rest19
  case hv19 => (intro w hw; (try dsimp only at hw); go_split_ands; go_simp; try with_reducible rfl)
  case' rest19 => try simp only [Act.put, List.setIfInBounds_toArray, List.set_cons_zero, List.set_cons_succ]
  refine' dq_pure (by rfl) (by rfl) ?hv20 ?rest20
  case hv20 => (intro w hw; (try dsimp only at hw); go_split_ands; go_simp; try with_reducible rfl)
  case' rest20 => try simp only [Act.put, List.setIfInBounds_toArray, List.set_cons_zero, List.set_cons_succ]
  refine' dq_ask (R := fun v w' => SlU w' v (wl m)) (by rfl) (by rfl) ?hv21 ?hc21 ?rest21 (fun _ _ h g => keep3 h (below_gt g) rfl)
  case hv21 => (intro w; go_simp; exact ⟨rfl, rfl⟩)
  case hc21 => exact (fun wq hsq htq => OA wq)
  case' rest21 => try simp only [Act.put, List.setIfInBounds_toArray, List.set_cons_zero, List.set_cons_succ]
  (rintro v1 x1 hS1 hg1 hs1; have hs1' := hs1; obtain ⟨a1, l1, c1, rfl, -⟩ := hs1')
  refine' dq_ask (R := fun v w' => SlU w' v (wl m')) (by rfl) (by rfl) ?hv22 ?hc22 ?rest22 (fun _ _ h g => keep3 h (below_gt g) rfl)
  case hv22 => (intro w; go_simp; exact ⟨rfl, rfl⟩)
  case hc22 => exact (fun wq hsq htq => OB wq)
  case' rest22 => try simp only [Act.put, List.setIfInBounds_toArray, List.set_cons_zero, List.set_cons_succ]
  (rintro v2 x2 hS2 hg2 hs2; have hs1 := hs1.below (below_gt hg2); have hs2' := hs2; obtain ⟨a2, l2, c2, rfl, -⟩ := hs2')
  refine' dq_ask (R := fun v w' => SlU w' v (wl (m * m'))) (by rfl) (by rfl) ?hv23 ?hc23 ?rest23 (fun _ _ h g => keep3 h (below_gt g) rfl)
  case hv23 => (intro w; go_simp; exact ⟨rfl, rfl⟩)
  case hc23 => exact (fun wq hsq htq => mag_ask (rmul_any a1 a2 l1 c1 l2 c2 _ _ m1 m2 (by have := hs1.len.1; omega) (by have := hs2.len.1; omega) wq (hs1.below (below_gt htq)) (hs2.below (below_gt htq))))
  case' rest23 => try simp only [Act.put, List.setIfInBounds_toArray, List.set_cons_zero, List.set_cons_succ]
  (rintro v3 x3 hS3 hg3 hs3; clear hs1 hs2; have hs3' := hs3; obtain ⟨a3, l3, c3, rfl, -⟩ := hs3')
  refine' dq_ask (R := fun v _ => v = .tuple #[WE (cl z), .bool (fb z)]) (by rfl) (by rfl) ?hv24 ?hc24 ?rest24 (fun _ _ h g => keep3 h (below_gt g) rfl)
  case hv24 => (intro w; go_simp; exact ⟨rfl, rfl⟩)
  case hc24 => exact (fun wq hsq htq => (C _ a3 l3 c3 (hs3.below (below_gt htq))).mono (fun e w' ⟨he, hb⟩ => ⟨_, he, rfl, gt_below hb _⟩))
  case' rest24 => try simp only [Act.put, List.setIfInBounds_toArray, List.set_cons_zero, List.set_cons_succ]
  (rintro v4 x4 hS4 hg4 rfl; clear hs3)
  refine' dq_pure (by rfl) (by rfl) ?hv25 ?rest25
  case hv25 => (intro w hw; (try dsimp only at hw); go_split_ands; go_simp; try with_reducible rfl)
  case' rest25 => try simp only [Act.put, List.setIfInBounds_toArray, List.set_cons_zero, List.set_cons_succ]
  refine' dq_pure (by rfl) (by rfl) ?hv26 ?rest26
  case hv26 => (intro w hw; (try dsimp only at hw); go_split_ands; go_simp; try with_reducible rfl)
  case' rest26 => try simp only [Act.put, List.setIfInBounds_toArray, List.set_cons_zero, List.set_cons_succ]
  refine dq_nil ?_
  simp only [fa, List.drop_succ_cons, List.drop_zero]
  rintro W ⟨⟨hb0, hn0, ⟨B1, B1c, B1f, B1l⟩, ⟨B2, B2c, B2f, B2l⟩, ⟨B3, B3c, B3f, B3l⟩⟩, hgl⟩ hbs
  clear hbs
  (repeat' (first | go_values | go_skip | go_guarded | go_step | go_upon | (simp only [Int.not_lt, Int.not_le] at *; go_simp) | (go_values <;> (try go_simp)) | (go_ite <;> go_prune <;> (try go_simp)) | (split <;> (first | (rename_i hx; exact (hx _ rfl).elim) | go_prune))))
  refine bodyPost_ret (v := .tuple #[WE (cl z), .bool (fb z)]) ?_ rfl ⟨congrArg Ending.returned HR.out, by (repeat' (first | (with_reducible assumption) | (with_reducible exact Below.refl _ _) | (with_reducible refine Below.alloc ?_ ?_ _) | (with_reducible refine Below.setCell ?_ ?_ _) | (with_reducible refine Below.drew ?_) | (with_reducible refine below_more ?_ (by with_reducible assumption)) | go_size | omega | (with_reducible refine below_drewN ?_)))⟩
  simp [results, Try.results23, go_sem, B3c, B3f, B3l]
theorem rcompare_b (m n : Int) (hm : 0 ≤ m) (hn : 0 ≤ n) (a a' : Option Addr) (len cap len' cap' : Nat) (w : World) (h : SlU w (.slice a len cap) (wl m)) (h' : SlU w (.slice a' len' cap') (wl n)) :
    Calls Try.prog 51 #[.slice a len cap, .slice a' len' cap'] w fun e w' => e = .returned (.int .i64 (cm m n)) ∧ Below w.heap.size w w' :=
  (rcompare_any a a' len cap len' cap' m n hm hn w h h').mono (fun e w' ⟨he, d, hd⟩ => ⟨he, by subst hd; exact below_drewN (Below.refl _ _)⟩)
set_option maxHeartbeats 3000000 in
set_option maxRecDepth 100000 in
theorem radd2_any (n : Bool) (a b c d : Int) (n' : Bool) (a' b' c' d' : Int) (ha : U64 a) (hb : U64 b) (hc : U64 c) (hd : U64 d) (ha' : U64 a') (hb' : U64 b') (hc' : U64 c') (hd' : U64 d') (w : World) :
    Calls Try.prog 24 #[WV n a b c d, WV n' a' b' c' d'] w fun e w' => e = .returned (.tuple #[WE (cl (wv n a b c d + wv n' a' b' c' d')), .bool (fb (wv n a b c d + wv n' a' b' c' d'))]) ∧ Below w.heap.size w w' := by
  obtain ⟨z, hz⟩ : ∃ z, z = wv n a b c d + wv n' a' b' c' d' := ⟨_, rfl⟩
  rw [← hz]
  generalize hR : Value.tuple #[WE (cl z), .bool (fb z)] = R
  have HR := hid hR
  clear hR
  rw [wv_sv n a b c d, wv_sv n' a' b' c' d'] at hz
  have CA := fun W => rclean_any n a b c d ha hb hc hd W
  have CB := fun W => rclean_any n' a' b' c' d' ha' hb' hc' hd' W
  generalize cn n a b c d = p at *
  generalize cn n' a' b' c' d' = q at *
  have OA := fun W => mag_ask (rof_any p a b c d ha hb hc hd W)
  have OB := fun W => mag_ask (rof_any q a' b' c' d' ha' hb' hc' hd' W)
  have m1 := mv_nonneg ha hb hc hd
  have m2 := mv_nonneg ha' hb' hc' hd'
  have k1 := (wl_fit m1).2 (mv_up4 ha hb hc hd)
  have k2 := (wl_fit m2).2 (mv_up4 ha' hb' hc' hd')
  generalize MV a b c d = m at *
  generalize MV a' b' c' d' = m' at *
  have CC := rcompare_b m m' m1 m2
  have HZ := hid hz
  clear hz ha hb hc hd ha' hb' hc' hd'
  go_enter Try.func24, Try.ntmps24
  go_wp2_with fail
  (refine wp_region_dq (row := none) (S := (fun Wz => Below w.heap.size w Wz ∧ w.heap.size + 3 ≤ Wz.heap.size ∧ Bx Wz (w.heap.size) (#[.bool n, .int .u64 a, .int .u64 b, .int .u64 c, .int .u64 d]) ∧ Bx Wz (w.heap.size + 1) (#[.bool n', .int .u64 a', .int .u64 b', .int .u64 c', .int .u64 d']) ∧ Bx Wz (w.heap.size + 1 + 1) (#[.bool false, .int .u64 0, .int .u64 0, .int .u64 0, .int .u64 0]))) (n0 := w.heap.size + 3) 4 [] [(0, 0), (1, 0), (2, 0), (3, 0)] [] (by kernel_rfl) (by kernel_rfl) (fun _ _ d _ _ h => by cases d <;> exact h) ⟨by (repeat' (first | (with_reducible assumption) | (with_reducible exact Below.refl _ _) | (with_reducible refine Below.alloc ?_ ?_ _) | (with_reducible refine Below.setCell ?_ ?_ _) | (with_reducible refine Below.drew ?_) | (with_reducible refine below_more ?_ (by with_reducible assumption)) | go_size | omega | (with_reducible refine below_drewN ?_))), (by first | go_size | omega), Bx.of (by (repeat' (first | (with_reducible assumption) | ((with_reducible refine HB.new _ _ _ ?_) <;> (go_size; done)) | (with_reducible refine HB.old (by go_size) ?_) | (with_reducible refine HB.drew ?_) | (with_reducible refine HB.over5 ?_) | (with_reducible refine HB.over4 ?_) | (with_reducible refine HB.setne (by first | go_size | (dsimp only; omega)) ?_) | (with_reducible refine HN.set ?_) | (with_reducible refine HN.setne (by first | go_size | (dsimp only; omega)) ?_) | (with_reducible refine HN.drew ?_) | (with_reducible refine HN.old (by go_size) ?_) | (with_reducible exact HN.of5 (by assumption)) | (with_reducible exact HN.new5 _ _ (by go_size)) | (with_reducible exact HN.of4 (by assumption)) | (with_reducible exact HN.new4 _ _ (by go_size))))), Bx.of (by (repeat' (first | (with_reducible assumption) | ((with_reducible refine HB.new _ _ _ ?_) <;> (go_size; done)) | (with_reducible refine HB.old (by go_size) ?_) | (with_reducible refine HB.drew ?_) | (with_reducible refine HB.over5 ?_) | (with_reducible refine HB.over4 ?_) | (with_reducible refine HB.setne (by first | go_size | (dsimp only; omega)) ?_) | (with_reducible refine HN.set ?_) | (with_reducible refine HN.setne (by first | go_size | (dsimp only; omega)) ?_) | (with_reducible refine HN.drew ?_) | (with_reducible refine HN.old (by go_size) ?_) | (with_reducible exact HN.of5 (by assumption)) | (with_reducible exact HN.new5 _ _ (by go_size)) | (with_reducible exact HN.of4 (by assumption)) | (with_reducible exact HN.new4 _ _ (by go_size))))), Bx.of (by (repeat' (first | (with_reducible assumption) | ((with_reducible refine HB.new _ _ _ ?_) <;> (go_size; done)) | (with_reducible refine HB.old (by go_size) ?_) | (with_reducible refine HB.drew ?_) | (with_reducible refine HB.over5 ?_) | (with_reducible refine HB.over4 ?_) | (with_reducible refine HB.setne (by first | go_size | (dsimp only; omega)) ?_) | (with_reducible refine HN.set ?_) | (with_reducible refine HN.setne (by first | go_size | (dsimp only; omega)) ?_) | (with_reducible refine HN.drew ?_) | (with_reducible refine HN.old (by go_size) ?_) | (with_reducible exact HN.of5 (by assumption)) | (with_reducible exact HN.new5 _ _ (by go_size)) | (with_reducible exact HN.of4 (by assumption)) | (with_reducible exact HN.new4 _ _ (by go_size)))))⟩ (fun _ _ h g => keep3 h (below_gt g) rfl) (fun _ h => h.2.1) (fun _ h => by cases h) (by simp) ?_)
  refine' dq_pure (by rfl) (by rfl) ?hv27 ?rest27
  case hv27 => (intro w hw; (try dsimp only at hw); go_split_ands; go_simp; try with_reducible rfl)
  case' rest27 => try simp only [Act.put, List.setIfInBounds_toArray, List.set_cons_zero, List.set_cons_succ]
  refine' dq_call (by rfl) (by rfl) ?hv28 ?hc28 ?rest28
  case hv28 => (intro w; go_simp; exact ⟨rfl, rfl⟩)
  case hc28 => exact (fun w hw => calls_gt (by first | exact CA _ | exact CB _))
  case' rest28 => try simp only [Act.put, List.setIfInBounds_toArray, List.set_cons_zero, List.set_cons_succ]
  refine' dq_pure (by rfl) (by rfl) ?hv29 ?rest29
  case hv29 => (intro w hw; (try dsimp only at hw); go_split_ands; go_simp; try with_reducible rfl)
  case' rest29 => try simp only [Act.put, List.setIfInBounds_toArray, List.set_cons_zero, List.set_cons_succ]
  refine' dq_call (by rfl) (by rfl) ?hv30 ?hc30 ?rest30
  case hv30 => (intro w; go_simp; exact ⟨rfl, rfl⟩)
  case hc30 => exact (fun w hw => calls_gt (by first | exact CA _ | exact CB _))
  case' rest30 => try simp only [Act.put, List.setIfInBounds_toArray, List.set_cons_zero, List.set_cons_succ]
  refine dq_nil ?_
  simp only [fa, List.drop_succ_cons, List.drop_zero]
  rintro W ⟨⟨hb0, hn0, ⟨B1, B1c, B1f, B1l⟩, ⟨B2, B2c, B2f, B2l⟩, ⟨B3, B3c, B3f, B3l⟩⟩, hgl⟩ hbs
  clear hbs hgl
  (repeat' (first | go_values | go_skip | go_guarded | go_step | go_upon | (simp only [Int.not_lt, Int.not_le] at *; go_simp) | (go_values <;> (try go_simp)) | (go_ite <;> go_prune <;> (try go_simp)) | (split <;> (first | (rename_i hx; exact (hx _ rfl).elim) | go_prune))))
  
  
  (refine wp_region_dq (row := none) (S := (fun Wz => Below w.heap.size w Wz ∧ w.heap.size + 3 ≤ Wz.heap.size ∧ Bx Wz (w.heap.size) (#[.bool p, .int .u64 a, .int .u64 b, .int .u64 c, .int .u64 d]) ∧ Bx Wz (w.heap.size + 1) (#[.bool q, .int .u64 a', .int .u64 b', .int .u64 c', .int .u64 d']) ∧ Bx Wz (w.heap.size + 1 + 1) (#[.bool false, .int .u64 0, .int .u64 0, .int .u64 0, .int .u64 0]))) (n0 := w.heap.size + 3) 4 [] [(0, 0), (2, 0), (1, 1), (3, 1)] [] (by kernel_rfl) (by kernel_rfl) (fun _ _ d _ _ h => by cases d <;> exact h) ⟨by (repeat' (first | (with_reducible assumption) | (with_reducible exact Below.refl _ _) | (with_reducible refine Below.alloc ?_ ?_ _) | (with_reducible refine Below.setCell ?_ ?_ _) | (with_reducible refine Below.drew ?_) | (with_reducible refine below_more ?_ (by with_reducible assumption)) | go_size | omega | (with_reducible refine below_drewN ?_))), (by first | go_size | omega), Bx.of (by (repeat' (first | (with_reducible assumption) | ((with_reducible refine HB.new _ _ _ ?_) <;> (go_size; done)) | (with_reducible refine HB.old (by go_size) ?_) | (with_reducible refine HB.drew ?_) | (with_reducible refine HB.over5 ?_) | (with_reducible refine HB.over4 ?_) | (with_reducible refine HB.setne (by first | go_size | (dsimp only; omega)) ?_) | (with_reducible refine HN.set ?_) | (with_reducible refine HN.setne (by first | go_size | (dsimp only; omega)) ?_) | (with_reducible refine HN.drew ?_) | (with_reducible refine HN.old (by go_size) ?_) | (with_reducible exact HN.of5 (by assumption)) | (with_reducible exact HN.new5 _ _ (by go_size)) | (with_reducible exact HN.of4 (by assumption)) | (with_reducible exact HN.new4 _ _ (by go_size))))), Bx.of (by (repeat' (first | (with_reducible assumption) | ((with_reducible refine HB.new _ _ _ ?_) <;> (go_size; done)) | (with_reducible refine HB.old (by go_size) ?_) | (with_reducible refine HB.drew ?_) | (with_reducible refine HB.over5 ?_) | (with_reducible refine HB.over4 ?_) | (with_reducible refine HB.setne (by first | go_size | (dsimp only; omega)) ?_) | (with_reducible refine HN.set ?_) | (with_reducible refine HN.setne (by first | go_size | (dsimp only; omega)) ?_) | (with_reducible refine HN.drew ?_) | (with_reducible refine HN.old (by go_size) ?_) | (with_reducible exact HN.of5 (by assumption)) | (with_reducible exact HN.new5 _ _ (by go_size)) | (with_reducible exact HN.of4 (by assumption)) | (with_reducible exact HN.new4 _ _ (by go_size))))), Bx.of (by (repeat' (first | (with_reducible assumption) | ((with_reducible refine HB.new _ _ _ ?_) <;> (go_size; done)) | (with_reducible refine HB.old (by go_size) ?_) | (with_reducible refine HB.drew ?_) | (with_reducible refine HB.over5 ?_) | (with_reducible refine HB.over4 ?_) | (with_reducible refine HB.setne (by first | go_size | (dsimp only; omega)) ?_) | (with_reducible refine HN.set ?_) | (with_reducible refine HN.setne (by first | go_size | (dsimp only; omega)) ?_) | (with_reducible refine HN.drew ?_) | (with_reducible refine HN.old (by go_size) ?_) | (with_reducible exact HN.of5 (by assumption)) | (with_reducible exact HN.new5 _ _ (by go_size)) | (with_reducible exact HN.of4 (by assumption)) | (with_reducible exact HN.new4 _ _ (by go_size)))))⟩ (fun _ _ h g => keep3 h (below_gt g) rfl) (fun _ h => h.2.1) (fun _ h => by cases h) (by simp) ?_)
  refine' dq_pure (by rfl) (by rfl) ?hv31 ?rest31
  case hv31 => (intro w hw; (try dsimp only at hw); go_split_ands; go_simp; try with_reducible rfl)
  case' rest31 => try simp only [Act.put, List.setIfInBounds_toArray, List.set_cons_zero, List.set_cons_succ]
  refine' dq_pure (by rfl) (by rfl) ?hv32 ?rest32
  case hv32 => (intro w hw; (try dsimp only at hw); go_split_ands; go_simp; try with_reducible rfl)
  case' rest32 => try simp only [Act.put, List.setIfInBounds_toArray, List.set_cons_zero, List.set_cons_succ]
  refine' dq_ask (R := fun v w' => SlU w' v (wl m)) (by rfl) (by rfl) ?hv33 ?hc33 ?rest33 (fun _ _ h g => keep3 h (below_gt g) rfl)
  case hv33 => (intro w; go_simp; exact ⟨rfl, rfl⟩)
  case hc33 => exact (fun wq hsq htq => OA wq)
  case' rest33 => try simp only [Act.put, List.setIfInBounds_toArray, List.set_cons_zero, List.set_cons_succ]
  (rintro v1 x1 hS1 hg1 hs1; have hs1' := hs1; obtain ⟨a1, l1, c1, rfl, -⟩ := hs1')
  refine' dq_ask (R := fun v w' => SlU w' v (wl m')) (by rfl) (by rfl) ?hv34 ?hc34 ?rest34 (fun _ _ h g => keep3 h (below_gt g) rfl)
  case hv34 => (intro w; go_simp; exact ⟨rfl, rfl⟩)
  case hc34 => exact (fun wq hsq htq => OB wq)
  case' rest34 => try simp only [Act.put, List.setIfInBounds_toArray, List.set_cons_zero, List.set_cons_succ]
  (rintro v2 x2 hS2 hg2 hs2; have hs1 := hs1.below (below_gt hg2); have hs2' := hs2; obtain ⟨a2, l2, c2, rfl, -⟩ := hs2')
  refine dq_nil ?_
  simp only [fa, List.drop_succ_cons, List.drop_zero]
  rintro W ⟨⟨hb0, hn0, ⟨B1, B1c, B1f, B1l⟩, ⟨B2, B2c, B2f, B2l⟩, ⟨B3, B3c, B3f, B3l⟩⟩, hgl⟩ hbs
  clear hbs
  have hs1 := hs1.below (below_gt hgl)
  have hs2 := hs2.below (below_gt hgl)
  have hz := HZ.out
  by_cases hpq : p = q
  · subst hpq
    
    have hz' := hz
    rw [sv_add] at hz'
    have mm : 0 ≤ m + m' := by omega
    have C := fun (W : World) (a0 : Option Addr) (len cap : Nat) (h : SlU W (.slice a0 len cap) (wl (m + m'))) => rwide_any p a0 len cap _ W h
    rw [VL_wl mm, ← hz'] at C
    clear hz hz' mm
    (repeat' (first | go_values | go_skip | go_guarded | go_step | go_upon | (simp only [Int.not_lt, Int.not_le] at *; go_simp) | (go_values <;> (try go_simp)) | (go_ite <;> go_prune <;> (try go_simp)) | (split <;> (first | (rename_i hx; exact (hx _ rfl).elim) | go_prune))))
    
    
    (refine wp_region_dq (row := none) (S := (fun Wz => Below w.heap.size w Wz ∧ w.heap.size + 3 ≤ Wz.heap.size ∧ Bx Wz (w.heap.size) (#[.bool p, .int .u64 a, .int .u64 b, .int .u64 c, .int .u64 d]) ∧ Bx Wz (w.heap.size + 1) (#[.bool p, .int .u64 a', .int .u64 b', .int .u64 c', .int .u64 d']) ∧ Bx Wz (w.heap.size + 1 + 1) (#[.bool false, .int .u64 0, .int .u64 0, .int .u64 0, .int .u64 0]))) (n0 := w.heap.size + 3) 8 [] [(0, 0), (1, 0), (2, 0), (3, 0), (4, 1), (5, 1), (6, 0), (7, 0)] [] (by kernel_rfl) (by kernel_rfl) (fun _ _ d _ _ h => by cases d <;> exact h) ⟨by (repeat' (first | (with_reducible assumption) | (with_reducible exact Below.refl _ _) | (with_reducible refine Below.alloc ?_ ?_ _) | (with_reducible refine Below.setCell ?_ ?_ _) | (with_reducible refine Below.drew ?_) | (with_reducible refine below_more ?_ (by with_reducible assumption)) | go_size | omega | (with_reducible refine below_drewN ?_))), (by first | go_size | omega), Bx.of (by (repeat' (first | (with_reducible assumption) | ((with_reducible refine HB.new _ _ _ ?_) <;> (go_size; done)) | (with_reducible refine HB.old (by go_size) ?_) | (with_reducible refine HB.drew ?_) | (with_reducible refine HB.over5 ?_) | (with_reducible refine HB.over4 ?_) | (with_reducible refine HB.setne (by first | go_size | (dsimp only; omega)) ?_) | (with_reducible refine HN.set ?_) | (with_reducible refine HN.setne (by first | go_size | (dsimp only; omega)) ?_) | (with_reducible refine HN.drew ?_) | (with_reducible refine HN.old (by go_size) ?_) | (with_reducible exact HN.of5 (by assumption)) | (with_reducible exact HN.new5 _ _ (by go_size)) | (with_reducible exact HN.of4 (by assumption)) | (with_reducible exact HN.new4 _ _ (by go_size))))), Bx.of (by (repeat' (first | (with_reducible assumption) | ((with_reducible refine HB.new _ _ _ ?_) <;> (go_size; done)) | (with_reducible refine HB.old (by go_size) ?_) | (with_reducible refine HB.drew ?_) | (with_reducible refine HB.over5 ?_) | (with_reducible refine HB.over4 ?_) | (with_reducible refine HB.setne (by first | go_size | (dsimp only; omega)) ?_) | (with_reducible refine HN.set ?_) | (with_reducible refine HN.setne (by first | go_size | (dsimp only; omega)) ?_) | (with_reducible refine HN.drew ?_) | (with_reducible refine HN.old (by go_size) ?_) | (with_reducible exact HN.of5 (by assumption)) | (with_reducible exact HN.new5 _ _ (by go_size)) | (with_reducible exact HN.of4 (by assumption)) | (with_reducible exact HN.new4 _ _ (by go_size))))), Bx.of (by (repeat' (first | (with_reducible assumption) | ((with_reducible refine HB.new _ _ _ ?_) <;> (go_size; done)) | (with_reducible refine HB.old (by go_size) ?_) | (with_reducible refine HB.drew ?_) | (with_reducible refine HB.over5 ?_) | (with_reducible refine HB.over4 ?_) | (with_reducible refine HB.setne (by first | go_size | (dsimp only; omega)) ?_) | (with_reducible refine HN.set ?_) | (with_reducible refine HN.setne (by first | go_size | (dsimp only; omega)) ?_) | (with_reducible refine HN.drew ?_) | (with_reducible refine HN.old (by go_size) ?_) | (with_reducible exact HN.of5 (by assumption)) | (with_reducible exact HN.new5 _ _ (by go_size)) | (with_reducible exact HN.of4 (by assumption)) | (with_reducible exact HN.new4 _ _ (by go_size)))))⟩ (fun _ _ h g => keep3 h (below_gt g) rfl) (fun _ h => h.2.1) (fun _ h => by cases h) (by simp) ?_)
    refine' dq_pure (by rfl) (by rfl) ?hv35 ?rest35
    case hv35 => (intro w hw; (try dsimp only at hw); go_split_ands; go_simp; try with_reducible rfl)
    case' rest35 => try simp only [Act.put, List.setIfInBounds_toArray, List.set_cons_zero, List.set_cons_succ]
    refine' dq_pure (by rfl) (by rfl) ?hv36 ?rest36
    case hv36 => (intro w hw; (try dsimp only at hw); go_split_ands; go_simp; try with_reducible rfl)
    case' rest36 => try simp only [Act.put, List.setIfInBounds_toArray, List.set_cons_zero, List.set_cons_succ]
    refine' dq_pure (by rfl) (by rfl) ?hv37 ?rest37
    case hv37 => (intro w hw; (try dsimp only at hw); go_split_ands; go_simp; try with_reducible rfl)
    case' rest37 => try simp only [Act.put, List.setIfInBounds_toArray, List.set_cons_zero, List.set_cons_succ]
    refine' dq_pure (by rfl) (by rfl) ?hv38 ?rest38
    case hv38 => (intro w hw; (try dsimp only at hw); go_split_ands; go_simp; try with_reducible rfl)
    case' rest38 => try simp only [Act.put, List.setIfInBounds_toArray, List.set_cons_zero, List.set_cons_succ]
    refine' dq_ask (R := fun v w' => SlU w' v (wl (m + m'))) (by rfl) (by rfl) ?hv39 ?hc39 ?rest39 (fun _ _ h g => keep3 h (below_gt g) rfl)
    case hv39 => (intro w; go_simp; exact ⟨rfl, rfl⟩)
    case hc39 => exact (fun wq hsq htq => mag_ask (radd_any a1 a2 l1 c1 l2 c2 _ _ m1 m2 (by have := hs1.len.1; omega) (by have := hs2.len.1; omega) wq (hs1.drew.below (below_gt htq)) (hs2.drew.below (below_gt htq))))
    case' rest39 => try simp only [Act.put, List.setIfInBounds_toArray, List.set_cons_zero, List.set_cons_succ]
    (rintro v3 x3 hS3 hg3 hs3; clear hs1 hs2; have hs3' := hs3; obtain ⟨a3, l3, c3, rfl, -⟩ := hs3')
    refine' dq_ask (R := fun v _ => v = .tuple #[WE (cl z), .bool (fb z)]) (by rfl) (by rfl) ?hv40 ?hc40 ?rest40 (fun _ _ h g => keep3 h (below_gt g) rfl)
    case hv40 => (intro w; go_simp; exact ⟨rfl, rfl⟩)
    case hc40 => exact (fun wq hsq htq => (C _ a3 l3 c3 (hs3.below (below_gt htq))).mono (fun e w' ⟨he, hb⟩ => ⟨_, he, rfl, gt_below hb _⟩))
    case' rest40 => try simp only [Act.put, List.setIfInBounds_toArray, List.set_cons_zero, List.set_cons_succ]
    (rintro v4 x4 hS4 hg4 rfl; clear hs3)
    refine' dq_pure (by rfl) (by rfl) ?hv41 ?rest41
    case hv41 => (intro w hw; (try dsimp only at hw); go_split_ands; go_simp; try with_reducible rfl)
    case' rest41 => try simp only [Act.put, List.setIfInBounds_toArray, List.set_cons_zero, List.set_cons_succ]
    refine' dq_pure (by rfl) (by rfl) ?hv42 ?rest42
    case hv42 => (intro w hw; (try dsimp only at hw); go_split_ands; go_simp; try with_reducible rfl)
    case' rest42 => try simp only [Act.put, List.setIfInBounds_toArray, List.set_cons_zero, List.set_cons_succ]
    refine dq_nil ?_
    simp only [fa, List.drop_succ_cons, List.drop_zero]
    rintro W ⟨⟨hb0, hn0, ⟨B1, B1c, B1f, B1l⟩, ⟨B2, B2c, B2f, B2l⟩, ⟨B3, B3c, B3f, B3l⟩⟩, hgl⟩ hbs
    clear hbs
    (repeat' (first | go_values | go_skip | go_guarded | go_step | go_upon | (simp only [Int.not_lt, Int.not_le] at *; go_simp) | (go_values <;> (try go_simp)) | (go_ite <;> go_prune <;> (try go_simp)) | (split <;> (first | (rename_i hx; exact (hx _ rfl).elim) | go_prune))))
    refine bodyPost_ret (v := .tuple #[WE (cl z), .bool (fb z)]) ?_ rfl ⟨congrArg Ending.returned HR.out, by (repeat' (first | (with_reducible assumption) | (with_reducible exact Below.refl _ _) | (with_reducible refine Below.alloc ?_ ?_ _) | (with_reducible refine Below.setCell ?_ ?_ _) | (with_reducible refine Below.drew ?_) | (with_reducible refine below_more ?_ (by with_reducible assumption)) | go_size | omega | (with_reducible refine below_drewN ?_)))⟩
    simp [results, Try.results24, go_sem, B3c, B3f, B3l]
  · have T0 : (p == q) = false := beq_eq_false_iff_ne.2 hpq
    
    by_cases hle : m' ≤ m
    · have hz' := hz.trans (sv_sub hpq _ _)
      have mm : 0 ≤ m - m' := by omega
      have T : decide (0 ≤ cm m m') = true := dT ((cm_ge _ _).2 hle)
      have C := fun (W : World) (a0 : Option Addr) (len cap : Nat) (h : SlU W (.slice a0 len cap) (wl (m - m'))) => rwide_any p a0 len cap _ W h
      rw [VL_wl mm, ← hz'] at C
      clear hz hz' mm
      (repeat' (first | (go_big_may; (first | ((go_at_call 51; refine (CC _ _ _ _ _ _ _ hs1 hs2).mono ?_; rintro e w' ⟨rfl, hbw⟩; have N1 := Bx.of (HB.below (b := w.heap.size) (cs := #[.bool p, .int .u64 a, .int .u64 b, .int .u64 c, .int .u64 d]) (by (repeat' (first | (with_reducible assumption) | ((with_reducible refine HB.new _ _ _ ?_) <;> (go_size; done)) | (with_reducible refine HB.old (by go_size) ?_) | (with_reducible refine HB.drew ?_) | (with_reducible refine HB.over5 ?_) | (with_reducible refine HB.over4 ?_) | (with_reducible refine HB.setne (by first | go_size | (dsimp only; omega)) ?_) | (with_reducible refine HN.set ?_) | (with_reducible refine HN.setne (by first | go_size | (dsimp only; omega)) ?_) | (with_reducible refine HN.drew ?_) | (with_reducible refine HN.old (by go_size) ?_) | (with_reducible exact HN.of5 (by assumption)) | (with_reducible exact HN.new5 _ _ (by go_size)) | (with_reducible exact HN.of4 (by assumption)) | (with_reducible exact HN.new4 _ _ (by go_size))))) hbw); have N2 := Bx.of (HB.below (b := w.heap.size + 1) (cs := #[.bool q, .int .u64 a', .int .u64 b', .int .u64 c', .int .u64 d']) (by (repeat' (first | (with_reducible assumption) | ((with_reducible refine HB.new _ _ _ ?_) <;> (go_size; done)) | (with_reducible refine HB.old (by go_size) ?_) | (with_reducible refine HB.drew ?_) | (with_reducible refine HB.over5 ?_) | (with_reducible refine HB.over4 ?_) | (with_reducible refine HB.setne (by first | go_size | (dsimp only; omega)) ?_) | (with_reducible refine HN.set ?_) | (with_reducible refine HN.setne (by first | go_size | (dsimp only; omega)) ?_) | (with_reducible refine HN.drew ?_) | (with_reducible refine HN.old (by go_size) ?_) | (with_reducible exact HN.of5 (by assumption)) | (with_reducible exact HN.new5 _ _ (by go_size)) | (with_reducible exact HN.of4 (by assumption)) | (with_reducible exact HN.new4 _ _ (by go_size))))) hbw); have N3 := Bx.of (HB.below (b := w.heap.size + 1 + 1) (cs := #[.bool false, .int .u64 0, .int .u64 0, .int .u64 0, .int .u64 0]) (by (repeat' (first | (with_reducible assumption) | ((with_reducible refine HB.new _ _ _ ?_) <;> (go_size; done)) | (with_reducible refine HB.old (by go_size) ?_) | (with_reducible refine HB.drew ?_) | (with_reducible refine HB.over5 ?_) | (with_reducible refine HB.over4 ?_) | (with_reducible refine HB.setne (by first | go_size | (dsimp only; omega)) ?_) | (with_reducible refine HN.set ?_) | (with_reducible refine HN.setne (by first | go_size | (dsimp only; omega)) ?_) | (with_reducible refine HN.drew ?_) | (with_reducible refine HN.old (by go_size) ?_) | (with_reducible exact HN.of5 (by assumption)) | (with_reducible exact HN.new5 _ _ (by go_size)) | (with_reducible exact HN.of4 (by assumption)) | (with_reducible exact HN.new4 _ _ (by go_size))))) hbw); (try clear B1 B1c B1f B1l); (try clear B2 B2c B2f B2l); (try clear B3 B3c B3f B3l); obtain ⟨B1, B1c, B1f, B1l⟩ := N1; obtain ⟨B2, B2c, B2f, B2l⟩ := N2; obtain ⟨B3, B3c, B3f, B3l⟩ := N3; have hsz := hbw.size; (try simp only [World.size_alloc, World.size_setCell, World.size_drew] at hsz)); have hs1 := SlU.below hs1 hbw; have hs2 := SlU.below hs2 hbw))) | go_values | go_skip | go_guarded | go_step | go_upon | (simp only [Int.not_lt, Int.not_le] at *; go_simp) | (go_values <;> (try go_simp)) | (go_ite <;> go_prune <;> (try go_simp)) | (split <;> (first | (rename_i hx; exact (hx _ rfl).elim) | go_prune))))
      
      
      (refine wp_region_dq (row := none) (S := (fun Wz => Below w.heap.size w Wz ∧ w.heap.size + 3 ≤ Wz.heap.size ∧ Bx Wz (w.heap.size) (#[.bool p, .int .u64 a, .int .u64 b, .int .u64 c, .int .u64 d]) ∧ Bx Wz (w.heap.size + 1) (#[.bool q, .int .u64 a', .int .u64 b', .int .u64 c', .int .u64 d']) ∧ Bx Wz (w.heap.size + 1 + 1) (#[.bool false, .int .u64 0, .int .u64 0, .int .u64 0, .int .u64 0]))) (n0 := w.heap.size + 3) 8 [] [(0, 0), (1, 0), (2, 0), (3, 0), (4, 1), (5, 1), (6, 0), (7, 0)] [] (by kernel_rfl) (by kernel_rfl) (fun _ _ d _ _ h => by cases d <;> exact h) ⟨by (repeat' (first | (with_reducible assumption) | (with_reducible exact Below.refl _ _) | (with_reducible refine Below.alloc ?_ ?_ _) | (with_reducible refine Below.setCell ?_ ?_ _) | (with_reducible refine Below.drew ?_) | (with_reducible refine below_more ?_ (by with_reducible assumption)) | go_size | omega | (with_reducible refine below_drewN ?_))), (by first | go_size | omega), Bx.of (by (repeat' (first | (with_reducible assumption) | ((with_reducible refine HB.new _ _ _ ?_) <;> (go_size; done)) | (with_reducible refine HB.old (by go_size) ?_) | (with_reducible refine HB.drew ?_) | (with_reducible refine HB.over5 ?_) | (with_reducible refine HB.over4 ?_) | (with_reducible refine HB.setne (by first | go_size | (dsimp only; omega)) ?_) | (with_reducible refine HN.set ?_) | (with_reducible refine HN.setne (by first | go_size | (dsimp only; omega)) ?_) | (with_reducible refine HN.drew ?_) | (with_reducible refine HN.old (by go_size) ?_) | (with_reducible exact HN.of5 (by assumption)) | (with_reducible exact HN.new5 _ _ (by go_size)) | (with_reducible exact HN.of4 (by assumption)) | (with_reducible exact HN.new4 _ _ (by go_size))))), Bx.of (by (repeat' (first | (with_reducible assumption) | ((with_reducible refine HB.new _ _ _ ?_) <;> (go_size; done)) | (with_reducible refine HB.old (by go_size) ?_) | (with_reducible refine HB.drew ?_) | (with_reducible refine HB.over5 ?_) | (with_reducible refine HB.over4 ?_) | (with_reducible refine HB.setne (by first | go_size | (dsimp only; omega)) ?_) | (with_reducible refine HN.set ?_) | (with_reducible refine HN.setne (by first | go_size | (dsimp only; omega)) ?_) | (with_reducible refine HN.drew ?_) | (with_reducible refine HN.old (by go_size) ?_) | (with_reducible exact HN.of5 (by assumption)) | (with_reducible exact HN.new5 _ _ (by go_size)) | (with_reducible exact HN.of4 (by assumption)) | (with_reducible exact HN.new4 _ _ (by go_size))))), Bx.of (by (repeat' (first | (with_reducible assumption) | ((with_reducible refine HB.new _ _ _ ?_) <;> (go_size; done)) | (with_reducible refine HB.old (by go_size) ?_) | (with_reducible refine HB.drew ?_) | (with_reducible refine HB.over5 ?_) | (with_reducible refine HB.over4 ?_) | (with_reducible refine HB.setne (by first | go_size | (dsimp only; omega)) ?_) | (with_reducible refine HN.set ?_) | (with_reducible refine HN.setne (by first | go_size | (dsimp only; omega)) ?_) | (with_reducible refine HN.drew ?_) | (with_reducible refine HN.old (by go_size) ?_) | (with_reducible exact HN.of5 (by assumption)) | (with_reducible exact HN.new5 _ _ (by go_size)) | (with_reducible exact HN.of4 (by assumption)) | (with_reducible exact HN.new4 _ _ (by go_size)))))⟩ (fun _ _ h g => keep3 h (below_gt g) rfl) (fun _ h => h.2.1) (fun _ h => by cases h) (by simp) ?_)
      refine' dq_pure (by rfl) (by rfl) ?hv43 ?rest43
      case hv43 => (intro w hw; (try dsimp only at hw); go_split_ands; go_simp; try with_reducible rfl)
      case' rest43 => try simp only [Act.put, List.setIfInBounds_toArray, List.set_cons_zero, List.set_cons_succ]
      refine' dq_pure (by rfl) (by rfl) ?hv44 ?rest44
      case hv44 => (intro w hw; (try dsimp only at hw); go_split_ands; go_simp; try with_reducible rfl)
      case' rest44 => try simp only [Act.put, List.setIfInBounds_toArray, List.set_cons_zero, List.set_cons_succ]
      refine' dq_pure (by rfl) (by rfl) ?hv45 ?rest45
      case hv45 => (intro w hw; (try dsimp only at hw); go_split_ands; go_simp; try with_reducible rfl)
      case' rest45 => try simp only [Act.put, List.setIfInBounds_toArray, List.set_cons_zero, List.set_cons_succ]
      refine' dq_pure (by rfl) (by rfl) ?hv46 ?rest46
      case hv46 => (intro w hw; (try dsimp only at hw); go_split_ands; go_simp; try with_reducible rfl)
      case' rest46 => try simp only [Act.put, List.setIfInBounds_toArray, List.set_cons_zero, List.set_cons_succ]
      refine' dq_ask (R := fun v w' => SlU w' v (wl (m - m'))) (by rfl) (by rfl) ?hv47 ?hc47 ?rest47 (fun _ _ h g => keep3 h (below_gt g) rfl)
      case hv47 => (intro w; go_simp; exact ⟨rfl, rfl⟩)
      case hc47 => exact (fun wq hsq htq => mag_ask (rsub_any a1 a2 l1 c1 l2 c2 _ _ m2 hle (by have := hs1.len.1; omega) wq (hs1.drew.below (below_gt htq)) (hs2.drew.below (below_gt htq))))
      case' rest47 => try simp only [Act.put, List.setIfInBounds_toArray, List.set_cons_zero, List.set_cons_succ]
      (rintro v3 x3 hS3 hg3 hs3; clear hs1 hs2; have hs3' := hs3; obtain ⟨a3, l3, c3, rfl, -⟩ := hs3')
      refine' dq_ask (R := fun v _ => v = .tuple #[WE (cl z), .bool (fb z)]) (by rfl) (by rfl) ?hv48 ?hc48 ?rest48 (fun _ _ h g => keep3 h (below_gt g) rfl)
      case hv48 => (intro w; go_simp; exact ⟨rfl, rfl⟩)
      case hc48 => exact (fun wq hsq htq => (C _ a3 l3 c3 (hs3.below (below_gt htq))).mono (fun e w' ⟨he, hb⟩ => ⟨_, he, rfl, gt_below hb _⟩))
      case' rest48 => try simp only [Act.put, List.setIfInBounds_toArray, List.set_cons_zero, List.set_cons_succ]
      (rintro v4 x4 hS4 hg4 rfl; clear hs3)
      refine' dq_pure (by rfl) (by rfl) ?hv49 ?rest49
      case hv49 => (intro w hw; (try dsimp only at hw); go_split_ands; go_simp; try with_reducible rfl)
      case' rest49 => try simp only [Act.put, List.setIfInBounds_toArray, List.set_cons_zero, List.set_cons_succ]
      refine' dq_pure (by rfl) (by rfl) ?hv50 ?rest50
      case hv50 => (intro w hw; (try dsimp only at hw); go_split_ands; go_simp; try with_reducible rfl)
      case' rest50 => try simp only [Act.put, List.setIfInBounds_toArray, List.set_cons_zero, List.set_cons_succ]
      refine dq_nil ?_
      simp only [fa, List.drop_succ_cons, List.drop_zero]
      rintro W ⟨⟨hb0, hn0, ⟨B1, B1c, B1f, B1l⟩, ⟨B2, B2c, B2f, B2l⟩, ⟨B3, B3c, B3f, B3l⟩⟩, hgl⟩ hbs
      clear hbs
      (repeat' (first | go_values | go_skip | go_guarded | go_step | go_upon | (simp only [Int.not_lt, Int.not_le] at *; go_simp) | (go_values <;> (try go_simp)) | (go_ite <;> go_prune <;> (try go_simp)) | (split <;> (first | (rename_i hx; exact (hx _ rfl).elim) | go_prune))))
      refine bodyPost_ret (v := .tuple #[WE (cl z), .bool (fb z)]) ?_ rfl ⟨congrArg Ending.returned HR.out, by (repeat' (first | (with_reducible assumption) | (with_reducible exact Below.refl _ _) | (with_reducible refine Below.alloc ?_ ?_ _) | (with_reducible refine Below.setCell ?_ ?_ _) | (with_reducible refine Below.drew ?_) | (with_reducible refine below_more ?_ (by with_reducible assumption)) | go_size | omega | (with_reducible refine below_drewN ?_)))⟩
      simp [results, Try.results24, go_sem, B3c, B3f, B3l]
    · have hz' := hz.trans (sv_sub' hpq _ _)
      have mm : 0 ≤ m' - m := by omega
      have T : decide (0 ≤ cm m m') = false := dF (fun h => hle ((cm_ge _ _).1 h))
      have C := fun (W : World) (a0 : Option Addr) (len cap : Nat) (h : SlU W (.slice a0 len cap) (wl (m' - m))) => rwide_any q a0 len cap _ W h
      rw [VL_wl mm, ← hz'] at C
      clear hz hz' mm
      (repeat' (first | (go_big_may; (first | ((go_at_call 51; refine (CC _ _ _ _ _ _ _ hs1 hs2).mono ?_; rintro e w' ⟨rfl, hbw⟩; have N1 := Bx.of (HB.below (b := w.heap.size) (cs := #[.bool p, .int .u64 a, .int .u64 b, .int .u64 c, .int .u64 d]) (by (repeat' (first | (with_reducible assumption) | ((with_reducible refine HB.new _ _ _ ?_) <;> (go_size; done)) | (with_reducible refine HB.old (by go_size) ?_) | (with_reducible refine HB.drew ?_) | (with_reducible refine HB.over5 ?_) | (with_reducible refine HB.over4 ?_) | (with_reducible refine HB.setne (by first | go_size | (dsimp only; omega)) ?_) | (with_reducible refine HN.set ?_) | (with_reducible refine HN.setne (by first | go_size | (dsimp only; omega)) ?_) | (with_reducible refine HN.drew ?_) | (with_reducible refine HN.old (by go_size) ?_) | (with_reducible exact HN.of5 (by assumption)) | (with_reducible exact HN.new5 _ _ (by go_size)) | (with_reducible exact HN.of4 (by assumption)) | (with_reducible exact HN.new4 _ _ (by go_size))))) hbw); have N2 := Bx.of (HB.below (b := w.heap.size + 1) (cs := #[.bool q, .int .u64 a', .int .u64 b', .int .u64 c', .int .u64 d']) (by (repeat' (first | (with_reducible assumption) | ((with_reducible refine HB.new _ _ _ ?_) <;> (go_size; done)) | (with_reducible refine HB.old (by go_size) ?_) | (with_reducible refine HB.drew ?_) | (with_reducible refine HB.over5 ?_) | (with_reducible refine HB.over4 ?_) | (with_reducible refine HB.setne (by first | go_size | (dsimp only; omega)) ?_) | (with_reducible refine HN.set ?_) | (with_reducible refine HN.setne (by first | go_size | (dsimp only; omega)) ?_) | (with_reducible refine HN.drew ?_) | (with_reducible refine HN.old (by go_size) ?_) | (with_reducible exact HN.of5 (by assumption)) | (with_reducible exact HN.new5 _ _ (by go_size)) | (with_reducible exact HN.of4 (by assumption)) | (with_reducible exact HN.new4 _ _ (by go_size))))) hbw); have N3 := Bx.of (HB.below (b := w.heap.size + 1 + 1) (cs := #[.bool false, .int .u64 0, .int .u64 0, .int .u64 0, .int .u64 0]) (by (repeat' (first | (with_reducible assumption) | ((with_reducible refine HB.new _ _ _ ?_) <;> (go_size; done)) | (with_reducible refine HB.old (by go_size) ?_) | (with_reducible refine HB.drew ?_) | (with_reducible refine HB.over5 ?_) | (with_reducible refine HB.over4 ?_) | (with_reducible refine HB.setne (by first | go_size | (dsimp only; omega)) ?_) | (with_reducible refine HN.set ?_) | (with_reducible refine HN.setne (by first | go_size | (dsimp only; omega)) ?_) | (with_reducible refine HN.drew ?_) | (with_reducible refine HN.old (by go_size) ?_) | (with_reducible exact HN.of5 (by assumption)) | (with_reducible exact HN.new5 _ _ (by go_size)) | (with_reducible exact HN.of4 (by assumption)) | (with_reducible exact HN.new4 _ _ (by go_size))))) hbw); (try clear B1 B1c B1f B1l); (try clear B2 B2c B2f B2l); (try clear B3 B3c B3f B3l); obtain ⟨B1, B1c, B1f, B1l⟩ := N1; obtain ⟨B2, B2c, B2f, B2l⟩ := N2; obtain ⟨B3, B3c, B3f, B3l⟩ := N3; have hsz := hbw.size; (try simp only [World.size_alloc, World.size_setCell, World.size_drew] at hsz)); have hs1 := SlU.below hs1 hbw; have hs2 := SlU.below hs2 hbw))) | go_values | go_skip | go_guarded | go_step | go_upon | (simp only [Int.not_lt, Int.not_le] at *; go_simp) | (go_values <;> (try go_simp)) | (go_ite <;> go_prune <;> (try go_simp)) | (split <;> (first | (rename_i hx; exact (hx _ rfl).elim) | go_prune))))
      
      
      (refine wp_region_dq (row := none) (S := (fun Wz => Below w.heap.size w Wz ∧ w.heap.size + 3 ≤ Wz.heap.size ∧ Bx Wz (w.heap.size) (#[.bool p, .int .u64 a, .int .u64 b, .int .u64 c, .int .u64 d]) ∧ Bx Wz (w.heap.size + 1) (#[.bool q, .int .u64 a', .int .u64 b', .int .u64 c', .int .u64 d']) ∧ Bx Wz (w.heap.size + 1 + 1) (#[.bool false, .int .u64 0, .int .u64 0, .int .u64 0, .int .u64 0]))) (n0 := w.heap.size + 3) 8 [] [(0, 0), (1, 0), (2, 0), (3, 0), (4, 1), (5, 1), (6, 0), (7, 0)] [] (by kernel_rfl) (by kernel_rfl) (fun _ _ d _ _ h => by cases d <;> exact h) ⟨by (repeat' (first | (with_reducible assumption) | (with_reducible exact Below.refl _ _) | (with_reducible refine Below.alloc ?_ ?_ _) | (with_reducible refine Below.setCell ?_ ?_ _) | (with_reducible refine Below.drew ?_) | (with_reducible refine below_more ?_ (by with_reducible assumption)) | go_size | omega | (with_reducible refine below_drewN ?_))), (by first | go_size | omega), Bx.of (by (repeat' (first | (with_reducible assumption) | ((with_reducible refine HB.new _ _ _ ?_) <;> (go_size; done)) | (with_reducible refine HB.old (by go_size) ?_) | (with_reducible refine HB.drew ?_) | (with_reducible refine HB.over5 ?_) | (with_reducible refine HB.over4 ?_) | (with_reducible refine HB.setne (by first | go_size | (dsimp only; omega)) ?_) | (with_reducible refine HN.set ?_) | (with_reducible refine HN.setne (by first | go_size | (dsimp only; omega)) ?_) | (with_reducible refine HN.drew ?_) | (with_reducible refine HN.old (by go_size) ?_) | (with_reducible exact HN.of5 (by assumption)) | (with_reducible exact HN.new5 _ _ (by go_size)) | (with_reducible exact HN.of4 (by assumption)) | (with_reducible exact HN.new4 _ _ (by go_size))))), Bx.of (by (repeat' (first | (with_reducible assumption) | ((with_reducible refine HB.new _ _ _ ?_) <;> (go_size; done)) | (with_reducible refine HB.old (by go_size) ?_) | (with_reducible refine HB.drew ?_) | (with_reducible refine HB.over5 ?_) | (with_reducible refine HB.over4 ?_) | (with_reducible refine HB.setne (by first | go_size | (dsimp only; omega)) ?_) | (with_reducible refine HN.set ?_) | (with_reducible refine HN.setne (by first | go_size | (dsimp only; omega)) ?_) | (with_reducible refine HN.drew ?_) | (with_reducible refine HN.old (by go_size) ?_) | (with_reducible exact HN.of5 (by assumption)) | (with_reducible exact HN.new5 _ _ (by go_size)) | (with_reducible exact HN.of4 (by assumption)) | (with_reducible exact HN.new4 _ _ (by go_size))))), Bx.of (by (repeat' (first | (with_reducible assumption) | ((with_reducible refine HB.new _ _ _ ?_) <;> (go_size; done)) | (with_reducible refine HB.old (by go_size) ?_) | (with_reducible refine HB.drew ?_) | (with_reducible refine HB.over5 ?_) | (with_reducible refine HB.over4 ?_) | (with_reducible refine HB.setne (by first | go_size | (dsimp only; omega)) ?_) | (with_reducible refine HN.set ?_) | (with_reducible refine HN.setne (by first | go_size | (dsimp only; omega)) ?_) | (with_reducible refine HN.drew ?_) | (with_reducible refine HN.old (by go_size) ?_) | (with_reducible exact HN.of5 (by assumption)) | (with_reducible exact HN.new5 _ _ (by go_size)) | (with_reducible exact HN.of4 (by assumption)) | (with_reducible exact HN.new4 _ _ (by go_size)))))⟩ (fun _ _ h g => keep3 h (below_gt g) rfl) (fun _ h => h.2.1) (fun _ h => by cases h) (by simp) ?_)
      refine' dq_pure (by rfl) (by rfl) ?hv51 ?rest51
      case hv51 => (intro w hw; (try dsimp only at hw); go_split_ands; go_simp; try with_reducible rfl)
      case' rest51 => try simp only [Act.put, List.setIfInBounds_toArray, List.set_cons_zero, List.set_cons_succ]
      refine' dq_pure (by rfl) (by rfl) ?hv52 ?rest52
      case hv52 => (intro w hw; (try dsimp only at hw); go_split_ands; go_simp; try with_reducible rfl)
      case' rest52 => try simp only [Act.put, List.setIfInBounds_toArray, List.set_cons_zero, List.set_cons_succ]
      refine' dq_pure (by rfl) (by rfl) ?hv53 ?rest53
      case hv53 => (intro w hw; (try dsimp only at hw); go_split_ands; go_simp; try with_reducible rfl)
      case' rest53 => try simp only [Act.put, List.setIfInBounds_toArray, List.set_cons_zero, List.set_cons_succ]
      refine' dq_pure (by rfl) (by rfl) ?hv54 ?rest54
      case hv54 => (intro w hw; (try dsimp only at hw); go_split_ands; go_simp; try with_reducible rfl)
      case' rest54 => try simp only [Act.put, List.setIfInBounds_toArray, List.set_cons_zero, List.set_cons_succ]
      refine' dq_ask (R := fun v w' => SlU w' v (wl (m' - m))) (by rfl) (by rfl) ?hv55 ?hc55 ?rest55 (fun _ _ h g => keep3 h (below_gt g) rfl)
      case hv55 => (intro w; go_simp; exact ⟨rfl, rfl⟩)
      case hc55 => exact (fun wq hsq htq => mag_ask (rsub_any a2 a1 l2 c2 l1 c1 _ _ m1 (by omega) (by have := hs2.len.1; omega) wq (hs2.drew.below (below_gt htq)) (hs1.drew.below (below_gt htq))))
      case' rest55 => try simp only [Act.put, List.setIfInBounds_toArray, List.set_cons_zero, List.set_cons_succ]
      (rintro v3 x3 hS3 hg3 hs3; clear hs1 hs2; have hs3' := hs3; obtain ⟨a3, l3, c3, rfl, -⟩ := hs3')
      refine' dq_ask (R := fun v _ => v = .tuple #[WE (cl z), .bool (fb z)]) (by rfl) (by rfl) ?hv56 ?hc56 ?rest56 (fun _ _ h g => keep3 h (below_gt g) rfl)
      case hv56 => (intro w; go_simp; exact ⟨rfl, rfl⟩)
      case hc56 => exact (fun wq hsq htq => (C _ a3 l3 c3 (hs3.below (below_gt htq))).mono (fun e w' ⟨he, hb⟩ => ⟨_, he, rfl, gt_below hb _⟩))
      case' rest56 => try simp only [Act.put, List.setIfInBounds_toArray, List.set_cons_zero, List.set_cons_succ]
      (rintro v4 x4 hS4 hg4 rfl; clear hs3)
      refine' dq_pure (by rfl) (by rfl) ?hv57 ?rest57
      case hv57 => (intro w hw; (try dsimp only at hw); go_split_ands; go_simp; try with_reducible rfl)
      case' rest57 => try simp only [Act.put, List.setIfInBounds_toArray, List.set_cons_zero, List.set_cons_succ]
      refine' dq_pure (by rfl) (by rfl) ?hv58 ?rest58
      case hv58 => (intro w hw; (try dsimp only at hw); go_split_ands; go_simp; try with_reducible rfl)
      case' rest58 => try simp only [Act.put, List.setIfInBounds_toArray, List.set_cons_zero, List.set_cons_succ]
      refine dq_nil ?_
      simp only [fa, List.drop_succ_cons, List.drop_zero]
      rintro W ⟨⟨hb0, hn0, ⟨B1, B1c, B1f, B1l⟩, ⟨B2, B2c, B2f, B2l⟩, ⟨B3, B3c, B3f, B3l⟩⟩, hgl⟩ hbs
      clear hbs
      (repeat' (first | go_values | go_skip | go_guarded | go_step | go_upon | (simp only [Int.not_lt, Int.not_le] at *; go_simp) | (go_values <;> (try go_simp)) | (go_ite <;> go_prune <;> (try go_simp)) | (split <;> (first | (rename_i hx; exact (hx _ rfl).elim) | go_prune))))
      refine bodyPost_ret (v := .tuple #[WE (cl z), .bool (fb z)]) ?_ rfl ⟨congrArg Ending.returned HR.out, by (repeat' (first | (with_reducible assumption) | (with_reducible exact Below.refl _ _) | (with_reducible refine Below.alloc ?_ ?_ _) | (with_reducible refine Below.setCell ?_ ?_ _) | (with_reducible refine Below.drew ?_) | (with_reducible refine below_more ?_ (by with_reducible assumption)) | go_size | omega | (with_reducible refine below_drewN ?_)))⟩
      simp [results, Try.results24, go_sem, B3c, B3f, B3l]
end Go.Proofs.Ythcboomdkpiflaa

/- WideD: wide and its reference: differences. -/
namespace Go.Proofs.Ythcboomdkpiflaa
open Go.ChangeShapes Go.WideShapes Go.ChangeAt Go.RowKit
set_option linter.unusedVariables false
set_option linter.unusedSimpArgs false
/-- The value v is a Wide that counts as z. -/
def IsW (v : Value) (z : Int) : Prop := ∃ n a b c d, v = WV n a b c d ∧ z = wv n a b c d ∧ U64 a ∧ U64 b ∧ U64 c ∧ U64 d
theorem IsW.raw {n : Bool} {a b c d : Int} (ha : U64 a) (hb : U64 b) (hc : U64 c) (hd : U64 d) : IsW (WV n a b c d) (wv n a b c d) := ⟨n, a, b, c, d, rfl, rfl, ha, hb, hc, hd⟩
theorem IsW.we {z : Int} (h : Fits z) : IsW (WE z) z := ⟨_, _, _, _, _, rfl, (wv_we h).symm, lb0_in _, lb1_in _, lb2_in _, lb3_in _⟩
theorem add_w {v v' : Value} {z z' : Int} (h : IsW v z) (h' : IsW v' z') (w : World) : Calls Try.prog 76 #[v, v'] w fun e w' => e = .returned (.tuple #[WE (cl (z + z')), .bool (fb (z + z'))]) ∧ Below w.heap.size w w' := by
  obtain ⟨n, a, b, c, d, rfl, rfl, ha, hb, hc, hd⟩ := h
  obtain ⟨n', a', b', c', d', rfl, rfl, ha', hb', hc', hd'⟩ := h'
  exact add_any n a b c d n' a' b' c' d' ha hb hc hd ha' hb' hc' hd' w
theorem mul_w {v v' : Value} {z z' : Int} (h : IsW v z) (h' : IsW v' z') (w : World) : Calls Try.prog 63 #[v, v'] w fun e w' => e = .returned (.tuple #[WE (cl (z * z')), .bool (fb (z * z'))]) ∧ Below w.heap.size w w' := by
  obtain ⟨n, a, b, c, d, rfl, rfl, ha, hb, hc, hd⟩ := h
  obtain ⟨n', a', b', c', d', rfl, rfl, ha', hb', hc', hd'⟩ := h'
  exact mul_any n a b c d n' a' b' c' d' ha hb hc hd ha' hb' hc' hd' w
theorem neg_w {v : Value} {z : Int} (h : IsW v z) (w : World) : Calls Try.prog 77 #[v] w fun e w' => e = .returned (WE (-z)) ∧ Below w.heap.size w w' := by
  obtain ⟨n, a, b, c, d, rfl, rfl, ha, hb, hc, hd⟩ := h
  exact neg_any n a b c d ha hb hc hd w
theorem radd_w {v v' : Value} {z z' : Int} (h : IsW v z) (h' : IsW v' z') (w : World) : Calls Try.prog 24 #[v, v'] w fun e w' => e = .returned (.tuple #[WE (cl (z + z')), .bool (fb (z + z'))]) ∧ Below w.heap.size w w' := by
  obtain ⟨n, a, b, c, d, rfl, rfl, ha, hb, hc, hd⟩ := h
  obtain ⟨n', a', b', c', d', rfl, rfl, ha', hb', hc', hd'⟩ := h'
  exact radd2_any n a b c d n' a' b' c' d' ha hb hc hd ha' hb' hc' hd' w
theorem rmul_w {v v' : Value} {z z' : Int} (h : IsW v z) (h' : IsW v' z') (w : World) : Calls Try.prog 23 #[v, v'] w fun e w' => e = .returned (.tuple #[WE (cl (z * z')), .bool (fb (z * z'))]) ∧ Below w.heap.size w w' := by
  obtain ⟨n, a, b, c, d, rfl, rfl, ha, hb, hc, hd⟩ := h
  obtain ⟨n', a', b', c', d', rfl, rfl, ha', hb', hc', hd'⟩ := h'
  exact rmul2_any n a b c d n' a' b' c' d' ha hb hc hd ha' hb' hc' hd' w
theorem rneg_w {v : Value} {z : Int} (h : IsW v z) (w : World) : Calls Try.prog 37 #[v] w fun e w' => e = .returned (WE (-z)) ∧ Below w.heap.size w w' := by
  obtain ⟨n, a, b, c, d, rfl, rfl, ha, hb, hc, hd⟩ := h
  exact rneg_any n a b c d ha hb hc hd w
theorem fits_wv_neg {n : Bool} {a b c d : Int} (ha : U64 a) (hb : U64 b) (hc : U64 c) (hd : U64 d) : Fits (-wv n a b c d) := by
  have m1 := mv_nonneg ha hb hc hd
  have e1 : sv (!n) (MV a b c d) = -wv n a b c d := by unfold sv wv; cases n <;> simp
  rw [← e1]; exact (fits_sv m1).2 (mv_up4 ha hb hc hd)
set_option maxRecDepth 100000 in
theorem sub_w {v v' : Value} {z z' : Int} (h : IsW v z) (h' : IsW v' z') (w : World) : Calls Try.prog 62 #[v, v'] w fun e w' => e = .returned (.tuple #[WE (cl (z - z')), .bool (fb (z - z'))]) ∧ Below w.heap.size w w' := by
  obtain ⟨n, a, b, c, d, rfl, hz, ha, hb, hc, hd⟩ := h
  obtain ⟨n', a', b', c', d', rfl, hz', ha', hb', hc', hd'⟩ := h'
  have f1 : Fits (-z') := hz' ▸ fits_wv_neg ha' hb' hc' hd'
  have CN := fun W => neg_w (hz' ▸ IsW.raw (n := n') ha' hb' hc' hd' : IsW (WV n' a' b' c' d') z') W
  have CA := fun W => add_w (hz ▸ IsW.raw (n := n) ha hb hc hd : IsW (WV n a b c d) z) (IsW.we f1) W
  rw [← Int.sub_eq_add_neg] at CA
  clear f1 hz hz' ha hb hc hd ha' hb' hc' hd'
  generalize -z' = zn at *
  generalize z - z' = zd at *
  generalize hR : Value.tuple #[WE (cl zd), .bool (fb zd)] = R
  have HR := hid hR
  clear hR
  go_enter Try.func62, Try.ntmps62
  go_wp2_with fail
  
  
  (refine wp_region_dq (row := none) (S := (fun Wz => Below w.heap.size w Wz ∧ w.heap.size + 3 ≤ Wz.heap.size ∧ Bx Wz (w.heap.size) (#[.bool n, .int .u64 a, .int .u64 b, .int .u64 c, .int .u64 d]) ∧ Bx Wz (w.heap.size + 1) (#[.bool n', .int .u64 a', .int .u64 b', .int .u64 c', .int .u64 d']) ∧ Bx Wz (w.heap.size + 1 + 1) (#[.bool false, .int .u64 0, .int .u64 0, .int .u64 0, .int .u64 0]))) (n0 := w.heap.size + 3) 6 [] [(0, 0), (1, 0), (2, 0), (3, 0), (4, 0), (5, 0)] [] (by kernel_rfl) (by kernel_rfl) (fun _ _ d _ _ h => by cases d <;> exact h) ⟨by (repeat' (first | (with_reducible assumption) | (with_reducible exact Below.refl _ _) | (with_reducible refine Below.alloc ?_ ?_ _) | (with_reducible refine Below.setCell ?_ ?_ _) | (with_reducible refine Below.drew ?_) | (with_reducible refine below_more ?_ (by with_reducible assumption)) | go_size | omega | (with_reducible refine below_drewN ?_))), (by first | go_size | omega), Bx.of (by (repeat' (first | (with_reducible assumption) | ((with_reducible refine HB.new _ _ _ ?_) <;> (go_size; done)) | (with_reducible refine HB.old (by go_size) ?_) | (with_reducible refine HB.drew ?_) | (with_reducible refine HB.over5 ?_) | (with_reducible refine HB.over4 ?_) | (with_reducible refine HB.setne (by first | go_size | (dsimp only; omega)) ?_) | (with_reducible refine HN.set ?_) | (with_reducible refine HN.setne (by first | go_size | (dsimp only; omega)) ?_) | (with_reducible refine HN.drew ?_) | (with_reducible refine HN.old (by go_size) ?_) | (with_reducible exact HN.of5 (by assumption)) | (with_reducible exact HN.new5 _ _ (by go_size)) | (with_reducible exact HN.of4 (by assumption)) | (with_reducible exact HN.new4 _ _ (by go_size))))), Bx.of (by (repeat' (first | (with_reducible assumption) | ((with_reducible refine HB.new _ _ _ ?_) <;> (go_size; done)) | (with_reducible refine HB.old (by go_size) ?_) | (with_reducible refine HB.drew ?_) | (with_reducible refine HB.over5 ?_) | (with_reducible refine HB.over4 ?_) | (with_reducible refine HB.setne (by first | go_size | (dsimp only; omega)) ?_) | (with_reducible refine HN.set ?_) | (with_reducible refine HN.setne (by first | go_size | (dsimp only; omega)) ?_) | (with_reducible refine HN.drew ?_) | (with_reducible refine HN.old (by go_size) ?_) | (with_reducible exact HN.of5 (by assumption)) | (with_reducible exact HN.new5 _ _ (by go_size)) | (with_reducible exact HN.of4 (by assumption)) | (with_reducible exact HN.new4 _ _ (by go_size))))), Bx.of (by (repeat' (first | (with_reducible assumption) | ((with_reducible refine HB.new _ _ _ ?_) <;> (go_size; done)) | (with_reducible refine HB.old (by go_size) ?_) | (with_reducible refine HB.drew ?_) | (with_reducible refine HB.over5 ?_) | (with_reducible refine HB.over4 ?_) | (with_reducible refine HB.setne (by first | go_size | (dsimp only; omega)) ?_) | (with_reducible refine HN.set ?_) | (with_reducible refine HN.setne (by first | go_size | (dsimp only; omega)) ?_) | (with_reducible refine HN.drew ?_) | (with_reducible refine HN.old (by go_size) ?_) | (with_reducible exact HN.of5 (by assumption)) | (with_reducible exact HN.new5 _ _ (by go_size)) | (with_reducible exact HN.of4 (by assumption)) | (with_reducible exact HN.new4 _ _ (by go_size)))))⟩ (fun _ _ h g => keep3 h (below_gt g) rfl) (fun _ h => h.2.1) (fun _ h => by cases h) (by simp) ?_)
  refine' dq_pure (by rfl) (by rfl) ?hv1 ?rest1
  case hv1 => (intro w hw; (try dsimp only at hw); go_split_ands; go_simp; try with_reducible rfl)
  case' rest1 => try simp only [Act.put, List.setIfInBounds_toArray, List.set_cons_zero, List.set_cons_succ]
  refine' dq_pure (by rfl) (by rfl) ?hv2 ?rest2
  case hv2 => (intro w hw; (try dsimp only at hw); go_split_ands; go_simp; try with_reducible rfl)
  case' rest2 => try simp only [Act.put, List.setIfInBounds_toArray, List.set_cons_zero, List.set_cons_succ]
  refine' dq_call (by rfl) (by rfl) ?hv3 ?hc3 ?rest3
  case hv3 => (intro w; go_simp; exact ⟨rfl, rfl⟩)
  case hc3 => exact (fun w hw => calls_gt (CN _))
  case' rest3 => try simp only [Act.put, List.setIfInBounds_toArray, List.set_cons_zero, List.set_cons_succ]
  refine' dq_call (by rfl) (by rfl) ?hv4 ?hc4 ?rest4
  case hv4 => (intro w; go_simp; exact ⟨rfl, rfl⟩)
  case hc4 => exact (fun w hw => calls_gt (CA _))
  case' rest4 => try simp only [Act.put, List.setIfInBounds_toArray, List.set_cons_zero, List.set_cons_succ]
  refine' dq_pure (by rfl) (by rfl) ?hv5 ?rest5
  case hv5 => (intro w hw; (try dsimp only at hw); go_split_ands; go_simp; try with_reducible rfl)
  case' rest5 => try simp only [Act.put, List.setIfInBounds_toArray, List.set_cons_zero, List.set_cons_succ]
  refine' dq_pure (by rfl) (by rfl) ?hv6 ?rest6
  case hv6 => (intro w hw; (try dsimp only at hw); go_split_ands; go_simp; try with_reducible rfl)
  case' rest6 => try simp only [Act.put, List.setIfInBounds_toArray, List.set_cons_zero, List.set_cons_succ]
  refine dq_nil ?_
  simp only [fa, List.drop_succ_cons, List.drop_zero]
  rintro W ⟨⟨hb0, hn0, ⟨B1, B1c, B1f, B1l⟩, ⟨B2, B2c, B2f, B2l⟩, ⟨B3, B3c, B3f, B3l⟩⟩, hgl⟩ hbs
  clear hbs hgl
  (repeat' (first | go_values | go_skip | go_guarded | go_step | go_upon | (simp only [Int.not_lt, Int.not_le] at *; go_simp) | (go_values <;> (try go_simp)) | (go_ite <;> go_prune <;> (try go_simp)) | (split <;> (first | (rename_i hx; exact (hx _ rfl).elim) | go_prune))))
  refine bodyPost_ret (v := .tuple #[WE (cl zd), .bool (fb zd)]) ?_ rfl ⟨congrArg Ending.returned HR.out, by (repeat' (first | (with_reducible assumption) | (with_reducible exact Below.refl _ _) | (with_reducible refine Below.alloc ?_ ?_ _) | (with_reducible refine Below.setCell ?_ ?_ _) | (with_reducible refine Below.drew ?_) | (with_reducible refine below_more ?_ (by with_reducible assumption)) | go_size | omega | (with_reducible refine below_drewN ?_)))⟩
  simp [results, Try.results62, go_sem, B3c, B3f, B3l]
set_option maxRecDepth 100000 in
theorem rsub_w {v v' : Value} {z z' : Int} (h : IsW v z) (h' : IsW v' z') (w : World) : Calls Try.prog 25 #[v, v'] w fun e w' => e = .returned (.tuple #[WE (cl (z - z')), .bool (fb (z - z'))]) ∧ Below w.heap.size w w' := by
  obtain ⟨n, a, b, c, d, rfl, hz, ha, hb, hc, hd⟩ := h
  obtain ⟨n', a', b', c', d', rfl, hz', ha', hb', hc', hd'⟩ := h'
  have f1 : Fits (-z') := hz' ▸ fits_wv_neg ha' hb' hc' hd'
  have CN := fun W => rneg_w (hz' ▸ IsW.raw (n := n') ha' hb' hc' hd' : IsW (WV n' a' b' c' d') z') W
  have CA := fun W => radd_w (hz ▸ IsW.raw (n := n) ha hb hc hd : IsW (WV n a b c d) z) (IsW.we f1) W
  rw [← Int.sub_eq_add_neg] at CA
  clear f1 hz hz' ha hb hc hd ha' hb' hc' hd'
  generalize -z' = zn at *
  generalize z - z' = zd at *
  generalize hR : Value.tuple #[WE (cl zd), .bool (fb zd)] = R
  have HR := hid hR
  clear hR
  go_enter Try.func25, Try.ntmps25
  go_wp2_with fail
  
  
  (refine wp_region_dq (row := none) (S := (fun Wz => Below w.heap.size w Wz ∧ w.heap.size + 3 ≤ Wz.heap.size ∧ Bx Wz (w.heap.size) (#[.bool n, .int .u64 a, .int .u64 b, .int .u64 c, .int .u64 d]) ∧ Bx Wz (w.heap.size + 1) (#[.bool n', .int .u64 a', .int .u64 b', .int .u64 c', .int .u64 d']) ∧ Bx Wz (w.heap.size + 1 + 1) (#[.bool false, .int .u64 0, .int .u64 0, .int .u64 0, .int .u64 0]))) (n0 := w.heap.size + 3) 6 [] [(0, 0), (1, 0), (2, 0), (3, 0), (4, 0), (5, 0)] [] (by kernel_rfl) (by kernel_rfl) (fun _ _ d _ _ h => by cases d <;> exact h) ⟨by (repeat' (first | (with_reducible assumption) | (with_reducible exact Below.refl _ _) | (with_reducible refine Below.alloc ?_ ?_ _) | (with_reducible refine Below.setCell ?_ ?_ _) | (with_reducible refine Below.drew ?_) | (with_reducible refine below_more ?_ (by with_reducible assumption)) | go_size | omega | (with_reducible refine below_drewN ?_))), (by first | go_size | omega), Bx.of (by (repeat' (first | (with_reducible assumption) | ((with_reducible refine HB.new _ _ _ ?_) <;> (go_size; done)) | (with_reducible refine HB.old (by go_size) ?_) | (with_reducible refine HB.drew ?_) | (with_reducible refine HB.over5 ?_) | (with_reducible refine HB.over4 ?_) | (with_reducible refine HB.setne (by first | go_size | (dsimp only; omega)) ?_) | (with_reducible refine HN.set ?_) | (with_reducible refine HN.setne (by first | go_size | (dsimp only; omega)) ?_) | (with_reducible refine HN.drew ?_) | (with_reducible refine HN.old (by go_size) ?_) | (with_reducible exact HN.of5 (by assumption)) | (with_reducible exact HN.new5 _ _ (by go_size)) | (with_reducible exact HN.of4 (by assumption)) | (with_reducible exact HN.new4 _ _ (by go_size))))), Bx.of (by (repeat' (first | (with_reducible assumption) | ((with_reducible refine HB.new _ _ _ ?_) <;> (go_size; done)) | (with_reducible refine HB.old (by go_size) ?_) | (with_reducible refine HB.drew ?_) | (with_reducible refine HB.over5 ?_) | (with_reducible refine HB.over4 ?_) | (with_reducible refine HB.setne (by first | go_size | (dsimp only; omega)) ?_) | (with_reducible refine HN.set ?_) | (with_reducible refine HN.setne (by first | go_size | (dsimp only; omega)) ?_) | (with_reducible refine HN.drew ?_) | (with_reducible refine HN.old (by go_size) ?_) | (with_reducible exact HN.of5 (by assumption)) | (with_reducible exact HN.new5 _ _ (by go_size)) | (with_reducible exact HN.of4 (by assumption)) | (with_reducible exact HN.new4 _ _ (by go_size))))), Bx.of (by (repeat' (first | (with_reducible assumption) | ((with_reducible refine HB.new _ _ _ ?_) <;> (go_size; done)) | (with_reducible refine HB.old (by go_size) ?_) | (with_reducible refine HB.drew ?_) | (with_reducible refine HB.over5 ?_) | (with_reducible refine HB.over4 ?_) | (with_reducible refine HB.setne (by first | go_size | (dsimp only; omega)) ?_) | (with_reducible refine HN.set ?_) | (with_reducible refine HN.setne (by first | go_size | (dsimp only; omega)) ?_) | (with_reducible refine HN.drew ?_) | (with_reducible refine HN.old (by go_size) ?_) | (with_reducible exact HN.of5 (by assumption)) | (with_reducible exact HN.new5 _ _ (by go_size)) | (with_reducible exact HN.of4 (by assumption)) | (with_reducible exact HN.new4 _ _ (by go_size)))))⟩ (fun _ _ h g => keep3 h (below_gt g) rfl) (fun _ h => h.2.1) (fun _ h => by cases h) (by simp) ?_)
  refine' dq_pure (by rfl) (by rfl) ?hv7 ?rest7
  case hv7 => (intro w hw; (try dsimp only at hw); go_split_ands; go_simp; try with_reducible rfl)
  case' rest7 => try simp only [Act.put, List.setIfInBounds_toArray, List.set_cons_zero, List.set_cons_succ]
  refine' dq_pure (by rfl) (by rfl) ?hv8 ?rest8
  case hv8 => (intro w hw; (try dsimp only at hw); go_split_ands; go_simp; try with_reducible rfl)
  case' rest8 => try simp only [Act.put, List.setIfInBounds_toArray, List.set_cons_zero, List.set_cons_succ]
  refine' dq_call (by rfl) (by rfl) ?hv9 ?hc9 ?rest9
  case hv9 => (intro w; go_simp; exact ⟨rfl, rfl⟩)
  case hc9 => exact (fun w hw => calls_gt (CN _))
  case' rest9 => try simp only [Act.put, List.setIfInBounds_toArray, List.set_cons_zero, List.set_cons_succ]
  refine' dq_call (by rfl) (by rfl) ?hv10 ?hc10 ?rest10
  case hv10 => (intro w; go_simp; exact ⟨rfl, rfl⟩)
  case hc10 => exact (fun w hw => calls_gt (CA _))
  case' rest10 => try simp only [Act.put, List.setIfInBounds_toArray, List.set_cons_zero, List.set_cons_succ]
  refine' dq_pure (by rfl) (by rfl) ?hv11 ?rest11
  case hv11 => (intro w hw; (try dsimp only at hw); go_split_ands; go_simp; try with_reducible rfl)
  case' rest11 => try simp only [Act.put, List.setIfInBounds_toArray, List.set_cons_zero, List.set_cons_succ]
  refine' dq_pure (by rfl) (by rfl) ?hv12 ?rest12
  case hv12 => (intro w hw; (try dsimp only at hw); go_split_ands; go_simp; try with_reducible rfl)
  case' rest12 => try simp only [Act.put, List.setIfInBounds_toArray, List.set_cons_zero, List.set_cons_succ]
  refine dq_nil ?_
  simp only [fa, List.drop_succ_cons, List.drop_zero]
  rintro W ⟨⟨hb0, hn0, ⟨B1, B1c, B1f, B1l⟩, ⟨B2, B2c, B2f, B2l⟩, ⟨B3, B3c, B3f, B3l⟩⟩, hgl⟩ hbs
  clear hbs hgl
  (repeat' (first | go_values | go_skip | go_guarded | go_step | go_upon | (simp only [Int.not_lt, Int.not_le] at *; go_simp) | (go_values <;> (try go_simp)) | (go_ite <;> go_prune <;> (try go_simp)) | (split <;> (first | (rename_i hx; exact (hx _ rfl).elim) | go_prune))))
  refine bodyPost_ret (v := .tuple #[WE (cl zd), .bool (fb zd)]) ?_ rfl ⟨congrArg Ending.returned HR.out, by (repeat' (first | (with_reducible assumption) | (with_reducible exact Below.refl _ _) | (with_reducible refine Below.alloc ?_ ?_ _) | (with_reducible refine Below.setCell ?_ ?_ _) | (with_reducible refine Below.drew ?_) | (with_reducible refine below_more ?_ (by with_reducible assumption)) | go_size | omega | (with_reducible refine below_drewN ?_)))⟩
  simp [results, Try.results25, go_sem, B3c, B3f, B3l]
end Go.Proofs.Ythcboomdkpiflaa

/- Tri: The packages triangle and tscodecref23: what their functions return, as exact integers. -/
namespace Go.Proofs.Ythcboomdkpiflaa
open Go.ChangeShapes Go.WideShapes Go.ChangeAt Go.RowKit
set_option linter.unusedVariables false
set_option linter.unusedSimpArgs false
set_option maxRecDepth 100000 in
theorem diff_w {v v' : Value} {z z' : Int} (h : IsW v z) (h' : IsW v' z') (w : World) : Calls Try.prog 40 #[v, v'] w fun e w' => e = .returned (WE (cl (z - z'))) ∧ Below w.heap.size w w' := by
  have C := fun W => sub_w h h' W
  obtain ⟨n, a, b, c, d, rfl, hz, ha, hb, hc, hd⟩ := h
  obtain ⟨n', a', b', c', d', rfl, hz', ha', hb', hc', hd'⟩ := h'
  clear hz hz' ha hb hc hd ha' hb' hc' hd'
  generalize z - z' = zd at *
  generalize hR : WE (cl zd) = R
  have HR := hid hR
  clear hR
  go_enter Try.func40, Try.ntmps40
  (repeat' (first | (go_big_may; (first | (go_at_call 62; refine (C _).mono ?_; rintro e w' ⟨rfl, hbw⟩; have N1 := Bx.of (HB.below (b := w.heap.size) (cs := #[.bool n, .int .u64 a, .int .u64 b, .int .u64 c, .int .u64 d]) (by (repeat' (first | (with_reducible assumption) | ((with_reducible refine HB.new _ _ _ ?_) <;> (go_size; done)) | (with_reducible refine HB.old (by go_size) ?_) | (with_reducible refine HB.drew ?_) | (with_reducible refine HB.over5 ?_) | (with_reducible refine HB.over4 ?_) | (with_reducible refine HB.setne (by first | go_size | (dsimp only; omega)) ?_) | (with_reducible refine HN.set ?_) | (with_reducible refine HN.setne (by first | go_size | (dsimp only; omega)) ?_) | (with_reducible refine HN.drew ?_) | (with_reducible refine HN.old (by go_size) ?_) | (with_reducible exact HN.of5 (by assumption)) | (with_reducible exact HN.new5 _ _ (by go_size)) | (with_reducible exact HN.of4 (by assumption)) | (with_reducible exact HN.new4 _ _ (by go_size))))) hbw); have N2 := Bx.of (HB.below (b := w.heap.size + 1) (cs := #[.bool n', .int .u64 a', .int .u64 b', .int .u64 c', .int .u64 d']) (by (repeat' (first | (with_reducible assumption) | ((with_reducible refine HB.new _ _ _ ?_) <;> (go_size; done)) | (with_reducible refine HB.old (by go_size) ?_) | (with_reducible refine HB.drew ?_) | (with_reducible refine HB.over5 ?_) | (with_reducible refine HB.over4 ?_) | (with_reducible refine HB.setne (by first | go_size | (dsimp only; omega)) ?_) | (with_reducible refine HN.set ?_) | (with_reducible refine HN.setne (by first | go_size | (dsimp only; omega)) ?_) | (with_reducible refine HN.drew ?_) | (with_reducible refine HN.old (by go_size) ?_) | (with_reducible exact HN.of5 (by assumption)) | (with_reducible exact HN.new5 _ _ (by go_size)) | (with_reducible exact HN.of4 (by assumption)) | (with_reducible exact HN.new4 _ _ (by go_size))))) hbw); have N3 := Bx.of (HB.below (b := w.heap.size + 1 + 1) (cs := #[.bool false, .int .u64 0, .int .u64 0, .int .u64 0, .int .u64 0]) (by (repeat' (first | (with_reducible assumption) | ((with_reducible refine HB.new _ _ _ ?_) <;> (go_size; done)) | (with_reducible refine HB.old (by go_size) ?_) | (with_reducible refine HB.drew ?_) | (with_reducible refine HB.over5 ?_) | (with_reducible refine HB.over4 ?_) | (with_reducible refine HB.setne (by first | go_size | (dsimp only; omega)) ?_) | (with_reducible refine HN.set ?_) | (with_reducible refine HN.setne (by first | go_size | (dsimp only; omega)) ?_) | (with_reducible refine HN.drew ?_) | (with_reducible refine HN.old (by go_size) ?_) | (with_reducible exact HN.of5 (by assumption)) | (with_reducible exact HN.new5 _ _ (by go_size)) | (with_reducible exact HN.of4 (by assumption)) | (with_reducible exact HN.new4 _ _ (by go_size))))) hbw); (try clear B1 B1c B1f B1l); (try clear B2 B2c B2f B2l); (try clear B3 B3c B3f B3l); obtain ⟨B1, B1c, B1f, B1l⟩ := N1; obtain ⟨B2, B2c, B2f, B2l⟩ := N2; obtain ⟨B3, B3c, B3f, B3l⟩ := N3; have hsz := hbw.size; (try simp only [World.size_alloc, World.size_setCell, World.size_drew] at hsz)))) | go_values | go_skip | go_guarded | go_step | go_upon | (simp only [Int.not_lt, Int.not_le] at *; go_simp) | (go_values <;> (try go_simp)) | (go_ite <;> go_prune <;> (try go_simp)) | (split <;> (first | (rename_i hx; exact (hx _ rfl).elim) | go_prune))))
  refine bodyPost_ret (v := WE (cl zd)) ?_ rfl ⟨congrArg Ending.returned HR.out, by (repeat' (first | (with_reducible assumption) | (with_reducible exact Below.refl _ _) | (with_reducible refine Below.alloc ?_ ?_ _) | (with_reducible refine Below.setCell ?_ ?_ _) | (with_reducible refine Below.drew ?_) | (with_reducible refine below_more ?_ (by with_reducible assumption)) | go_size | omega | (with_reducible refine below_drewN ?_)))⟩
  simp [results, Try.results40, go_sem, B3c, B3f, B3l]
set_option maxRecDepth 100000 in
theorem prod_w {v v' : Value} {z z' : Int} (h : IsW v z) (h' : IsW v' z') (w : World) : Calls Try.prog 41 #[v, v'] w fun e w' => e = .returned (WE (cl (z * z'))) ∧ Below w.heap.size w w' := by
  have C := fun W => mul_w h h' W
  obtain ⟨n, a, b, c, d, rfl, hz, ha, hb, hc, hd⟩ := h
  obtain ⟨n', a', b', c', d', rfl, hz', ha', hb', hc', hd'⟩ := h'
  clear hz hz' ha hb hc hd ha' hb' hc' hd'
  generalize z * z' = zd at *
  generalize hR : WE (cl zd) = R
  have HR := hid hR
  clear hR
  go_enter Try.func41, Try.ntmps41
  (repeat' (first | (go_big_may; (first | (go_at_call 63; refine (C _).mono ?_; rintro e w' ⟨rfl, hbw⟩; have N1 := Bx.of (HB.below (b := w.heap.size) (cs := #[.bool n, .int .u64 a, .int .u64 b, .int .u64 c, .int .u64 d]) (by (repeat' (first | (with_reducible assumption) | ((with_reducible refine HB.new _ _ _ ?_) <;> (go_size; done)) | (with_reducible refine HB.old (by go_size) ?_) | (with_reducible refine HB.drew ?_) | (with_reducible refine HB.over5 ?_) | (with_reducible refine HB.over4 ?_) | (with_reducible refine HB.setne (by first | go_size | (dsimp only; omega)) ?_) | (with_reducible refine HN.set ?_) | (with_reducible refine HN.setne (by first | go_size | (dsimp only; omega)) ?_) | (with_reducible refine HN.drew ?_) | (with_reducible refine HN.old (by go_size) ?_) | (with_reducible exact HN.of5 (by assumption)) | (with_reducible exact HN.new5 _ _ (by go_size)) | (with_reducible exact HN.of4 (by assumption)) | (with_reducible exact HN.new4 _ _ (by go_size))))) hbw); have N2 := Bx.of (HB.below (b := w.heap.size + 1) (cs := #[.bool n', .int .u64 a', .int .u64 b', .int .u64 c', .int .u64 d']) (by (repeat' (first | (with_reducible assumption) | ((with_reducible refine HB.new _ _ _ ?_) <;> (go_size; done)) | (with_reducible refine HB.old (by go_size) ?_) | (with_reducible refine HB.drew ?_) | (with_reducible refine HB.over5 ?_) | (with_reducible refine HB.over4 ?_) | (with_reducible refine HB.setne (by first | go_size | (dsimp only; omega)) ?_) | (with_reducible refine HN.set ?_) | (with_reducible refine HN.setne (by first | go_size | (dsimp only; omega)) ?_) | (with_reducible refine HN.drew ?_) | (with_reducible refine HN.old (by go_size) ?_) | (with_reducible exact HN.of5 (by assumption)) | (with_reducible exact HN.new5 _ _ (by go_size)) | (with_reducible exact HN.of4 (by assumption)) | (with_reducible exact HN.new4 _ _ (by go_size))))) hbw); have N3 := Bx.of (HB.below (b := w.heap.size + 1 + 1) (cs := #[.bool false, .int .u64 0, .int .u64 0, .int .u64 0, .int .u64 0]) (by (repeat' (first | (with_reducible assumption) | ((with_reducible refine HB.new _ _ _ ?_) <;> (go_size; done)) | (with_reducible refine HB.old (by go_size) ?_) | (with_reducible refine HB.drew ?_) | (with_reducible refine HB.over5 ?_) | (with_reducible refine HB.over4 ?_) | (with_reducible refine HB.setne (by first | go_size | (dsimp only; omega)) ?_) | (with_reducible refine HN.set ?_) | (with_reducible refine HN.setne (by first | go_size | (dsimp only; omega)) ?_) | (with_reducible refine HN.drew ?_) | (with_reducible refine HN.old (by go_size) ?_) | (with_reducible exact HN.of5 (by assumption)) | (with_reducible exact HN.new5 _ _ (by go_size)) | (with_reducible exact HN.of4 (by assumption)) | (with_reducible exact HN.new4 _ _ (by go_size))))) hbw); (try clear B1 B1c B1f B1l); (try clear B2 B2c B2f B2l); (try clear B3 B3c B3f B3l); obtain ⟨B1, B1c, B1f, B1l⟩ := N1; obtain ⟨B2, B2c, B2f, B2l⟩ := N2; obtain ⟨B3, B3c, B3f, B3l⟩ := N3; have hsz := hbw.size; (try simp only [World.size_alloc, World.size_setCell, World.size_drew] at hsz)))) | go_values | go_skip | go_guarded | go_step | go_upon | (simp only [Int.not_lt, Int.not_le] at *; go_simp) | (go_values <;> (try go_simp)) | (go_ite <;> go_prune <;> (try go_simp)) | (split <;> (first | (rename_i hx; exact (hx _ rfl).elim) | go_prune))))
  refine bodyPost_ret (v := WE (cl zd)) ?_ rfl ⟨congrArg Ending.returned HR.out, by (repeat' (first | (with_reducible assumption) | (with_reducible exact Below.refl _ _) | (with_reducible refine Below.alloc ?_ ?_ _) | (with_reducible refine Below.setCell ?_ ?_ _) | (with_reducible refine Below.drew ?_) | (with_reducible refine below_more ?_ (by with_reducible assumption)) | go_size | omega | (with_reducible refine below_drewN ?_)))⟩
  simp [results, Try.results41, go_sem, B3c, B3f, B3l]
set_option maxRecDepth 100000 in
theorem rdiff_w {v v' : Value} {z z' : Int} (h : IsW v z) (h' : IsW v' z') (w : World) : Calls Try.prog 44 #[v, v'] w fun e w' => e = .returned (WE (cl (z - z'))) ∧ Below w.heap.size w w' := by
  have C := fun W => rsub_w h h' W
  obtain ⟨n, a, b, c, d, rfl, hz, ha, hb, hc, hd⟩ := h
  obtain ⟨n', a', b', c', d', rfl, hz', ha', hb', hc', hd'⟩ := h'
  clear hz hz' ha hb hc hd ha' hb' hc' hd'
  generalize z - z' = zd at *
  generalize hR : WE (cl zd) = R
  have HR := hid hR
  clear hR
  go_enter Try.func44, Try.ntmps44
  (repeat' (first | (go_big_may; (first | (go_at_call 25; refine (C _).mono ?_; rintro e w' ⟨rfl, hbw⟩; have N1 := Bx.of (HB.below (b := w.heap.size) (cs := #[.bool n, .int .u64 a, .int .u64 b, .int .u64 c, .int .u64 d]) (by (repeat' (first | (with_reducible assumption) | ((with_reducible refine HB.new _ _ _ ?_) <;> (go_size; done)) | (with_reducible refine HB.old (by go_size) ?_) | (with_reducible refine HB.drew ?_) | (with_reducible refine HB.over5 ?_) | (with_reducible refine HB.over4 ?_) | (with_reducible refine HB.setne (by first | go_size | (dsimp only; omega)) ?_) | (with_reducible refine HN.set ?_) | (with_reducible refine HN.setne (by first | go_size | (dsimp only; omega)) ?_) | (with_reducible refine HN.drew ?_) | (with_reducible refine HN.old (by go_size) ?_) | (with_reducible exact HN.of5 (by assumption)) | (with_reducible exact HN.new5 _ _ (by go_size)) | (with_reducible exact HN.of4 (by assumption)) | (with_reducible exact HN.new4 _ _ (by go_size))))) hbw); have N2 := Bx.of (HB.below (b := w.heap.size + 1) (cs := #[.bool n', .int .u64 a', .int .u64 b', .int .u64 c', .int .u64 d']) (by (repeat' (first | (with_reducible assumption) | ((with_reducible refine HB.new _ _ _ ?_) <;> (go_size; done)) | (with_reducible refine HB.old (by go_size) ?_) | (with_reducible refine HB.drew ?_) | (with_reducible refine HB.over5 ?_) | (with_reducible refine HB.over4 ?_) | (with_reducible refine HB.setne (by first | go_size | (dsimp only; omega)) ?_) | (with_reducible refine HN.set ?_) | (with_reducible refine HN.setne (by first | go_size | (dsimp only; omega)) ?_) | (with_reducible refine HN.drew ?_) | (with_reducible refine HN.old (by go_size) ?_) | (with_reducible exact HN.of5 (by assumption)) | (with_reducible exact HN.new5 _ _ (by go_size)) | (with_reducible exact HN.of4 (by assumption)) | (with_reducible exact HN.new4 _ _ (by go_size))))) hbw); have N3 := Bx.of (HB.below (b := w.heap.size + 1 + 1) (cs := #[.bool false, .int .u64 0, .int .u64 0, .int .u64 0, .int .u64 0]) (by (repeat' (first | (with_reducible assumption) | ((with_reducible refine HB.new _ _ _ ?_) <;> (go_size; done)) | (with_reducible refine HB.old (by go_size) ?_) | (with_reducible refine HB.drew ?_) | (with_reducible refine HB.over5 ?_) | (with_reducible refine HB.over4 ?_) | (with_reducible refine HB.setne (by first | go_size | (dsimp only; omega)) ?_) | (with_reducible refine HN.set ?_) | (with_reducible refine HN.setne (by first | go_size | (dsimp only; omega)) ?_) | (with_reducible refine HN.drew ?_) | (with_reducible refine HN.old (by go_size) ?_) | (with_reducible exact HN.of5 (by assumption)) | (with_reducible exact HN.new5 _ _ (by go_size)) | (with_reducible exact HN.of4 (by assumption)) | (with_reducible exact HN.new4 _ _ (by go_size))))) hbw); (try clear B1 B1c B1f B1l); (try clear B2 B2c B2f B2l); (try clear B3 B3c B3f B3l); obtain ⟨B1, B1c, B1f, B1l⟩ := N1; obtain ⟨B2, B2c, B2f, B2l⟩ := N2; obtain ⟨B3, B3c, B3f, B3l⟩ := N3; have hsz := hbw.size; (try simp only [World.size_alloc, World.size_setCell, World.size_drew] at hsz)))) | go_values | go_skip | go_guarded | go_step | go_upon | (simp only [Int.not_lt, Int.not_le] at *; go_simp) | (go_values <;> (try go_simp)) | (go_ite <;> go_prune <;> (try go_simp)) | (split <;> (first | (rename_i hx; exact (hx _ rfl).elim) | go_prune))))
  refine bodyPost_ret (v := WE (cl zd)) ?_ rfl ⟨congrArg Ending.returned HR.out, by (repeat' (first | (with_reducible assumption) | (with_reducible exact Below.refl _ _) | (with_reducible refine Below.alloc ?_ ?_ _) | (with_reducible refine Below.setCell ?_ ?_ _) | (with_reducible refine Below.drew ?_) | (with_reducible refine below_more ?_ (by with_reducible assumption)) | go_size | omega | (with_reducible refine below_drewN ?_)))⟩
  simp [results, Try.results44, go_sem, B3c, B3f, B3l]
set_option maxRecDepth 100000 in
theorem rprod_w {v v' : Value} {z z' : Int} (h : IsW v z) (h' : IsW v' z') (w : World) : Calls Try.prog 43 #[v, v'] w fun e w' => e = .returned (WE (cl (z * z'))) ∧ Below w.heap.size w w' := by
  have C := fun W => rmul_w h h' W
  obtain ⟨n, a, b, c, d, rfl, hz, ha, hb, hc, hd⟩ := h
  obtain ⟨n', a', b', c', d', rfl, hz', ha', hb', hc', hd'⟩ := h'
  clear hz hz' ha hb hc hd ha' hb' hc' hd'
  generalize z * z' = zd at *
  generalize hR : WE (cl zd) = R
  have HR := hid hR
  clear hR
  go_enter Try.func43, Try.ntmps43
  (repeat' (first | (go_big_may; (first | (go_at_call 23; refine (C _).mono ?_; rintro e w' ⟨rfl, hbw⟩; have N1 := Bx.of (HB.below (b := w.heap.size) (cs := #[.bool n, .int .u64 a, .int .u64 b, .int .u64 c, .int .u64 d]) (by (repeat' (first | (with_reducible assumption) | ((with_reducible refine HB.new _ _ _ ?_) <;> (go_size; done)) | (with_reducible refine HB.old (by go_size) ?_) | (with_reducible refine HB.drew ?_) | (with_reducible refine HB.over5 ?_) | (with_reducible refine HB.over4 ?_) | (with_reducible refine HB.setne (by first | go_size | (dsimp only; omega)) ?_) | (with_reducible refine HN.set ?_) | (with_reducible refine HN.setne (by first | go_size | (dsimp only; omega)) ?_) | (with_reducible refine HN.drew ?_) | (with_reducible refine HN.old (by go_size) ?_) | (with_reducible exact HN.of5 (by assumption)) | (with_reducible exact HN.new5 _ _ (by go_size)) | (with_reducible exact HN.of4 (by assumption)) | (with_reducible exact HN.new4 _ _ (by go_size))))) hbw); have N2 := Bx.of (HB.below (b := w.heap.size + 1) (cs := #[.bool n', .int .u64 a', .int .u64 b', .int .u64 c', .int .u64 d']) (by (repeat' (first | (with_reducible assumption) | ((with_reducible refine HB.new _ _ _ ?_) <;> (go_size; done)) | (with_reducible refine HB.old (by go_size) ?_) | (with_reducible refine HB.drew ?_) | (with_reducible refine HB.over5 ?_) | (with_reducible refine HB.over4 ?_) | (with_reducible refine HB.setne (by first | go_size | (dsimp only; omega)) ?_) | (with_reducible refine HN.set ?_) | (with_reducible refine HN.setne (by first | go_size | (dsimp only; omega)) ?_) | (with_reducible refine HN.drew ?_) | (with_reducible refine HN.old (by go_size) ?_) | (with_reducible exact HN.of5 (by assumption)) | (with_reducible exact HN.new5 _ _ (by go_size)) | (with_reducible exact HN.of4 (by assumption)) | (with_reducible exact HN.new4 _ _ (by go_size))))) hbw); have N3 := Bx.of (HB.below (b := w.heap.size + 1 + 1) (cs := #[.bool false, .int .u64 0, .int .u64 0, .int .u64 0, .int .u64 0]) (by (repeat' (first | (with_reducible assumption) | ((with_reducible refine HB.new _ _ _ ?_) <;> (go_size; done)) | (with_reducible refine HB.old (by go_size) ?_) | (with_reducible refine HB.drew ?_) | (with_reducible refine HB.over5 ?_) | (with_reducible refine HB.over4 ?_) | (with_reducible refine HB.setne (by first | go_size | (dsimp only; omega)) ?_) | (with_reducible refine HN.set ?_) | (with_reducible refine HN.setne (by first | go_size | (dsimp only; omega)) ?_) | (with_reducible refine HN.drew ?_) | (with_reducible refine HN.old (by go_size) ?_) | (with_reducible exact HN.of5 (by assumption)) | (with_reducible exact HN.new5 _ _ (by go_size)) | (with_reducible exact HN.of4 (by assumption)) | (with_reducible exact HN.new4 _ _ (by go_size))))) hbw); (try clear B1 B1c B1f B1l); (try clear B2 B2c B2f B2l); (try clear B3 B3c B3f B3l); obtain ⟨B1, B1c, B1f, B1l⟩ := N1; obtain ⟨B2, B2c, B2f, B2l⟩ := N2; obtain ⟨B3, B3c, B3f, B3l⟩ := N3; have hsz := hbw.size; (try simp only [World.size_alloc, World.size_setCell, World.size_drew] at hsz)))) | go_values | go_skip | go_guarded | go_step | go_upon | (simp only [Int.not_lt, Int.not_le] at *; go_simp) | (go_values <;> (try go_simp)) | (go_ite <;> go_prune <;> (try go_simp)) | (split <;> (first | (rename_i hx; exact (hx _ rfl).elim) | go_prune))))
  refine bodyPost_ret (v := WE (cl zd)) ?_ rfl ⟨congrArg Ending.returned HR.out, by (repeat' (first | (with_reducible assumption) | (with_reducible exact Below.refl _ _) | (with_reducible refine Below.alloc ?_ ?_ _) | (with_reducible refine Below.setCell ?_ ?_ _) | (with_reducible refine Below.drew ?_) | (with_reducible refine below_more ?_ (by with_reducible assumption)) | go_size | omega | (with_reducible refine below_drewN ?_)))⟩
  simp [results, Try.results43, go_sem, B3c, B3f, B3l]
/-- Small numbers: valid, and less than 2^128. -/
def sm (n : Bool) (a b c d : Int) : Bool := (!n || !mz a b c d) && (d == 0 && c == 0)
set_option maxRecDepth 100000 in
theorem fits_any (n : Bool) (a b c d : Int) (w : World) : Calls Try.prog 39 #[WV n a b c d] w fun e w' => e = .returned (.bool (sm n a b c d)) ∧ Below w.heap.size w w' := by
  have C := fun W => valid_any n a b c d W
  generalize hR : sm n a b c d = R
  have HR := hid hR
  clear hR
  generalize hv : (!n || !mz a b c d) = v at *
  have HV := hid hv
  clear hv 
  cases v
  · go_enter Try.func39, Try.ntmps39
    (repeat' (first | (go_big_may; (first | (go_at_call 61; refine (C _).mono ?_; rintro e w' ⟨rfl, hbw⟩; have N1 := Bx.of (HB.below (b := w.heap.size) (cs := #[.bool n, .int .u64 a, .int .u64 b, .int .u64 c, .int .u64 d]) (by (repeat' (first | (with_reducible assumption) | ((with_reducible refine HB.new _ _ _ ?_) <;> (go_size; done)) | (with_reducible refine HB.old (by go_size) ?_) | (with_reducible refine HB.drew ?_) | (with_reducible refine HB.over5 ?_) | (with_reducible refine HB.over4 ?_) | (with_reducible refine HB.setne (by first | go_size | (dsimp only; omega)) ?_) | (with_reducible refine HN.set ?_) | (with_reducible refine HN.setne (by first | go_size | (dsimp only; omega)) ?_) | (with_reducible refine HN.drew ?_) | (with_reducible refine HN.old (by go_size) ?_) | (with_reducible exact HN.of5 (by assumption)) | (with_reducible exact HN.new5 _ _ (by go_size)) | (with_reducible exact HN.of4 (by assumption)) | (with_reducible exact HN.new4 _ _ (by go_size))))) hbw); (try clear B1 B1c B1f B1l); obtain ⟨B1, B1c, B1f, B1l⟩ := N1; have hsz := hbw.size; (try simp only [World.size_alloc, World.size_setCell, World.size_drew] at hsz)))) | go_values | go_skip | go_guarded | go_step | go_upon | (simp only [Int.not_lt, Int.not_le] at *; go_simp) | (go_values <;> (try go_simp)) | (go_ite <;> go_prune <;> (try go_simp)) | (split <;> (first | (rename_i hx; exact (hx _ rfl).elim) | go_prune))))
    go_ret
    exact ⟨ret_b (by rw [← HR.out, sm, HV.out]; rfl), by (repeat' (first | (with_reducible assumption) | (with_reducible exact Below.refl _ _) | (with_reducible refine Below.alloc ?_ ?_ _) | (with_reducible refine Below.setCell ?_ ?_ _) | (with_reducible refine Below.drew ?_) | (with_reducible refine below_more ?_ (by with_reducible assumption)) | go_size | omega | (with_reducible refine below_drewN ?_)))⟩
  · by_cases h1 : d = 0
    · have t1 : (d == 0) = true := beq_iff_eq.2 h1
      have H1 := hid h1
      clear h1
      by_cases h2 : c = 0
      · have t2 : (c == 0) = true := beq_iff_eq.2 h2
        have H2 := hid h2
        clear h2
        go_enter Try.func39, Try.ntmps39
        (repeat' (first | (go_big_may; (first | (go_at_call 61; refine (C _).mono ?_; rintro e w' ⟨rfl, hbw⟩; have N1 := Bx.of (HB.below (b := w.heap.size) (cs := #[.bool n, .int .u64 a, .int .u64 b, .int .u64 c, .int .u64 d]) (by (repeat' (first | (with_reducible assumption) | ((with_reducible refine HB.new _ _ _ ?_) <;> (go_size; done)) | (with_reducible refine HB.old (by go_size) ?_) | (with_reducible refine HB.drew ?_) | (with_reducible refine HB.over5 ?_) | (with_reducible refine HB.over4 ?_) | (with_reducible refine HB.setne (by first | go_size | (dsimp only; omega)) ?_) | (with_reducible refine HN.set ?_) | (with_reducible refine HN.setne (by first | go_size | (dsimp only; omega)) ?_) | (with_reducible refine HN.drew ?_) | (with_reducible refine HN.old (by go_size) ?_) | (with_reducible exact HN.of5 (by assumption)) | (with_reducible exact HN.new5 _ _ (by go_size)) | (with_reducible exact HN.of4 (by assumption)) | (with_reducible exact HN.new4 _ _ (by go_size))))) hbw); (try clear B1 B1c B1f B1l); obtain ⟨B1, B1c, B1f, B1l⟩ := N1; have hsz := hbw.size; (try simp only [World.size_alloc, World.size_setCell, World.size_drew] at hsz)))) | go_values | go_skip | go_guarded | go_step | go_upon | (simp only [Int.not_lt, Int.not_le] at *; go_simp) | (go_values <;> (try go_simp)) | (go_ite <;> go_prune <;> (try go_simp)) | (split <;> (first | (rename_i hx; exact (hx _ rfl).elim) | go_prune))))
        go_ret
        exact ⟨ret_b (by rw [← HR.out, sm, HV.out, H1.out, H2.out]; rfl), by (repeat' (first | (with_reducible assumption) | (with_reducible exact Below.refl _ _) | (with_reducible refine Below.alloc ?_ ?_ _) | (with_reducible refine Below.setCell ?_ ?_ _) | (with_reducible refine Below.drew ?_) | (with_reducible refine below_more ?_ (by with_reducible assumption)) | go_size | omega | (with_reducible refine below_drewN ?_)))⟩
      · have t2 : (c == 0) = false := beq_eq_false_iff_ne.2 h2
        have H2 := hid t2
        clear h2
        go_enter Try.func39, Try.ntmps39
        (repeat' (first | (go_big_may; (first | (go_at_call 61; refine (C _).mono ?_; rintro e w' ⟨rfl, hbw⟩; have N1 := Bx.of (HB.below (b := w.heap.size) (cs := #[.bool n, .int .u64 a, .int .u64 b, .int .u64 c, .int .u64 d]) (by (repeat' (first | (with_reducible assumption) | ((with_reducible refine HB.new _ _ _ ?_) <;> (go_size; done)) | (with_reducible refine HB.old (by go_size) ?_) | (with_reducible refine HB.drew ?_) | (with_reducible refine HB.over5 ?_) | (with_reducible refine HB.over4 ?_) | (with_reducible refine HB.setne (by first | go_size | (dsimp only; omega)) ?_) | (with_reducible refine HN.set ?_) | (with_reducible refine HN.setne (by first | go_size | (dsimp only; omega)) ?_) | (with_reducible refine HN.drew ?_) | (with_reducible refine HN.old (by go_size) ?_) | (with_reducible exact HN.of5 (by assumption)) | (with_reducible exact HN.new5 _ _ (by go_size)) | (with_reducible exact HN.of4 (by assumption)) | (with_reducible exact HN.new4 _ _ (by go_size))))) hbw); (try clear B1 B1c B1f B1l); obtain ⟨B1, B1c, B1f, B1l⟩ := N1; have hsz := hbw.size; (try simp only [World.size_alloc, World.size_setCell, World.size_drew] at hsz)))) | go_values | go_skip | go_guarded | go_step | go_upon | (simp only [Int.not_lt, Int.not_le] at *; go_simp) | (go_values <;> (try go_simp)) | (go_ite <;> go_prune <;> (try go_simp)) | (split <;> (first | (rename_i hx; exact (hx _ rfl).elim) | go_prune))))
        go_ret
        exact ⟨ret_b (by rw [← HR.out, sm, HV.out, H1.out, H2.out]; rfl), by (repeat' (first | (with_reducible assumption) | (with_reducible exact Below.refl _ _) | (with_reducible refine Below.alloc ?_ ?_ _) | (with_reducible refine Below.setCell ?_ ?_ _) | (with_reducible refine Below.drew ?_) | (with_reducible refine below_more ?_ (by with_reducible assumption)) | go_size | omega | (with_reducible refine below_drewN ?_)))⟩
    · have t1 : (d == 0) = false := beq_eq_false_iff_ne.2 h1
      have H1 := hid t1
      clear h1
      go_enter Try.func39, Try.ntmps39
      (repeat' (first | (go_big_may; (first | (go_at_call 61; refine (C _).mono ?_; rintro e w' ⟨rfl, hbw⟩; have N1 := Bx.of (HB.below (b := w.heap.size) (cs := #[.bool n, .int .u64 a, .int .u64 b, .int .u64 c, .int .u64 d]) (by (repeat' (first | (with_reducible assumption) | ((with_reducible refine HB.new _ _ _ ?_) <;> (go_size; done)) | (with_reducible refine HB.old (by go_size) ?_) | (with_reducible refine HB.drew ?_) | (with_reducible refine HB.over5 ?_) | (with_reducible refine HB.over4 ?_) | (with_reducible refine HB.setne (by first | go_size | (dsimp only; omega)) ?_) | (with_reducible refine HN.set ?_) | (with_reducible refine HN.setne (by first | go_size | (dsimp only; omega)) ?_) | (with_reducible refine HN.drew ?_) | (with_reducible refine HN.old (by go_size) ?_) | (with_reducible exact HN.of5 (by assumption)) | (with_reducible exact HN.new5 _ _ (by go_size)) | (with_reducible exact HN.of4 (by assumption)) | (with_reducible exact HN.new4 _ _ (by go_size))))) hbw); (try clear B1 B1c B1f B1l); obtain ⟨B1, B1c, B1f, B1l⟩ := N1; have hsz := hbw.size; (try simp only [World.size_alloc, World.size_setCell, World.size_drew] at hsz)))) | go_values | go_skip | go_guarded | go_step | go_upon | (simp only [Int.not_lt, Int.not_le] at *; go_simp) | (go_values <;> (try go_simp)) | (go_ite <;> go_prune <;> (try go_simp)) | (split <;> (first | (rename_i hx; exact (hx _ rfl).elim) | go_prune))))
      go_ret
      exact ⟨ret_b (by rw [← HR.out, sm, HV.out, H1.out]; first | rfl | simp), by (repeat' (first | (with_reducible assumption) | (with_reducible exact Below.refl _ _) | (with_reducible refine Below.alloc ?_ ?_ _) | (with_reducible refine Below.setCell ?_ ?_ _) | (with_reducible refine Below.drew ?_) | (with_reducible refine below_more ?_ (by with_reducible assumption)) | go_size | omega | (with_reducible refine below_drewN ?_)))⟩
set_option maxRecDepth 100000 in
theorem small_any (n : Bool) (a b c d : Int) (ha : U64 a) (hb : U64 b) (hc : U64 c) (hd : U64 d) (w : World) : Calls Try.prog 42 #[WV n a b c d] w fun e w' => e = .returned (.bool (sm n a b c d)) ∧ Below w.heap.size w w' := by
  have C := fun W => rvalid_any n a b c d ha hb hc hd W
  generalize hR : sm n a b c d = R
  have HR := hid hR
  clear hR
  generalize hv : (!n || !mz a b c d) = v at *
  have HV := hid hv
  clear hv ha hb hc hd
  cases v
  · go_enter Try.func42, Try.ntmps42
    (repeat' (first | (go_big_may; (first | (go_at_call 64; refine (C _).mono ?_; rintro e w' ⟨rfl, hbw⟩; have N1 := Bx.of (HB.below (b := w.heap.size) (cs := #[.bool n, .int .u64 a, .int .u64 b, .int .u64 c, .int .u64 d]) (by (repeat' (first | (with_reducible assumption) | ((with_reducible refine HB.new _ _ _ ?_) <;> (go_size; done)) | (with_reducible refine HB.old (by go_size) ?_) | (with_reducible refine HB.drew ?_) | (with_reducible refine HB.over5 ?_) | (with_reducible refine HB.over4 ?_) | (with_reducible refine HB.setne (by first | go_size | (dsimp only; omega)) ?_) | (with_reducible refine HN.set ?_) | (with_reducible refine HN.setne (by first | go_size | (dsimp only; omega)) ?_) | (with_reducible refine HN.drew ?_) | (with_reducible refine HN.old (by go_size) ?_) | (with_reducible exact HN.of5 (by assumption)) | (with_reducible exact HN.new5 _ _ (by go_size)) | (with_reducible exact HN.of4 (by assumption)) | (with_reducible exact HN.new4 _ _ (by go_size))))) hbw); (try clear B1 B1c B1f B1l); obtain ⟨B1, B1c, B1f, B1l⟩ := N1; have hsz := hbw.size; (try simp only [World.size_alloc, World.size_setCell, World.size_drew] at hsz)))) | go_values | go_skip | go_guarded | go_step | go_upon | (simp only [Int.not_lt, Int.not_le] at *; go_simp) | (go_values <;> (try go_simp)) | (go_ite <;> go_prune <;> (try go_simp)) | (split <;> (first | (rename_i hx; exact (hx _ rfl).elim) | go_prune))))
    go_ret
    exact ⟨ret_b (by rw [← HR.out, sm, HV.out]; rfl), by (repeat' (first | (with_reducible assumption) | (with_reducible exact Below.refl _ _) | (with_reducible refine Below.alloc ?_ ?_ _) | (with_reducible refine Below.setCell ?_ ?_ _) | (with_reducible refine Below.drew ?_) | (with_reducible refine below_more ?_ (by with_reducible assumption)) | go_size | omega | (with_reducible refine below_drewN ?_)))⟩
  · by_cases h1 : c = 0
    · have t1 : (c == 0) = true := beq_iff_eq.2 h1
      have H1 := hid h1
      clear h1
      by_cases h2 : d = 0
      · have t2 : (d == 0) = true := beq_iff_eq.2 h2
        have H2 := hid h2
        clear h2
        go_enter Try.func42, Try.ntmps42
        (repeat' (first | (go_big_may; (first | (go_at_call 64; refine (C _).mono ?_; rintro e w' ⟨rfl, hbw⟩; have N1 := Bx.of (HB.below (b := w.heap.size) (cs := #[.bool n, .int .u64 a, .int .u64 b, .int .u64 c, .int .u64 d]) (by (repeat' (first | (with_reducible assumption) | ((with_reducible refine HB.new _ _ _ ?_) <;> (go_size; done)) | (with_reducible refine HB.old (by go_size) ?_) | (with_reducible refine HB.drew ?_) | (with_reducible refine HB.over5 ?_) | (with_reducible refine HB.over4 ?_) | (with_reducible refine HB.setne (by first | go_size | (dsimp only; omega)) ?_) | (with_reducible refine HN.set ?_) | (with_reducible refine HN.setne (by first | go_size | (dsimp only; omega)) ?_) | (with_reducible refine HN.drew ?_) | (with_reducible refine HN.old (by go_size) ?_) | (with_reducible exact HN.of5 (by assumption)) | (with_reducible exact HN.new5 _ _ (by go_size)) | (with_reducible exact HN.of4 (by assumption)) | (with_reducible exact HN.new4 _ _ (by go_size))))) hbw); (try clear B1 B1c B1f B1l); obtain ⟨B1, B1c, B1f, B1l⟩ := N1; have hsz := hbw.size; (try simp only [World.size_alloc, World.size_setCell, World.size_drew] at hsz)))) | go_values | go_skip | go_guarded | go_step | go_upon | (simp only [Int.not_lt, Int.not_le] at *; go_simp) | (go_values <;> (try go_simp)) | (go_ite <;> go_prune <;> (try go_simp)) | (split <;> (first | (rename_i hx; exact (hx _ rfl).elim) | go_prune))))
        go_ret
        exact ⟨ret_b (by rw [← HR.out, sm, HV.out, H1.out, H2.out]; rfl), by (repeat' (first | (with_reducible assumption) | (with_reducible exact Below.refl _ _) | (with_reducible refine Below.alloc ?_ ?_ _) | (with_reducible refine Below.setCell ?_ ?_ _) | (with_reducible refine Below.drew ?_) | (with_reducible refine below_more ?_ (by with_reducible assumption)) | go_size | omega | (with_reducible refine below_drewN ?_)))⟩
      · have t2 : (d == 0) = false := beq_eq_false_iff_ne.2 h2
        have H2 := hid t2
        clear h2
        go_enter Try.func42, Try.ntmps42
        (repeat' (first | (go_big_may; (first | (go_at_call 64; refine (C _).mono ?_; rintro e w' ⟨rfl, hbw⟩; have N1 := Bx.of (HB.below (b := w.heap.size) (cs := #[.bool n, .int .u64 a, .int .u64 b, .int .u64 c, .int .u64 d]) (by (repeat' (first | (with_reducible assumption) | ((with_reducible refine HB.new _ _ _ ?_) <;> (go_size; done)) | (with_reducible refine HB.old (by go_size) ?_) | (with_reducible refine HB.drew ?_) | (with_reducible refine HB.over5 ?_) | (with_reducible refine HB.over4 ?_) | (with_reducible refine HB.setne (by first | go_size | (dsimp only; omega)) ?_) | (with_reducible refine HN.set ?_) | (with_reducible refine HN.setne (by first | go_size | (dsimp only; omega)) ?_) | (with_reducible refine HN.drew ?_) | (with_reducible refine HN.old (by go_size) ?_) | (with_reducible exact HN.of5 (by assumption)) | (with_reducible exact HN.new5 _ _ (by go_size)) | (with_reducible exact HN.of4 (by assumption)) | (with_reducible exact HN.new4 _ _ (by go_size))))) hbw); (try clear B1 B1c B1f B1l); obtain ⟨B1, B1c, B1f, B1l⟩ := N1; have hsz := hbw.size; (try simp only [World.size_alloc, World.size_setCell, World.size_drew] at hsz)))) | go_values | go_skip | go_guarded | go_step | go_upon | (simp only [Int.not_lt, Int.not_le] at *; go_simp) | (go_values <;> (try go_simp)) | (go_ite <;> go_prune <;> (try go_simp)) | (split <;> (first | (rename_i hx; exact (hx _ rfl).elim) | go_prune))))
        go_ret
        exact ⟨ret_b (by rw [← HR.out, sm, HV.out, H1.out, H2.out]; rfl), by (repeat' (first | (with_reducible assumption) | (with_reducible exact Below.refl _ _) | (with_reducible refine Below.alloc ?_ ?_ _) | (with_reducible refine Below.setCell ?_ ?_ _) | (with_reducible refine Below.drew ?_) | (with_reducible refine below_more ?_ (by with_reducible assumption)) | go_size | omega | (with_reducible refine below_drewN ?_)))⟩
    · have t1 : (c == 0) = false := beq_eq_false_iff_ne.2 h1
      have H1 := hid t1
      clear h1
      go_enter Try.func42, Try.ntmps42
      (repeat' (first | (go_big_may; (first | (go_at_call 64; refine (C _).mono ?_; rintro e w' ⟨rfl, hbw⟩; have N1 := Bx.of (HB.below (b := w.heap.size) (cs := #[.bool n, .int .u64 a, .int .u64 b, .int .u64 c, .int .u64 d]) (by (repeat' (first | (with_reducible assumption) | ((with_reducible refine HB.new _ _ _ ?_) <;> (go_size; done)) | (with_reducible refine HB.old (by go_size) ?_) | (with_reducible refine HB.drew ?_) | (with_reducible refine HB.over5 ?_) | (with_reducible refine HB.over4 ?_) | (with_reducible refine HB.setne (by first | go_size | (dsimp only; omega)) ?_) | (with_reducible refine HN.set ?_) | (with_reducible refine HN.setne (by first | go_size | (dsimp only; omega)) ?_) | (with_reducible refine HN.drew ?_) | (with_reducible refine HN.old (by go_size) ?_) | (with_reducible exact HN.of5 (by assumption)) | (with_reducible exact HN.new5 _ _ (by go_size)) | (with_reducible exact HN.of4 (by assumption)) | (with_reducible exact HN.new4 _ _ (by go_size))))) hbw); (try clear B1 B1c B1f B1l); obtain ⟨B1, B1c, B1f, B1l⟩ := N1; have hsz := hbw.size; (try simp only [World.size_alloc, World.size_setCell, World.size_drew] at hsz)))) | go_values | go_skip | go_guarded | go_step | go_upon | (simp only [Int.not_lt, Int.not_le] at *; go_simp) | (go_values <;> (try go_simp)) | (go_ite <;> go_prune <;> (try go_simp)) | (split <;> (first | (rename_i hx; exact (hx _ rfl).elim) | go_prune))))
      go_ret
      exact ⟨ret_b (by rw [← HR.out, sm, HV.out, H1.out]; first | rfl | simp), by (repeat' (first | (with_reducible assumption) | (with_reducible exact Below.refl _ _) | (with_reducible refine Below.alloc ?_ ?_ _) | (with_reducible refine Below.setCell ?_ ?_ _) | (with_reducible refine Below.drew ?_) | (with_reducible refine below_more ?_ (by with_reducible assumption)) | go_size | omega | (with_reducible refine below_drewN ?_)))⟩
end Go.Proofs.Ythcboomdkpiflaa

/- TriP: Whether Weighted's arguments are in range. -/
namespace Go.Proofs.Ythcboomdkpiflaa
open Go.ChangeShapes Go.WideShapes Go.ChangeAt Go.RowKit
set_option linter.unusedVariables false
set_option linter.unusedSimpArgs false
/-- Whether Weighted's arguments are in range. -/
def wok (n : Bool) (a b c d : Int) (n' : Bool) (a' b' c' d' : Int) (m : Int) : Bool := (decide (1 ≤ m) && decide (m ≤ 1073741824)) && (sm n a b c d && sm n' a' b' c' d')
theorem wok_iff {n : Bool} {a b c d : Int} {n' : Bool} {a' b' c' d' : Int} {m : Int} : wok n a b c d n' a' b' c' d' m = true ↔ Cnt m ∧ sm n a b c d = true ∧ sm n' a' b' c' d' = true := by
  unfold wok Cnt; simp only [Bool.and_eq_true, decide_eq_true_eq]
theorem wok_not {n : Bool} {a b c d : Int} {n' : Bool} {a' b' c' d' : Int} {m : Int} (h : ¬ wok n a b c d n' a' b' c' d' m = true) : m < 1 ∨ 1073741824 < m ∨ sm n a b c d = false ∨ sm n' a' b' c' d' = false := by
  by_cases h1 : m < 1
  · exact Or.inl h1
  by_cases h2 : 1073741824 < m
  · exact Or.inr (Or.inl h2)
  by_cases h3 : sm n a b c d = true
  · refine Or.inr (Or.inr (Or.inr ?_))
    by_cases h4 : sm n' a' b' c' d' = true
    · exact absurd (wok_iff.2 ⟨⟨by omega, by omega⟩, h3, h4⟩) h
    · exact Bool.eq_false_iff.2 h4
  · exact Or.inr (Or.inr (Or.inl (Bool.eq_false_iff.2 h3)))
theorem sm_small {n : Bool} {a b c d : Int} (ha : U64 a) (hb : U64 b) (h : sm n a b c d = true) : Sm (wv n a b c d) := by
  unfold sm at h
  simp only [Bool.and_eq_true, beq_iff_eq] at h
  obtain ⟨_, rfl, rfl⟩ := h
  exact sm_wv ha hb
theorem keep8 {w W W' : World} {m : Nat} {n b1 b2 b3 b4 b5 b6 b7 b8 : Nat} {c1 c2 c3 c4 c5 c6 c7 c8 : Array Value} (h : Below w.heap.size w W ∧ n ≤ W.heap.size ∧ Bx W b1 c1 ∧ Bx W b2 c2 ∧ Bx W b3 c3 ∧ Bx W b4 c4 ∧ Bx W b5 c5 ∧ Bx W b6 c6 ∧ Bx W b7 c7 ∧ Bx W b8 c8) (hb : Below m W W') (hm : m = W.heap.size) : Below w.heap.size w W' ∧ n ≤ W'.heap.size ∧ Bx W' b1 c1 ∧ Bx W' b2 c2 ∧ Bx W' b3 c3 ∧ Bx W' b4 c4 ∧ Bx W' b5 c5 ∧ Bx W' b6 c6 ∧ Bx W' b7 c7 ∧ Bx W' b8 c8 := by
  subst hm
  obtain ⟨h0, hn, h1, h2, h3, h4, h5, h6, h7, h8⟩ := h
  exact ⟨below_more h0 hb, Nat.le_trans hn hb.size, h1.below hb, h2.below hb, h3.below hb, h4.below hb, h5.below hb, h6.below hb, h7.below hb, h8.below hb⟩
theorem keep9 {w W W' : World} {m : Nat} {n b1 b2 b3 b4 b5 b6 b7 b8 b9 : Nat} {c1 c2 c3 c4 c5 c6 c7 c8 c9 : Array Value} (h : Below w.heap.size w W ∧ n ≤ W.heap.size ∧ Bx W b1 c1 ∧ Bx W b2 c2 ∧ Bx W b3 c3 ∧ Bx W b4 c4 ∧ Bx W b5 c5 ∧ Bx W b6 c6 ∧ Bx W b7 c7 ∧ Bx W b8 c8 ∧ Bx W b9 c9) (hb : Below m W W') (hm : m = W.heap.size) : Below w.heap.size w W' ∧ n ≤ W'.heap.size ∧ Bx W' b1 c1 ∧ Bx W' b2 c2 ∧ Bx W' b3 c3 ∧ Bx W' b4 c4 ∧ Bx W' b5 c5 ∧ Bx W' b6 c6 ∧ Bx W' b7 c7 ∧ Bx W' b8 c8 ∧ Bx W' b9 c9 := by
  subst hm
  obtain ⟨h0, hn, h1, h2, h3, h4, h5, h6, h7, h8, h9⟩ := h
  exact ⟨below_more h0 hb, Nat.le_trans hn hb.size, h1.below hb, h2.below hb, h3.below hb, h4.below hb, h5.below hb, h6.below hb, h7.below hb, h8.below hb, h9.below hb⟩
theorem keep10 {w W W' : World} {m : Nat} {n b1 b2 b3 b4 b5 b6 b7 b8 b9 b10 : Nat} {c1 c2 c3 c4 c5 c6 c7 c8 c9 c10 : Array Value} (h : Below w.heap.size w W ∧ n ≤ W.heap.size ∧ Bx W b1 c1 ∧ Bx W b2 c2 ∧ Bx W b3 c3 ∧ Bx W b4 c4 ∧ Bx W b5 c5 ∧ Bx W b6 c6 ∧ Bx W b7 c7 ∧ Bx W b8 c8 ∧ Bx W b9 c9 ∧ Bx W b10 c10) (hb : Below m W W') (hm : m = W.heap.size) : Below w.heap.size w W' ∧ n ≤ W'.heap.size ∧ Bx W' b1 c1 ∧ Bx W' b2 c2 ∧ Bx W' b3 c3 ∧ Bx W' b4 c4 ∧ Bx W' b5 c5 ∧ Bx W' b6 c6 ∧ Bx W' b7 c7 ∧ Bx W' b8 c8 ∧ Bx W' b9 c9 ∧ Bx W' b10 c10 := by
  subst hm
  obtain ⟨h0, hn, h1, h2, h3, h4, h5, h6, h7, h8, h9, h10⟩ := h
  exact ⟨below_more h0 hb, Nat.le_trans hn hb.size, h1.below hb, h2.below hb, h3.below hb, h4.below hb, h5.below hb, h6.below hb, h7.below hb, h8.below hb, h9.below hb, h10.below hb⟩
end Go.Proofs.Ythcboomdkpiflaa

/- Made: The tape of tscodecmade: what its methods return, and that they turn nothing but the tape's own place. -/
namespace Go.Proofs.Ythcboomdkpiflaa
open Go.ChangeShapes Go.WideShapes Go.ChangeAt Go.RowKit
set_option linter.unusedVariables false
set_option linter.unusedSimpArgs false
theorem quiet_left {P : Program} {f : FuncId} {args : Array Value} {w : World} {n : Nat} {v : Value} (h : Calls P f args (w.drewN n) fun e w' => e = .returned v ∧ w.drewN n = w') : Calls P f args (w.drewN n) fun e w' => e = .returned v ∧ ∃ m, w' = w.drewN m :=
  h.mono fun _ _ ⟨he, hm⟩ => ⟨he, n, hm.symm⟩
theorem grown_refl (w : World) (row : Option Nat) : w.grownBy w row := ⟨rfl, rfl, rfl, Nat.le_refl _, fun _ _ _ => rfl⟩
theorem grown_drewN {a w : World} {row : Option Nat} (h : a.grownBy w row) (n : Nat) : a.grownBy (w.drewN n) row := ⟨h.os, h.tape, h.output, h.size, h.block⟩
theorem grown_setCell {a w : World} {g : Nat} (h : a.grownBy w (some g)) {p : Addr} (hp : p.block = g ∨ a.heap.size ≤ p.block) (u : Value) : a.grownBy (w.setCell p u) (some g) :=
  ⟨h.os, h.tape, h.output, by simpa [World.setCell] using h.size, fun i hi hne => (Below.heap_setCell w p u i (by
    rintro rfl
    rcases hp with hp | hp
    · exact hne (by rw [hp])
    · omega)).trans (h.block i hi hne)⟩
theorem grown_trans {a b c : World} {row : Option Nat} (h : a.grownBy b row) (k : b.grownBy c row) : a.grownBy c row :=
  ⟨k.os.trans h.os, k.tape.trans h.tape, k.output.trans h.output, Nat.le_trans h.size k.size, fun i hi hn => (k.block i (Nat.lt_of_lt_of_le hi h.size) hn).trans (h.block i hi hn)⟩
/-- Block b holds a tape: a slice of ints and a place in it; both lie below block B. -/
def TapeOk (B Bm : Nat) (w : World) (b : Nat) : Prop := ∃ (a : Option Addr) (len cap k : Nat), b < B ∧ B ≤ w.heap.size ∧ w.cell? ⟨b, 0, none⟩ = some (.slice a len cap) ∧ w.cell? ⟨b, 1, none⟩ = some (.int .i64 k) ∧ w.frozen? ⟨b, 1, none⟩ = false ∧
  k ≤ len ∧ len ≤ 9223372036854775807 ∧ (0 < len → ∃ bb off, a = some ⟨bb, off, none⟩ ∧ bb ≠ b ∧ bb < B ∧ bb < Bm ∧ ∀ i, i < len → ∃ x, w.cell? ⟨bb, off + i, none⟩ = some (.int .i64 x) ∧ I64 x)
theorem TapeOk.ltB {B Bm : Nat} {w : World} {b : Nat} (h : TapeOk B Bm w b) : b < B := by obtain ⟨_, _, _, _, h, _⟩ := h; exact h
theorem TapeOk.leB {B Bm : Nat} {w : World} {b : Nat} (h : TapeOk B Bm w b) : B ≤ w.heap.size := by obtain ⟨_, _, _, _, _, h, _⟩ := h; exact h
theorem TapeOk.lt {B Bm : Nat} {w : World} {b : Nat} (h : TapeOk B Bm w b) : b < w.heap.size := Nat.lt_of_lt_of_le h.ltB h.leB
theorem TapeOk.below {B Bm : Nat} {w w' : World} {b : Nat} (h : TapeOk B Bm w b) (hb : Below B w w') : TapeOk B Bm w' b := by
  obtain ⟨a, len, cap, k, h1, h0, h2, h3, h4, h5, h6, h7⟩ := h
  refine ⟨a, len, cap, k, h1, Nat.le_trans h0 hb.size, (hb.cell h1).trans h2, (hb.cell h1).trans h3, (hb.frozen h1).trans h4, h5, h6, fun hl => ?_⟩
  obtain ⟨bb, off, e, hne, hlt, hlm, hc⟩ := h7 hl
  exact ⟨bb, off, e, hne, hlt, hlm, fun i hi => by
    obtain ⟨x, hx, hix⟩ := hc i hi
    exact ⟨x, (hb.cell hlt).trans hx, hix⟩⟩
theorem TapeOk.grown {B Bm : Nat} {w w' : World} {b : Nat} {row : Option Nat} (h : TapeOk B Bm w b) (hg : w.grownBy w' row) (hr : ∀ k, row = some k → B ≤ k) : TapeOk B Bm w' b :=
  h.below ((Below.refl B w).grown hg h.leB hr)
theorem TapeOk.drew {B Bm : Nat} {w : World} {b : Nat} (h : TapeOk B Bm w b) : TapeOk B Bm w.drew b := h
theorem TapeOk.drewN {B Bm : Nat} {w : World} {b : Nat} (h : TapeOk B Bm w b) (n : Nat) : TapeOk B Bm (w.drewN n) b := h
theorem TapeOk.alloc {B Bm : Nat} {w : World} {b : Nat} (h : TapeOk B Bm w b) (o : Obj) : TapeOk B Bm (w.alloc o) b := h.below ((Below.refl B w).alloc h.leB o)
theorem grown_of_drew {w w' : World} {row : Option Nat} (h : w.drew.grownBy w' row) : w.grownBy w' row := ⟨h.os, h.tape, h.output, h.size, h.block⟩
theorem grown_alloc {a w : World} {row : Option Nat} (h : a.grownBy w row) (o : Obj) : a.grownBy (w.alloc o) row :=
  ⟨h.os, h.tape, h.output, Nat.le_trans h.size (by simp), fun i hi hne => (Below.heap_alloc w o i (Nat.lt_of_lt_of_le hi h.size)).trans (h.block i hi hne)⟩
theorem grown_own {a w w' : World} {row row' : Option Nat} (h : a.grownBy w row) (k : w.grownBy w' row') (hr : ∀ x, row' = some x → a.heap.size ≤ x) : a.grownBy w' row :=
  ⟨k.os.trans h.os, k.tape.trans h.tape, k.output.trans h.output, Nat.le_trans h.size k.size, fun i hi hn => (k.block i (Nat.lt_of_lt_of_le hi h.size) (fun e => by have := hr i e.symm; omega)).trans (h.block i hi hn)⟩
/-- What a method of the tape in block b leaves: a number, the tape, and nothing else turned. -/
def TPost (B Bm : Nat) (k : IntKind) (b : Nat) (w : World) (P : Int → Prop) (e : Ending) (w' : World) : Prop := ∃ r, P r ∧ e = .returned (.int k r) ∧ TapeOk B Bm w' b ∧ w.grownBy w' (some b)
def md (a n : Int) : Int := if n < 1 then 0 else a % n
theorem md_neg {a n : Int} (h : ¬ n < 1) (hr : a.tmod n < 0) : a.tmod n + n = md a n := by
  unfold md; rw [if_neg h, Int.tmod_eq_emod]
  by_cases h0 : 0 ≤ a ∨ n ∣ a
  · rw [Int.tmod_eq_emod, if_pos h0] at hr
    have := Int.emod_nonneg a (b := n) (by omega); omega
  · rw [if_neg h0]; omega
theorem md_pos {a n : Int} (h : ¬ n < 1) (hr : ¬ a.tmod n < 0) : a.tmod n = md a n := by
  unfold md; rw [if_neg h, Int.tmod_eq_emod]
  by_cases h0 : 0 ≤ a ∨ n ∣ a
  · rw [if_pos h0]; omega
  · rw [Int.tmod_eq_emod, if_neg h0] at hr
    have := Int.emod_lt_of_pos a (b := n) (by omega); omega
theorem md_one {a n : Int} (h : n < 1) : 0 = md a n := by unfold md; rw [if_pos h]
theorem md_bd (a n : Int) : 0 ≤ md a n ∧ (1 ≤ n → md a n < n) ∧ (n < 1 → md a n = 0) := by
  unfold md; split
  · exact ⟨by omega, by omega, fun _ => rfl⟩
  · exact ⟨Int.emod_nonneg a (by omega), fun _ => Int.emod_lt_of_pos a (by omega), fun h => by omega⟩
theorem mod_any (a n : Int) (ha : I64 a) (hn : I64 n) (w : World) :
    Calls Try.prog 22 #[.int .i64 a, .int .i64 n] w fun e w' => e = .returned (.int .i64 (md a n)) ∧ w = w' := by
  obtain ⟨n1, n2⟩ := hn
  by_cases h : n < 1
  · go_enter Try.func22, Try.ntmps22
    go_wp2
    go_ret
    exact ⟨ret_i (md_one h), rfl⟩
  have t0 : (n == 0) = false := beq_eq_false_iff_ne.2 (by omega)
  have M := md_bd a n
  by_cases hr : a.tmod n < 0
  · have e := md_neg h hr
    have hb : a.tmod n + n ≤ 9223372036854775807 := by omega
    have hb' : -9223372036854775808 ≤ a.tmod n + n := by omega
    have E := hid e
    clear e
    clear M
    go_enter Try.func22, Try.ntmps22
    go_wp2
    go_ret
    exact ⟨ret_i E.out, rfl⟩
  · have E := hid (md_pos h hr)
    have t1 : decide (a.tmod n < 0) = false := dF hr
    clear M hr
    go_enter Try.func22, Try.ntmps22
    go_wp2
    all_goals go_ret
    all_goals exact ⟨ret_i E.out, rfl⟩
def NextP (n : Int) (r : Int) : Prop := 0 ≤ r ∧ (1 ≤ n → r < n) ∧ (n < 1 → r = 0)
theorem NextP.zero (n : Int) : NextP n 0 := ⟨by omega, by omega, fun _ => rfl⟩
theorem new_any (a : Option Addr) (len cap : Nat) (w : World) :
    Calls Try.prog 11 #[.slice a len cap] w fun e w' => e = .returned (.pointer (some ⟨w.heap.size, 0, none⟩)) ∧ w.alloc (.cells #[.slice a len cap, .int .i64 0] 62) = w' := by
  go_enter Try.func11, Try.ntmps11
  go_wp2
  go_ret
  exact ⟨rfl, rfl⟩
theorem next_end {B Bm : Nat} (b : Nat) (n : Int) (w : World) (a : Option Addr) (len cap : Nat) (h0 : w.cell? ⟨b, 0, none⟩ = some (.slice a len cap)) (h1 : w.cell? ⟨b, 1, none⟩ = some (.int .i64 len)) (hl : len ≤ 9223372036854775807) (ht : TapeOk B Bm w b) :
    Calls Try.prog 14 #[.pointer (some ⟨b, 0, none⟩), .int .i64 n] w (TPost B Bm .i64 b w (NextP n)) := by
  have H := hid ht
  clear ht
  go_enter Try.func14, Try.ntmps14
  go_wp2
  go_quiet (fail)
  go_wp2
  go_ret
  exact ⟨0, NextP.zero n, rfl, H.out, grown_drewN (grown_refl _ _) _⟩
theorem next_more {B Bm : Nat} (b : Nat) (n : Int) (hn : I64 n) (w : World) (bb off len cap k : Nat) (x : Int) (hx : I64 x) (h0 : w.cell? ⟨b, 0, none⟩ = some (.slice (some ⟨bb, off, none⟩) len cap)) (h1 : w.cell? ⟨b, 1, none⟩ = some (.int .i64 k)) (hf : w.frozen? ⟨b, 1, none⟩ = false)
    (hk : k < len) (hl : len ≤ 9223372036854775807) (hc : w.cell? ⟨bb, off + k, none⟩ = some (.int .i64 x)) (hne : bb ≠ b) (ht : ∀ m m' : Nat, TapeOk B Bm (((w.drewN m).setCell ⟨b, 1, none⟩ (.int .i64 (k + 1 : Nat))).drewN m') b) :
    Calls Try.prog 14 #[.pointer (some ⟨b, 0, none⟩), .int .i64 n] w (TPost B Bm .i64 b w (NextP n)) := by
  have H := hid ht
  clear ht
  have t1 : decide (len ≤ k) = false := dF (by omega)
  have e2 : ((k : Int) + 1).toNat = k + 1 := by omega
  go_enter Try.func14, Try.ntmps14
  go_wp2
  go_quiet (fail)
  go_wp2
  go_quiet ((go_at_call 22; exact quiet_left (mod_any x n hx hn _)))
  go_wp2
  go_ret
  exact ⟨_, md_bd x n, rfl, H.out _ _, grown_drewN (grown_setCell (grown_drewN (grown_refl _ _) _) (.inl rfl) _) _⟩
theorem tape_moved {B Bm : Nat} (w : World) (b : Nat) (a : Option Addr) (len cap k : Nat) (h1 : b < B) (hB : B ≤ w.heap.size) (h2 : w.cell? ⟨b, 0, none⟩ = some (.slice a len cap)) (h3 : w.cell? ⟨b, 1, none⟩ = some (.int .i64 k)) (h4 : w.frozen? ⟨b, 1, none⟩ = false)
    (h5 : k < len) (h6 : len ≤ 9223372036854775807) (h7 : 0 < len → ∃ bb off, a = some ⟨bb, off, none⟩ ∧ bb ≠ b ∧ bb < B ∧ bb < Bm ∧ ∀ i, i < len → ∃ x, w.cell? ⟨bb, off + i, none⟩ = some (.int .i64 x) ∧ I64 x) (m m' : Nat) :
    TapeOk B Bm (((w.drewN m).setCell ⟨b, 1, none⟩ (.int .i64 (k + 1 : Nat))).drewN m') b := by
  have e : ((((w.drewN m).setCell ⟨b, 1, none⟩ (.int .i64 (k + 1 : Nat))).drewN m').heap.size) = w.heap.size := by simp [World.setCell, World.drewN]
  have other : ∀ p : Addr, p ≠ ⟨b, 1, none⟩ → (((w.drewN m).setCell ⟨b, 1, none⟩ (.int .i64 (k + 1 : Nat))).drewN m').cell? p = w.cell? p := fun p hp => by
    rw [World.cell?_drewN, World.cell?_setCell_other _ _ _ _ (fun e => hp e.symm), World.cell?_drewN]
  refine ⟨a, len, cap, k + 1, h1, by rw [e]; exact hB, ?_, ?_, ?_, by omega, h6, fun hl => ?_⟩
  · rw [other _ (by simp)]; exact h2
  · rw [World.cell?_drewN]; exact World.cell?_setCell_same _ _ _ (u := .int .i64 k) (by rw [World.cell?_drewN]; exact h3)
  · show World.frozen? ((w.drewN m).setCell ⟨b, 1, none⟩ _) _ = false
    rw [World.frozen?_setCell]; exact h4
  · obtain ⟨bb, off, ea, hne, hlt, hlm, hc⟩ := h7 hl
    refine ⟨bb, off, ea, hne, hlt, hlm, fun i hi => ?_⟩
    obtain ⟨x, hx, hix⟩ := hc i hi
    exact ⟨x, by rw [other _ (by simp; try (intro h; exact absurd h hne))]; exact hx, hix⟩
theorem next_any {B Bm : Nat} (b : Nat) (n : Int) (hn : I64 n) (w : World) (ht : TapeOk B Bm w b) :
    Calls Try.prog 14 #[.pointer (some ⟨b, 0, none⟩), .int .i64 n] w (TPost B Bm .i64 b w (NextP n)) := by
  have ht' := ht
  obtain ⟨a, len, cap, k, h1, hB, h2, h3, h4, h5, h6, h7⟩ := ht
  by_cases hk : k < len
  · obtain ⟨bb, off, rfl, hne, hlt, hlm, hc⟩ := h7 (by omega)
    obtain ⟨x, hx, hix⟩ := hc k hk
    exact next_more b n hn w bb off len cap k x hix h2 h3 h4 hk h6 hx hne (fun m m' => tape_moved w b _ len cap k h1 hB h2 h3 h4 hk h6 h7 m m')
  · obtain rfl : k = len := by omega
    exact next_end b n w a k cap h2 h3 h6 ht'
def BPost (B Bm : Nat) (b : Nat) (w : World) (e : Ending) (w' : World) : Prop := ∃ r : Bool, e = .returned (.bool r) ∧ TapeOk B Bm w' b ∧ w.grownBy w' (some b)
theorem bool_any {B Bm : Nat} (b : Nat) (n : Int) (h1 : 2 ≤ n) (h2 : n ≤ 1000) (w : World) (ht : TapeOk B Bm w b) :
    Calls Try.prog 36 #[.pointer (some ⟨b, 0, none⟩), .int .i64 n] w (BPost B Bm b w) := by
  have hn : I64 n := ⟨by omega, by omega⟩
  have t0 : (n == 0) = false := beq_eq_false_iff_ne.2 (by omega)
  have H : Hid (TapeOk B Bm w.drew b) := ht.drew
  clear ht
  go_enter Try.func36, Try.ntmps36
  go_wp2
  go_region_with (go_at_call 14; refine (next_any b n hn _ H.out).mono ?_; rintro e w' ⟨r, ⟨r1, r2, r3⟩, rfl, ht, hg⟩)
  all_goals (go_wp2; go_ret; exact ⟨_, rfl, ht, grown_of_drew hg⟩)
theorem word_any {B Bm : Nat} (b : Nat) (w : World) (ht : TapeOk B Bm w b) :
    Calls Try.prog 35 #[.pointer (some ⟨b, 0, none⟩)] w (TPost B Bm .u64 b w U64) := by
  have H := hid ht
  clear ht
  go_enter Try.func35, Try.ntmps35
  go_wp2
  go_loopw [3, 4] (fun x i wr => ∃ (k : Nat) (r : Int), k ≤ 4 ∧ U64 r ∧ x = .int .u64 r ∧ i = .int .i64 k ∧ TapeOk B Bm wr b ∧ w.grownBy wr (some b)) (fun _ i _ => 4 - (intOf i).toNat)
  case atStart => exact ⟨0, 0, by omega, ⟨by decide, by decide⟩, rfl, rfl, H.out, grown_refl _ _⟩
  case round =>
    obtain ⟨k, r, hk, hr, rfl, rfl, ht, hg⟩ := hrel
    have HT := hid ht
    have HG := hid hg
    clear ht hg
    by_cases hlt : k < 4
    · go_wp2_with (go_at_call 14; refine (next_any b 65536 ⟨by decide, by decide⟩ _ HT.out).mono ?_; rintro e w' ⟨r', ⟨r1, r2, r3⟩, rfl, ht, hg⟩)
      go_roundw
      case rel => exact ⟨k + 1, _, by omega, u64_wrap_in _, rfl, by go_num, ht, grown_trans HG.out hg⟩
      case measure => simp [intOf]; omega
    · go_wp2
      go_ret
      exact ⟨r, hr, rfl, HT.out, HG.out⟩
theorem int_any {B Bm : Nat} (b : Nat) (w : World) (ht0 : TapeOk B Bm w b) :
    Calls Try.prog 34 #[.pointer (some ⟨b, 0, none⟩)] w (TPost B Bm .i64 b w I64) := by
  go_enter Try.func34, Try.ntmps34
  go_wp2_with (first | (go_at_call 14; refine (next_any b _ (by exact ⟨by decide, by decide⟩) _ (by assumption)).mono ?_; rintro e w' ⟨r, ⟨r1, r2, r3⟩, rfl, ht, hg⟩) | (go_at_call 35; refine (word_any b _ (by assumption)).mono ?_; rintro e w' ⟨u, ⟨u1, u2⟩, rfl, ht, hg⟩))
  all_goals (go_ret; refine ⟨_, ?_, rfl, by assumption, by repeat (first | assumption | exact grown_refl _ _ | refine grown_trans ?_ (by assumption))⟩)
  all_goals first | exact i64_wrap_in _ | exact ⟨by omega, by omega⟩ | skip
end Go.Proofs.Ythcboomdkpiflaa

/- Law: A law's frame: the arguments opened, and what is owed behind the call, once for all laws of this seat. -/
namespace Go.Proofs.Ythcboomdkpiflaa
open Go.ChangeShapes Go.WideShapes Go.ChangeAt Go.RowKit
set_option linter.unusedVariables false
set_option linter.unusedSimpArgs false
theorem own : ownKnob Try.prog.godebug = none := by kernel_rfl
theorem laidOut : laidOutB Try.prog = true := by kernel_rfl
section
variable {H : Type} {enc : TypeId × Value → H} {P : Program}
def readB (P : Program) (ts : List TypeId) : Bool := ts.all fun t => P.readableRec t && decide (t < P.types.size)
theorem below_trodAll (hl : laidOutB P = true) {W W' : World} (hb : Below W.heap.size W W') {sp : Nat → Bool} :
    ∀ {ts : List TypeId} {vs : List Value} {ds : List (DataW H)} {ps : List MemPlace}, readB P ts = true → DataW.TrodAll enc P W 0 (fun _ => true) true ts vs ds ps → (∀ x ∈ ps, x.block < W.heap.size) → (∀ x ∈ ps, sp x.block = true) →
      DataW.TrodAll enc P W' 0 sp true ts vs ds ps := by
  intro ts
  induction ts with
  | nil =>
    intro vs ds ps _ h _ _
    obtain ⟨rfl, rfl, rfl⟩ := trodAll_nil h
    exact trodAll_mk0
  | cons t ts ih =>
    intro vs ds ps hr h hlt hsp
    obtain ⟨v, vs', d, ds', p, q, rfl, rfl, rfl, h0, h1⟩ := trodAll_cons h
    simp only [readB, List.all_cons, Bool.and_eq_true, decide_eq_true_eq] at hr
    refine trodAll_cons_mk (WideElems.Trod_stays hl hr.1.1 hr.1.2 h0 (fun x hx => hb.same (hlt x (List.mem_append_left _ hx))) (fun x hx => hsp x (List.mem_append_left _ hx))) ?_
    exact ih (by simpa [readB] using hr.2) h1 (fun x hx => hlt x (List.mem_append_right _ hx)) (fun x hx => hsp x (List.mem_append_right _ hx))
/-- What is owed behind a law's call: it returned true, and below the heap's old size nothing has turned. -/
theorem law_post {f : Func} {s : ChangeSpec} {W W' : World} {args : Array Value} {ds : List (DataW H)} {p : List MemPlace} {tb : TypeId}
    (hl : laidOutB P = true) (hr : readB P f.params.toList = true) (hvars : s.vars = []) (hrt : f.resultTypes = #[tb]) (htb : P.underlying tb = some .bool)
    (hW : DataW.Whole enc P f.params.toList s.vars false W args.toList ds [] p) (hs1 : (s.fn H (ds ++ [])).results = [.lit (.bool true)]) (hs2 : (s.fn H (ds ++ [])).args = ds) (hs3 : (s.fn H (ds ++ [])).vars = [])
    (hb : Below W.heap.size W W') : s.post enc P f false true false false W args (.bool true) W' := by
  have hlt : ∀ x ∈ p, x.block < W.heap.size := fun x hx => hW.lt x hx
  have hW2 := hW
  obtain ⟨p1, q1, hA, hV, rfl, hz, hn⟩ := hW2
  rw [hvars] at hV
  obtain ⟨_, rfl⟩ := trodVars_none hV
  simp only [List.append_nil] at hW hlt hz hn
  refine ⟨ds, [], p1, [], p1, [], hW, ?_, ?_, ?_, World.keptBut_mono (fun x hx => ⟨hx, Or.inr (Or.inl hx)⟩) (hb.frame (· ∈ p1)), fun h => by cases h⟩
  · rw [hs1, hrt]
    exact trodAll_mk1 (shut_bool htb _)
  · rw [hs2]
    exact below_trodAll hl hb hr hA hlt (fun x hx => by simpa using hlt x hx)
  · rw [hs3, hvars]; rfl
/-- A slice of integers as the world holds it. -/
def SlZ (W : World) (k : IntKind) (v : Value) (zs : List Int) : Prop := ∃ (a : Option Addr) (len cap : Nat), v = .slice a len cap ∧ zs.length = len ∧ len ≤ cap ∧ cap ≤ maxLen ∧ (∀ z ∈ zs, (Lit.int k z).wf = true) ∧
  (0 < len → ∃ b off, a = some ⟨b, off, none⟩ ∧ b < W.heap.size ∧ ∀ i, i < len → W.cell? ⟨b, off + i, none⟩ = some (.int k (zs.getD i 0)))
theorem open_slz {t e : TypeId} {k : IntKind} {v : Value} {d : DataW H} {ps : List MemPlace} {W : World} {base : Nat} (ht : P.underlying t = some (.slice e)) (he : P.underlying e = some (.int k)) (hc : P.cellsOf e = 1)
    (hv : Value.okWide P W .any base t v) (h : DataW.Trod enc P W 0 (fun _ => true) true t v d ps) (hlt : ∀ x ∈ ps, x.block < W.heap.size) : ∃ zs, SlZ W k v zs := by
  obtain ⟨a0, len, cap, rfl⟩ := okWide_slice ht hv
  obtain ⟨fuel, hf⟩ := h
  rcases open_ints ht he hc hf with ⟨hcs, hx⟩ | ⟨a, len', cap', zs, hcs, _, hl, hm, hz, hx, hcell, hwz⟩
  · simp [Value.cells] at hcs
    obtain ⟨rfl, rfl, rfl⟩ := hcs
    exact ⟨[], none, 0, 0, rfl, rfl, Nat.le_refl _, by simp [maxLen], by simp, fun h => absurd h (by omega)⟩
  · simp [Value.cells] at hcs
    obtain ⟨rfl, rfl, rfl⟩ := hcs
    simp only [Prod.mk.injEq] at hx
    obtain ⟨rfl, rfl⟩ := hx
    simp only [if_true] at hz
    refine ⟨zs.take len, some a, len, cap, rfl, by simp; omega, hl, hm, fun z hz' => hwz z (List.mem_of_mem_take hz'), fun hpos => ?_⟩
    obtain ⟨b, off, rfl, hc'⟩ := ints_at hcell (by omega)
    refine ⟨b, off, rfl, hlt (.cell b off) (MemPlace.mem_row.2 ⟨0, by omega, by simp⟩), fun i hi => ?_⟩
    rw [show (zs.take len).getD i 0 = zs.getD i 0 by simp [List.getD_eq_getElem?_getD, List.getElem?_take, hi]]
    exact hc' i (by omega)
end
end Go.Proofs.Ythcboomdkpiflaa

/- LtP: Plain: sums, the greatest triangle, the indexes that are chosen. -/
namespace Go.Proofs.Ythcboomdkpiflaa
open Go.ChangeShapes Go.WideShapes Go.ChangeAt Go.RowKit
set_option linter.unusedVariables false
set_option linter.unusedSimpArgs false
abbrev Smps := List (Int × Int)
/-- The sum of a field of the first k samples, as Add gives it. -/
def wsum (f : Int × Int → Int) (ss : Smps) : Nat → Int
  | 0 => 0
  | k + 1 => cl (wsum f ss k + f (ss.getD k (0, 0)))
theorem fits_wsum (f : Int × Int → Int) (ss : Smps) (k : Nat) : Fits (wsum f ss k) := by
  cases k with
  | zero => show Fits 0; unfold Fits; decide
  | succ k => exact fits_cl _
/-- The weighted triangle as the program and the reference compute it. -/
def area (a b : Int × Int) (T V m : Int) : Int :=
  wgt a.1 a.2 b.1 b.2 T V m (wok (sg T) (lb0 (ab T)) (lb1 (ab T)) (lb2 (ab T)) (lb3 (ab T)) (sg V) (lb0 (ab V)) (lb1 (ab V)) (lb2 (ab V)) (lb3 (ab V)) m)
theorem area_nonneg (a b : Int × Int) (T V m : Int) : 0 ≤ area a b T V m := by
  unfold area wgt
  split
  · exact ab_nonneg _
  · exact Int.le_refl 0
/-- The first of the greatest of k numbers: the index and the number. -/
def lg (f : Nat → Int) : Nat → Nat × Int
  | 0 => (0, -1)
  | k + 1 => if (lg f k).2 < f k then (k, f k) else lg f k
theorem lg_lt (f : Nat → Int) (hf : ∀ i, 0 ≤ f i) : ∀ k, 0 < k → (lg f k).1 < k ∧ (lg f k).2 = f (lg f k).1
  | 0, h => by omega
  | 1, _ => by
    have := hf 0
    have e : lg f 1 = if (-1 : Int) < f 0 then (0, f 0) else (0, -1) := rfl
    rw [e, if_pos (by omega)]; exact ⟨by simp, rfl⟩
  | k + 2, _ => by
    have ih := lg_lt f hf (k + 1) (by omega)
    have e : lg f (k + 2) = if (lg f (k + 1)).2 < f (k + 1) then (k + 1, f (k + 1)) else lg f (k + 1) := rfl
    rw [e]
    split
    · exact ⟨by simp, rfl⟩
    · exact ⟨by omega, ih.2⟩
theorem lg_max (f : Nat → Int) : ∀ k i, i < k → f i ≤ (lg f k).2
  | 0, i, h => by omega
  | k + 1, i, h => by
    have ih := lg_max f k
    have e : lg f (k + 1) = if (lg f k).2 < f k then (k, f k) else lg f k := rfl
    rw [e]
    by_cases hi : i = k
    · subst hi; split <;> simp <;> omega
    · have := ih i (by omega)
      split <;> simp <;> omega
theorem lg_first (f : Nat → Int) (hf : ∀ i, 0 ≤ f i) : ∀ k i, i < (lg f k).1 → f i < (lg f k).2
  | 0, i, h => by simp [lg] at h
  | k + 1, i, h => by
    have ih := lg_first f hf k
    have mx := lg_max f k
    have e : lg f (k + 1) = if (lg f k).2 < f k then (k, f k) else lg f k := rfl
    rw [e] at h ⊢
    split at h
    · rename_i h1
      rw [if_pos h1]
      have := mx i h
      simp; omega
    · rename_i h1
      rw [if_neg h1]
      exact ih i h
/-- Where a bucket begins. -/
def bk (n k j : Nat) : Nat := 1 + j * (n - 2) / (k - 2)
/-- Where the bucket after the next one begins. -/
def bke (n k j : Nat) : Nat := if j + 2 < k - 1 then bk n k (j + 2) else n
theorem bk_last {n k : Nat} (hk : 3 ≤ k) (hn : k ≤ n) : bk n k (k - 2) = n - 1 := by
  unfold bk
  rw [Nat.mul_comm, Nat.mul_div_cancel _ (by omega)]
  omega
theorem bk_step {n k : Nat} (hk : 3 ≤ k) (hn : k ≤ n) (j : Nat) : bk n k j < bk n k (j + 1) := by
  unfold bk
  have h1 : (j + 1) * (n - 2) = j * (n - 2) + (n - 2) := Nat.succ_mul _ _
  have h2 : j * (n - 2) / (k - 2) + 1 = (j * (n - 2) + (k - 2)) / (k - 2) := (Nat.add_div_right _ (by omega)).symm
  have h3 : (j * (n - 2) + (k - 2)) / (k - 2) ≤ ((j + 1) * (n - 2)) / (k - 2) := Nat.div_le_div_right (by omega)
  omega
theorem bk_mono {n k : Nat} (hk : 3 ≤ k) (hn : k ≤ n) {i j : Nat} (h : i ≤ j) : bk n k i ≤ bk n k j := by
  induction j with
  | zero => rw [Nat.le_zero.1 h]; exact Nat.le_refl _
  | succ j ih =>
    by_cases he : i = j + 1
    · subst he; exact Nat.le_refl _
    · exact Nat.le_trans (ih (by omega)) (Nat.le_of_lt (bk_step hk hn j))
theorem bk_le {n k : Nat} (hk : 3 ≤ k) (hn : k ≤ n) {j : Nat} (h : j ≤ k - 2) : 1 ≤ bk n k j ∧ bk n k j ≤ n - 1 := by
  have := bk_mono hk hn h
  rw [bk_last hk hn] at this
  exact ⟨Nat.le_add_right _ _, this⟩
theorem bke_in {n k : Nat} (hk : 3 ≤ k) (hn : k ≤ n) {j : Nat} (h : j + 1 ≤ k - 2) : bk n k (j + 1) < bke n k j ∧ bke n k j ≤ n := by
  unfold bke
  have h1 := bk_le hk hn h
  split
  · have := bk_step hk hn (j + 1)
    have := bk_le hk hn (j := j + 2) (by omega)
    exact ⟨by omega, by omega⟩
  · exact ⟨by omega, Nat.le_refl _⟩
/-- Samples from..to. -/
def cut (ss : Smps) (i j : Nat) : Smps := (ss.take j).drop i
theorem cut_len {ss : Smps} {i j : Nat} (h : j ≤ ss.length) : (cut ss i j).length = j - i := by unfold cut; rw [List.length_drop, List.length_take]; omega
theorem cut_get {ss : Smps} {i j t : Nat} (h : j ≤ ss.length) (ht : t < j - i) : (cut ss i j).getD t (0, 0) = ss.getD (i + t) (0, 0) := by
  unfold cut
  rw [List.getD_eq_getElem?_getD, List.getElem?_drop, List.getElem?_take, if_pos (by omega), ← List.getD_eq_getElem?_getD]
/-- The greatest of the samples l with a and the samples nx. -/
def best (a : Int × Int) (l nx : Smps) (k : Nat) : Nat × Int := lg (fun i => area a (l.getD i (0, 0)) (wsum Prod.fst nx nx.length) (wsum Prod.snd nx nx.length) nx.length) k
/-- The index that is chosen from bucket j, if at was chosen before it. -/
def pickb (ss : Smps) (k j at_ : Nat) : Nat := bk ss.length k j + (best (ss.getD at_ (0, 0)) (cut ss (bk ss.length k j) (bk ss.length k (j + 1))) (cut ss (bk ss.length k (j + 1)) (bke ss.length k j)) (bk ss.length k (j + 1) - bk ss.length k j)).1
def chosen (ss : Smps) (k : Nat) : Nat → Nat
  | 0 => 0
  | j + 1 => pickb ss k j (chosen ss k j)
theorem pickb_in {ss : Smps} {k : Nat} (hk : 3 ≤ k) (hn : k ≤ ss.length) (j at_ : Nat) : bk ss.length k j ≤ pickb ss k j at_ ∧ pickb ss k j at_ < bk ss.length k (j + 1) := by
  have h := bk_step hk hn j
  have := (lg_lt (fun i => area (ss.getD at_ (0, 0)) ((cut ss (bk ss.length k j) (bk ss.length k (j + 1))).getD i (0, 0)) (wsum Prod.fst (cut ss (bk ss.length k (j + 1)) (bke ss.length k j)) (cut ss (bk ss.length k (j + 1)) (bke ss.length k j)).length) (wsum Prod.snd (cut ss (bk ss.length k (j + 1)) (bke ss.length k j)) (cut ss (bk ss.length k (j + 1)) (bke ss.length k j)).length) (cut ss (bk ss.length k (j + 1)) (bke ss.length k j)).length) (fun i => area_nonneg _ _ _ _ _) (bk ss.length k (j + 1) - bk ss.length k j) (by omega)).1
  unfold pickb best
  omega
theorem chosen_in {ss : Smps} {k : Nat} (hk : 3 ≤ k) (hn : k ≤ ss.length) {j : Nat} (h : j ≤ k - 2) : chosen ss k j < ss.length := by
  cases j with
  | zero => show 0 < _; omega
  | succ j =>
    have h1 := (pickb_in hk hn j (chosen ss k j)).2
    have h2 := (bk_le hk hn h).2
    show pickb ss k j (chosen ss k j) < _
    omega
/-- The indexes after j rounds, and all. -/
def chs (ss : Smps) (k j : Nat) : List Int := (List.range (j + 1)).map fun i => (chosen ss k i : Int)
theorem chs_len (ss : Smps) (k j : Nat) : (chs ss k j).length = j + 1 := by simp [chs]
theorem chs_succ (ss : Smps) (k j : Nat) : chs ss k (j + 1) = chs ss k j ++ [(pickb ss k j (chosen ss k j) : Int)] := by
  unfold chs
  rw [List.range_succ, List.map_append]; rfl
theorem chs_get (ss : Smps) (k j i : Nat) (h : i ≤ j) : (chs ss k j).getD i 0 = (chosen ss k i : Int) := by
  unfold chs
  rw [List.getD_eq_getElem?_getD, List.getElem?_map, List.getElem?_range (by omega)]; rfl
/-- Times that increase strictly. -/
def incr (ss : Smps) : Bool := decide (∀ i, i < ss.length - 1 → (ss.getD i (0, 0)).1 < (ss.getD (i + 1) (0, 0)).1)
def bok (n : Nat) (k : Int) : Bool := decide (3 ≤ k) && decide (k ≤ n) && decide (n ≤ 1073741824)
/-- The error and the indexes. -/
def ixe (ss : Smps) (k : Int) : Int := if incr ss then (if bok ss.length k then 0 else 2) else 7
def ixs (ss : Smps) (k : Int) : List Int := if ixe ss k = 0 then chs ss k.toNat (k.toNat - 2) ++ [(ss.length : Int) - 1] else []
end Go.Proofs.Ythcboomdkpiflaa

/- LtS: The sums of times and values, in the program and in the reference. -/
namespace Go.Proofs.Ythcboomdkpiflaa
open Go.ChangeShapes Go.WideShapes Go.ChangeAt Go.RowKit
set_option linter.unusedVariables false
set_option linter.unusedSimpArgs false
/-- A slice of samples as the world holds it. -/
def SlS (W : World) (v : Value) (ss : Smps) : Prop := ∃ (a : Option Addr) (cap : Nat), v = .slice a ss.length cap ∧ ss.length ≤ cap ∧ cap ≤ maxLen ∧ (∀ s ∈ ss, I64 s.1 ∧ I64 s.2) ∧
  (0 < ss.length → ∃ b off, a = some ⟨b, off, none⟩ ∧ b < W.heap.size ∧ ∀ i, i < ss.length → W.cell? ⟨b, off + i * 2, none⟩ = some (.int .i64 (ss.getD i (0, 0)).1) ∧ W.cell? ⟨b, off + i * 2 + 1, none⟩ = some (.int .i64 (ss.getD i (0, 0)).2))
theorem SlS.below {W W' : World} {v : Value} {ss : Smps} (h : SlS W v ss) (hb : Below W.heap.size W W') : SlS W' v ss := by
  obtain ⟨a, cap, rfl, h1, h2, h3, hc⟩ := h
  refine ⟨a, cap, rfl, h1, h2, h3, fun hl => ?_⟩
  obtain ⟨b, off, rfl, hb', hcs⟩ := hc hl
  exact ⟨b, off, rfl, Nat.lt_of_lt_of_le hb' hb.size, fun i hi => ⟨(hb.cell (p := ⟨b, off + i * 2, none⟩) hb').trans (hcs i hi).1, (hb.cell (p := ⟨b, off + i * 2 + 1, none⟩) hb').trans (hcs i hi).2⟩⟩
theorem smp_i64 {ss : Smps} (h : ∀ s ∈ ss, I64 s.1 ∧ I64 s.2) (k : Nat) : I64 (ss.getD k (0, 0)).1 ∧ I64 (ss.getD k (0, 0)).2 := by
  rw [List.getD_eq_getElem?_getD]
  rcases hk : ss[k]? with _ | x
  · exact ⟨⟨by decide, by decide⟩, ⟨by decide, by decide⟩⟩
  · exact h x (List.mem_of_getElem? hk)
set_option maxHeartbeats 4000000 in
set_option maxRecDepth 100000 in
theorem sums_any {v : Value} {ss : Smps} (w : World) (hs : SlS w v ss) : Calls Try.prog 73 #[v] w fun e w' => e = .returned (.tuple #[WE (wsum Prod.fst ss ss.length), WE (wsum Prod.snd ss ss.length)]) ∧ Below w.heap.size w w' := by
  obtain ⟨a, cap, rfl, hlc, hcm, hin, hcell⟩ := hs
  have HC := hid hcell
  have HI := hid hin
  have hcm2 : ss.length ≤ 9223372036854775807 := by
    have : cap ≤ 9223372036854775807 := by simpa [maxLen] using hcm
    omega
  clear hcell hin hcm
  go_enter Try.func73, Try.ntmps73
  (repeat' (first | go_values | go_skip | go_guarded | go_step | go_upon | (simp only [Int.not_lt, Int.not_le] at *; go_simp) | (go_values <;> (try go_simp)) | (go_ite <;> go_prune <;> (try go_simp)) | (split <;> (first | (rename_i hx; exact (hx _ rfl).elim) | go_prune))))
  go_loopw [8] (fun i wr => ∃ k : Nat, i = .int .i64 k ∧ k ≤ ss.length ∧ HB wr w.heap.size #[.bool (sg (wsum Prod.fst ss k)), .int .u64 (lb0 (ab (wsum Prod.fst ss k))), .int .u64 (lb1 (ab (wsum Prod.fst ss k))), .int .u64 (lb2 (ab (wsum Prod.fst ss k))), .int .u64 (lb3 (ab (wsum Prod.fst ss k)))] ∧ HB wr (w.heap.size + 1) #[.bool (sg (wsum Prod.snd ss k)), .int .u64 (lb0 (ab (wsum Prod.snd ss k))), .int .u64 (lb1 (ab (wsum Prod.snd ss k))), .int .u64 (lb2 (ab (wsum Prod.snd ss k))), .int .u64 (lb3 (ab (wsum Prod.snd ss k)))] ∧ Below w.heap.size w wr) (fun i _ => ss.length - (intOf i).toNat)
  case atStart =>
    exact ⟨0, rfl, Nat.zero_le _, by show HB _ _ #[.bool false, .int .u64 0, .int .u64 0, .int .u64 0, .int .u64 0]; (repeat' (first | (with_reducible assumption) | ((with_reducible refine HB.new _ _ _ ?_) <;> (go_size; done)) | (with_reducible refine HB.old (by go_size) ?_) | (with_reducible refine HB.drew ?_) | (with_reducible refine HB.over5 ?_) | (with_reducible refine HB.over4 ?_) | (with_reducible refine HB.setne (by first | go_size | (dsimp only; omega)) ?_) | (with_reducible refine HN.set ?_) | (with_reducible refine HN.setne (by first | go_size | (dsimp only; omega)) ?_) | (with_reducible refine HN.drew ?_) | (with_reducible refine HN.old (by go_size) ?_) | (with_reducible exact HN.of5 (by assumption)) | (with_reducible exact HN.new5 _ _ (by go_size)) | (with_reducible exact HN.of4 (by assumption)) | (with_reducible exact HN.new4 _ _ (by go_size)))), by show HB _ _ #[.bool false, .int .u64 0, .int .u64 0, .int .u64 0, .int .u64 0]; (repeat' (first | (with_reducible assumption) | ((with_reducible refine HB.new _ _ _ ?_) <;> (go_size; done)) | (with_reducible refine HB.old (by go_size) ?_) | (with_reducible refine HB.drew ?_) | (with_reducible refine HB.over5 ?_) | (with_reducible refine HB.over4 ?_) | (with_reducible refine HB.setne (by first | go_size | (dsimp only; omega)) ?_) | (with_reducible refine HN.set ?_) | (with_reducible refine HN.setne (by first | go_size | (dsimp only; omega)) ?_) | (with_reducible refine HN.drew ?_) | (with_reducible refine HN.old (by go_size) ?_) | (with_reducible exact HN.of5 (by assumption)) | (with_reducible exact HN.new5 _ _ (by go_size)) | (with_reducible exact HN.of4 (by assumption)) | (with_reducible exact HN.new4 _ _ (by go_size)))), by (repeat' (first | (with_reducible assumption) | (with_reducible exact Below.refl _ _) | (with_reducible refine Below.alloc ?_ ?_ _) | (with_reducible refine Below.setCell ?_ ?_ _) | (with_reducible refine Below.drew ?_) | (with_reducible refine below_more ?_ (by with_reducible assumption)) | go_size | omega | (with_reducible refine below_drewN ?_)))⟩
  case round =>
    obtain ⟨k, rfl, hk, hT, hV, hB⟩ := hrel
    have hsz := hV.lt
    by_cases hlt : k < ss.length
    · obtain ⟨b, off, rfl, hb, hcs⟩ := HC.out (by omega)
      obtain ⟨p1, p2⟩ := hcs k hlt
      obtain ⟨hi, hi2⟩ := smp_i64 HI.out k
      have e1 : wsum Prod.fst ss (k + 1) = cl (wsum Prod.fst ss k + (ss.getD k (0, 0)).1) := rfl
      have e2 : wsum Prod.snd ss (k + 1) = cl (wsum Prod.snd ss k + (ss.getD k (0, 0)).2) := rfl
      have FT := fits_wsum Prod.fst ss k
      have FV := fits_wsum Prod.snd ss k
      obtain ⟨T, hT0⟩ : ∃ T, wsum Prod.fst ss k = T := ⟨_, rfl⟩
      obtain ⟨V, hV0⟩ : ∃ V, wsum Prod.snd ss k = V := ⟨_, rfl⟩
      obtain ⟨xy, hx⟩ : ∃ xy, ss.getD k (0, 0) = xy := ⟨_, rfl⟩
      rw [hT0] at e1 FT hT
      rw [hV0] at e2 FV hV
      rw [hx] at e1 e2 hi hi2 p1 p2
      obtain ⟨x, y⟩ := xy
      dsimp only at e1 e2 hi hi2 p1 p2
      have f1 := (hB.cell (p := ⟨b, off + k * 2, none⟩) hb).trans p1
      have f2 := (hB.cell (p := ⟨b, off + k * 2 + 1, none⟩) hb).trans p2
      have E1 := hid e1
      have E2 := hid e2
      have HADD := hid (fun W => add_w (IsW.we FT) (IsW.we (fits_i64 hi)) W)
      have HADD2 := hid (fun W => add_w (IsW.we FV) (IsW.we (fits_i64 hi2)) W)
      clear e1 e2 FT FV hT0 hV0 hx p1 p2 hcs
      (repeat' (first | go_values | go_skip | go_guarded | go_step | go_upon | (simp only [Int.not_lt, Int.not_le] at *; go_simp) | (go_values <;> (try go_simp)) | (go_ite <;> go_prune <;> (try go_simp)) | (split <;> (first | (rename_i hx; exact (hx _ rfl).elim) | go_prune))))
      (refine wp_region_dq (row := none) (S := (fun Wz => Below w.heap.size w Wz ∧ wr.heap.size + 1 ≤ Wz.heap.size ∧ Bx Wz (w.heap.size) (#[.bool (sg (T)), .int .u64 (lb0 (ab (T))), .int .u64 (lb1 (ab (T))), .int .u64 (lb2 (ab (T))), .int .u64 (lb3 (ab (T)))]) ∧ Bx Wz (w.heap.size + 1) (#[.bool (sg (V)), .int .u64 (lb0 (ab (V))), .int .u64 (lb1 (ab (V))), .int .u64 (lb2 (ab (V))), .int .u64 (lb3 (ab (V)))]) ∧ Bx Wz (wr.heap.size) (#[.int .i64 x, .int .i64 y]))) (n0 := wr.heap.size + 1) 8 [7] [(0, 0), (1, 0), (2, 0), (3, 0), (4, 0), (5, 0), (6, 0), (7, 2)] [] (by kernel_rfl) (by kernel_rfl) (fun _ _ d _ _ h => by cases d <;> exact h) ⟨by (repeat' (first | (with_reducible assumption) | (with_reducible exact Below.refl _ _) | (with_reducible refine Below.alloc ?_ ?_ _) | (with_reducible refine Below.setCell ?_ ?_ _) | (with_reducible refine Below.drew ?_) | (with_reducible refine below_more ?_ (by with_reducible assumption)) | go_size | omega | (with_reducible refine below_drewN ?_))), (by first | go_size | omega), Bx.of (by (repeat' (first | (with_reducible assumption) | ((with_reducible refine HB.new _ _ _ ?_) <;> (go_size; done)) | (with_reducible refine HB.old (by go_size) ?_) | (with_reducible refine HB.drew ?_) | (with_reducible refine HB.over5 ?_) | (with_reducible refine HB.over4 ?_) | (with_reducible refine HB.setne (by first | go_size | (dsimp only; omega)) ?_) | (with_reducible refine HN.set ?_) | (with_reducible refine HN.setne (by first | go_size | (dsimp only; omega)) ?_) | (with_reducible refine HN.drew ?_) | (with_reducible refine HN.old (by go_size) ?_) | (with_reducible exact HN.of5 (by assumption)) | (with_reducible exact HN.new5 _ _ (by go_size)) | (with_reducible exact HN.of4 (by assumption)) | (with_reducible exact HN.new4 _ _ (by go_size))))), Bx.of (by (repeat' (first | (with_reducible assumption) | ((with_reducible refine HB.new _ _ _ ?_) <;> (go_size; done)) | (with_reducible refine HB.old (by go_size) ?_) | (with_reducible refine HB.drew ?_) | (with_reducible refine HB.over5 ?_) | (with_reducible refine HB.over4 ?_) | (with_reducible refine HB.setne (by first | go_size | (dsimp only; omega)) ?_) | (with_reducible refine HN.set ?_) | (with_reducible refine HN.setne (by first | go_size | (dsimp only; omega)) ?_) | (with_reducible refine HN.drew ?_) | (with_reducible refine HN.old (by go_size) ?_) | (with_reducible exact HN.of5 (by assumption)) | (with_reducible exact HN.new5 _ _ (by go_size)) | (with_reducible exact HN.of4 (by assumption)) | (with_reducible exact HN.new4 _ _ (by go_size))))), Bx.of (by (repeat' (first | (with_reducible assumption) | ((with_reducible refine HB.new _ _ _ ?_) <;> (go_size; done)) | (with_reducible refine HB.old (by go_size) ?_) | (with_reducible refine HB.drew ?_) | (with_reducible refine HB.over5 ?_) | (with_reducible refine HB.over4 ?_) | (with_reducible refine HB.setne (by first | go_size | (dsimp only; omega)) ?_) | (with_reducible refine HN.set ?_) | (with_reducible refine HN.setne (by first | go_size | (dsimp only; omega)) ?_) | (with_reducible refine HN.drew ?_) | (with_reducible refine HN.old (by go_size) ?_) | (with_reducible exact HN.of5 (by assumption)) | (with_reducible exact HN.new5 _ _ (by go_size)) | (with_reducible exact HN.of4 (by assumption)) | (with_reducible exact HN.new4 _ _ (by go_size)))))⟩ (fun _ _ h g => keep3 h (below_gt g) rfl) (fun _ h => h.2.1) (fun _ h => by cases h) (by simp) ?_)
      refine' dq_pure (by rfl) (by rfl) ?hv1 ?rest1
      case hv1 => (intro w hw; (try dsimp only at hw); go_split_ands; go_simp; try with_reducible rfl)
      case' rest1 => try simp only [Act.put, List.setIfInBounds_toArray, List.set_cons_zero, List.set_cons_succ]
      refine' dq_pure (by rfl) (by rfl) ?hv2 ?rest2
      case hv2 => (intro w hw; (try dsimp only at hw); go_split_ands; go_simp; try with_reducible rfl)
      case' rest2 => try simp only [Act.put, List.setIfInBounds_toArray, List.set_cons_zero, List.set_cons_succ]
      refine' dq_pure (by rfl) (by rfl) ?hv3 ?rest3
      case hv3 => (intro w hw; (try dsimp only at hw); go_split_ands; go_simp; try with_reducible rfl)
      case' rest3 => try simp only [Act.put, List.setIfInBounds_toArray, List.set_cons_zero, List.set_cons_succ]
      refine' dq_call (by rfl) (by rfl) ?hv4 ?hc4 ?rest4
      case hv4 => (intro w; go_simp; exact ⟨rfl, rfl⟩)
      case hc4 => exact (fun w hw => calls_gt (of_any _ hi _))
      case' rest4 => try simp only [Act.put, List.setIfInBounds_toArray, List.set_cons_zero, List.set_cons_succ]
      refine' dq_call (by rfl) (by rfl) ?hv5 ?hc5 ?rest5
      case hv5 => (intro w; go_simp; exact ⟨rfl, rfl⟩)
      case hc5 => exact (fun w hw => calls_gt (HADD.out _))
      case' rest5 => try simp only [Act.put, List.setIfInBounds_toArray, List.set_cons_zero, List.set_cons_succ]
      refine' dq_pure (by rfl) (by rfl) ?hv6 ?rest6
      case hv6 => (intro w hw; (try dsimp only at hw); go_split_ands; go_simp; try with_reducible rfl)
      case' rest6 => try simp only [Act.put, List.setIfInBounds_toArray, List.set_cons_zero, List.set_cons_succ]
      refine' dq_pure (by rfl) (by rfl) ?hv7 ?rest7
      case hv7 => (intro w hw; (try dsimp only at hw); go_split_ands; go_simp; try with_reducible rfl)
      case' rest7 => try simp only [Act.put, List.setIfInBounds_toArray, List.set_cons_zero, List.set_cons_succ]
      refine' dq_late (by rfl) (by rfl) ?hv8 ?rest8
      case hv8 => (intro w; go_simp; try with_reducible rfl)
      case' rest8 => try simp only [Act.put, List.setIfInBounds_toArray, List.set_cons_zero, List.set_cons_succ]
      refine dq_nil ?_
      simp only [fa, List.drop_succ_cons, List.drop_zero]
      rintro W ⟨⟨hb0, hn0, ⟨B1, B1c, B1f, B1l⟩, ⟨B2, B2c, B2f, B2l⟩, ⟨B3, B3c, B3f, B3l⟩⟩, hgl⟩ hbs
      clear hbs hgl
      (repeat' (first | go_values | go_skip | go_guarded | go_step | go_upon | (simp only [Int.not_lt, Int.not_le] at *; go_simp) | (go_values <;> (try go_simp)) | (go_ite <;> go_prune <;> (try go_simp)) | (split <;> (first | (rename_i hx; exact (hx _ rfl).elim) | go_prune))))
      
      
      (refine wp_region_dq (row := none) (S := (fun Wz => Below w.heap.size w Wz ∧ wr.heap.size + 1 ≤ Wz.heap.size ∧ Bx Wz (w.heap.size) (#[.bool (sg (cl (T + x))), .int .u64 (lb0 (ab (cl (T + x)))), .int .u64 (lb1 (ab (cl (T + x)))), .int .u64 (lb2 (ab (cl (T + x)))), .int .u64 (lb3 (ab (cl (T + x))))]) ∧ Bx Wz (w.heap.size + 1) (#[.bool (sg (V)), .int .u64 (lb0 (ab (V))), .int .u64 (lb1 (ab (V))), .int .u64 (lb2 (ab (V))), .int .u64 (lb3 (ab (V)))]) ∧ Bx Wz (wr.heap.size) (#[.int .i64 x, .int .i64 y]))) (n0 := wr.heap.size + 1) 8 [7] [(0, 0), (1, 0), (2, 0), (3, 0), (4, 0), (5, 0), (6, 0), (7, 2)] [] (by kernel_rfl) (by kernel_rfl) (fun _ _ d _ _ h => by cases d <;> exact h) ⟨by (repeat' (first | (with_reducible assumption) | (with_reducible exact Below.refl _ _) | (with_reducible refine Below.alloc ?_ ?_ _) | (with_reducible refine Below.setCell ?_ ?_ _) | (with_reducible refine Below.drew ?_) | (with_reducible refine below_more ?_ (by with_reducible assumption)) | go_size | omega | (with_reducible refine below_drewN ?_))), (by first | go_size | omega), Bx.of (by (repeat' (first | (with_reducible assumption) | ((with_reducible refine HB.new _ _ _ ?_) <;> (go_size; done)) | (with_reducible refine HB.old (by go_size) ?_) | (with_reducible refine HB.drew ?_) | (with_reducible refine HB.over5 ?_) | (with_reducible refine HB.over4 ?_) | (with_reducible refine HB.setne (by first | go_size | (dsimp only; omega)) ?_) | (with_reducible refine HN.set ?_) | (with_reducible refine HN.setne (by first | go_size | (dsimp only; omega)) ?_) | (with_reducible refine HN.drew ?_) | (with_reducible refine HN.old (by go_size) ?_) | (with_reducible exact HN.of5 (by assumption)) | (with_reducible exact HN.new5 _ _ (by go_size)) | (with_reducible exact HN.of4 (by assumption)) | (with_reducible exact HN.new4 _ _ (by go_size))))), Bx.of (by (repeat' (first | (with_reducible assumption) | ((with_reducible refine HB.new _ _ _ ?_) <;> (go_size; done)) | (with_reducible refine HB.old (by go_size) ?_) | (with_reducible refine HB.drew ?_) | (with_reducible refine HB.over5 ?_) | (with_reducible refine HB.over4 ?_) | (with_reducible refine HB.setne (by first | go_size | (dsimp only; omega)) ?_) | (with_reducible refine HN.set ?_) | (with_reducible refine HN.setne (by first | go_size | (dsimp only; omega)) ?_) | (with_reducible refine HN.drew ?_) | (with_reducible refine HN.old (by go_size) ?_) | (with_reducible exact HN.of5 (by assumption)) | (with_reducible exact HN.new5 _ _ (by go_size)) | (with_reducible exact HN.of4 (by assumption)) | (with_reducible exact HN.new4 _ _ (by go_size))))), Bx.of (by (repeat' (first | (with_reducible assumption) | ((with_reducible refine HB.new _ _ _ ?_) <;> (go_size; done)) | (with_reducible refine HB.old (by go_size) ?_) | (with_reducible refine HB.drew ?_) | (with_reducible refine HB.over5 ?_) | (with_reducible refine HB.over4 ?_) | (with_reducible refine HB.setne (by first | go_size | (dsimp only; omega)) ?_) | (with_reducible refine HN.set ?_) | (with_reducible refine HN.setne (by first | go_size | (dsimp only; omega)) ?_) | (with_reducible refine HN.drew ?_) | (with_reducible refine HN.old (by go_size) ?_) | (with_reducible exact HN.of5 (by assumption)) | (with_reducible exact HN.new5 _ _ (by go_size)) | (with_reducible exact HN.of4 (by assumption)) | (with_reducible exact HN.new4 _ _ (by go_size)))))⟩ (fun _ _ h g => keep3 h (below_gt g) rfl) (fun _ h => h.2.1) (fun _ h => by cases h) (by simp) ?_)
      refine' dq_pure (by rfl) (by rfl) ?hv9 ?rest9
      case hv9 => (intro w hw; (try dsimp only at hw); go_split_ands; go_simp; try with_reducible rfl)
      case' rest9 => try simp only [Act.put, List.setIfInBounds_toArray, List.set_cons_zero, List.set_cons_succ]
      refine' dq_pure (by rfl) (by rfl) ?hv10 ?rest10
      case hv10 => (intro w hw; (try dsimp only at hw); go_split_ands; go_simp; try with_reducible rfl)
      case' rest10 => try simp only [Act.put, List.setIfInBounds_toArray, List.set_cons_zero, List.set_cons_succ]
      refine' dq_pure (by rfl) (by rfl) ?hv11 ?rest11
      case hv11 => (intro w hw; (try dsimp only at hw); go_split_ands; go_simp; try with_reducible rfl)
      case' rest11 => try simp only [Act.put, List.setIfInBounds_toArray, List.set_cons_zero, List.set_cons_succ]
      refine' dq_call (by rfl) (by rfl) ?hv12 ?hc12 ?rest12
      case hv12 => (intro w; go_simp; exact ⟨rfl, rfl⟩)
      case hc12 => exact (fun w hw => calls_gt (of_any _ hi2 _))
      case' rest12 => try simp only [Act.put, List.setIfInBounds_toArray, List.set_cons_zero, List.set_cons_succ]
      refine' dq_call (by rfl) (by rfl) ?hv13 ?hc13 ?rest13
      case hv13 => (intro w; go_simp; exact ⟨rfl, rfl⟩)
      case hc13 => exact (fun w hw => calls_gt (HADD2.out _))
      case' rest13 => try simp only [Act.put, List.setIfInBounds_toArray, List.set_cons_zero, List.set_cons_succ]
      refine' dq_pure (by rfl) (by rfl) ?hv14 ?rest14
      case hv14 => (intro w hw; (try dsimp only at hw); go_split_ands; go_simp; try with_reducible rfl)
      case' rest14 => try simp only [Act.put, List.setIfInBounds_toArray, List.set_cons_zero, List.set_cons_succ]
      refine' dq_pure (by rfl) (by rfl) ?hv15 ?rest15
      case hv15 => (intro w hw; (try dsimp only at hw); go_split_ands; go_simp; try with_reducible rfl)
      case' rest15 => try simp only [Act.put, List.setIfInBounds_toArray, List.set_cons_zero, List.set_cons_succ]
      refine' dq_late (by rfl) (by rfl) ?hv16 ?rest16
      case hv16 => (intro w; go_simp; try with_reducible rfl)
      case' rest16 => try simp only [Act.put, List.setIfInBounds_toArray, List.set_cons_zero, List.set_cons_succ]
      refine dq_nil ?_
      simp only [fa, List.drop_succ_cons, List.drop_zero]
      rintro W ⟨⟨hb0, hn0, ⟨B1, B1c, B1f, B1l⟩, ⟨B2, B2c, B2f, B2l⟩, ⟨B3, B3c, B3f, B3l⟩⟩, hgl⟩ hbs
      clear hbs hgl
      (repeat' (first | go_values | go_skip | go_guarded | go_step | go_upon | (simp only [Int.not_lt, Int.not_le] at *; go_simp) | (go_values <;> (try go_simp)) | (go_ite <;> go_prune <;> (try go_simp)) | (split <;> (first | (rename_i hx; exact (hx _ rfl).elim) | go_prune))))
      go_roundw
      case rel => exact ⟨k + 1, by simp, by omega, by rw [E1.out]; (repeat' (first | (with_reducible assumption) | ((with_reducible refine HB.new _ _ _ ?_) <;> (go_size; done)) | (with_reducible refine HB.old (by go_size) ?_) | (with_reducible refine HB.drew ?_) | (with_reducible refine HB.over5 ?_) | (with_reducible refine HB.over4 ?_) | (with_reducible refine HB.setne (by first | go_size | (dsimp only; omega)) ?_) | (with_reducible refine HN.set ?_) | (with_reducible refine HN.setne (by first | go_size | (dsimp only; omega)) ?_) | (with_reducible refine HN.drew ?_) | (with_reducible refine HN.old (by go_size) ?_) | (with_reducible exact HN.of5 (by assumption)) | (with_reducible exact HN.new5 _ _ (by go_size)) | (with_reducible exact HN.of4 (by assumption)) | (with_reducible exact HN.new4 _ _ (by go_size)))), by rw [E2.out]; (repeat' (first | (with_reducible assumption) | ((with_reducible refine HB.new _ _ _ ?_) <;> (go_size; done)) | (with_reducible refine HB.old (by go_size) ?_) | (with_reducible refine HB.drew ?_) | (with_reducible refine HB.over5 ?_) | (with_reducible refine HB.over4 ?_) | (with_reducible refine HB.setne (by first | go_size | (dsimp only; omega)) ?_) | (with_reducible refine HN.set ?_) | (with_reducible refine HN.setne (by first | go_size | (dsimp only; omega)) ?_) | (with_reducible refine HN.drew ?_) | (with_reducible refine HN.old (by go_size) ?_) | (with_reducible exact HN.of5 (by assumption)) | (with_reducible exact HN.new5 _ _ (by go_size)) | (with_reducible exact HN.of4 (by assumption)) | (with_reducible exact HN.new4 _ _ (by go_size)))), by (repeat' (first | (with_reducible assumption) | (with_reducible exact Below.refl _ _) | (with_reducible refine Below.alloc ?_ ?_ _) | (with_reducible refine Below.setCell ?_ ?_ _) | (with_reducible refine Below.drew ?_) | (with_reducible refine below_more ?_ (by with_reducible assumption)) | go_size | omega | (with_reducible refine below_drewN ?_)))⟩
      case measure => simp [intOf]; omega
    · obtain rfl : k = ss.length := by omega
      obtain ⟨T, hT0⟩ : ∃ T, wsum Prod.fst ss ss.length = T := ⟨_, rfl⟩
      obtain ⟨V, hV0⟩ : ∃ V, wsum Prod.snd ss ss.length = V := ⟨_, rfl⟩
      rw [hT0] at hT
      rw [hV0] at hV
      have HT := hid hT0
      have HV := hid hV0
      clear hT0 hV0
      obtain ⟨B1, B1c, B1f, B1l⟩ := Bx.of hT
      obtain ⟨B2, B2c, B2f, B2l⟩ := Bx.of hV
      have hmx : Try.prog.follows .mixedOrders = true := by kernel_rfl
      (repeat' (first | go_values | go_skip | go_guarded | go_step | go_upon | (simp only [Int.not_lt, Int.not_le] at *; go_simp) | (go_values <;> (try go_simp)) | (go_ite <;> go_prune <;> (try go_simp)) | (split <;> (first | (rename_i hx; exact (hx _ rfl).elim) | go_prune))))
      go_region
      all_goals (repeat' (first | go_values | go_skip | go_guarded | go_step | go_upon | (simp only [Int.not_lt, Int.not_le] at *; go_simp) | (go_values <;> (try go_simp)) | (go_ite <;> go_prune <;> (try go_simp)) | (split <;> (first | (rename_i hx; exact (hx _ rfl).elim) | go_prune))))
      refine bodyPost_ret (v := .tuple #[WE T, WE V]) ?_ rfl ⟨by rw [HT.out, HV.out], by (repeat' (first | (with_reducible assumption) | (with_reducible exact Below.refl _ _) | (with_reducible refine Below.alloc ?_ ?_ _) | (with_reducible refine Below.setCell ?_ ?_ _) | (with_reducible refine Below.drew ?_) | (with_reducible refine below_more ?_ (by with_reducible assumption)) | go_size | omega | (with_reducible refine below_drewN ?_)))⟩
      simp [results, Try.results73, go_sem, B1c, B1f, B1l, B2c, B2f, B2l]
end Go.Proofs.Ythcboomdkpiflaa

/- MadeB: The tape of tscodecmade, continued: Times, Samples and Values: lists in new memory. -/
namespace Go.Proofs.Ythcboomdkpiflaa
open Go.ChangeShapes Go.WideShapes Go.ChangeAt Go.RowKit
set_option linter.unusedVariables false
set_option linter.unusedSimpArgs false
theorem info_i64 : (Try.prog.info? 2).map (fun i => (i.zero, i.size, i.bytes)) = some (some (.int .i64 0), 1, 8) := by kernel_rfl
/-- A strictly increasing list of int64 numbers, all less than x. -/
def IncL (zs : List Int) (x : Int) : Prop := zs.Pairwise (· < ·) ∧ ∀ z ∈ zs, z < x ∧ I64 z
theorem IncL.nil (x : Int) : IncL [] x := ⟨List.Pairwise.nil, by simp⟩
theorem IncL.snoc {zs : List Int} {x y : Int} (h : IncL zs x) (hx : I64 x) (hxy : x < y) : IncL (zs ++ [x]) y := by
  refine ⟨List.pairwise_append.2 ⟨h.1, List.pairwise_singleton _ _, fun a ha b hb => ?_⟩, fun z hz => ?_⟩
  · simp at hb; subst hb; exact (h.2 a ha).1
  · rcases List.mem_append.1 hz with hz | hz
    · have := h.2 z hz; exact ⟨by omega, this.2⟩
    · simp at hz; subst hz; exact ⟨hxy, hx⟩
def Inc (zs : List Int) : Prop := zs.Pairwise (· < ·) ∧ ∀ z ∈ zs, I64 z
theorem IncL.inc {zs : List Int} {x : Int} (h : IncL zs x) : Inc zs := ⟨h.1, fun z hz => (h.2 z hz).2⟩
theorem times_gap (x : Int) (hx : I64 x) : IntKind.u64.wrap (9223372036854775807 - IntKind.u64.wrap x) = 9223372036854775807 - x := by
  obtain ⟨h1, h2⟩ := hx
  rw [IntKind.wrap_u64, IntKind.wrap_u64]; omega
theorem times_step (x d : Int) (hx : I64 x) (h1 : 1 ≤ d) (h : d ≤ 9223372036854775807 - x) : wrap64 (IntKind.u64.wrap (IntKind.u64.wrap x + d)) = x + d ∧ I64 (x + d) := by
  obtain ⟨x1, x2⟩ := hx
  have hi : I64 (x + d) := ⟨by omega, by omega⟩
  refine ⟨?_, hi⟩
  have e : wrap64 (IntKind.u64.wrap (IntKind.u64.wrap x + d)) = wrap64 (x + d) := by simp only [wrap64, IntKind.wrap_u64]; omega
  rw [e, wrap64_id _ hi]
theorem shr_d (u s : Int) (u1 : 0 ≤ u) (u2 : u ≤ 18446744073709551615) (s1 : 1 ≤ s) : 1 ≤ 1 + u / 2 ^ s.toNat ∧ 1 + u / 2 ^ s.toNat ≤ 9223372036854775808 := by
  have e : s.toNat = 1 + (s - 1).toNat := by omega
  have hp : (0 : Int) < 2 ^ (s - 1).toNat := Int.pow_pos (by decide)
  have e2 : u / 2 ^ s.toNat = u / 2 / 2 ^ (s - 1).toNat := by
    rw [e, Int.pow_add, Int.ediv_ediv_of_nonneg (by decide)]; rfl
  have h4 : u / 2 ≤ 9223372036854775807 := by omega
  have h0 : 0 ≤ u / 2 := by omega
  have h1 := Int.ediv_nonneg h0 (Int.le_of_lt hp)
  have h2 := Int.ediv_le_self (2 ^ (s - 1).toNat) h0
  rw [e2]
  generalize u / 2 / 2 ^ (s - 1).toNat = q at *
  exact ⟨by omega, by omega⟩
/-- A list of int64 numbers in new memory. -/
def LPost (B Bm : Nat) (b : Nat) (w : World) (Q : List Int → Prop) (e : Ending) (w' : World) : Prop :=
  ∃ (v : Value) (zs : List Int), Q zs ∧ e = .returned v ∧ w'.ownsRow w.heap.size 2 1 v zs.length (zs.map (Value.int .i64)) ∧ TapeOk B Bm w' b ∧ w.grownBy w' (some b)
theorem own_row {w : World} {e : TypeId} {size n : Nat} {v : Value} {xs : List Value} {base : Nat} (h : w.ownsRow base e size v n xs) : ∀ k, v.ownBlock = some k → base ≤ k := fun k hk => (h.lt k hk).1
theorem own_ne {w : World} {e : TypeId} {size n : Nat} {v : Value} {xs : List Value} {base b : Nat} (h : w.ownsRow base e size v n xs) (hb : b < base) : v.ownBlock = none ∨ v.ownBlock ≠ some b := by
  cases hv : v.ownBlock with
  | none => exact .inl rfl
  | some k => exact .inr (fun e => by have := own_row h k hv; cases e; omega)
theorem one_cell (w : World) (x : Value) (t : TypeId) (j : Nat) (u : Value) (h : [x][j]? = some u) : (w.alloc (.cells #[x] t)).cell? ((⟨w.heap.size, 0, none⟩ : Addr).add j) = some u := by
  match j, h with
  | 0, h => simp at h; subst h; simp [Addr.add]
theorem shr_w (u s : Int) (u1 : 0 ≤ u) (u2 : u ≤ 18446744073709551615) (s1 : 1 ≤ s) : 1 ≤ IntKind.u64.wrap (1 + u / 2 ^ s.toNat) := by
  have h := shr_d u s u1 u2 s1
  rw [u64_wrap_id _ ⟨by omega, by omega⟩]; exact h.1
theorem own_snoc {w : World} {zs : List Int} {x : Int} {v : Value} {base : Nat} {e : TypeId} (h : w.ownsRow base e 1 v (zs.length + 1) (zs.map (Value.int .i64) ++ [.int .i64 x])) : w.ownsRow base e 1 v (zs ++ [x]).length ((zs ++ [x]).map (Value.int .i64)) := by
  rw [List.length_append, List.map_append]; exact h
theorem times_close {B Bm b base : Nat} {e : TypeId} {w wz : World} {zs : List Int} {x D k k0 : Int} {v : Value} (hx : I64 x) (hD : 1 ≤ D) (hle : D ≤ IntKind.u64.wrap (9223372036854775807 - IntKind.u64.wrap x)) (hk : 0 < k) (hlen : (zs.length : Int) + k = k0) (hinc : IncL zs x)
    (hown : wz.ownsRow base e 1 v (zs.length + 1) (zs.map (Value.int .i64) ++ [.int .i64 x])) (ht : TapeOk B Bm wz b) (hg : w.grownBy wz (some b)) :
    ∃ (zs' : List Int) (x' k' : Int), Value.int .i64 (wrap64 (IntKind.u64.wrap (IntKind.u64.wrap x + D))) = .int .i64 x' ∧ Value.int .i64 (k - 1) = .int .i64 k' ∧ I64 x' ∧ 0 ≤ k' ∧ (zs'.length : Int) + k' = k0 ∧ IncL zs' x' ∧
      wz.ownsRow base e 1 v zs'.length (zs'.map (Value.int .i64)) ∧ TapeOk B Bm wz b ∧ w.grownBy wz (some b) := by
  rw [times_gap x hx] at hle
  obtain ⟨e1, e2⟩ := times_step x D hx hD hle
  exact ⟨zs ++ [x], x + D, k - 1, by rw [e1], rfl, e2, by omega, by simp; omega, hinc.snoc hx (by omega), own_snoc hown, ht, hg⟩
set_option maxHeartbeats 1600000 in
set_option maxRecDepth 100000 in
theorem times_any {B Bm : Nat} (b : Nat) (n : Int) (n0 : 0 ≤ n) (hn : n ≤ 1000) (w : World) (ht0 : TapeOk B Bm w b) :
    Calls Try.prog 53 #[.pointer (some ⟨b, 0, none⟩), .int .i64 n] w (LPost B Bm b w fun zs => Inc zs ∧ (zs.length : Int) ≤ n) := by
  obtain ⟨i0, hi, hz0, hz1, hz2⟩ := info_parts info_i64
  have hB := ht0.leB
  have hbl := ht0.lt
  go_enter Try.func53, Try.ntmps53
  go_wp2_with fail
  refine (next_any b 5 ⟨by decide, by decide⟩ _ ht0).mono ?_
  rintro e w1 ⟨kd, ⟨kd1, kd2, _⟩, rfl, t1, g1⟩
  go_wp2_with fail
  refine (int_any b _ t1).mono ?_
  rintro e w2 ⟨x0, hx0, rfl, t2, g2⟩
  go_wp2_with fail
  refine (next_any b 50 ⟨by decide, by decide⟩ _ t2).mono ?_
  rintro e w3 ⟨st, ⟨st1, st2, _⟩, rfl, t3, g3⟩
  go_wp2_with fail
  refine (next_any b (n + 1) ⟨by omega, by omega⟩ _ t3).mono ?_
  rintro e w4 ⟨k0, ⟨k01, k02, _⟩, rfl, t4, g4⟩
  have hkn : k0 ≤ n := by omega
  have G4 := hid (grown_trans (grown_trans (grown_trans g1 g2) g3) g4)
  have st3 : st < 50 := st2 (by decide)
  clear g1 g2 g3 g4 t1 t2 t3 k02 kd2 st2
  go_wp2
  go_loopw [5, 7, 9] (fun l at_ i wr => ∃ (zs : List Int) (x k : Int), at_ = .int .i64 x ∧ i = .int .i64 k ∧ I64 x ∧ 0 ≤ k ∧ (zs.length : Int) + k = k0 ∧ IncL zs x ∧ wr.ownsRow w.heap.size 2 1 l zs.length (zs.map (Value.int .i64)) ∧ TapeOk B Bm wr b ∧ w.grownBy wr (some b)) (fun _ _ i _ => (intOf i).toNat)
  case atStart => exact ⟨[], x0, k0, rfl, rfl, hx0, k01, by simp, IncL.nil _, World.ownsRow_nil _ _ _ _, t4, G4.out⟩
  case round =>
    obtain ⟨zs, x, k, rfl, rfl, hx, hk0, hlen, hinc, hown, ht, hg⟩ := hrel
    have HLEN := hid hlen
    clear hlen t4
    have hlen1 : (zs.length : Int) ≤ 1000 := by have := HLEN.out; omega
    have hk1 : k ≤ 1000 := by have := HLEN.out; omega
    by_cases hlt : 0 < k
    · have hx1 := hx.1
      have hx2 := hx.2
      have GAP := times_gap x hx
      go_wp2_with (first | (at_builtin; refine wpList_append_own _ rfl _ _ 77 rfl w.heap.size 2 i0 (.int .i64 0) 1 8 Try.underlying77 hi hz0 hz1 hz2 rfl (by decide) _ _ _ rfl (hown.alloc _) ⟨wr.heap.size, 0, none⟩ 1 1 [.int .i64 x] rfl rfl ?c1 ?c2 ?c3 ?c4 ?c5 ?_) | fail)
      case c1 => exact fun j u h => one_cell _ _ _ j u h
      case c2 => intro u hu; simp at hu; subst hu; rfl
      case c3 => unfold maxLen; omega
      case c4 => omega
      case c5 => have := hg.size; simp; omega
      intro v' w5 hown' hgrow _
      have hrow := own_row hown
      have T5 : TapeOk B Bm w5 b := (ht.alloc _).grown hgrow (fun j hj => Nat.le_trans hB (hrow j hj))
      have G5 := grown_own (grown_alloc hg _) hgrow hrow
      have K5 := hid (fun (wz : World) (hz : w5.grownBy wz (some b)) => hown'.kept hz (own_ne hown' hbl))
      clear hgrow hrow hown' hown ht hg
      have G := hid GAP
      clear GAP
      go_wp2_with (first | (go_at_call 14; refine (next_any b _ (by exact ⟨by omega, by omega⟩) _ (by assumption)).mono ?_; rintro e w' ⟨r, ⟨r1, r2, r3⟩, rfl, ht, hg⟩) | (go_at_call 35; refine (word_any b _ (by assumption)).mono ?_; rintro e w' ⟨u, ⟨u1, u2⟩, rfl, ht, hg⟩) | (go_at_call 36; refine (bool_any b 4 (by decide) (by decide) _ (by assumption)).mono ?_; rintro e w' ⟨r, rfl, ht, hg⟩))
      all_goals first
        | (go_roundw
           case rel => exact times_close hx (by first | omega | exact shr_w _ _ u1 u2 (by omega)) (by assumption) hlt HLEN.out hinc (K5.out _ (by repeat (first | exact grown_refl _ _ | assumption | refine grown_trans ?_ (by assumption)))) (by assumption) (grown_trans G5 (by repeat (first | exact grown_refl _ _ | assumption | refine grown_trans ?_ (by assumption))))
           case measure => simp [intOf]; omega)
        | (go_ret
           exact ⟨_, zs ++ [x], ⟨(hinc.snoc (y := x + 1) hx (by omega)).inc, by have := HLEN.out; simp; omega⟩, rfl, own_snoc (K5.out _ (by repeat (first | exact grown_refl _ _ | assumption | refine grown_trans ?_ (by assumption)))), by assumption, grown_trans G5 (by repeat (first | exact grown_refl _ _ | assumption | refine grown_trans ?_ (by assumption)))⟩)
    · go_wp2
      go_ret
      exact ⟨_, zs, ⟨hinc.inc, by have := HLEN.out; omega⟩, rfl, hown, ht, hg⟩
theorem own_base {w : World} {base base' size n : Nat} {e : TypeId} {v : Value} {xs : List Value} (h : w.ownsRow base e size v n xs) (hb : base' ≤ base) : w.ownsRow base' e size v n xs := by
  obtain ⟨h1, h2⟩ := h
  refine ⟨h1, ?_⟩
  rcases h2 with h2 | ⟨g, cap, cur, h2, h3, h4⟩
  · exact .inl h2
  · exact .inr ⟨g, cap, cur, h2, Nat.le_trans hb h3, h4⟩
/-- An owned row, as a slice whose cells are known. -/
theorem own_slice {w : World} {base size n : Nat} {e : TypeId} {v : Value} {xs : List Value} (h : w.ownsRow base e size v n xs) (hn : n * size = xs.length) :
    ∃ (a : Option Addr) (cap : Nat), v = .slice a n cap ∧ n ≤ cap ∧ cap ≤ maxLen ∧ (0 < n → ∃ g, a = some ⟨g, 0, none⟩ ∧ base ≤ g ∧ g < w.heap.size ∧ ∀ j u, xs[j]? = some u → w.cell? ⟨g, j, none⟩ = some u) := by
  have hc : ∀ g, v.ownBlock = some g → ∀ j u, xs[j]? = some u → w.cell? ((⟨g, 0, none⟩ : Addr).add j) = some u := fun g hg => h.cells hg
  have hlt := h.lt
  obtain ⟨h1, h2⟩ := h
  rcases h2 with ⟨rfl, rfl⟩ | ⟨g, cap, cur, rfl, h3, h4, h5, h6, h7⟩
  · exact ⟨none, 0, rfl, Nat.le_refl _, by simp [maxLen], fun h => absurd h (by omega)⟩
  · refine ⟨_, cap, rfl, h5, h6, fun _ => ⟨g, rfl, h3, (hlt g rfl).2, fun j u hj => ?_⟩⟩
    have := hc g rfl j u hj
    simpa [Go.WideShapes.add_plain] using this
def scell (s : Int × Int) : List Value := [.int .i64 s.1, .int .i64 s.2]
def scells (ss : List (Int × Int)) : List Value := ss.flatMap scell
theorem scells_len (ss : List (Int × Int)) : (scells ss).length = ss.length * 2 := by
  induction ss with
  | nil => rfl
  | cons s ss ih => simp [scells, scell] at ih ⊢; omega
theorem scells_at (ss : List (Int × Int)) : ∀ (i : Nat), i < ss.length → (scells ss)[2 * i]? = some (.int .i64 (ss.getD i (0, 0)).1) ∧ (scells ss)[2 * i + 1]? = some (.int .i64 (ss.getD i (0, 0)).2) := by
  induction ss with
  | nil => intro i hi; simp at hi
  | cons s ss ih =>
    intro i hi
    cases i with
    | zero => simp [scells, scell]
    | succ i =>
      have := ih i (by simpa using hi)
      have e : scells (s :: ss) = [.int .i64 s.1, .int .i64 s.2] ++ scells ss := rfl
      rw [e]
      refine ⟨?_, ?_⟩
      · rw [List.getElem?_append_right (by simp; omega)]; simpa [show 2 * (i + 1) - 2 = 2 * i by omega] using this.1
      · rw [List.getElem?_append_right (by simp; omega)]; simpa [show 2 * (i + 1) + 1 - 2 = 2 * i + 1 by omega] using this.2
theorem two_cells (w : World) (x y : Value) (t : TypeId) (j : Nat) (u : Value) (h : [x, y][j]? = some u) : (w.alloc (.cells #[x, y] t)).cell? ((⟨w.heap.size, 0, none⟩ : Addr).add j) = some u := by
  match j, h with
  | 0, h => simp at h; subst h; simp [Addr.add]
  | 1, h => simp at h; subst h; simp [Addr.add]
/-- A list of samples in new memory. -/
def SPost (B Bm : Nat) (b : Nat) (w : World) (Q : List (Int × Int) → Prop) (e : Ending) (w' : World) : Prop :=
  ∃ (v : Value) (ss : List (Int × Int)), Q ss ∧ e = .returned v ∧ w'.ownsRow w.heap.size 23 2 v ss.length (scells ss) ∧ TapeOk B Bm w' b ∧ w.grownBy w' (some b)
/-- Samples with strictly increasing times, all numbers int64. -/
def Smp (ss : List (Int × Int)) : Prop := Inc (ss.map (·.1)) ∧ ∀ s ∈ ss, I64 s.2
theorem samp_step {B Bm b base : Nat} {e : TypeId} {w wz : World} {zs : List Int} {ss : List (Int × Int)} {x y : Int} {v : Value} (hss : ss.map (·.1) = zs.take ss.length) (hk : ss.length < zs.length) (hv : ∀ s ∈ ss, I64 s.2) (hx : I64 x) (hy : I64 y)
    (hown : wz.ownsRow base e 2 v (ss.length + 1) (scells ss ++ [.int .i64 (zs[ss.length]'hk), .int .i64 y])) (ht : TapeOk B Bm wz b) (hg : w.grownBy wz (some b)) :
    ∃ (ss' : List (Int × Int)) (x' : Int), Value.int .i64 x = .int .i64 x' ∧ I64 x' ∧ Value.int .i64 ((ss.length : Int) + 1) = .int .i64 ss'.length ∧ ss'.length ≤ zs.length ∧ ss'.map (·.1) = zs.take ss'.length ∧ (∀ s ∈ ss', I64 s.2) ∧
      wz.ownsRow base e 2 v ss'.length (scells ss') ∧ TapeOk B Bm wz b ∧ w.grownBy wz (some b) := by
  refine ⟨ss ++ [(zs.getD ss.length 0, y)], x, rfl, hx, by simp, by simp; omega, ?_, ?_, ?_, ht, hg⟩
  · rw [List.map_append, hss, List.length_append, List.length_singleton, List.take_succ_eq_append_getElem hk, List.getD_eq_getElem?_getD, List.getElem?_eq_getElem hk]; rfl
  · intro s hs
    rcases List.mem_append.1 hs with hs | hs
    · exact hv s hs
    · simp at hs; subst hs; exact hy
  · rw [List.length_append]
    have e2 : scells (ss ++ [(zs.getD ss.length 0, y)]) = scells ss ++ [.int .i64 (zs[ss.length]'hk), .int .i64 y] := by simp [scells, scell, List.getD_eq_getElem?_getD, List.getElem?_eq_getElem hk]
    rw [e2]; exact hown
theorem info_sample : (Try.prog.info? 23).map (fun i => (i.zero, i.size, i.bytes)) = some (some (.agg #[.int .i64 0, .int .i64 0]), 2, 16) := by kernel_rfl
set_option maxHeartbeats 3200000 in
set_option maxRecDepth 100000 in
theorem samples_any {B Bm : Nat} (b : Nat) (n : Int) (n0 : 0 ≤ n) (hn : n ≤ 1000) (w : World) (ht0 : TapeOk B Bm w b) :
    Calls Try.prog 26 #[.pointer (some ⟨b, 0, none⟩), .int .i64 n] w (SPost B Bm b w fun ss => Smp ss ∧ (ss.length : Int) ≤ n) := by
  obtain ⟨i0, hi, hz0, hz1, hz2⟩ := info_parts info_sample
  have hB := ht0.leB
  have hbl := ht0.lt
  go_enter Try.func26, Try.ntmps26
  go_wp2_with fail
  refine (times_any b n n0 hn _ ht0).mono ?_
  rintro e w1 ⟨vt, zs, ⟨hinc, hzl⟩, rfl, hownt, t1, g1⟩
  obtain ⟨at_, cap, rfl, hcap1, hcap2, hcell⟩ := own_slice hownt (by simp)
  clear hownt
  go_wp2_with fail
  refine (next_any b 7 ⟨by decide, by decide⟩ _ t1).mono ?_
  rintro e w2 ⟨kd, ⟨kd1, kd2, _⟩, rfl, t2, g2⟩
  go_wp2_with fail
  refine (int_any b _ t2).mono ?_
  rintro e w3 ⟨x0, hx0, rfl, t3, g3⟩
  go_wp2_with fail
  refine (next_any b 41 ⟨by decide, by decide⟩ _ t3).mono ?_
  rintro e w4 ⟨sl, ⟨sl1, sl2, _⟩, rfl, t4, g4⟩
  have hsl : sl < 41 := sl2 (by decide)
  have G4 := hid (grown_trans (grown_trans g2 g3) g4)
  have G1 := hid g1
  have hs1 := g1.size
  have hL : zs.length ≤ 1000 := by omega
  have HC := hid hcell
  have hb1 := t1.lt
  have hB1 := t1.leB
  clear g1 g2 g3 g4 t1 t2 t3 kd2 sl2 hcell
  go_wp2
  go_loopw [6, 8, 10] (fun l v i wr => ∃ (ss : List (Int × Int)) (x : Int), v = .int .i64 x ∧ I64 x ∧ i = .int .i64 ss.length ∧ ss.length ≤ zs.length ∧ ss.map (·.1) = zs.take ss.length ∧ (∀ s ∈ ss, I64 s.2) ∧
      wr.ownsRow w1.heap.size 23 2 l ss.length (scells ss) ∧ TapeOk B Bm wr b ∧ w1.grownBy wr (some b)) (fun _ _ i _ => zs.length - (intOf i).toNat)
  case atStart => exact ⟨[], x0, rfl, hx0, rfl, Nat.zero_le _, by simp, by simp, World.ownsRow_nil _ _ _ _, t4, G4.out⟩
  case round =>
    obtain ⟨ss, x, rfl, hx, rfl, hle, hss, hv, hown, ht, hg⟩ := hrel
    have HSS := hid hss
    have HV := hid hv
    clear hss hv t4
    by_cases hlt : ss.length < zs.length
    · obtain ⟨g, rfl, hgb, hgl, hgc⟩ := HC.out (by omega)
      have hgne : g ≠ b := by omega
      have hcell : ∀ wz : World, w1.grownBy wz (some b) → wz.cell? ⟨g, ss.length, none⟩ = some (.int .i64 (zs.getD ss.length 0)) := fun wz hz => hz.cell (hgc ss.length _ (by rw [List.getElem?_map, List.getElem?_eq_getElem hlt, List.getD_eq_getElem?_getD, List.getElem?_eq_getElem hlt]; rfl)) (by simp; omega)
      have HCE := hid hcell
      have hx1 := hx.1
      have hx2 := hx.2
      have hll : ss.length ≤ 1000 := by omega
      have HR := hid (own_row hown)
      have HO := hid (fun (wz : World) (hz : wr.grownBy wz (some b)) => hown.kept hz (own_ne hown hb1))
      have hcl0 := HCE.out wr hg
      have HG := hid hg
      have hws := hg.size
      clear hcell hgc hown hg
      go_wp2_with (first | (go_at_call 14; refine (next_any b _ (by exact ⟨by omega, by omega⟩) _ (by assumption)).mono ?_; rintro e w' ⟨r, ⟨r1, r2, r3⟩, rfl, ht, hg⟩; have hcl := HCE.out w' (grown_trans HG.out (by repeat (first | exact grown_refl _ _ | assumption | refine grown_trans ?_ (by assumption)))); have hsz := hg.size) | (go_at_call 34; refine (int_any b _ (by assumption)).mono ?_; rintro e w' ⟨u, hu, rfl, ht, hg⟩; have hcl := HCE.out w' (grown_trans HG.out (by repeat (first | exact grown_refl _ _ | assumption | refine grown_trans ?_ (by assumption)))); have hsz := hg.size) | (go_at_call 36; refine (bool_any b 5 (by decide) (by decide) _ (by assumption)).mono ?_; rintro e w' ⟨r, rfl, ht, hg⟩; have hcl := HCE.out w' (grown_trans HG.out (by repeat (first | exact grown_refl _ _ | assumption | refine grown_trans ?_ (by assumption)))); have hsz := hg.size) | (at_builtin; refine wpList_append_own _ rfl _ _ 47 rfl w1.heap.size 23 i0 (.agg #[.int .i64 0, .int .i64 0]) 2 16 Try.underlying47 hi hz0 hz1 hz2 rfl (by decide) _ _ _ rfl ((HO.out _ (by repeat (first | exact grown_refl _ _ | assumption | refine grown_trans ?_ (by assumption)))).alloc _) ⟨_, 0, none⟩ 1 1 _ rfl rfl (fun j u h => two_cells _ _ _ _ j u h) (by intro u hu; simp at hu; rcases hu with rfl | rfl <;> rfl) (by unfold maxLen; omega) (by omega) (by simp; omega) ?_; intro v' w5 hown' hgrow _))
      all_goals
        have T5 := TapeOk.grown (B := B) (Bm := Bm) (b := b) (TapeOk.alloc (by assumption) _) hgrow (fun j hj => Nat.le_trans hB1 (HR.out j hj))
        have G5 := grown_own (grown_alloc (grown_trans HG.out (by repeat (first | exact grown_refl _ _ | assumption | refine grown_trans ?_ (by assumption)))) _) hgrow HR.out
        clear hgrow
        go_roundw
        case rel => exact samp_step HSS.out hlt HV.out (by first | assumption | exact i64_wrap_in _) (by first | assumption | exact i64_wrap_in _ | exact ⟨by omega, by omega⟩) hown' T5 G5
        case measure => simp [intOf]; omega
    · go_wp2
      go_ret
      have hll : ss.length = zs.length := by omega
      refine ⟨u6, ss, ⟨⟨?_, HV.out⟩, by omega⟩, rfl, own_base hown hs1, ht, grown_trans G1.out hg⟩
      rw [HSS.out, hll, List.take_length]; exact hinc
end Go.Proofs.Ythcboomdkpiflaa

/- LtO: Slices of ints and int64s of one's own. -/
namespace Go.Proofs.Ythcboomdkpiflaa
open Go.ChangeShapes Go.WideShapes Go.ChangeAt Go.RowKit
set_option linter.unusedVariables false
set_option linter.unusedSimpArgs false
theorem info_int : (Try.prog.info? 3).map (fun i => (i.zero, i.size, i.bytes)) = some (some (.int .i64 0), 1, 8) := by kernel_rfl
/-- A slice of ints of one's own. -/
def OwnI (W : World) (base g n : Nat) (bs : List Int) : Prop := W.ownsRow base 3 1 (.slice (some ⟨g, 0, none⟩) n n) n (bs.map (Value.int .i64)) ∧ bs.length = n
theorem OwnI.cell {W : World} {base g n : Nat} {bs : List Int} (h : OwnI W base g n bs) (j : Nat) (hj : j < n) : W.cell? ⟨g, j, none⟩ = some (.int .i64 (bs.getD j 0)) := by
  obtain ⟨h1, h2⟩ := h
  rw [h1.cellAt j (by omega), List.getElem?_map, List.getElem?_eq_getElem (by omega), List.getD_eq_getElem?_getD, List.getElem?_eq_getElem (by omega)]; rfl
theorem OwnI.frozen {W : World} {base g n : Nat} {bs : List Int} (h : OwnI W base g n bs) (j : Nat) : W.frozen? ⟨g, j, none⟩ = false := h.1.frozenAt j
theorem OwnI.stored {W : World} {base g n : Nat} {bs : List Int} (h : OwnI W base g n bs) (j : Nat) (x : Int) : OwnI (W.setCell ⟨g, j, none⟩ (.int .i64 x)) base g n (bs.set j x) := by
  obtain ⟨h1, h2⟩ := h
  refine ⟨?_, by rw [List.length_set]; exact h2⟩
  have := h1.stored j (.int .i64 x)
  have e : (bs.set j x).map (Value.int .i64) = (bs.map (Value.int .i64)).set j (.int .i64 x) := by simp [List.map_set]
  rw [e]
  exact this.1
theorem OwnI.drewN {W : World} {base g n : Nat} {bs : List Int} (h : OwnI W base g n bs) (k : Nat) : OwnI (W.drewN k) base g n bs := by
  have : ∀ k, OwnI (W.drewN k) base g n bs := fun k => by
    induction k with
    | zero => exact h
    | succ k ih => exact ih
  exact this k
theorem OwnI.drew {W : World} {base g n : Nat} {bs : List Int} (h : OwnI W base g n bs) : OwnI W.drew base g n bs := h
theorem OwnI.base {W : World} {base g n : Nat} {bs : List Int} (h : OwnI W base g n bs) : base ≤ g := (h.1.lt g rfl).1
theorem OwnI.lt {W : World} {base g n : Nat} {bs : List Int} (h : OwnI W base g n bs) : g < W.heap.size := (h.1.lt g rfl).2
theorem OwnI.zeros {w : World} {base g n : Nat} (h : w.ownsRow base 3 1 (.slice (some ⟨g, 0, none⟩) n n) n (madeCells (Value.int .i64 0).cells (n * 1)).toList) : OwnI w base g n (List.replicate n 0) := by
  have e : (madeCells (Value.int .i64 0).cells (n * 1)).toList = (List.replicate n (0 : Int)).map (Value.int .i64) := by
    rw [show (Value.int .i64 0).cells = #[Value.int .i64 0] from rfl, toList_madeCells_one, Nat.mul_one]
    simp
  rw [e] at h
  exact ⟨h, by simp⟩
/-- A slice of int64s of one's own. -/
def OwnL (W : World) (base g n : Nat) (bs : List Int) : Prop := W.ownsRow base 2 1 (.slice (some ⟨g, 0, none⟩) n n) n (bs.map (Value.int .i64)) ∧ bs.length = n
theorem OwnL.cell {W : World} {base g n : Nat} {bs : List Int} (h : OwnL W base g n bs) (j : Nat) (hj : j < n) : W.cell? ⟨g, j, none⟩ = some (.int .i64 (bs.getD j 0)) := by
  obtain ⟨h1, h2⟩ := h
  rw [h1.cellAt j (by omega), List.getElem?_map, List.getElem?_eq_getElem (by omega), List.getD_eq_getElem?_getD, List.getElem?_eq_getElem (by omega)]; rfl
theorem OwnL.frozen {W : World} {base g n : Nat} {bs : List Int} (h : OwnL W base g n bs) (j : Nat) : W.frozen? ⟨g, j, none⟩ = false := h.1.frozenAt j
theorem OwnL.stored {W : World} {base g n : Nat} {bs : List Int} (h : OwnL W base g n bs) (j : Nat) (x : Int) : OwnL (W.setCell ⟨g, j, none⟩ (.int .i64 x)) base g n (bs.set j x) := by
  obtain ⟨h1, h2⟩ := h
  refine ⟨?_, by rw [List.length_set]; exact h2⟩
  have := h1.stored j (.int .i64 x)
  have e : (bs.set j x).map (Value.int .i64) = (bs.map (Value.int .i64)).set j (.int .i64 x) := by simp [List.map_set]
  rw [e]
  exact this.1
theorem OwnL.drewN {W : World} {base g n : Nat} {bs : List Int} (h : OwnL W base g n bs) (k : Nat) : OwnL (W.drewN k) base g n bs := by
  have : ∀ k, OwnL (W.drewN k) base g n bs := fun k => by
    induction k with
    | zero => exact h
    | succ k ih => exact ih
  exact this k
theorem OwnL.drew {W : World} {base g n : Nat} {bs : List Int} (h : OwnL W base g n bs) : OwnL W.drew base g n bs := h
theorem OwnL.base {W : World} {base g n : Nat} {bs : List Int} (h : OwnL W base g n bs) : base ≤ g := (h.1.lt g rfl).1
theorem OwnL.lt {W : World} {base g n : Nat} {bs : List Int} (h : OwnL W base g n bs) : g < W.heap.size := (h.1.lt g rfl).2
theorem OwnL.zeros {w : World} {base g n : Nat} (h : w.ownsRow base 2 1 (.slice (some ⟨g, 0, none⟩) n n) n (madeCells (Value.int .i64 0).cells (n * 1)).toList) : OwnL w base g n (List.replicate n 0) := by
  have e : (madeCells (Value.int .i64 0).cells (n * 1)).toList = (List.replicate n (0 : Int)).map (Value.int .i64) := by
    rw [show (Value.int .i64 0).cells = #[Value.int .i64 0] from rfl, toList_madeCells_one, Nat.mul_one]
    simp
  rw [e] at h
  exact ⟨h, by simp⟩
theorem i64_wf {z : Int} (h : I64 z) : (Lit.int .i64 z).wf = true := by
  obtain ⟨h1, h2⟩ := h
  have e : IntKind.i64.min = -9223372036854775808 := by decide
  have e' : IntKind.i64.max = 9223372036854775807 := by decide
  simp [Lit.wf, e, e']
  omega
theorem slz_own {W : World} {base : Nat} {e : TypeId} {v : Value} {zs : List Int} (h : W.ownsRow base e 1 v zs.length (zs.map (Value.int .i64))) (hz : ∀ z ∈ zs, I64 z) : SlZ W .i64 v zs := by
  obtain ⟨a, cap, rfl, h1, h2, hc⟩ := own_slice h (by simp)
  refine ⟨a, _, cap, rfl, rfl, h1, h2, fun z hm => i64_wf (hz z hm), fun hl => ?_⟩
  obtain ⟨g, rfl, _, hg, hcs⟩ := hc hl
  refine ⟨g, 0, rfl, hg, fun i hi => ?_⟩
  rw [Nat.zero_add]
  exact hcs i _ (by rw [List.getElem?_map, List.getElem?_eq_getElem hi, List.getD_eq_getElem?_getD, List.getElem?_eq_getElem hi]; rfl)
theorem getD_set_eq {bs : List Int} {j : Nat} (h : j < bs.length) (x : Int) : (bs.set j x).getD j 0 = x := by simp [List.getD_eq_getElem?_getD, h]
theorem lgetD_set_ne {bs : List Int} {i j : Nat} (h : i ≠ j) (x : Int) : (bs.set i x).getD j 0 = bs.getD j 0 := by simp [List.getD_eq_getElem?_getD, List.getElem?_set_ne h]
theorem list_ext {cs bs : List Int} (hl : cs.length = bs.length) (h : ∀ j, j < cs.length → cs.getD j 0 = bs.getD j 0) : cs = bs := by
  apply List.ext_getElem hl
  intro j h1 h2
  have := h j h1
  rwa [List.getD_eq_getElem?_getD, List.getD_eq_getElem?_getD, List.getElem?_eq_getElem h1, List.getElem?_eq_getElem h2] at this
theorem slz_ownl {W : World} {base g n : Nat} {bs : List Int} (h : OwnL W base g n bs) (hz : ∀ z ∈ bs, I64 z) : SlZ W .i64 (.slice (some ⟨g, 0, none⟩) n n) bs := by
  obtain ⟨h1, rfl⟩ := h
  exact slz_own h1 hz
theorem app_below {X w2 : World} {n₀ base size k : Nat} {e : TypeId} {v : Value} {xs : List Value} (hrow : X.ownsRow base e size v k xs) (hgrow : X.grownBy w2 v.ownBlock) (hn : n₀ ≤ base) (hs : n₀ ≤ X.heap.size) : Below n₀ X w2 :=
  (Below.refl n₀ X).grown hgrow hs fun j ej => Nat.le_trans hn (own_row hrow j ej)
end Go.Proofs.Ythcboomdkpiflaa

/- LtB: The bounds of the buckets, in the program and in the reference. -/
namespace Go.Proofs.Ythcboomdkpiflaa
open Go.ChangeShapes Go.WideShapes Go.ChangeAt Go.RowKit
set_option linter.unusedVariables false
set_option linter.unusedSimpArgs false
def bks (n k : Nat) : List Int := (List.range (k - 1)).map fun j => (bk n k j : Int)
theorem bks_len (n k : Nat) : (bks n k).length = k - 1 := by simp [bks]
theorem bks_get {n k j : Nat} (h : j < k - 1) : (bks n k).getD j 0 = (bk n k j : Int) := by
  unfold bks
  rw [List.getD_eq_getElem?_getD, List.getElem?_map, List.getElem?_range h]; rfl
def BndP (n : Nat) (k : Int) (w : World) (e : Ending) (w' : World) : Prop :=
  (if bok n k then ∃ v, e = .returned (.tuple #[v, .bool true]) ∧ w'.ownsRow w.heap.size 3 1 v (k.toNat - 1) ((bks n k.toNat).map (Value.int .i64)) else e = .returned (.tuple #[.slice none 0 0, .bool false])) ∧ Below w.heap.size w w'
theorem bk_wr {n k i : Nat} (hk : 3 ≤ k) (hn : k ≤ n) (hi : i ≤ k - 2) (h : n ≤ 1000) : wrap64 (1 + (i : Int) * ((n : Int) - 2) / ((k : Int) - 2)) = (bk n k i : Int) := by
  have e1 : (n : Int) - 2 = ((n - 2 : Nat) : Int) := by omega
  have e2 : (k : Int) - 2 = ((k - 2 : Nat) : Int) := by omega
  have e : 1 + (i : Int) * ((n : Int) - 2) / ((k : Int) - 2) = (bk n k i : Int) := by
    rw [e1, e2, ← Int.natCast_mul, ← Int.natCast_ediv]
    unfold bk
    simp
  rw [e]
  have := bk_le hk hn hi
  exact wrap64_id _ ⟨by omega, by omega⟩
theorem bk_mul {n i : Nat} (hn : n ≤ 1000) (h2 : 2 ≤ n) (hi : i ≤ 1000) : 0 ≤ (i : Int) * ((n : Int) - 2) ∧ (i : Int) * ((n : Int) - 2) ≤ 1000000 := by
  have e1 : (n : Int) - 2 = ((n - 2 : Nat) : Int) := by omega
  rw [e1, ← Int.natCast_mul]
  have := Nat.mul_le_mul hi (show n - 2 ≤ 1000 by omega)
  omega
theorem bok_cases (n : Nat) (k : Int) : (bok n k = true ∧ 3 ≤ k ∧ k ≤ n ∧ n ≤ 1073741824) ∨ (bok n k = false ∧ (k < 3 ∨ n < k ∨ 1073741824 < n)) := by
  unfold bok
  by_cases h1 : 3 ≤ k <;> by_cases h2 : k ≤ n <;> by_cases h3 : n ≤ 1073741824 <;> simp [h1, h2, h3] <;> omega
set_option maxHeartbeats 4000000 in
set_option maxRecDepth 100000 in
theorem bounds_any (n : Nat) (hn : n ≤ 1000) (k : Int) (hk : I64 k) (w : World) : Calls Try.prog 57 #[.int .i64 n, .int .i64 k] w (BndP n k w) := by
  unfold BndP
  rcases bok_cases n k with ⟨h, h1, h2, h3⟩ | ⟨h, hc⟩
  · simp only [h, if_true]
    clear h h3 hk
    obtain ⟨K, rfl⟩ : ∃ K : Nat, k = K := ⟨k.toNat, by omega⟩
    have h1' : 3 ≤ K := by omega
    have h2' : K ≤ n := by omega
    rw [Int.toNat_natCast]
    obtain ⟨i0, hi, hz0, hz1, hz2⟩ := info_parts info_int
    go_enter Try.func57, Try.ntmps57
    (repeat' (first | (go_big_may; (first | (refine wpList_make_full _ rfl _ _ 28 rfl w.heap.size 3 i0 (.int .i64 0) 1 Try.underlying28 hi hz0 hz1 .i64 .i64 _ _ (K - 1) rfl rfl (by first | rfl | omega) (by first | rfl | omega) (by rw [hz2]; omega) (by unfold maxLen; omega) (Nat.le_refl _) ?_; intro wm hown hgr))) | go_values | go_skip | go_guarded | go_step | go_upon | (simp only [Int.not_lt, Int.not_le] at *; go_simp) | (go_values <;> (try go_simp)) | (go_ite <;> go_prune <;> (try go_simp)) | (split <;> (first | (rename_i hx; exact (hx _ rfl).elim) | go_prune))))
    have hO0 : OwnI wm w.heap.size w.heap.size (K - 1) (List.replicate (K - 1) 0) := OwnI.zeros hown
    have hB0 : Below w.heap.size w wm := below_gt hgr
    clear hown hgr
    go_loopw [24] (fun i wr => ∃ (k : Nat) (bs : List Int), i = .int .i64 k ∧ k ≤ K - 1 ∧ Hid (∀ j, j < k → bs.getD j 0 = (bk n K j : Int)) ∧ OwnI wr w.heap.size w.heap.size (K - 1) bs ∧ Below w.heap.size w wr) (fun i _ => K - 1 - (intOf i).toNat)
    case atStart => exact ⟨0, _, rfl, Nat.zero_le _, hid (fun j hj => by omega), hO0, hB0⟩
    case round =>
      obtain ⟨k, bs, rfl, hk, hbs, hO, hB⟩ := hrel
      by_cases hlt : k < K - 1
      · have f0 := hO.cell k hlt
        have ff := hO.frozen k
        obtain ⟨m1, m2⟩ := bk_mul (n := n) (i := k) hn (by omega) (by omega)
        have hlen := hO.2
        have hlv := hO.1.lt
        (repeat' (first | go_values | go_skip | go_guarded | go_step | go_upon | (simp only [Int.not_lt, Int.not_le] at *; go_simp) | (go_values <;> (try go_simp)) | (go_ite <;> go_prune <;> (try go_simp)) | (split <;> (first | (rename_i hx; exact (hx _ rfl).elim) | go_prune))))
        have ES := (hO.stored k (bk n K k : Int))
        rw [bk_wr h1' h2' (by omega) hn]
        refine ⟨⟨k + 1, bs.set k (bk n K k : Int), by simp, by omega, hid (fun j hj => ?_), ES, by (repeat' (first | (with_reducible assumption) | (with_reducible exact Below.refl _ _) | (with_reducible refine Below.alloc ?_ ?_ _) | (with_reducible refine Below.setCell ?_ ?_ _) | (with_reducible refine Below.drew ?_) | (with_reducible refine below_more ?_ (by with_reducible assumption)) | go_size | omega | (with_reducible refine below_drewN ?_)))⟩, by simp [intOf]; omega⟩
        by_cases hjk : j = k
        · subst hjk; exact getD_set_eq (by omega) _
        · rw [lgetD_set_ne (by omega)]; exact hbs.out j (by omega)
      · obtain rfl : k = K - 1 := by omega
        (repeat' (first | go_values | go_skip | go_guarded | go_step | go_upon | (simp only [Int.not_lt, Int.not_le] at *; go_simp) | (go_values <;> (try go_simp)) | (go_ite <;> go_prune <;> (try go_simp)) | (split <;> (first | (rename_i hx; exact (hx _ rfl).elim) | go_prune))))
        refine bodyPost_ret (v := .tuple #[.slice (some ⟨w.heap.size, 0, none⟩) (K - 1) (K - 1), .bool true]) ?_ rfl ⟨⟨_, rfl, ?_⟩, by (repeat' (first | (with_reducible assumption) | (with_reducible exact Below.refl _ _) | (with_reducible refine Below.alloc ?_ ?_ _) | (with_reducible refine Below.setCell ?_ ?_ _) | (with_reducible refine Below.drew ?_) | (with_reducible refine below_more ?_ (by with_reducible assumption)) | go_size | omega | (with_reducible refine below_drewN ?_)))⟩
        · simp [results, Try.results57, go_sem]
          try omega
        · have e : bs = bks n K := list_ext (by rw [bks_len]; exact hO.2) (fun j hj => by rw [hbs.out j (by have := hO.2; omega), bks_get (by have := hO.2; omega)])
          rw [← e]
          exact hO.1
  · simp only [h, Bool.false_eq_true, if_false]
    clear h
    obtain ⟨k1, k2⟩ := hk
    go_enter Try.func57, Try.ntmps57
    rcases hc with hc | hc | hc
    · (repeat' (first | go_values | go_skip | go_guarded | go_step | go_upon | (simp only [Int.not_lt, Int.not_le] at *; go_simp) | (go_values <;> (try go_simp)) | (go_ite <;> go_prune <;> (try go_simp)) | (split <;> (first | (rename_i hx; exact (hx _ rfl).elim) | go_prune))))
      refine bodyPost_ret (v := .tuple #[.slice none 0 0, .bool false]) ?_ rfl ⟨rfl, by (repeat' (first | (with_reducible assumption) | (with_reducible exact Below.refl _ _) | (with_reducible refine Below.alloc ?_ ?_ _) | (with_reducible refine Below.setCell ?_ ?_ _) | (with_reducible refine Below.drew ?_) | (with_reducible refine below_more ?_ (by with_reducible assumption)) | go_size | omega | (with_reducible refine below_drewN ?_)))⟩
      simp [results, Try.results57, go_sem]
    · by_cases h3 : k < 3
      all_goals (repeat' (first | go_values | go_skip | go_guarded | go_step | go_upon | (simp only [Int.not_lt, Int.not_le] at *; go_simp) | (go_values <;> (try go_simp)) | (go_ite <;> go_prune <;> (try go_simp)) | (split <;> (first | (rename_i hx; exact (hx _ rfl).elim) | go_prune))))
      all_goals refine bodyPost_ret (v := .tuple #[.slice none 0 0, .bool false]) ?_ rfl ⟨rfl, by (repeat' (first | (with_reducible assumption) | (with_reducible exact Below.refl _ _) | (with_reducible refine Below.alloc ?_ ?_ _) | (with_reducible refine Below.setCell ?_ ?_ _) | (with_reducible refine Below.drew ?_) | (with_reducible refine below_more ?_ (by with_reducible assumption)) | go_size | omega | (with_reducible refine below_drewN ?_)))⟩
      all_goals simp [results, Try.results57, go_sem]
    · omega
theorem bkl_succ (n K k : Nat) : (List.range (k + 1)).map (fun j => (bk n K j : Int)) = (List.range k).map (fun j => (bk n K j : Int)) ++ [(bk n K k : Int)] := by rw [List.range_succ, List.map_append]; rfl
set_option maxHeartbeats 4000000 in
set_option maxRecDepth 100000 in
theorem rbounds_any (n : Nat) (hn : n ≤ 1000) (k : Int) (hk : I64 k) (w : World) : Calls Try.prog 30 #[.int .i64 n, .int .i64 k] w (BndP n k w) := by
  unfold BndP
  rcases bok_cases n k with ⟨h, h1, h2, h3⟩ | ⟨h, hc⟩
  · simp only [h, if_true]
    clear h h3 hk
    obtain ⟨K, rfl⟩ : ∃ K : Nat, k = K := ⟨k.toNat, by omega⟩
    have h1' : 3 ≤ K := by omega
    have h2' : K ≤ n := by omega
    have hnk : ¬ n < K := by omega
    rw [Int.toNat_natCast]
    obtain ⟨i0, hi, hz0, hz1, hz2⟩ := info_parts info_int
    go_enter Try.func30, Try.ntmps30
    (repeat' (first | go_values | go_skip | go_guarded | go_step | go_upon | (simp only [Int.not_lt, Int.not_le] at *; go_simp) | (go_values <;> (try go_simp)) | (go_ite <;> go_prune <;> (try go_simp)) | (split <;> (first | (rename_i hx; exact (hx _ rfl).elim) | go_prune))))
    go_loopw [6, 7] (fun out i wr => ∃ k : Nat, i = .int .i64 k ∧ k ≤ K - 1 ∧ wr.ownsRow w.heap.size 3 1 out k (((List.range k).map (fun j => (bk n K j : Int))).map (Value.int .i64)) ∧ Below w.heap.size w wr) (fun _ i _ => K - 1 - (intOf i).toNat)
    case atStart => exact ⟨0, rfl, Nat.zero_le _, World.ownsRow_nil _ _ _ _, by (repeat' (first | (with_reducible assumption) | (with_reducible exact Below.refl _ _) | (with_reducible refine Below.alloc ?_ ?_ _) | (with_reducible refine Below.setCell ?_ ?_ _) | (with_reducible refine Below.drew ?_) | (with_reducible refine below_more ?_ (by with_reducible assumption)) | go_size | omega | (with_reducible refine below_drewN ?_)))⟩
    case round =>
      obtain ⟨k, rfl, hk, hO, hB⟩ := hrel
      by_cases hlt : k < K - 1
      · obtain ⟨m1, m2⟩ := bk_mul (n := n) (i := k) hn (by omega) (by omega)
        have hsz := hB.size
        (repeat' (first | (go_big_may; (first | (at_builtin; refine wpList_append_own _ rfl _ _ 28 rfl w.heap.size 3 i0 (.int .i64 0) 1 8 Try.underlying28 hi hz0 hz1 hz2 rfl (by decide) _ _ _ rfl (hO.alloc _) ⟨_, 0, none⟩ 1 1 _ rfl rfl (fun j u h => one_cell _ _ _ j u h) (by intro u hu; simp at hu; subst hu; rfl) (by unfold maxLen; omega) (by omega) (by simp; omega) ?_; intro v' w5 hown' hgrow _))) | go_values | go_skip | go_guarded | go_step | go_upon | (simp only [Int.not_lt, Int.not_le] at *; go_simp) | (go_values <;> (try go_simp)) | (go_ite <;> go_prune <;> (try go_simp)) | (split <;> (first | (rename_i hx; exact (hx _ rfl).elim) | go_prune))))
        rw [bk_wr h1' h2' (by omega) hn] at hown'
        have hb5 := hB.trans (app_below (hO.alloc _) hgrow (Nat.le_refl _) (by simp; omega) |> fun h => (Below.refl _ _).alloc hsz _ |>.trans h)
        clear hgrow
        go_roundw
        case rel => exact ⟨k + 1, by simp, by omega, by rw [bkl_succ, List.map_append]; exact hown', hb5⟩
        case measure => simp [intOf]; omega
      · obtain rfl : k = K - 1 := by omega
        (repeat' (first | go_values | go_skip | go_guarded | go_step | go_upon | (simp only [Int.not_lt, Int.not_le] at *; go_simp) | (go_values <;> (try go_simp)) | (go_ite <;> go_prune <;> (try go_simp)) | (split <;> (first | (rename_i hx; exact (hx _ rfl).elim) | go_prune))))
        refine bodyPost_ret (v := .tuple #[u6, .bool true]) ?_ rfl ⟨⟨_, rfl, hO⟩, by (repeat' (first | (with_reducible assumption) | (with_reducible exact Below.refl _ _) | (with_reducible refine Below.alloc ?_ ?_ _) | (with_reducible refine Below.setCell ?_ ?_ _) | (with_reducible refine Below.drew ?_) | (with_reducible refine below_more ?_ (by with_reducible assumption)) | go_size | omega | (with_reducible refine below_drewN ?_)))⟩
        simp [results, Try.results30, go_sem]
  · simp only [h, Bool.false_eq_true, if_false]
    clear h
    obtain ⟨k1, k2⟩ := hk
    go_enter Try.func30, Try.ntmps30
    rcases hc with hc | hc | hc
    · (repeat' (first | go_values | go_skip | go_guarded | go_step | go_upon | (simp only [Int.not_lt, Int.not_le] at *; go_simp) | (go_values <;> (try go_simp)) | (go_ite <;> go_prune <;> (try go_simp)) | (split <;> (first | (rename_i hx; exact (hx _ rfl).elim) | go_prune))))
      refine bodyPost_ret (v := .tuple #[.slice none 0 0, .bool false]) ?_ rfl ⟨rfl, by (repeat' (first | (with_reducible assumption) | (with_reducible exact Below.refl _ _) | (with_reducible refine Below.alloc ?_ ?_ _) | (with_reducible refine Below.setCell ?_ ?_ _) | (with_reducible refine Below.drew ?_) | (with_reducible refine below_more ?_ (by with_reducible assumption)) | go_size | omega | (with_reducible refine below_drewN ?_)))⟩
      simp [results, Try.results30, go_sem]
    · by_cases h3 : k < 3
      all_goals (repeat' (first | go_values | go_skip | go_guarded | go_step | go_upon | (simp only [Int.not_lt, Int.not_le] at *; go_simp) | (go_values <;> (try go_simp)) | (go_ite <;> go_prune <;> (try go_simp)) | (split <;> (first | (rename_i hx; exact (hx _ rfl).elim) | go_prune))))
      all_goals refine bodyPost_ret (v := .tuple #[.slice none 0 0, .bool false]) ?_ rfl ⟨rfl, by (repeat' (first | (with_reducible assumption) | (with_reducible exact Below.refl _ _) | (with_reducible refine Below.alloc ?_ ?_ _) | (with_reducible refine Below.setCell ?_ ?_ _) | (with_reducible refine Below.drew ?_) | (with_reducible refine below_more ?_ (by with_reducible assumption)) | go_size | omega | (with_reducible refine below_drewN ?_)))⟩
      all_goals simp [results, Try.results30, go_sem]
    · omega
end Go.Proofs.Ythcboomdkpiflaa
