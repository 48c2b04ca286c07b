/- Proved: tscodeclaw25.LttbForms returns true for all arguments. No condition. -/
import Derived.Test.YthcboomdkpiflaaRows
import Derived.Test.YthcboomdkpiflaaLtA
import Derived.Test.YthcboomdkpiflaaLtQ
import Derived.Test.YthcboomdkpiflaaTapeK
import Derived.Test.YthcboomdkpiflaaMadeB
import Derived.WalkKit
import Derived.ProofKit
import Derived.OpenShut
import Derived.SizedLaws
import Derived.Outline
import Derived.WalkLawsBesides
import Derived.WalkSpells
import Derived.RegionTactic
import Derived.ChangeAlike
import Derived.BigRegion
import Derived.Handy
namespace Go.Proofs.Ythcboomdkpiflaa.lttbForms
open Go.ChangeShapes Go.WideShapes Go.ChangeAt Go.RowKit
set_option linter.unusedVariables false
set_option linter.unusedSimpArgs false

theorem own : ownKnob Try.prog.godebug = none := by kernel_rfl
theorem smp_in {ss : Smps} (h : Smp ss) : ∀ s ∈ ss, I64 s.1 ∧ I64 s.2 := fun s hs => ⟨h.1.2 s.1 (List.mem_map.2 ⟨s, hs, rfl⟩), h.2 s hs⟩
theorem md_i64 (a : Int) : I64 (md a 12) := by
  have : md a 12 = a % 12 := by unfold md; rw [if_neg (by decide)]
  rw [this]
  exact ⟨by omega, by omega⟩

set_option maxHeartbeats 8000000 in
set_option maxRecDepth 100000 in
theorem walk (w : World) (s0 : Option Addr) (l0 c0 : Nat) (z0 : List (Int × Int)) (h0 : SlS w (.slice s0 l0 c0) z0) (a1 : Int) (h1 : I64 a1) (s2 : Option Addr) (l2 c2 : Nat) (z2 : List Int) (h2 : SlZ w .i64 (.slice s2 l2 c2) z2) :
    Calls Try.prog 7 #[.slice s0 l0 c0, .int .i64 a1, .slice s2 l2 c2] w fun e w' => e = .returned (.bool true) ∧ Below w.heap.size w w' := by
  obtain ⟨a9, c9, e9, -⟩ := id h0
  have hl0 : l0 = z0.length := by cases e9; rfl
  clear e9
  subst hl0
  go_enter Try.func7, Try.ntmps7
  by_cases h300 : 300 < z0.length
  · obtain ⟨b, off, rfl⟩ : ∃ b off, s0 = some ⟨b, off, none⟩ := by
      obtain ⟨a8, c8, e8, -, -, -, hc⟩ := id h0
      cases e8
      obtain ⟨b, off, e, _⟩ := hc (by omega)
      exact ⟨b, off, e⟩
    have hR : SlS w (.slice (some ⟨b, off, none⟩) 300 c0) (cut z0 0 300) := by
      have := h0.cut (i := 0) (j := 300) (by decide) (by omega)
      simpa using this
    have hRl : (cut z0 0 300).length ≤ 1000 := by rw [cut_len (by omega)]; decide
    have hc0 : 300 ≤ c0 := by
      obtain ⟨a8, c8, e8, h8, -⟩ := id h0
      cases e8
      omega
    clear h0
    generalize cut z0 0 300 = zr at *
    (repeat' (first | go_values | go_skip | go_guarded | go_step | go_upon | (simp only [Int.not_lt, Int.not_le] at *; go_simp) | (go_values <;> (try go_simp)) | (go_ite <;> go_prune <;> (try go_simp)) | (split <;> (first | (rename_i hx; exact (hx _ rfl).elim) | go_prune))))
    go_at_call 11
    refine (new_tape h2).mono ?_
    rintro e w1 ⟨rfl, ht, hb1⟩
    have hG : w.grownBy w1 (some w.heap.size) := grown_below hb1 _
    (repeat' (first | go_values | go_skip | go_guarded | go_step | go_upon | (simp only [Int.not_lt, Int.not_le] at *; go_simp) | (go_values <;> (try go_simp)) | (go_ite <;> go_prune <;> (try go_simp)) | (split <;> (first | (rename_i hx; exact (hx _ rfl).elim) | go_prune))))
    go_at_call 26
    refine (samples_any (B := w.heap.size + 1) _ 40 (by decide) (by decide) _ ht).mono ?_
    rintro e w2 ⟨vl, ss, ⟨hsm, hsl⟩, rfl, hown, ht', hg⟩
    have hin := smp_in hsm
    have hbl : w.heap.size < w1.heap.size := ht.lt
    have hs40 : ss.length ≤ 40 := by omega
    replace hG := grown_trans hG hg
    clear ht hg hsm hsl hb1 h2
    have ht := ht'
    clear ht'
    obtain ⟨al, cl_, rfl⟩ : ∃ a c, vl = .slice a ss.length c := by
      obtain ⟨a, c, e, _⟩ := sls_own hown hin
      exact ⟨a, c, e⟩
    (repeat' (first | go_values | go_skip | go_guarded | go_step | go_upon | (simp only [Int.not_lt, Int.not_le] at *; go_simp) | (go_values <;> (try go_simp)) | (go_ite <;> go_prune <;> (try go_simp)) | (split <;> (first | (rename_i hx; exact (hx _ rfl).elim) | go_prune))))
    go_at_call 27
    refine (known25_any _).mono ?_
    rintro e wz ⟨rfl, hb⟩
    replace ht := TapeOk.bel ht hb
    replace hG := grown_bel hG hb
    replace hown := hown.kept (gt_below hb none) (Classical.em _)
    clear hb
    (repeat' (first | go_values | go_skip | go_guarded | go_step | go_upon | (simp only [Int.not_lt, Int.not_le] at *; go_simp) | (go_values <;> (try go_simp)) | (go_ite <;> go_prune <;> (try go_simp)) | (split <;> (first | (rename_i hx; exact (hx _ rfl).elim) | go_prune))))
    go_at_call 28
    refine (alike_any _ h1 _ (hR.below (below_tape hG (Nat.le_refl _))) hRl).mono ?_
    rintro e wz ⟨rfl, hb⟩
    replace ht := TapeOk.bel ht hb
    replace hG := grown_bel hG hb
    replace hown := hown.kept (gt_below hb none) (Classical.em _)
    clear hb
    (repeat' (first | go_values | go_skip | go_guarded | go_step | go_upon | (simp only [Int.not_lt, Int.not_le] at *; go_simp) | (go_values <;> (try go_simp)) | (go_ite <;> go_prune <;> (try go_simp)) | (split <;> (first | (rename_i hx; exact (hx _ rfl).elim) | go_prune))))
    go_at_call 22
    refine (mod_any _ 12 h1 ⟨by decide, by decide⟩ _).mono ?_
    rintro e wz ⟨rfl, rfl⟩
    (repeat' (first | go_values | go_skip | go_guarded | go_step | go_upon | (simp only [Int.not_lt, Int.not_le] at *; go_simp) | (go_values <;> (try go_simp)) | (go_ite <;> go_prune <;> (try go_simp)) | (split <;> (first | (rename_i hx; exact (hx _ rfl).elim) | go_prune))))
    go_at_call 28
    refine (alike_any _ (md_i64 _) _ (hR.below (below_tape hG (Nat.le_refl _))) hRl).mono ?_
    rintro e wz ⟨rfl, hb⟩
    replace ht := TapeOk.bel ht hb
    replace hG := grown_bel hG hb
    replace hown := hown.kept (gt_below hb none) (Classical.em _)
    clear hb
    (repeat' (first | go_values | go_skip | go_guarded | go_step | go_upon | (simp only [Int.not_lt, Int.not_le] at *; go_simp) | (go_values <;> (try go_simp)) | (go_ite <;> go_prune <;> (try go_simp)) | (split <;> (first | (rename_i hx; exact (hx _ rfl).elim) | go_prune))))
    go_at_call 14
    refine (next_in (B := w.heap.size + 1) _ _ (by omega) (by omega) _ ht).mono ?_
    rintro e wz ⟨r, ⟨r1, r2⟩, rfl, ht', hg⟩
    replace hown := hown.kept hg (own_ne hown hbl)
    replace hG := grown_trans hG hg
    clear ht hg
    have ht := ht'
    clear ht'
    (repeat' (first | go_values | go_skip | go_guarded | go_step | go_upon | (simp only [Int.not_lt, Int.not_le] at *; go_simp) | (go_values <;> (try go_simp)) | (go_ite <;> go_prune <;> (try go_simp)) | (split <;> (first | (rename_i hx; exact (hx _ rfl).elim) | go_prune))))
    go_at_call 28
    refine (alike_any _ ⟨by omega, by omega⟩ _ (sls_own hown hin) (by omega)).mono ?_
    rintro e wz ⟨rfl, hb⟩
    replace ht := TapeOk.bel ht hb
    replace hG := grown_bel hG hb
    replace hown := hown.kept (gt_below hb none) (Classical.em _)
    clear hb
    (repeat' (first | go_values | go_skip | go_guarded | go_step | go_upon | (simp only [Int.not_lt, Int.not_le] at *; go_simp) | (go_values <;> (try go_simp)) | (go_ite <;> go_prune <;> (try go_simp)) | (split <;> (first | (rename_i hx; exact (hx _ rfl).elim) | go_prune))))
    go_at_call 28
    refine (alike_any _ ⟨by decide, by decide⟩ _ (sls_own hown hin) (by omega)).mono ?_
    rintro e wz ⟨rfl, hb⟩
    replace ht := TapeOk.bel ht hb
    replace hG := grown_bel hG hb
    replace hown := hown.kept (gt_below hb none) (Classical.em _)
    clear hb
    (repeat' (first | go_values | go_skip | go_guarded | go_step | go_upon | (simp only [Int.not_lt, Int.not_le] at *; go_simp) | (go_values <;> (try go_simp)) | (go_ite <;> go_prune <;> (try go_simp)) | (split <;> (first | (rename_i hx; exact (hx _ rfl).elim) | go_prune))))
    go_at_call 28
    refine (alike_any _ h1 _ (sls_own hown hin) (by omega)).mono ?_
    rintro e wz ⟨rfl, hb⟩
    replace ht := TapeOk.bel ht hb
    replace hG := grown_bel hG hb
    replace hown := hown.kept (gt_below hb none) (Classical.em _)
    clear hb
    (repeat' (first | go_values | go_skip | go_guarded | go_step | go_upon | (simp only [Int.not_lt, Int.not_le] at *; go_simp) | (go_values <;> (try go_simp)) | (go_ite <;> go_prune <;> (try go_simp)) | (split <;> (first | (rename_i hx; exact (hx _ rfl).elim) | go_prune))))
    refine bodyPost_ret (v := .bool true) ?_ rfl ⟨rfl, below_tape hG (Nat.le_refl _)⟩
    simp [results, Try.results7, go_sem]
  · have hR := h0
    have hRl : z0.length ≤ 1000 := by omega
    clear h0
    (repeat' (first | go_values | go_skip | go_guarded | go_step | go_upon | (simp only [Int.not_lt, Int.not_le] at *; go_simp) | (go_values <;> (try go_simp)) | (go_ite <;> go_prune <;> (try go_simp)) | (split <;> (first | (rename_i hx; exact (hx _ rfl).elim) | go_prune))))
    go_at_call 11
    refine (new_tape h2).mono ?_
    rintro e w1 ⟨rfl, ht, hb1⟩
    have hG : w.grownBy w1 (some w.heap.size) := grown_below hb1 _
    (repeat' (first | go_values | go_skip | go_guarded | go_step | go_upon | (simp only [Int.not_lt, Int.not_le] at *; go_simp) | (go_values <;> (try go_simp)) | (go_ite <;> go_prune <;> (try go_simp)) | (split <;> (first | (rename_i hx; exact (hx _ rfl).elim) | go_prune))))
    go_at_call 26
    refine (samples_any (B := w.heap.size + 1) _ 40 (by decide) (by decide) _ ht).mono ?_
    rintro e w2 ⟨vl, ss, ⟨hsm, hsl⟩, rfl, hown, ht', hg⟩
    have hin := smp_in hsm
    have hbl : w.heap.size < w1.heap.size := ht.lt
    have hs40 : ss.length ≤ 40 := by omega
    replace hG := grown_trans hG hg
    clear ht hg hsm hsl hb1 h2
    have ht := ht'
    clear ht'
    obtain ⟨al, cl_, rfl⟩ : ∃ a c, vl = .slice a ss.length c := by
      obtain ⟨a, c, e, _⟩ := sls_own hown hin
      exact ⟨a, c, e⟩
    (repeat' (first | go_values | go_skip | go_guarded | go_step | go_upon | (simp only [Int.not_lt, Int.not_le] at *; go_simp) | (go_values <;> (try go_simp)) | (go_ite <;> go_prune <;> (try go_simp)) | (split <;> (first | (rename_i hx; exact (hx _ rfl).elim) | go_prune))))
    go_at_call 27
    refine (known25_any _).mono ?_
    rintro e wz ⟨rfl, hb⟩
    replace ht := TapeOk.bel ht hb
    replace hG := grown_bel hG hb
    replace hown := hown.kept (gt_below hb none) (Classical.em _)
    clear hb
    (repeat' (first | go_values | go_skip | go_guarded | go_step | go_upon | (simp only [Int.not_lt, Int.not_le] at *; go_simp) | (go_values <;> (try go_simp)) | (go_ite <;> go_prune <;> (try go_simp)) | (split <;> (first | (rename_i hx; exact (hx _ rfl).elim) | go_prune))))
    go_at_call 28
    refine (alike_any _ h1 _ (hR.below (below_tape hG (Nat.le_refl _))) hRl).mono ?_
    rintro e wz ⟨rfl, hb⟩
    replace ht := TapeOk.bel ht hb
    replace hG := grown_bel hG hb
    replace hown := hown.kept (gt_below hb none) (Classical.em _)
    clear hb
    (repeat' (first | go_values | go_skip | go_guarded | go_step | go_upon | (simp only [Int.not_lt, Int.not_le] at *; go_simp) | (go_values <;> (try go_simp)) | (go_ite <;> go_prune <;> (try go_simp)) | (split <;> (first | (rename_i hx; exact (hx _ rfl).elim) | go_prune))))
    go_at_call 22
    refine (mod_any _ 12 h1 ⟨by decide, by decide⟩ _).mono ?_
    rintro e wz ⟨rfl, rfl⟩
    (repeat' (first | go_values | go_skip | go_guarded | go_step | go_upon | (simp only [Int.not_lt, Int.not_le] at *; go_simp) | (go_values <;> (try go_simp)) | (go_ite <;> go_prune <;> (try go_simp)) | (split <;> (first | (rename_i hx; exact (hx _ rfl).elim) | go_prune))))
    go_at_call 28
    refine (alike_any _ (md_i64 _) _ (hR.below (below_tape hG (Nat.le_refl _))) hRl).mono ?_
    rintro e wz ⟨rfl, hb⟩
    replace ht := TapeOk.bel ht hb
    replace hG := grown_bel hG hb
    replace hown := hown.kept (gt_below hb none) (Classical.em _)
    clear hb
    (repeat' (first | go_values | go_skip | go_guarded | go_step | go_upon | (simp only [Int.not_lt, Int.not_le] at *; go_simp) | (go_values <;> (try go_simp)) | (go_ite <;> go_prune <;> (try go_simp)) | (split <;> (first | (rename_i hx; exact (hx _ rfl).elim) | go_prune))))
    go_at_call 14
    refine (next_in (B := w.heap.size + 1) _ _ (by omega) (by omega) _ ht).mono ?_
    rintro e wz ⟨r, ⟨r1, r2⟩, rfl, ht', hg⟩
    replace hown := hown.kept hg (own_ne hown hbl)
    replace hG := grown_trans hG hg
    clear ht hg
    have ht := ht'
    clear ht'
    (repeat' (first | go_values | go_skip | go_guarded | go_step | go_upon | (simp only [Int.not_lt, Int.not_le] at *; go_simp) | (go_values <;> (try go_simp)) | (go_ite <;> go_prune <;> (try go_simp)) | (split <;> (first | (rename_i hx; exact (hx _ rfl).elim) | go_prune))))
    go_at_call 28
    refine (alike_any _ ⟨by omega, by omega⟩ _ (sls_own hown hin) (by omega)).mono ?_
    rintro e wz ⟨rfl, hb⟩
    replace ht := TapeOk.bel ht hb
    replace hG := grown_bel hG hb
    replace hown := hown.kept (gt_below hb none) (Classical.em _)
    clear hb
    (repeat' (first | go_values | go_skip | go_guarded | go_step | go_upon | (simp only [Int.not_lt, Int.not_le] at *; go_simp) | (go_values <;> (try go_simp)) | (go_ite <;> go_prune <;> (try go_simp)) | (split <;> (first | (rename_i hx; exact (hx _ rfl).elim) | go_prune))))
    go_at_call 28
    refine (alike_any _ ⟨by decide, by decide⟩ _ (sls_own hown hin) (by omega)).mono ?_
    rintro e wz ⟨rfl, hb⟩
    replace ht := TapeOk.bel ht hb
    replace hG := grown_bel hG hb
    replace hown := hown.kept (gt_below hb none) (Classical.em _)
    clear hb
    (repeat' (first | go_values | go_skip | go_guarded | go_step | go_upon | (simp only [Int.not_lt, Int.not_le] at *; go_simp) | (go_values <;> (try go_simp)) | (go_ite <;> go_prune <;> (try go_simp)) | (split <;> (first | (rename_i hx; exact (hx _ rfl).elim) | go_prune))))
    go_at_call 28
    refine (alike_any _ h1 _ (sls_own hown hin) (by omega)).mono ?_
    rintro e wz ⟨rfl, hb⟩
    replace ht := TapeOk.bel ht hb
    replace hG := grown_bel hG hb
    replace hown := hown.kept (gt_below hb none) (Classical.em _)
    clear hb
    (repeat' (first | go_values | go_skip | go_guarded | go_step | go_upon | (simp only [Int.not_lt, Int.not_le] at *; go_simp) | (go_values <;> (try go_simp)) | (go_ite <;> go_prune <;> (try go_simp)) | (split <;> (first | (rename_i hx; exact (hx _ rfl).elim) | go_prune))))
    refine bodyPost_ret (v := .bool true) ?_ rfl ⟨rfl, below_tape hG (Nat.le_refl _)⟩
    simp [results, Try.results7, go_sem]

/-! ### The row -/
set_option maxRecDepth 100000 in
theorem lifted (os : Os) (started : os.Started) (H : Type) (enc : TypeId × Value → H) :
    ReturnsInHanded {} Try.checked os 7 .any (Rows.lttbFormsSpec.pre6 enc Try.prog Try.f7 Rows.lttbFormsRow.domain false) (Rows.lttbFormsSpec.post enc Try.prog Try.f7 false true false false) := by
  refine returnsInHanded_of_change_sized (C := Try.checked) own started (by kernel_rfl) Try.func7
    (ChangeSpec.witness6 (enc := enc) (C := Try.checked) false ⟨#[], #[.slice none 0 0, .int .i64 0, .slice none 0 0], []⟩ 8 (by kernel_rfl) (by kernel_rfl) (by kernel_rfl) (by kernel_rfl)) ?_
  intro W base args ds gs before hval0 hW hcnd hsz _
  have hval : ∀ (j : Nat) t v, Try.f7.params[j]? = some t → args[j]? = some v → Value.okWide Try.prog W .any base t v := hval0
  have hW' := hW
  obtain ⟨p, q, hA0, hV, rfl, hfz, hnd⟩ := hW
  have hA : DataW.TrodAll enc Try.prog W 0 (fun _ => true) true Try.f7.params.toList args.toList ds p := hA0
  rw [Try.params7] at hA hval
  obtain ⟨v0, vs0, d0, ds0, p0, q0, hargs, rfl, rfl, g0, r0⟩ := trodAll_cons hA
  obtain ⟨v1, vs1, d1, ds1, p1, q1, rfl, rfl, rfl, g1, r1⟩ := trodAll_cons r0
  obtain ⟨v2, vs2, d2, ds2, p2, q2, rfl, rfl, rfl, g2, r2⟩ := trodAll_cons r1
  obtain ⟨rfl, rfl, rfl⟩ := trodAll_nil r2
  obtain rfl : args = #[v0, v1, v2] := by cases args; simp_all
  obtain ⟨rfl, rfl⟩ := trodVars_none hV
  have hlt : ∀ x ∈ (p0 ++ (p1 ++ (p2 ++ []))) ++ [], x.block < W.heap.size := fun x hx => hW'.lt x hx
  obtain ⟨z0, hs0⟩ := open_sls (hval 0 47 v0 rfl rfl) g0 (fun x hx => hlt x (by simp [hx]))
  have hs0' := hs0
  obtain ⟨s0, c0, rfl, _⟩ := hs0'
  obtain ⟨a1, rfl, rfl, rfl, w1⟩ := open_int Try.underlying3 (hval 1 3 v1 rfl rfl) g1
  obtain ⟨z2, hs2⟩ := open_slz Try.underlying28 Try.underlying3 (by kernel_rfl) (hval 2 28 v2 rfl rfl) g2 (fun x hx => hlt x (by simp [hx]))
  have hs2' := hs2
  obtain ⟨s2, l2, c2, rfl, _⟩ := hs2'
  refine (walk W s0 _ c0 z0 hs0 a1 (I64.of_wf w1) s2 l2 c2 z2 hs2).mono fun e W' ⟨he, hb⟩ => ?_
  subst he
  exact ⟨_, rfl, law_post laidOut (by kernel_rfl) rfl rfl Try.underlying4 hW' rfl rfl rfl hb⟩

theorem over : Rows.lttbFormsRow.holds Try.pinned (OpenSpec.ofChange Rows.lttbFormsSpec) :=
  OpenClaim.holds_of_wide 7 Try.f7 rfl rfl rfl rfl rfl rfl rfl ⟨rfl, rfl, rfl, rfl, rfl⟩ rfl rfl rfl rfl rfl (by kernel_rfl) Try.func7 (by kernel_rfl)
    (of_decide_eq_true (by kernel_rfl)) (by unfold Func.isWrapper; first | (rw [if_pos (by decide +kernel)]; kernel_rfl) | (rw [if_neg (by decide +kernel)]; exact ⟨rfl, rfl⟩))
    (fun os started H enc _ => lifted os started H enc)

/-- The given statement. -/
theorem proved : Rows.LttbFormsSaid :=
  over
#print axioms proved
end Go.Proofs.Ythcboomdkpiflaa.lttbForms
