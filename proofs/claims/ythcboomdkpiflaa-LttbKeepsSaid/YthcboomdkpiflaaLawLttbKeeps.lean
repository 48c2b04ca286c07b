/- Proved: tscodeclaw25.LttbKeeps returns true for all arguments. No condition. -/
import Derived.Test.YthcboomdkpiflaaRows
import Derived.Test.YthcboomdkpiflaaLtA
import Derived.Test.YthcboomdkpiflaaLtK
import Derived.WalkKit
import Derived.ProofKit
import Derived.OpenShut
import Derived.SizedLaws
import Derived.Outline
import Derived.WalkLawsBesides
import Derived.WalkSpells
import Derived.RegionTactic
import Derived.ChangeAlike
import Derived.BigRegion
import Derived.Handy
import Derived.Deep.QuietTactic
import Derived.BigQuiet
namespace Go.Proofs.Ythcboomdkpiflaa.lttbKeeps
open Go.ChangeShapes Go.WideShapes Go.ChangeAt Go.RowKit
set_option linter.unusedVariables false
set_option linter.unusedSimpArgs false

theorem own : ownKnob Try.prog.godebug = none := by kernel_rfl

set_option maxHeartbeats 8000000 in
set_option maxRecDepth 100000 in
theorem walk (w : World) (s0 : Option Addr) (l0 c0 : Nat) (z0 : List Int) (h0 : SlZ w .i64 (.slice s0 l0 c0) z0) :
    Calls Try.prog 8 #[.slice s0 l0 c0] w fun e w' => e = .returned (.bool true) ∧ Below w.heap.size w w' := by
  go_enter Try.func8, Try.ntmps8
  (repeat' (first | go_values | go_skip | go_guarded | go_step | go_upon | (simp only [Int.not_lt, Int.not_le] at *; go_simp) | (go_values <;> (try go_simp)) | (go_ite <;> go_prune <;> (try go_simp)) | (split <;> (first | (rename_i hx; exact (hx _ rfl).elim) | go_prune))))
  go_at_call 11
  refine (new_tape h0).mono ?_
  rintro e w1 ⟨rfl, ht, hb1⟩
  have hG : w.grownBy w1 (some w.heap.size) := grown_below hb1 _
  (repeat' (first | go_values | go_skip | go_guarded | go_step | go_upon | (simp only [Int.not_lt, Int.not_le] at *; go_simp) | (go_values <;> (try go_simp)) | (go_ite <;> go_prune <;> (try go_simp)) | (split <;> (first | (rename_i hx; exact (hx _ rfl).elim) | go_prune))))
  go_at_call 26
  refine (samples_any (B := w.heap.size + 1) _ 40 (by decide) (by decide) _ ht).mono ?_
  rintro e w2 ⟨vl, ss, ⟨hsm, hsl⟩, rfl, hown, ht', hg⟩
  have hin := smp_inI hsm
  have hinc := smp_incr hsm
  have hbl : w.heap.size < w1.heap.size := ht.lt
  have hs40 : ss.length ≤ 40 := by omega
  replace hG := grown_trans hG hg
  clear ht hg hsm hsl hb1 h0
  have ht := ht'
  clear ht'
  obtain ⟨al, cl_, rfl⟩ : ∃ a c, vl = .slice a ss.length c := by
    obtain ⟨a, c, e, _⟩ := sls_own hown hin
    exact ⟨a, c, e⟩
  by_cases h3 : ss.length < 3
  · clear hown ht hinc hin
    (repeat' (first | go_values | go_skip | go_guarded | go_step | go_upon | (simp only [Int.not_lt, Int.not_le] at *; go_simp) | (go_values <;> (try go_simp)) | (go_ite <;> go_prune <;> (try go_simp)) | (split <;> (first | (rename_i hx; exact (hx _ rfl).elim) | go_prune))))
    go_at_call 27
    refine (known25_any _).mono ?_
    rintro e wz ⟨rfl, hb⟩
    replace hG := grown_bel hG hb
    clear hb
    (repeat' (first | go_values | go_skip | go_guarded | go_step | go_upon | (simp only [Int.not_lt, Int.not_le] at *; go_simp) | (go_values <;> (try go_simp)) | (go_ite <;> go_prune <;> (try go_simp)) | (split <;> (first | (rename_i hx; exact (hx _ rfl).elim) | go_prune))))
    refine bodyPost_ret (v := .bool true) ?_ rfl ⟨rfl, below_tape hG (Nat.le_refl _)⟩
    simp [results, Try.results8, go_sem]
  (repeat' (first | go_values | go_skip | go_guarded | go_step | go_upon | (simp only [Int.not_lt, Int.not_le] at *; go_simp) | (go_values <;> (try go_simp)) | (go_ite <;> go_prune <;> (try go_simp)) | (split <;> (first | (rename_i hx; exact (hx _ rfl).elim) | go_prune))))
  go_at_call 14
  refine (next_in (B := w.heap.size + 1) _ _ (by omega) (by omega) _ ht).mono ?_
  rintro e w3 ⟨r, ⟨r1, r2⟩, rfl, ht', hg⟩
  replace hown := hown.kept hg (own_ne hown hbl)
  replace hG := grown_trans hG hg
  have hB3 : Below w.heap.size w w3 := below_tape hG (Nat.le_refl _)
  have hs := sls_own hown hin
  clear ht hg ht' hG hown hbl
  (repeat' (first | go_values | go_skip | go_guarded | go_step | go_upon | (simp only [Int.not_lt, Int.not_le] at *; go_simp) | (go_values <;> (try go_simp)) | (go_ite <;> go_prune <;> (try go_simp)) | (split <;> (first | (rename_i hx; exact (hx _ rfl).elim) | go_prune))))
  go_at_call 29
  obtain ⟨K, hK⟩ : ∃ K : Nat, 3 + r = K := ⟨(3 + r).toNat, by omega⟩
  simp only [hK]
  have hK3 : 3 ≤ K := by omega
  have hKn : K ≤ ss.length := by omega
  have hl1 : ss.length ≤ 1000 := by omega
  clear hK r1 r2
  have CI := indexes_any (K : Int) ⟨by omega, by omega⟩ w3 hs hl1
  have CB := fun W => rbounds_any ss.length hl1 (K : Int) ⟨by omega, by omega⟩ W
  have CS := fun W (hb : Below w3.heap.size w3 W) => select_any ((ss.length : Nat) : Int) ⟨by omega, by omega⟩ W (hs.below hb) hl1
  have CR := fun W v1 h1 (hb : Below w3.heap.size w3 W) => rsame_any (v1 := v1) W h1 (hs.below hb) hl1
  have hE := ixe_yes hinc hK3 hKn hl1
  have hEn := ixe_yes hinc (by omega) (Nat.le_refl _) hl1
  have hzl := ixs_lenK hinc hK3 hKn hl1
  have hz0 := ixs_mid (i := 0) hinc hK3 hKn hl1 (by omega)
  have hz9 := ixs_last hinc hK3 hKn hl1
  have HB := hid (fun m => ixs_keeps (m := m) hinc hK3 hKn hl1)
  have hsel := sel_all hinc (by omega) hl1
  have hbl := bks_len ss.length K
  have hbok : bok ss.length (K : Int) = true := by
    rcases bok_cases ss.length (K : Int) with ⟨hb, _⟩ | ⟨_, hb⟩
    · exact hb
    · omega
  unfold IxP at CI
  unfold BndP at CB
  unfold SelP at CS
  simp only [hbok, if_true, Int.toNat_natCast] at CB
  rw [hE] at CI
  rw [hEn, hsel] at CS
  have hz0 : (ixs ss K).getD 0 0 = 0 := hz0
  generalize ixs ss K = zs at *
  generalize bks ss.length K = bs at *
  clear hE hEn hsel hbok hinc hin hs
  have HLZ := hid hzl
  have HLB := hid hbl
  refine CI.mono ?_
  rintro e w4 ⟨v4, rfl, hO, hb4⟩
  obtain ⟨g4, c4, rfl, hc4, -, hg4, hc⟩ := own_ints hO (by omega)
  rw [hzl]
  have HC := hid hc
  clear CI hO hc hzl hbl
  (repeat' (first | go_values | go_skip | go_guarded | go_step | go_upon | (simp only [Int.not_lt, Int.not_le] at *; go_simp) | (go_values <;> (try go_simp)) | (go_ite <;> go_prune <;> (try go_simp)) | (split <;> (first | (rename_i hx; exact (hx _ rfl).elim) | go_prune))))
  go_at_call 30
  refine (CB _).mono ?_
  rintro e w5 ⟨⟨v5, rfl, hO⟩, hb5⟩
  rw [← HLB.out] at hO
  obtain ⟨g5, c5, rfl, hc5, -, hg5, hc⟩ := own_ints hO (by have := HLB.out; omega)
  have hbl := HLB.out
  rw [hbl] at hc5 hc ⊢
  have HC' := hid hc
  clear CB hO hc hbl
  have f0 := (hb5.cell (p := ⟨g4, 0, none⟩) hg4).trans (HC.out 0 (by have := HLZ.out; omega))
  have f9 := (hb5.cell (p := ⟨g4, K - 1, none⟩) hg4).trans (HC.out (K - 1) (by have := HLZ.out; omega))
  rw [hz0] at f0
  rw [hz9] at f9
  have hB5 : Below w3.heap.size w3 w5 := hb4.trans (hb5.mono hb4.size)
  obtain ⟨K', rfl⟩ : ∃ K', K = K' + 3 := ⟨K - 3, by omega⟩
  have f9 : w5.cell? ⟨g4, K' + 2, none⟩ = some (.int .i64 ((ss.length : Int) - 1)) := f9
  clear hz0 hz9
  (repeat' (first | go_values | go_skip | go_guarded | go_step | go_upon | (simp only [Int.not_lt, Int.not_le] at *; go_simp) | (go_values <;> (try go_simp)) | (go_ite <;> go_prune <;> (try go_simp)) | (split <;> (first | (rename_i hx; exact (hx _ rfl).elim) | go_prune))))
  go_loopw [10] (fun i wr => ∃ j : Nat, i = .int .i64 ((j : Int) + 1) ∧ j + 2 ≤ K' + 3 ∧ Below w5.heap.size w5 wr) (fun i _ => K' + 3 - (intOf i).toNat)
  case atStart => exact ⟨0, rfl, by omega, Below.refl _ _⟩
  case round =>
    obtain ⟨j, rfl, hj, hB⟩ := hrel
    by_cases hlt : j + 2 < K' + 3
    · have e1 := (hB.cell (p := ⟨g4, j + 1, none⟩) (Nat.lt_of_lt_of_le hg4 hb5.size)).trans ((hb5.cell (p := ⟨g4, j + 1, none⟩) hg4).trans (HC.out (j + 1) (by have := HLZ.out; omega)))
      have e2 := (hB.cell (p := ⟨g5, j, none⟩) hg5).trans (HC'.out j (by omega))
      have e3 := (hB.cell (p := ⟨g5, j + 1, none⟩) hg5).trans (HC'.out (j + 1) (by omega))
      obtain ⟨d1, d2⟩ := HB.out j hlt
      generalize zs.getD (j + 1) 0 = z at *
      generalize bs.getD j 0 = p at *
      generalize bs.getD (j + 1) 0 = q at *
      have g1 : decide (z < p) = false := decide_eq_false (by omega)
      have g2 : decide (q ≤ z) = false := decide_eq_false (by omega)
      clear f0 f9 d1 d2
      (repeat' (first | go_values | go_skip | go_guarded | go_step | go_upon | (simp only [Int.not_lt, Int.not_le] at *; go_simp) | (go_values <;> (try go_simp)) | (go_ite <;> go_prune <;> (try go_simp)) | (split <;> (first | (rename_i hx; exact (hx _ rfl).elim) | go_prune))))
      go_quiet (fail)
      (repeat' (first | go_values | go_skip | go_guarded | go_step | go_upon | (simp only [Int.not_lt, Int.not_le] at *; go_simp) | (go_values <;> (try go_simp)) | (go_ite <;> go_prune <;> (try go_simp)) | (split <;> (first | (rename_i hx; exact (hx _ rfl).elim) | go_prune))))
      go_roundw
      case rel => exact ⟨j + 1, by simp, by omega, by (repeat' (first | (with_reducible assumption) | (with_reducible exact Below.refl _ _) | (with_reducible refine Below.alloc ?_ ?_ _) | (with_reducible refine Below.setCell ?_ ?_ _) | (with_reducible refine Below.drew ?_) | (with_reducible refine below_more ?_ (by with_reducible assumption)) | go_size | omega | (with_reducible refine below_drewN ?_)))⟩
      case measure => simp [intOf]; omega
    · obtain rfl : j = K' + 1 := by omega
      clear f0 f9
      have hB5 := hB5.trans (hB.mono hB5.size)
      (repeat' (first | go_values | go_skip | go_guarded | go_step | go_upon | (simp only [Int.not_lt, Int.not_le] at *; go_simp) | (go_values <;> (try go_simp)) | (go_ite <;> go_prune <;> (try go_simp)) | (split <;> (first | (rename_i hx; exact (hx _ rfl).elim) | go_prune))))
      go_at_call 31
      refine (CS _ hB5).mono ?_
      rintro e w6 ⟨v6, rfl, hS, hb6⟩
      have hB6 : Below w3.heap.size w3 w6 := hB5.trans (hb6.mono hB5.size)
      clear CS hb6
      (repeat' (first | go_values | go_skip | go_guarded | go_step | go_upon | (simp only [Int.not_lt, Int.not_le] at *; go_simp) | (go_values <;> (try go_simp)) | (go_ite <;> go_prune <;> (try go_simp)) | (split <;> (first | (rename_i hx; exact (hx _ rfl).elim) | go_prune))))
      go_at_call 27
      refine (known25_any _).mono ?_
      rintro e w7 ⟨rfl, hb7⟩
      have hB7 : Below w3.heap.size w3 w7 := hB6.trans (hb7.mono hB6.size)
      have hS := hS.below hb7
      clear hb7
      (repeat' (first | go_values | go_skip | go_guarded | go_step | go_upon | (simp only [Int.not_lt, Int.not_le] at *; go_simp) | (go_values <;> (try go_simp)) | (go_ite <;> go_prune <;> (try go_simp)) | (split <;> (first | (rename_i hx; exact (hx _ rfl).elim) | go_prune))))
      go_at_call 32
      refine (CR _ _ hS hB7).mono ?_
      rintro e w8 ⟨rfl, hb8⟩
      have hB8 : Below w3.heap.size w3 w8 := hB7.trans (hb8.mono hB7.size)
      (repeat' (first | go_values | go_skip | go_guarded | go_step | go_upon | (simp only [Int.not_lt, Int.not_le] at *; go_simp) | (go_values <;> (try go_simp)) | (go_ite <;> go_prune <;> (try go_simp)) | (split <;> (first | (rename_i hx; exact (hx _ rfl).elim) | go_prune))))
      go_ret
      exact ⟨rfl, hB3.trans (hB8.mono hB3.size)⟩

/-! ### The row -/
set_option maxRecDepth 100000 in
theorem lifted (os : Os) (started : os.Started) (H : Type) (enc : TypeId × Value → H) :
    ReturnsInHanded {} Try.checked os 8 .any (Rows.lttbKeepsSpec.pre6 enc Try.prog Try.f8 Rows.lttbKeepsRow.domain false) (Rows.lttbKeepsSpec.post enc Try.prog Try.f8 false true false false) := by
  refine returnsInHanded_of_change_sized (C := Try.checked) own started (by kernel_rfl) Try.func8
    (ChangeSpec.witness6 (enc := enc) (C := Try.checked) false ⟨#[], #[.slice none 0 0], []⟩ 8 (by kernel_rfl) (by kernel_rfl) (by kernel_rfl) (by kernel_rfl)) ?_
  intro W base args ds gs before hval0 hW hcnd hsz _
  have hval : ∀ (j : Nat) t v, Try.f8.params[j]? = some t → args[j]? = some v → Value.okWide Try.prog W .any base t v := hval0
  have hW' := hW
  obtain ⟨p, q, hA0, hV, rfl, hfz, hnd⟩ := hW
  have hA : DataW.TrodAll enc Try.prog W 0 (fun _ => true) true Try.f8.params.toList args.toList ds p := hA0
  rw [Try.params8] at hA hval
  obtain ⟨v0, vs0, d0, ds0, p0, q0, hargs, rfl, rfl, g0, r0⟩ := trodAll_cons hA
  obtain ⟨rfl, rfl, rfl⟩ := trodAll_nil r0
  obtain rfl : args = #[v0] := by cases args; simp_all
  obtain ⟨rfl, rfl⟩ := trodVars_none hV
  have hlt : ∀ x ∈ (p0 ++ []) ++ [], x.block < W.heap.size := fun x hx => hW'.lt x hx
  obtain ⟨z0, hs0⟩ := open_slz Try.underlying28 Try.underlying3 (by kernel_rfl) (hval 0 28 v0 rfl rfl) g0 (fun x hx => hlt x (by simp [hx]))
  have hs0' := hs0
  obtain ⟨s0, l0, c0, rfl, _⟩ := hs0'
  refine (walk W s0 l0 c0 z0 hs0).mono fun e W' ⟨he, hb⟩ => ?_
  subst he
  exact ⟨_, rfl, law_post laidOut (by kernel_rfl) rfl rfl Try.underlying4 hW' rfl rfl rfl hb⟩

theorem over : Rows.lttbKeepsRow.holds Try.pinned (OpenSpec.ofChange Rows.lttbKeepsSpec) :=
  OpenClaim.holds_of_wide 8 Try.f8 rfl rfl rfl rfl rfl rfl rfl ⟨rfl, rfl, rfl, rfl, rfl⟩ rfl rfl rfl rfl rfl (by kernel_rfl) Try.func8 (by kernel_rfl)
    (of_decide_eq_true (by kernel_rfl)) (by unfold Func.isWrapper; first | (rw [if_pos (by decide +kernel)]; kernel_rfl) | (rw [if_neg (by decide +kernel)]; exact ⟨rfl, rfl⟩))
    (fun os started H enc _ => lifted os started H enc)

/-- The given statement. -/
theorem proved : Rows.LttbKeepsSaid :=
  over
#print axioms proved
end Go.Proofs.Ythcboomdkpiflaa.lttbKeeps
