/- tscodecref12.Same of equal samples. -/
import Derived.Test.YthcboomdkpiflaaRows
import Derived.Test.YthcboomdkpiflaaLtX
import Derived.Test.YthcboomdkpiflaaChk
import Derived.Test.YthcboomdkpiflaaDriftO
import Derived.WalkKit
import Derived.ProofKit
import Derived.WalkLawsBesides
import Derived.WalkSpells
import Derived.RegionTactic
import Derived.ChangeAlike
import Derived.BigRegion
import Derived.Outline
import Derived.Handy
import Derived.Deep.QuietTactic
import Derived.BigQuiet
namespace Go.Proofs.Ythcboomdkpiflaa
open Go.ChangeShapes Go.WideShapes Go.ChangeAt Go.RowKit
set_option linter.unusedVariables false
set_option linter.unusedSimpArgs false

theorem near_self {x : Int} : near x x 0 = true := by
  have h : dst x x = 0 := by unfold dst; split <;> omega
  unfold near; rw [h]; rfl
theorem nearself_any (x : Int) (hx : I64 x) (w : World) : Calls Try.prog 75 #[.int .i64 x, .int .i64 x, .int .i64 0] w fun e w' => e = .returned (.bool true) ∧ Below w.heap.size w w' :=
  (Chk.rnear_any x x 0 hx hx ⟨by decide, by decide⟩ w).mono fun e w' ⟨he, hw⟩ => ⟨by rw [he, near_self], hw ▸ Below.refl _ _⟩


set_option maxHeartbeats 8000000 in
set_option maxRecDepth 100000 in
theorem rwithin_any {v1 v2 : Value} {ss : Smps} (w : World) (h1 : SlS w v1 ss) (h2 : SlS w v2 ss) (hn : ss.length ≤ 1000) : Calls Try.prog 59 #[v1, v2, .int .i64 0] w fun e w' => e = .returned (.bool true) ∧ Below w.heap.size w w' := by
  obtain ⟨a1, c1, rfl, _, _, hin, hc1⟩ := h1
  obtain ⟨a2, c2, rfl, _, _, _, hc2⟩ := h2
  have HI := hid hin
  have HC1 := hid hc1
  have HC2 := hid hc2
  clear hc1 hc2 hin
  have hmx : Try.prog.follows .mixedOrders = true := by kernel_rfl
  go_enter Try.func59, Try.ntmps59
  (repeat' (first | go_values | go_skip | go_guarded | go_step | go_upon | (simp only [Int.not_lt, Int.not_le] at *; go_simp) | (go_values <;> (try go_simp)) | (go_ite <;> go_prune <;> (try go_simp)) | (split <;> (first | (rename_i hx; exact (hx _ rfl).elim) | go_prune))))
  go_loopw [7] (fun i wr => ∃ k : Nat, i = .int .i64 k ∧ k ≤ ss.length ∧ Below w.heap.size w wr) (fun i _ => ss.length - (intOf i).toNat)
  case atStart => exact ⟨0, rfl, Nat.zero_le _, Below.refl _ _⟩
  case round =>
    obtain ⟨k, rfl, hk, hB⟩ := hrel
    by_cases hlt : k < ss.length
    · obtain ⟨b1, o1, rfl, hb1, hcs1⟩ := HC1.out (by omega)
      obtain ⟨b2, o2, rfl, hb2, hcs2⟩ := HC2.out (by omega)
      obtain ⟨xy, hx⟩ : ∃ xy, ss.getD k (0, 0) = xy := ⟨_, rfl⟩
      have hy0 := (smp_i64 HI.out k).2
      have p1 := hcs1 k hlt
      have p2 := hcs2 k hlt
      rw [hx] at p1 p2 hy0
      obtain ⟨x, y⟩ := xy
      dsimp only at p1 p2 hy0
      have hy := hy0
      have f1 := fun (Wz : World) (hz : Below wr.heap.size wr Wz) => ((hB.trans (hz.mono hB.size)).cell (p := ⟨b1, o1 + k * 2, none⟩) hb1).trans p1.1
      have f2 := fun (Wz : World) (hz : Below wr.heap.size wr Wz) => ((hB.trans (hz.mono hB.size)).cell (p := ⟨b1, o1 + k * 2 + 1, none⟩) hb1).trans p1.2
      have f3 := fun (Wz : World) (hz : Below wr.heap.size wr Wz) => ((hB.trans (hz.mono hB.size)).cell (p := ⟨b2, o2 + k * 2, none⟩) hb2).trans p2.1
      have f4 := fun (Wz : World) (hz : Below wr.heap.size wr Wz) => ((hB.trans (hz.mono hB.size)).cell (p := ⟨b2, o2 + k * 2 + 1, none⟩) hb2).trans p2.2
      clear hx hcs1 hcs2 p1 p2 hy0
      (repeat' (first | go_values | go_skip | go_guarded | go_step | go_upon | (simp only [Int.not_lt, Int.not_le] at *; go_simp) | (go_values <;> (try go_simp)) | (go_ite <;> go_prune <;> (try go_simp)) | (split <;> (first | (rename_i hx; exact (hx _ rfl).elim) | go_prune))))
      (refine wp_region_dq (row := none) (S := (fun Wz => Below wr.heap.size wr Wz ∧ wr.heap.size ≤ Wz.heap.size ∧ True)) (n0 := wr.heap.size) 26 [] [(0, 0), (1, 0), (2, 0), (3, 0), (4, 0), (5, 0), (6, 0), (7, 0), (8, 0), (9, 0), (10, 0), (11, 0), (12, 0), (13, 0), (14, 0), (15, 0), (16, 0), (17, 0), (18, 0), (19, 0), (20, 0), (21, 0), (22, 0), (23, 0), (24, 0), (25, 0)] [] (by kernel_rfl) (by kernel_rfl) (fun _ _ d _ _ h => by cases d <;> exact h) (by refine ⟨?dob1, ?don1, trivial⟩; (case dob1 => (repeat' (first | (with_reducible assumption) | (with_reducible exact Below.refl _ _) | (with_reducible refine Below.alloc ?_ ?_ _) | (with_reducible refine Below.setCell ?_ ?_ _) | (with_reducible refine Below.drew ?_) | (with_reducible refine below_more ?_ (by with_reducible assumption)) | go_size | omega | (with_reducible refine below_drewN ?_)))); (case don1 => (first | go_size | omega)); all_goals (first | done | (refine Bx.of ?_; (repeat' (first | (with_reducible assumption) | ((with_reducible refine HB.new _ _ _ ?_) <;> (go_size; done)) | (with_reducible refine HB.old (by go_size) ?_) | (with_reducible refine HB.drew ?_) | (with_reducible refine HB.over5 ?_) | (with_reducible refine HB.over4 ?_) | (with_reducible refine HB.setne (by first | go_size | (dsimp only; omega)) ?_) | (with_reducible refine HN.set ?_) | (with_reducible refine HN.setne (by first | go_size | (dsimp only; omega)) ?_) | (with_reducible refine HN.drew ?_) | (with_reducible refine HN.old (by go_size) ?_) | (with_reducible exact HN.of5 (by assumption)) | (with_reducible exact HN.new5 _ _ (by go_size)) | (with_reducible exact HN.of4 (by assumption)) | (with_reducible exact HN.new4 _ _ (by go_size))))))) (fun _ _ h g => keep0 h (below_gt g) rfl) (fun _ h => h.2.1) (fun _ h => by cases h) (by simp) ?_)
      refine dqo_start ?_
      intro af0 hA
      have Z := size_lit (n := 45) hA (by rfl)
      have D := defers_lit hA
      have F0 := ev_lit (t := 0) hA (by rfl)
      have F1 := ev_lit (t := 1) hA (by rfl)
      have F2 := ev_lit (t := 2) hA (by rfl)
      have F3 := ev_lit (t := 3) hA (by rfl)
      have F4 := ev_lit (t := 4) hA (by rfl)
      have F5 := ev_lit (t := 5) hA (by rfl)
      have F6 := ev_lit (t := 6) hA (by rfl)
      have F7 := ev_lit (t := 7) hA (by rfl)
      have F8 := ev_lit (t := 8) hA (by rfl)
      have F9 := ev_lit (t := 9) hA (by rfl)
      have F10 := ev_lit (t := 10) hA (by rfl)
      have F11 := ev_lit (t := 11) hA (by rfl)
      have F12 := ev_lit (t := 12) hA (by rfl)
      have F13 := ev_lit (t := 13) hA (by rfl)
      have F14 := ev_lit (t := 14) hA (by rfl)
      have F15 := ev_lit (t := 15) hA (by rfl)
      have F17 := ev_lit (t := 17) hA (by rfl)
      have F18 := ev_lit (t := 18) hA (by rfl)
      clear hA
      refine' dqo_pure (d := 19) (by rfl) (by rfl) Z (by rfl) (wanted_not (by rfl)) ?hv1 ?rest1
      case hv1 => (intro ρ hρ; have E0 := (hρ.1 0).trans F0; have Ec := hρ.2.1; have Ef := hρ.2.2.1; clear hρ; intro w hw; (try dsimp only at hw); go_split_ands; go_simp; try with_reducible rfl)
      case' rest1 => intro af1 Zn Nx
      replace F0 := (Nx.2.2.1 0 rfl).trans F0
      replace F1 := (Nx.2.2.1 1 rfl).trans F1
      replace F2 := (Nx.2.2.1 2 rfl).trans F2
      replace F3 := (Nx.2.2.1 3 rfl).trans F3
      replace F4 := (Nx.2.2.1 4 rfl).trans F4
      replace F5 := (Nx.2.2.1 5 rfl).trans F5
      replace F6 := (Nx.2.2.1 6 rfl).trans F6
      replace F7 := (Nx.2.2.1 7 rfl).trans F7
      replace F8 := (Nx.2.2.1 8 rfl).trans F8
      replace F9 := (Nx.2.2.1 9 rfl).trans F9
      replace F10 := (Nx.2.2.1 10 rfl).trans F10
      replace F11 := (Nx.2.2.1 11 rfl).trans F11
      replace F12 := (Nx.2.2.1 12 rfl).trans F12
      replace F13 := (Nx.2.2.1 13 rfl).trans F13
      replace F14 := (Nx.2.2.1 14 rfl).trans F14
      replace F15 := (Nx.2.2.1 15 rfl).trans F15
      replace F17 := (Nx.2.2.1 17 rfl).trans F17
      replace F18 := (Nx.2.2.1 18 rfl).trans F18
      have F19 := Nx.2.1
      replace D := Nx.2.2.2.trans D
      clear Z Nx
      have Z := Zn
      clear Zn af0
      refine' dqo_pure (d := 20) (by rfl) (by rfl) Z (by rfl) (wanted_not (by rfl)) ?hv2 ?rest2
      case hv2 => (intro ρ hρ; have E7 := (hρ.1 7).trans F7; have Ec := hρ.2.1; have Ef := hρ.2.2.1; clear hρ; intro w hw; (try dsimp only at hw); go_split_ands; go_simp; try with_reducible rfl)
      case' rest2 => intro af2 Zn Nx
      replace F0 := (Nx.2.2.1 0 rfl).trans F0
      replace F1 := (Nx.2.2.1 1 rfl).trans F1
      replace F2 := (Nx.2.2.1 2 rfl).trans F2
      replace F3 := (Nx.2.2.1 3 rfl).trans F3
      replace F4 := (Nx.2.2.1 4 rfl).trans F4
      replace F5 := (Nx.2.2.1 5 rfl).trans F5
      replace F6 := (Nx.2.2.1 6 rfl).trans F6
      replace F7 := (Nx.2.2.1 7 rfl).trans F7
      replace F8 := (Nx.2.2.1 8 rfl).trans F8
      replace F9 := (Nx.2.2.1 9 rfl).trans F9
      replace F10 := (Nx.2.2.1 10 rfl).trans F10
      replace F11 := (Nx.2.2.1 11 rfl).trans F11
      replace F12 := (Nx.2.2.1 12 rfl).trans F12
      replace F13 := (Nx.2.2.1 13 rfl).trans F13
      replace F14 := (Nx.2.2.1 14 rfl).trans F14
      replace F15 := (Nx.2.2.1 15 rfl).trans F15
      replace F17 := (Nx.2.2.1 17 rfl).trans F17
      replace F18 := (Nx.2.2.1 18 rfl).trans F18
      replace F19 := (Nx.2.2.1 19 rfl).trans F19
      have F20 := Nx.2.1
      replace D := Nx.2.2.2.trans D
      clear Z Nx
      have Z := Zn
      clear Zn af1
      refine' dqo_pure (d := 21) (by rfl) (by rfl) Z (by rfl) (wanted_not (by rfl)) ?hv3 ?rest3
      case hv3 => (intro ρ hρ; have E19 := (hρ.1 19).trans F19; have E20 := (hρ.1 20).trans F20; have Ec := hρ.2.1; have Ef := hρ.2.2.1; clear hρ; intro w hw; (try dsimp only at hw); go_split_ands; go_simp; try with_reducible rfl)
      case' rest3 => intro af3 Zn Nx
      replace F0 := (Nx.2.2.1 0 rfl).trans F0
      replace F1 := (Nx.2.2.1 1 rfl).trans F1
      replace F2 := (Nx.2.2.1 2 rfl).trans F2
      replace F3 := (Nx.2.2.1 3 rfl).trans F3
      replace F4 := (Nx.2.2.1 4 rfl).trans F4
      replace F5 := (Nx.2.2.1 5 rfl).trans F5
      replace F6 := (Nx.2.2.1 6 rfl).trans F6
      replace F7 := (Nx.2.2.1 7 rfl).trans F7
      replace F8 := (Nx.2.2.1 8 rfl).trans F8
      replace F9 := (Nx.2.2.1 9 rfl).trans F9
      replace F10 := (Nx.2.2.1 10 rfl).trans F10
      replace F11 := (Nx.2.2.1 11 rfl).trans F11
      replace F12 := (Nx.2.2.1 12 rfl).trans F12
      replace F13 := (Nx.2.2.1 13 rfl).trans F13
      replace F14 := (Nx.2.2.1 14 rfl).trans F14
      replace F15 := (Nx.2.2.1 15 rfl).trans F15
      replace F17 := (Nx.2.2.1 17 rfl).trans F17
      replace F18 := (Nx.2.2.1 18 rfl).trans F18
      clear F19
      clear F20
      have F21 := Nx.2.1
      replace D := Nx.2.2.2.trans D
      clear Z Nx
      have Z := Zn
      clear Zn af2
      refine' dqo_pure (d := 22) (by rfl) (by rfl) Z (by rfl) (wanted_not (by rfl)) ?hv4 ?rest4
      case hv4 => (intro ρ hρ; have E21 := (hρ.1 21).trans F21; have Ec := hρ.2.1; have Ef := hρ.2.2.1; clear hρ; intro w hw; (try dsimp only at hw); go_split_ands; go_simp; try with_reducible rfl)
      case' rest4 => intro af4 Zn Nx
      replace F0 := (Nx.2.2.1 0 rfl).trans F0
      replace F1 := (Nx.2.2.1 1 rfl).trans F1
      replace F2 := (Nx.2.2.1 2 rfl).trans F2
      replace F3 := (Nx.2.2.1 3 rfl).trans F3
      replace F4 := (Nx.2.2.1 4 rfl).trans F4
      replace F5 := (Nx.2.2.1 5 rfl).trans F5
      replace F6 := (Nx.2.2.1 6 rfl).trans F6
      replace F7 := (Nx.2.2.1 7 rfl).trans F7
      replace F8 := (Nx.2.2.1 8 rfl).trans F8
      replace F9 := (Nx.2.2.1 9 rfl).trans F9
      replace F10 := (Nx.2.2.1 10 rfl).trans F10
      replace F11 := (Nx.2.2.1 11 rfl).trans F11
      replace F12 := (Nx.2.2.1 12 rfl).trans F12
      replace F13 := (Nx.2.2.1 13 rfl).trans F13
      replace F14 := (Nx.2.2.1 14 rfl).trans F14
      replace F15 := (Nx.2.2.1 15 rfl).trans F15
      replace F17 := (Nx.2.2.1 17 rfl).trans F17
      replace F18 := (Nx.2.2.1 18 rfl).trans F18
      clear F21
      have F22 := Nx.2.1
      replace D := Nx.2.2.2.trans D
      clear Z Nx
      have Z := Zn
      clear Zn af3
      refine' dqo_pure (d := 23) (by rfl) (by rfl) Z (by rfl) (wanted_not (by rfl)) ?hv5 ?rest5
      case hv5 => (intro ρ hρ; have E22 := (hρ.1 22).trans F22; have Ec := hρ.2.1; have Ef := hρ.2.2.1; clear hρ; intro w hw; (try dsimp only at hw); go_split_ands; go_simp; try with_reducible rfl)
      case' rest5 => intro af5 Zn Nx
      replace F0 := (Nx.2.2.1 0 rfl).trans F0
      replace F1 := (Nx.2.2.1 1 rfl).trans F1
      replace F2 := (Nx.2.2.1 2 rfl).trans F2
      replace F3 := (Nx.2.2.1 3 rfl).trans F3
      replace F4 := (Nx.2.2.1 4 rfl).trans F4
      replace F5 := (Nx.2.2.1 5 rfl).trans F5
      replace F6 := (Nx.2.2.1 6 rfl).trans F6
      replace F7 := (Nx.2.2.1 7 rfl).trans F7
      replace F8 := (Nx.2.2.1 8 rfl).trans F8
      replace F9 := (Nx.2.2.1 9 rfl).trans F9
      replace F10 := (Nx.2.2.1 10 rfl).trans F10
      replace F11 := (Nx.2.2.1 11 rfl).trans F11
      replace F12 := (Nx.2.2.1 12 rfl).trans F12
      replace F13 := (Nx.2.2.1 13 rfl).trans F13
      replace F14 := (Nx.2.2.1 14 rfl).trans F14
      replace F15 := (Nx.2.2.1 15 rfl).trans F15
      replace F17 := (Nx.2.2.1 17 rfl).trans F17
      replace F18 := (Nx.2.2.1 18 rfl).trans F18
      clear F22
      have F23 := Nx.2.1
      replace D := Nx.2.2.2.trans D
      clear Z Nx
      have Z := Zn
      clear Zn af4
      refine' dqo_pure (d := 24) (by rfl) (by rfl) Z (by rfl) (wanted_not (by rfl)) ?hv6 ?rest6
      case hv6 => (intro ρ hρ; have E1 := (hρ.1 1).trans F1; have Ec := hρ.2.1; have Ef := hρ.2.2.1; clear hρ; intro w hw; (try dsimp only at hw); go_split_ands; go_simp; try with_reducible rfl)
      case' rest6 => intro af6 Zn Nx
      replace F0 := (Nx.2.2.1 0 rfl).trans F0
      replace F1 := (Nx.2.2.1 1 rfl).trans F1
      replace F2 := (Nx.2.2.1 2 rfl).trans F2
      replace F3 := (Nx.2.2.1 3 rfl).trans F3
      replace F4 := (Nx.2.2.1 4 rfl).trans F4
      replace F5 := (Nx.2.2.1 5 rfl).trans F5
      replace F6 := (Nx.2.2.1 6 rfl).trans F6
      replace F7 := (Nx.2.2.1 7 rfl).trans F7
      replace F8 := (Nx.2.2.1 8 rfl).trans F8
      replace F9 := (Nx.2.2.1 9 rfl).trans F9
      replace F10 := (Nx.2.2.1 10 rfl).trans F10
      replace F11 := (Nx.2.2.1 11 rfl).trans F11
      replace F12 := (Nx.2.2.1 12 rfl).trans F12
      replace F13 := (Nx.2.2.1 13 rfl).trans F13
      replace F14 := (Nx.2.2.1 14 rfl).trans F14
      replace F15 := (Nx.2.2.1 15 rfl).trans F15
      replace F17 := (Nx.2.2.1 17 rfl).trans F17
      replace F18 := (Nx.2.2.1 18 rfl).trans F18
      replace F23 := (Nx.2.2.1 23 rfl).trans F23
      have F24 := Nx.2.1
      replace D := Nx.2.2.2.trans D
      clear Z Nx
      have Z := Zn
      clear Zn af5
      refine' dqo_pure (d := 25) (by rfl) (by rfl) Z (by rfl) (wanted_not (by rfl)) ?hv7 ?rest7
      case hv7 => (intro ρ hρ; have E7 := (hρ.1 7).trans F7; have Ec := hρ.2.1; have Ef := hρ.2.2.1; clear hρ; intro w hw; (try dsimp only at hw); go_split_ands; go_simp; try with_reducible rfl)
      case' rest7 => intro af7 Zn Nx
      replace F0 := (Nx.2.2.1 0 rfl).trans F0
      replace F1 := (Nx.2.2.1 1 rfl).trans F1
      replace F2 := (Nx.2.2.1 2 rfl).trans F2
      replace F3 := (Nx.2.2.1 3 rfl).trans F3
      replace F4 := (Nx.2.2.1 4 rfl).trans F4
      replace F5 := (Nx.2.2.1 5 rfl).trans F5
      replace F6 := (Nx.2.2.1 6 rfl).trans F6
      replace F7 := (Nx.2.2.1 7 rfl).trans F7
      replace F8 := (Nx.2.2.1 8 rfl).trans F8
      replace F9 := (Nx.2.2.1 9 rfl).trans F9
      replace F10 := (Nx.2.2.1 10 rfl).trans F10
      replace F11 := (Nx.2.2.1 11 rfl).trans F11
      replace F12 := (Nx.2.2.1 12 rfl).trans F12
      replace F13 := (Nx.2.2.1 13 rfl).trans F13
      replace F14 := (Nx.2.2.1 14 rfl).trans F14
      replace F15 := (Nx.2.2.1 15 rfl).trans F15
      replace F17 := (Nx.2.2.1 17 rfl).trans F17
      replace F18 := (Nx.2.2.1 18 rfl).trans F18
      replace F23 := (Nx.2.2.1 23 rfl).trans F23
      replace F24 := (Nx.2.2.1 24 rfl).trans F24
      have F25 := Nx.2.1
      replace D := Nx.2.2.2.trans D
      clear Z Nx
      have Z := Zn
      clear Zn af6
      refine' dqo_pure (d := 26) (by rfl) (by rfl) Z (by rfl) (wanted_not (by rfl)) ?hv8 ?rest8
      case hv8 => (intro ρ hρ; have E24 := (hρ.1 24).trans F24; have E25 := (hρ.1 25).trans F25; have Ec := hρ.2.1; have Ef := hρ.2.2.1; clear hρ; intro w hw; (try dsimp only at hw); go_split_ands; go_simp; try with_reducible rfl)
      case' rest8 => intro af8 Zn Nx
      replace F0 := (Nx.2.2.1 0 rfl).trans F0
      replace F1 := (Nx.2.2.1 1 rfl).trans F1
      replace F2 := (Nx.2.2.1 2 rfl).trans F2
      replace F3 := (Nx.2.2.1 3 rfl).trans F3
      replace F4 := (Nx.2.2.1 4 rfl).trans F4
      replace F5 := (Nx.2.2.1 5 rfl).trans F5
      replace F6 := (Nx.2.2.1 6 rfl).trans F6
      replace F7 := (Nx.2.2.1 7 rfl).trans F7
      replace F8 := (Nx.2.2.1 8 rfl).trans F8
      replace F9 := (Nx.2.2.1 9 rfl).trans F9
      replace F10 := (Nx.2.2.1 10 rfl).trans F10
      replace F11 := (Nx.2.2.1 11 rfl).trans F11
      replace F12 := (Nx.2.2.1 12 rfl).trans F12
      replace F13 := (Nx.2.2.1 13 rfl).trans F13
      replace F14 := (Nx.2.2.1 14 rfl).trans F14
      replace F15 := (Nx.2.2.1 15 rfl).trans F15
      replace F17 := (Nx.2.2.1 17 rfl).trans F17
      replace F18 := (Nx.2.2.1 18 rfl).trans F18
      replace F23 := (Nx.2.2.1 23 rfl).trans F23
      clear F24
      clear F25
      have F26 := Nx.2.1
      replace D := Nx.2.2.2.trans D
      clear Z Nx
      have Z := Zn
      clear Zn af7
      refine' dqo_pure (d := 27) (by rfl) (by rfl) Z (by rfl) (wanted_not (by rfl)) ?hv9 ?rest9
      case hv9 => (intro ρ hρ; have E26 := (hρ.1 26).trans F26; have Ec := hρ.2.1; have Ef := hρ.2.2.1; clear hρ; intro w hw; (try dsimp only at hw); go_split_ands; go_simp; try with_reducible rfl)
      case' rest9 => intro af9 Zn Nx
      replace F0 := (Nx.2.2.1 0 rfl).trans F0
      replace F1 := (Nx.2.2.1 1 rfl).trans F1
      replace F2 := (Nx.2.2.1 2 rfl).trans F2
      replace F3 := (Nx.2.2.1 3 rfl).trans F3
      replace F4 := (Nx.2.2.1 4 rfl).trans F4
      replace F5 := (Nx.2.2.1 5 rfl).trans F5
      replace F6 := (Nx.2.2.1 6 rfl).trans F6
      replace F7 := (Nx.2.2.1 7 rfl).trans F7
      replace F8 := (Nx.2.2.1 8 rfl).trans F8
      replace F9 := (Nx.2.2.1 9 rfl).trans F9
      replace F10 := (Nx.2.2.1 10 rfl).trans F10
      replace F11 := (Nx.2.2.1 11 rfl).trans F11
      replace F12 := (Nx.2.2.1 12 rfl).trans F12
      replace F13 := (Nx.2.2.1 13 rfl).trans F13
      replace F14 := (Nx.2.2.1 14 rfl).trans F14
      replace F15 := (Nx.2.2.1 15 rfl).trans F15
      replace F17 := (Nx.2.2.1 17 rfl).trans F17
      replace F18 := (Nx.2.2.1 18 rfl).trans F18
      replace F23 := (Nx.2.2.1 23 rfl).trans F23
      clear F26
      have F27 := Nx.2.1
      replace D := Nx.2.2.2.trans D
      clear Z Nx
      have Z := Zn
      clear Zn af8
      refine' dqo_pure (d := 28) (by rfl) (by rfl) Z (by rfl) (wanted_not (by rfl)) ?hv10 ?rest10
      case hv10 => (intro ρ hρ; have E27 := (hρ.1 27).trans F27; have Ec := hρ.2.1; have Ef := hρ.2.2.1; clear hρ; intro w hw; (try dsimp only at hw); go_split_ands; go_simp; try with_reducible rfl)
      case' rest10 => intro af10 Zn Nx
      replace F0 := (Nx.2.2.1 0 rfl).trans F0
      replace F1 := (Nx.2.2.1 1 rfl).trans F1
      replace F2 := (Nx.2.2.1 2 rfl).trans F2
      replace F3 := (Nx.2.2.1 3 rfl).trans F3
      replace F4 := (Nx.2.2.1 4 rfl).trans F4
      replace F5 := (Nx.2.2.1 5 rfl).trans F5
      replace F6 := (Nx.2.2.1 6 rfl).trans F6
      replace F7 := (Nx.2.2.1 7 rfl).trans F7
      replace F8 := (Nx.2.2.1 8 rfl).trans F8
      replace F9 := (Nx.2.2.1 9 rfl).trans F9
      replace F10 := (Nx.2.2.1 10 rfl).trans F10
      replace F11 := (Nx.2.2.1 11 rfl).trans F11
      replace F12 := (Nx.2.2.1 12 rfl).trans F12
      replace F13 := (Nx.2.2.1 13 rfl).trans F13
      replace F14 := (Nx.2.2.1 14 rfl).trans F14
      replace F15 := (Nx.2.2.1 15 rfl).trans F15
      replace F17 := (Nx.2.2.1 17 rfl).trans F17
      replace F18 := (Nx.2.2.1 18 rfl).trans F18
      replace F23 := (Nx.2.2.1 23 rfl).trans F23
      clear F27
      have F28 := Nx.2.1
      replace D := Nx.2.2.2.trans D
      clear Z Nx
      have Z := Zn
      clear Zn af9
      refine' dqo_pure (d := 29) (by rfl) (by rfl) Z (by rfl) (wanted_not (by rfl)) ?hv11 ?rest11
      case hv11 => (intro ρ hρ; have E23 := (hρ.1 23).trans F23; have E28 := (hρ.1 28).trans F28; have Ec := hρ.2.1; have Ef := hρ.2.2.1; clear hρ; intro w hw; (try dsimp only at hw); go_split_ands; go_simp; try with_reducible rfl)
      case' rest11 => intro af11 Zn Nx
      replace F0 := (Nx.2.2.1 0 rfl).trans F0
      replace F1 := (Nx.2.2.1 1 rfl).trans F1
      replace F2 := (Nx.2.2.1 2 rfl).trans F2
      replace F3 := (Nx.2.2.1 3 rfl).trans F3
      replace F4 := (Nx.2.2.1 4 rfl).trans F4
      replace F5 := (Nx.2.2.1 5 rfl).trans F5
      replace F6 := (Nx.2.2.1 6 rfl).trans F6
      replace F7 := (Nx.2.2.1 7 rfl).trans F7
      replace F8 := (Nx.2.2.1 8 rfl).trans F8
      replace F9 := (Nx.2.2.1 9 rfl).trans F9
      replace F10 := (Nx.2.2.1 10 rfl).trans F10
      replace F11 := (Nx.2.2.1 11 rfl).trans F11
      replace F12 := (Nx.2.2.1 12 rfl).trans F12
      replace F13 := (Nx.2.2.1 13 rfl).trans F13
      replace F14 := (Nx.2.2.1 14 rfl).trans F14
      replace F15 := (Nx.2.2.1 15 rfl).trans F15
      replace F17 := (Nx.2.2.1 17 rfl).trans F17
      replace F18 := (Nx.2.2.1 18 rfl).trans F18
      clear F23
      clear F28
      have F29 := Nx.2.1
      replace D := Nx.2.2.2.trans D
      clear Z Nx
      have Z := Zn
      clear Zn af10
      refine' dqo_pure (d := 30) (by rfl) (by rfl) Z (by rfl) (wanted_not (by rfl)) ?hv12 ?rest12
      case hv12 => (intro ρ hρ; have E29 := (hρ.1 29).trans F29; have Ec := hρ.2.1; have Ef := hρ.2.2.1; clear hρ; intro w hw; (try dsimp only at hw); go_split_ands; go_simp; try with_reducible rfl)
      case' rest12 => intro af12 Zn Nx
      replace F0 := (Nx.2.2.1 0 rfl).trans F0
      replace F1 := (Nx.2.2.1 1 rfl).trans F1
      replace F2 := (Nx.2.2.1 2 rfl).trans F2
      replace F3 := (Nx.2.2.1 3 rfl).trans F3
      replace F4 := (Nx.2.2.1 4 rfl).trans F4
      replace F5 := (Nx.2.2.1 5 rfl).trans F5
      replace F6 := (Nx.2.2.1 6 rfl).trans F6
      replace F7 := (Nx.2.2.1 7 rfl).trans F7
      replace F8 := (Nx.2.2.1 8 rfl).trans F8
      replace F9 := (Nx.2.2.1 9 rfl).trans F9
      replace F10 := (Nx.2.2.1 10 rfl).trans F10
      replace F11 := (Nx.2.2.1 11 rfl).trans F11
      replace F12 := (Nx.2.2.1 12 rfl).trans F12
      replace F13 := (Nx.2.2.1 13 rfl).trans F13
      replace F14 := (Nx.2.2.1 14 rfl).trans F14
      replace F15 := (Nx.2.2.1 15 rfl).trans F15
      replace F17 := (Nx.2.2.1 17 rfl).trans F17
      replace F18 := (Nx.2.2.1 18 rfl).trans F18
      clear F29
      have F30 := Nx.2.1
      replace D := Nx.2.2.2.trans D
      clear Z Nx
      have Z := Zn
      clear Zn af11
      refine' dqo_pure (d := 31) (by rfl) (by rfl) Z (by rfl) (wanted_yes (by rfl) (by rfl) F30) ?hv13 ?rest13
      case hv13 => (intro ρ hρ; have E0 := (hρ.1 0).trans F0; have Ec := hρ.2.1; have Ef := hρ.2.2.1; clear hρ; intro w hw; (try dsimp only at hw); go_split_ands; go_simp; try with_reducible rfl)
      case' rest13 => intro af13 Zn Nx
      replace F0 := (Nx.2.2.1 0 rfl).trans F0
      replace F1 := (Nx.2.2.1 1 rfl).trans F1
      replace F2 := (Nx.2.2.1 2 rfl).trans F2
      replace F3 := (Nx.2.2.1 3 rfl).trans F3
      replace F4 := (Nx.2.2.1 4 rfl).trans F4
      replace F5 := (Nx.2.2.1 5 rfl).trans F5
      replace F6 := (Nx.2.2.1 6 rfl).trans F6
      replace F7 := (Nx.2.2.1 7 rfl).trans F7
      replace F8 := (Nx.2.2.1 8 rfl).trans F8
      replace F9 := (Nx.2.2.1 9 rfl).trans F9
      replace F10 := (Nx.2.2.1 10 rfl).trans F10
      replace F11 := (Nx.2.2.1 11 rfl).trans F11
      replace F12 := (Nx.2.2.1 12 rfl).trans F12
      replace F13 := (Nx.2.2.1 13 rfl).trans F13
      replace F14 := (Nx.2.2.1 14 rfl).trans F14
      replace F15 := (Nx.2.2.1 15 rfl).trans F15
      replace F17 := (Nx.2.2.1 17 rfl).trans F17
      replace F18 := (Nx.2.2.1 18 rfl).trans F18
      replace F30 := (Nx.2.2.1 30 rfl).trans F30
      have F31 := Nx.2.1
      replace D := Nx.2.2.2.trans D
      clear Z Nx
      have Z := Zn
      clear Zn af12
      refine' dqo_pure (d := 32) (by rfl) (by rfl) Z (by rfl) (wanted_yes (by rfl) (by rfl) F30) ?hv14 ?rest14
      case hv14 => (intro ρ hρ; have E7 := (hρ.1 7).trans F7; have Ec := hρ.2.1; have Ef := hρ.2.2.1; clear hρ; intro w hw; (try dsimp only at hw); go_split_ands; go_simp; try with_reducible rfl)
      case' rest14 => intro af14 Zn Nx
      replace F0 := (Nx.2.2.1 0 rfl).trans F0
      replace F1 := (Nx.2.2.1 1 rfl).trans F1
      replace F2 := (Nx.2.2.1 2 rfl).trans F2
      replace F3 := (Nx.2.2.1 3 rfl).trans F3
      replace F4 := (Nx.2.2.1 4 rfl).trans F4
      replace F5 := (Nx.2.2.1 5 rfl).trans F5
      replace F6 := (Nx.2.2.1 6 rfl).trans F6
      replace F7 := (Nx.2.2.1 7 rfl).trans F7
      replace F8 := (Nx.2.2.1 8 rfl).trans F8
      replace F9 := (Nx.2.2.1 9 rfl).trans F9
      replace F10 := (Nx.2.2.1 10 rfl).trans F10
      replace F11 := (Nx.2.2.1 11 rfl).trans F11
      replace F12 := (Nx.2.2.1 12 rfl).trans F12
      replace F13 := (Nx.2.2.1 13 rfl).trans F13
      replace F14 := (Nx.2.2.1 14 rfl).trans F14
      replace F15 := (Nx.2.2.1 15 rfl).trans F15
      replace F17 := (Nx.2.2.1 17 rfl).trans F17
      replace F18 := (Nx.2.2.1 18 rfl).trans F18
      replace F30 := (Nx.2.2.1 30 rfl).trans F30
      replace F31 := (Nx.2.2.1 31 rfl).trans F31
      have F32 := Nx.2.1
      replace D := Nx.2.2.2.trans D
      clear Z Nx
      have Z := Zn
      clear Zn af13
      refine' dqo_pure (d := 33) (by rfl) (by rfl) Z (by rfl) (wanted_yes (by rfl) (by rfl) F30) ?hv15 ?rest15
      case hv15 => (intro ρ hρ; have E31 := (hρ.1 31).trans F31; have E32 := (hρ.1 32).trans F32; have Ec := hρ.2.1; have Ef := hρ.2.2.1; clear hρ; intro w hw; (try dsimp only at hw); go_split_ands; go_simp; try with_reducible rfl)
      case' rest15 => intro af15 Zn Nx
      replace F0 := (Nx.2.2.1 0 rfl).trans F0
      replace F1 := (Nx.2.2.1 1 rfl).trans F1
      replace F2 := (Nx.2.2.1 2 rfl).trans F2
      replace F3 := (Nx.2.2.1 3 rfl).trans F3
      replace F4 := (Nx.2.2.1 4 rfl).trans F4
      replace F5 := (Nx.2.2.1 5 rfl).trans F5
      replace F6 := (Nx.2.2.1 6 rfl).trans F6
      replace F7 := (Nx.2.2.1 7 rfl).trans F7
      replace F8 := (Nx.2.2.1 8 rfl).trans F8
      replace F9 := (Nx.2.2.1 9 rfl).trans F9
      replace F10 := (Nx.2.2.1 10 rfl).trans F10
      replace F11 := (Nx.2.2.1 11 rfl).trans F11
      replace F12 := (Nx.2.2.1 12 rfl).trans F12
      replace F13 := (Nx.2.2.1 13 rfl).trans F13
      replace F14 := (Nx.2.2.1 14 rfl).trans F14
      replace F15 := (Nx.2.2.1 15 rfl).trans F15
      replace F17 := (Nx.2.2.1 17 rfl).trans F17
      replace F18 := (Nx.2.2.1 18 rfl).trans F18
      replace F30 := (Nx.2.2.1 30 rfl).trans F30
      clear F31
      clear F32
      have F33 := Nx.2.1
      replace D := Nx.2.2.2.trans D
      clear Z Nx
      have Z := Zn
      clear Zn af14
      refine' dqo_pure (d := 34) (by rfl) (by rfl) Z (by rfl) (wanted_yes (by rfl) (by rfl) F30) ?hv16 ?rest16
      case hv16 => (intro ρ hρ; have E33 := (hρ.1 33).trans F33; have Ec := hρ.2.1; have Ef := hρ.2.2.1; clear hρ; intro w hw; (try dsimp only at hw); go_split_ands; go_simp; try with_reducible rfl)
      case' rest16 => intro af16 Zn Nx
      replace F0 := (Nx.2.2.1 0 rfl).trans F0
      replace F1 := (Nx.2.2.1 1 rfl).trans F1
      replace F2 := (Nx.2.2.1 2 rfl).trans F2
      replace F3 := (Nx.2.2.1 3 rfl).trans F3
      replace F4 := (Nx.2.2.1 4 rfl).trans F4
      replace F5 := (Nx.2.2.1 5 rfl).trans F5
      replace F6 := (Nx.2.2.1 6 rfl).trans F6
      replace F7 := (Nx.2.2.1 7 rfl).trans F7
      replace F8 := (Nx.2.2.1 8 rfl).trans F8
      replace F9 := (Nx.2.2.1 9 rfl).trans F9
      replace F10 := (Nx.2.2.1 10 rfl).trans F10
      replace F11 := (Nx.2.2.1 11 rfl).trans F11
      replace F12 := (Nx.2.2.1 12 rfl).trans F12
      replace F13 := (Nx.2.2.1 13 rfl).trans F13
      replace F14 := (Nx.2.2.1 14 rfl).trans F14
      replace F15 := (Nx.2.2.1 15 rfl).trans F15
      replace F17 := (Nx.2.2.1 17 rfl).trans F17
      replace F18 := (Nx.2.2.1 18 rfl).trans F18
      replace F30 := (Nx.2.2.1 30 rfl).trans F30
      clear F33
      have F34 := Nx.2.1
      replace D := Nx.2.2.2.trans D
      clear Z Nx
      have Z := Zn
      clear Zn af15
      refine' dqo_pure (d := 35) (by rfl) (by rfl) Z (by rfl) (wanted_yes (by rfl) (by rfl) F30) ?hv17 ?rest17
      case hv17 => (intro ρ hρ; have E34 := (hρ.1 34).trans F34; have Ec := hρ.2.1; have Ef := hρ.2.2.1; clear hρ; intro w hw; (try dsimp only at hw); go_split_ands; go_simp; try with_reducible rfl)
      case' rest17 => intro af17 Zn Nx
      replace F0 := (Nx.2.2.1 0 rfl).trans F0
      replace F1 := (Nx.2.2.1 1 rfl).trans F1
      replace F2 := (Nx.2.2.1 2 rfl).trans F2
      replace F3 := (Nx.2.2.1 3 rfl).trans F3
      replace F4 := (Nx.2.2.1 4 rfl).trans F4
      replace F5 := (Nx.2.2.1 5 rfl).trans F5
      replace F6 := (Nx.2.2.1 6 rfl).trans F6
      replace F7 := (Nx.2.2.1 7 rfl).trans F7
      replace F8 := (Nx.2.2.1 8 rfl).trans F8
      replace F9 := (Nx.2.2.1 9 rfl).trans F9
      replace F10 := (Nx.2.2.1 10 rfl).trans F10
      replace F11 := (Nx.2.2.1 11 rfl).trans F11
      replace F12 := (Nx.2.2.1 12 rfl).trans F12
      replace F13 := (Nx.2.2.1 13 rfl).trans F13
      replace F14 := (Nx.2.2.1 14 rfl).trans F14
      replace F15 := (Nx.2.2.1 15 rfl).trans F15
      replace F17 := (Nx.2.2.1 17 rfl).trans F17
      replace F18 := (Nx.2.2.1 18 rfl).trans F18
      replace F30 := (Nx.2.2.1 30 rfl).trans F30
      clear F34
      have F35 := Nx.2.1
      replace D := Nx.2.2.2.trans D
      clear Z Nx
      have Z := Zn
      clear Zn af16
      refine' dqo_pure (d := 36) (by rfl) (by rfl) Z (by rfl) (wanted_yes (by rfl) (by rfl) F30) ?hv18 ?rest18
      case hv18 => (intro ρ hρ; have E1 := (hρ.1 1).trans F1; have Ec := hρ.2.1; have Ef := hρ.2.2.1; clear hρ; intro w hw; (try dsimp only at hw); go_split_ands; go_simp; try with_reducible rfl)
      case' rest18 => intro af18 Zn Nx
      replace F0 := (Nx.2.2.1 0 rfl).trans F0
      replace F1 := (Nx.2.2.1 1 rfl).trans F1
      replace F2 := (Nx.2.2.1 2 rfl).trans F2
      replace F3 := (Nx.2.2.1 3 rfl).trans F3
      replace F4 := (Nx.2.2.1 4 rfl).trans F4
      replace F5 := (Nx.2.2.1 5 rfl).trans F5
      replace F6 := (Nx.2.2.1 6 rfl).trans F6
      replace F7 := (Nx.2.2.1 7 rfl).trans F7
      replace F8 := (Nx.2.2.1 8 rfl).trans F8
      replace F9 := (Nx.2.2.1 9 rfl).trans F9
      replace F10 := (Nx.2.2.1 10 rfl).trans F10
      replace F11 := (Nx.2.2.1 11 rfl).trans F11
      replace F12 := (Nx.2.2.1 12 rfl).trans F12
      replace F13 := (Nx.2.2.1 13 rfl).trans F13
      replace F14 := (Nx.2.2.1 14 rfl).trans F14
      replace F15 := (Nx.2.2.1 15 rfl).trans F15
      replace F17 := (Nx.2.2.1 17 rfl).trans F17
      replace F18 := (Nx.2.2.1 18 rfl).trans F18
      replace F30 := (Nx.2.2.1 30 rfl).trans F30
      replace F35 := (Nx.2.2.1 35 rfl).trans F35
      have F36 := Nx.2.1
      replace D := Nx.2.2.2.trans D
      clear Z Nx
      have Z := Zn
      clear Zn af17
      refine' dqo_pure (d := 37) (by rfl) (by rfl) Z (by rfl) (wanted_yes (by rfl) (by rfl) F30) ?hv19 ?rest19
      case hv19 => (intro ρ hρ; have E7 := (hρ.1 7).trans F7; have Ec := hρ.2.1; have Ef := hρ.2.2.1; clear hρ; intro w hw; (try dsimp only at hw); go_split_ands; go_simp; try with_reducible rfl)
      case' rest19 => intro af19 Zn Nx
      replace F0 := (Nx.2.2.1 0 rfl).trans F0
      replace F1 := (Nx.2.2.1 1 rfl).trans F1
      replace F2 := (Nx.2.2.1 2 rfl).trans F2
      replace F3 := (Nx.2.2.1 3 rfl).trans F3
      replace F4 := (Nx.2.2.1 4 rfl).trans F4
      replace F5 := (Nx.2.2.1 5 rfl).trans F5
      replace F6 := (Nx.2.2.1 6 rfl).trans F6
      replace F7 := (Nx.2.2.1 7 rfl).trans F7
      replace F8 := (Nx.2.2.1 8 rfl).trans F8
      replace F9 := (Nx.2.2.1 9 rfl).trans F9
      replace F10 := (Nx.2.2.1 10 rfl).trans F10
      replace F11 := (Nx.2.2.1 11 rfl).trans F11
      replace F12 := (Nx.2.2.1 12 rfl).trans F12
      replace F13 := (Nx.2.2.1 13 rfl).trans F13
      replace F14 := (Nx.2.2.1 14 rfl).trans F14
      replace F15 := (Nx.2.2.1 15 rfl).trans F15
      replace F17 := (Nx.2.2.1 17 rfl).trans F17
      replace F18 := (Nx.2.2.1 18 rfl).trans F18
      replace F30 := (Nx.2.2.1 30 rfl).trans F30
      replace F35 := (Nx.2.2.1 35 rfl).trans F35
      replace F36 := (Nx.2.2.1 36 rfl).trans F36
      have F37 := Nx.2.1
      replace D := Nx.2.2.2.trans D
      clear Z Nx
      have Z := Zn
      clear Zn af18
      refine' dqo_pure (d := 38) (by rfl) (by rfl) Z (by rfl) (wanted_yes (by rfl) (by rfl) F30) ?hv20 ?rest20
      case hv20 => (intro ρ hρ; have E36 := (hρ.1 36).trans F36; have E37 := (hρ.1 37).trans F37; have Ec := hρ.2.1; have Ef := hρ.2.2.1; clear hρ; intro w hw; (try dsimp only at hw); go_split_ands; go_simp; try with_reducible rfl)
      case' rest20 => intro af20 Zn Nx
      replace F0 := (Nx.2.2.1 0 rfl).trans F0
      replace F1 := (Nx.2.2.1 1 rfl).trans F1
      replace F2 := (Nx.2.2.1 2 rfl).trans F2
      replace F3 := (Nx.2.2.1 3 rfl).trans F3
      replace F4 := (Nx.2.2.1 4 rfl).trans F4
      replace F5 := (Nx.2.2.1 5 rfl).trans F5
      replace F6 := (Nx.2.2.1 6 rfl).trans F6
      replace F7 := (Nx.2.2.1 7 rfl).trans F7
      replace F8 := (Nx.2.2.1 8 rfl).trans F8
      replace F9 := (Nx.2.2.1 9 rfl).trans F9
      replace F10 := (Nx.2.2.1 10 rfl).trans F10
      replace F11 := (Nx.2.2.1 11 rfl).trans F11
      replace F12 := (Nx.2.2.1 12 rfl).trans F12
      replace F13 := (Nx.2.2.1 13 rfl).trans F13
      replace F14 := (Nx.2.2.1 14 rfl).trans F14
      replace F15 := (Nx.2.2.1 15 rfl).trans F15
      replace F17 := (Nx.2.2.1 17 rfl).trans F17
      replace F18 := (Nx.2.2.1 18 rfl).trans F18
      replace F30 := (Nx.2.2.1 30 rfl).trans F30
      replace F35 := (Nx.2.2.1 35 rfl).trans F35
      clear F36
      clear F37
      have F38 := Nx.2.1
      replace D := Nx.2.2.2.trans D
      clear Z Nx
      have Z := Zn
      clear Zn af19
      refine' dqo_pure (d := 39) (by rfl) (by rfl) Z (by rfl) (wanted_yes (by rfl) (by rfl) F30) ?hv21 ?rest21
      case hv21 => (intro ρ hρ; have E38 := (hρ.1 38).trans F38; have Ec := hρ.2.1; have Ef := hρ.2.2.1; clear hρ; intro w hw; (try dsimp only at hw); go_split_ands; go_simp; try with_reducible rfl)
      case' rest21 => intro af21 Zn Nx
      replace F0 := (Nx.2.2.1 0 rfl).trans F0
      replace F1 := (Nx.2.2.1 1 rfl).trans F1
      replace F2 := (Nx.2.2.1 2 rfl).trans F2
      replace F3 := (Nx.2.2.1 3 rfl).trans F3
      replace F4 := (Nx.2.2.1 4 rfl).trans F4
      replace F5 := (Nx.2.2.1 5 rfl).trans F5
      replace F6 := (Nx.2.2.1 6 rfl).trans F6
      replace F7 := (Nx.2.2.1 7 rfl).trans F7
      replace F8 := (Nx.2.2.1 8 rfl).trans F8
      replace F9 := (Nx.2.2.1 9 rfl).trans F9
      replace F10 := (Nx.2.2.1 10 rfl).trans F10
      replace F11 := (Nx.2.2.1 11 rfl).trans F11
      replace F12 := (Nx.2.2.1 12 rfl).trans F12
      replace F13 := (Nx.2.2.1 13 rfl).trans F13
      replace F14 := (Nx.2.2.1 14 rfl).trans F14
      replace F15 := (Nx.2.2.1 15 rfl).trans F15
      replace F17 := (Nx.2.2.1 17 rfl).trans F17
      replace F18 := (Nx.2.2.1 18 rfl).trans F18
      replace F30 := (Nx.2.2.1 30 rfl).trans F30
      replace F35 := (Nx.2.2.1 35 rfl).trans F35
      clear F38
      have F39 := Nx.2.1
      replace D := Nx.2.2.2.trans D
      clear Z Nx
      have Z := Zn
      clear Zn af20
      refine' dqo_pure (d := 40) (by rfl) (by rfl) Z (by rfl) (wanted_yes (by rfl) (by rfl) F30) ?hv22 ?rest22
      case hv22 => (intro ρ hρ; have E39 := (hρ.1 39).trans F39; have Ec := hρ.2.1; have Ef := hρ.2.2.1; clear hρ; intro w hw; (try dsimp only at hw); go_split_ands; go_simp; try with_reducible rfl)
      case' rest22 => intro af22 Zn Nx
      replace F0 := (Nx.2.2.1 0 rfl).trans F0
      replace F1 := (Nx.2.2.1 1 rfl).trans F1
      replace F2 := (Nx.2.2.1 2 rfl).trans F2
      replace F3 := (Nx.2.2.1 3 rfl).trans F3
      replace F4 := (Nx.2.2.1 4 rfl).trans F4
      replace F5 := (Nx.2.2.1 5 rfl).trans F5
      replace F6 := (Nx.2.2.1 6 rfl).trans F6
      replace F7 := (Nx.2.2.1 7 rfl).trans F7
      replace F8 := (Nx.2.2.1 8 rfl).trans F8
      replace F9 := (Nx.2.2.1 9 rfl).trans F9
      replace F10 := (Nx.2.2.1 10 rfl).trans F10
      replace F11 := (Nx.2.2.1 11 rfl).trans F11
      replace F12 := (Nx.2.2.1 12 rfl).trans F12
      replace F13 := (Nx.2.2.1 13 rfl).trans F13
      replace F14 := (Nx.2.2.1 14 rfl).trans F14
      replace F15 := (Nx.2.2.1 15 rfl).trans F15
      replace F17 := (Nx.2.2.1 17 rfl).trans F17
      replace F18 := (Nx.2.2.1 18 rfl).trans F18
      replace F30 := (Nx.2.2.1 30 rfl).trans F30
      replace F35 := (Nx.2.2.1 35 rfl).trans F35
      clear F39
      have F40 := Nx.2.1
      replace D := Nx.2.2.2.trans D
      clear Z Nx
      have Z := Zn
      clear Zn af21
      refine' dqo_pure (d := 41) (by rfl) (by rfl) Z (by rfl) (wanted_yes (by rfl) (by rfl) F30) ?hv23 ?rest23
      case hv23 => (intro ρ hρ; have E2 := (hρ.1 2).trans F2; have Ec := hρ.2.1; have Ef := hρ.2.2.1; clear hρ; intro w hw; (try dsimp only at hw); go_split_ands; go_simp; try with_reducible rfl)
      case' rest23 => intro af23 Zn Nx
      replace F0 := (Nx.2.2.1 0 rfl).trans F0
      replace F1 := (Nx.2.2.1 1 rfl).trans F1
      replace F2 := (Nx.2.2.1 2 rfl).trans F2
      replace F3 := (Nx.2.2.1 3 rfl).trans F3
      replace F4 := (Nx.2.2.1 4 rfl).trans F4
      replace F5 := (Nx.2.2.1 5 rfl).trans F5
      replace F6 := (Nx.2.2.1 6 rfl).trans F6
      replace F7 := (Nx.2.2.1 7 rfl).trans F7
      replace F8 := (Nx.2.2.1 8 rfl).trans F8
      replace F9 := (Nx.2.2.1 9 rfl).trans F9
      replace F10 := (Nx.2.2.1 10 rfl).trans F10
      replace F11 := (Nx.2.2.1 11 rfl).trans F11
      replace F12 := (Nx.2.2.1 12 rfl).trans F12
      replace F13 := (Nx.2.2.1 13 rfl).trans F13
      replace F14 := (Nx.2.2.1 14 rfl).trans F14
      replace F15 := (Nx.2.2.1 15 rfl).trans F15
      replace F17 := (Nx.2.2.1 17 rfl).trans F17
      replace F18 := (Nx.2.2.1 18 rfl).trans F18
      replace F30 := (Nx.2.2.1 30 rfl).trans F30
      replace F35 := (Nx.2.2.1 35 rfl).trans F35
      replace F40 := (Nx.2.2.1 40 rfl).trans F40
      have F41 := Nx.2.1
      replace D := Nx.2.2.2.trans D
      clear Z Nx
      have Z := Zn
      clear Zn af22
      refine' dqo_call (d := 42) (by rfl) (by rfl) Z (by rfl) (wanted_yes (by rfl) (by rfl) F30) ?hv24 ?hc24 ?rest24
      case hv24 => (intro ρ hρ; have E35 := (hρ.1 35).trans F35; have E40 := (hρ.1 40).trans F40; have E41 := (hρ.1 41).trans F41; have Ec := hρ.2.1; have Ef := hρ.2.2.1; clear hρ; intro w; go_simp; exact ⟨rfl, rfl⟩)
      case hc24 => exact (fun w hw => calls_gt (nearself_any _ hy _))
      case' rest24 => intro af24 Zn Nx
      replace F0 := (Nx.2.2.1 0 rfl).trans F0
      replace F1 := (Nx.2.2.1 1 rfl).trans F1
      replace F2 := (Nx.2.2.1 2 rfl).trans F2
      replace F3 := (Nx.2.2.1 3 rfl).trans F3
      replace F4 := (Nx.2.2.1 4 rfl).trans F4
      replace F5 := (Nx.2.2.1 5 rfl).trans F5
      replace F6 := (Nx.2.2.1 6 rfl).trans F6
      replace F7 := (Nx.2.2.1 7 rfl).trans F7
      replace F8 := (Nx.2.2.1 8 rfl).trans F8
      replace F9 := (Nx.2.2.1 9 rfl).trans F9
      replace F10 := (Nx.2.2.1 10 rfl).trans F10
      replace F11 := (Nx.2.2.1 11 rfl).trans F11
      replace F12 := (Nx.2.2.1 12 rfl).trans F12
      replace F13 := (Nx.2.2.1 13 rfl).trans F13
      replace F14 := (Nx.2.2.1 14 rfl).trans F14
      replace F15 := (Nx.2.2.1 15 rfl).trans F15
      replace F17 := (Nx.2.2.1 17 rfl).trans F17
      replace F18 := (Nx.2.2.1 18 rfl).trans F18
      replace F30 := (Nx.2.2.1 30 rfl).trans F30
      clear F35
      clear F40
      clear F41
      have F42 := Nx.2.1
      replace D := Nx.2.2.2.trans D
      clear Z Nx
      have Z := Zn
      clear Zn af23
      refine' dqo_pure (d := 43) (by rfl) (by rfl) Z (by rfl) (wanted_yes (by rfl) (by rfl) F30) ?hv25 ?rest25
      case hv25 => (intro ρ hρ; have E42 := (hρ.1 42).trans F42; have Ec := hρ.2.1; have Ef := hρ.2.2.1; clear hρ; intro w hw; (try dsimp only at hw); go_split_ands; go_simp; try with_reducible rfl)
      case' rest25 => intro af25 Zn Nx
      replace F0 := (Nx.2.2.1 0 rfl).trans F0
      replace F1 := (Nx.2.2.1 1 rfl).trans F1
      replace F2 := (Nx.2.2.1 2 rfl).trans F2
      replace F3 := (Nx.2.2.1 3 rfl).trans F3
      replace F4 := (Nx.2.2.1 4 rfl).trans F4
      replace F5 := (Nx.2.2.1 5 rfl).trans F5
      replace F6 := (Nx.2.2.1 6 rfl).trans F6
      replace F7 := (Nx.2.2.1 7 rfl).trans F7
      replace F8 := (Nx.2.2.1 8 rfl).trans F8
      replace F9 := (Nx.2.2.1 9 rfl).trans F9
      replace F10 := (Nx.2.2.1 10 rfl).trans F10
      replace F11 := (Nx.2.2.1 11 rfl).trans F11
      replace F12 := (Nx.2.2.1 12 rfl).trans F12
      replace F13 := (Nx.2.2.1 13 rfl).trans F13
      replace F14 := (Nx.2.2.1 14 rfl).trans F14
      replace F15 := (Nx.2.2.1 15 rfl).trans F15
      replace F17 := (Nx.2.2.1 17 rfl).trans F17
      replace F18 := (Nx.2.2.1 18 rfl).trans F18
      replace F30 := (Nx.2.2.1 30 rfl).trans F30
      clear F42
      have F43 := Nx.2.1
      replace D := Nx.2.2.2.trans D
      clear Z Nx
      have Z := Zn
      clear Zn af24
      refine' dqo_pure (d := 44) (by rfl) (by rfl) Z (by rfl) (wanted_not (by rfl)) ?hv26 ?rest26
      case hv26 => (intro ρ hρ; have E30 := (hρ.1 30).trans F30; have E43 := (hρ.1 43).trans F43; have Ec := hρ.2.1; have Ef := hρ.2.2.1; clear hρ; intro w hw; (try dsimp only at hw); go_split_ands; go_simp; try with_reducible rfl)
      case' rest26 => intro af26 Zn Nx
      replace F0 := (Nx.2.2.1 0 rfl).trans F0
      replace F1 := (Nx.2.2.1 1 rfl).trans F1
      replace F2 := (Nx.2.2.1 2 rfl).trans F2
      replace F3 := (Nx.2.2.1 3 rfl).trans F3
      replace F4 := (Nx.2.2.1 4 rfl).trans F4
      replace F5 := (Nx.2.2.1 5 rfl).trans F5
      replace F6 := (Nx.2.2.1 6 rfl).trans F6
      replace F7 := (Nx.2.2.1 7 rfl).trans F7
      replace F8 := (Nx.2.2.1 8 rfl).trans F8
      replace F9 := (Nx.2.2.1 9 rfl).trans F9
      replace F10 := (Nx.2.2.1 10 rfl).trans F10
      replace F11 := (Nx.2.2.1 11 rfl).trans F11
      replace F12 := (Nx.2.2.1 12 rfl).trans F12
      replace F13 := (Nx.2.2.1 13 rfl).trans F13
      replace F14 := (Nx.2.2.1 14 rfl).trans F14
      replace F15 := (Nx.2.2.1 15 rfl).trans F15
      replace F17 := (Nx.2.2.1 17 rfl).trans F17
      replace F18 := (Nx.2.2.1 18 rfl).trans F18
      clear F30
      clear F43
      have F44 := Nx.2.1
      replace D := Nx.2.2.2.trans D
      clear Z Nx
      have Z := Zn
      clear Zn af25
      refine dq_nil ?_
      refine fa_nil ?_
      rintro W ⟨⟨hb0, hn0, -⟩, hgl⟩ hbs
      clear hbs hgl
      obtain ⟨ρ, hρ⟩ := rho_of af26
      have hL := act_lit (l := [_, _, _, _, _, _, _, _, _, _, _, _, _, _, _, _, ρ (.tmp 16), _, _, ρ (.tmp 19), ρ (.tmp 20), ρ (.tmp 21), ρ (.tmp 22), ρ (.tmp 23), ρ (.tmp 24), ρ (.tmp 25), ρ (.tmp 26), ρ (.tmp 27), ρ (.tmp 28), ρ (.tmp 29), ρ (.tmp 30), ρ (.tmp 31), ρ (.tmp 32), ρ (.tmp 33), ρ (.tmp 34), ρ (.tmp 35), ρ (.tmp 36), ρ (.tmp 37), ρ (.tmp 38), ρ (.tmp 39), ρ (.tmp 40), ρ (.tmp 41), ρ (.tmp 42), ρ (.tmp 43), _]) Z D (by rfl) ⟨F0, F1, F2, F3, F4, F5, F6, F7, F8, F9, F10, F11, F12, F13, F14, F15, hρ 16, F17, F18, hρ 19, hρ 20, hρ 21, hρ 22, hρ 23, hρ 24, hρ 25, hρ 26, hρ 27, hρ 28, hρ 29, hρ 30, hρ 31, hρ 32, hρ 33, hρ 34, hρ 35, hρ 36, hρ 37, hρ 38, hρ 39, hρ 40, hρ 41, hρ 42, hρ 43, F44, trivial⟩
      clear hρ Z D F0 F1 F2 F3 F4 F5 F6 F7 F8 F9 F10 F11 F12 F13 F14 F15 F17 F18 F44
      subst hL
      simp only [List.drop_succ_cons, List.drop_zero]
      (repeat' (first | go_values | go_skip | go_guarded | go_step | go_upon | (simp only [Int.not_lt, Int.not_le] at *; go_simp) | (go_values <;> (try go_simp)) | (go_ite <;> go_prune <;> (try go_simp)) | (split <;> (first | (rename_i hx; exact (hx _ rfl).elim) | go_prune))))
      go_roundw
      case rel => exact ⟨k + 1, by simp, by omega, by (repeat' (first | (with_reducible assumption) | (with_reducible exact Below.refl _ _) | (with_reducible refine Below.alloc ?_ ?_ _) | (with_reducible refine Below.setCell ?_ ?_ _) | (with_reducible refine Below.drew ?_) | (with_reducible refine below_more ?_ (by with_reducible assumption)) | go_size | omega | (with_reducible refine below_drewN ?_)))⟩
      case measure => simp [intOf]; omega
    · obtain rfl : k = ss.length := by omega
      (repeat' (first | go_values | go_skip | go_guarded | go_step | go_upon | (simp only [Int.not_lt, Int.not_le] at *; go_simp) | (go_values <;> (try go_simp)) | (go_ite <;> go_prune <;> (try go_simp)) | (split <;> (first | (rename_i hx; exact (hx _ rfl).elim) | go_prune))))
      go_ret
      exact ⟨rfl, hB⟩

set_option maxRecDepth 100000 in
theorem rsame_any {v1 v2 : Value} {ss : Smps} (w : World) (h1 : SlS w v1 ss) (h2 : SlS w v2 ss) (hn : ss.length ≤ 1000) : Calls Try.prog 32 #[v1, v2] w fun e w' => e = .returned (.bool true) ∧ Below w.heap.size w w' := by
  have C := rwithin_any w h1 h2 hn
  go_enter Try.func32, Try.ntmps32
  (repeat' (first | go_values | go_skip | go_guarded | go_step | go_upon | (simp only [Int.not_lt, Int.not_le] at *; go_simp) | (go_values <;> (try go_simp)) | (go_ite <;> go_prune <;> (try go_simp)) | (split <;> (first | (rename_i hx; exact (hx _ rfl).elim) | go_prune))))
  refine C.mono ?_
  rintro e w' ⟨rfl, hbw⟩
  (repeat' (first | go_values | go_skip | go_guarded | go_step | go_upon | (simp only [Int.not_lt, Int.not_le] at *; go_simp) | (go_values <;> (try go_simp)) | (go_ite <;> go_prune <;> (try go_simp)) | (split <;> (first | (rename_i hx; exact (hx _ rfl).elim) | go_prune))))
  go_ret
  exact ⟨rfl, hbw⟩
end Go.Proofs.Ythcboomdkpiflaa
