/- midrange.All. -/
import Derived.Test.YtenaeaojnebokaaRows
import Derived.Test.YtenaeaojnebokaaMidD
import Derived.Test.YtenaeaojnebokaaMidS
import Derived.Test.YtenaeaojnebokaaTapeK
import Derived.WalkKit
import Derived.ProofKit
import Derived.WalkLawsBesides
import Derived.WalkSpells
import Derived.RegionTactic
import Derived.ChangeAlike
import Derived.BigRegion
import Derived.Outline
import Derived.Handy
namespace Go.Proofs.Ytenaeaojnebokaa
open Go.ChangeShapes Go.WideShapes Go.ChangeAt Go.RowKit
set_option linter.unusedVariables false
set_option linter.unusedSimpArgs false

/-- What All returns: the segments, the error. -/
def segs (t : Int) (zs : List Int) : List (Int × Int) := if tolb t && decide (zs.length ≤ 1073741824) then mall t zs else []
def erra (t : Int) (n : Nat) : Int := if tolb t then (if n ≤ 1073741824 then 0 else 3) else 9
def AllP (t : Int) (zs : List Int) (w : World) (e : Ending) (w' : World) : Prop :=
  ∃ v, e = .returned (.tuple #[v, .int .i64 (erra t zs.length)]) ∧ w'.ownsRow w.heap.size 48 2 v (segs t zs).length (scells (segs t zs)) ∧ Below w.heap.size w w'
theorem getD_i64 {zs : List Int} (h : ∀ z ∈ zs, (Lit.int .i64 z).wf = true) (j : Nat) : I64 (zs.getD j 0) := by
  rw [List.getD_eq_getElem?_getD]
  by_cases hj : j < zs.length
  · rw [List.getElem?_eq_getElem hj]
    exact I64.of_wf (h _ (List.getElem_mem hj))
  · rw [List.getElem?_eq_none (by omega)]
    exact ⟨by decide, by decide⟩
theorem ints_upto {zs : List Int} (f : Nat → I6) (h : ∀ j, (f j).1 = zs.getD j 0) : ints (upto f zs.length) = zs := by
  apply List.ext_getElem
  · simp [upto]
  · intro i h1 h2
    simp [upto, h, h2]

set_option maxHeartbeats 4000000 in
set_option maxRecDepth 100000 in
theorem all_any {t : Int} (h1 : I64 t) {s : Option Addr} {l cp : Nat} {zs : List Int} (w : World) (hs : SlZ w .i64 (.slice s l cp) zs) : Calls Try.prog 30 #[.slice s l cp, .int .i64 t] w (AllP t zs w) := by
  obtain ⟨a, len, cap, e, hzl, hlc, hcm, hwf, hcell⟩ := hs
  cases e
  have C := fun W => start_any t W
  unfold AllP erra segs
  cases ht : tolb t
  · have hS : startV t = .tuple #[MS 0 0 0 0, .int .i64 9] := by unfold startV; rw [ht]; rfl
    rw [hS] at C
    clear hS ht
    simp only [Bool.false_eq_true, if_false, Bool.false_and]
    go_enter Try.func30, Try.ntmps30
    (repeat' (first | (go_big_may; (first | (go_at_call 40; refine (C _).mono ?_; rintro e w' ⟨rfl, hbw⟩; have hsz := hbw.size; (try simp only [World.size_alloc, World.size_setCell, World.size_drew] at hsz)))) | go_values | go_skip | go_guarded | go_step | go_upon | (simp only [Int.not_lt, Int.not_le] at *; go_simp) | (go_values <;> (try go_simp)) | (go_ite <;> go_prune <;> (try go_simp)) | (split <;> (first | (rename_i hx; exact (hx _ rfl).elim) | go_prune))))
    refine bodyPost_ret ?_ rfl ⟨.slice none 0 0, rfl, World.ownsRow_nil _ _ _ _, by (repeat' (first | (with_reducible assumption) | (with_reducible exact Below.refl _ _) | (with_reducible refine Below.alloc ?_ ?_ _) | (with_reducible refine Below.setCell ?_ ?_ _) | (with_reducible refine Below.drew ?_) | (with_reducible refine below_more ?_ (by with_reducible assumption)) | go_size | omega | (with_reducible refine below_drewN ?_)))⟩
    simp [results, Try.results30, go_sem]
  · have hS : startV t = .tuple #[MS t 0 0 0, .int .i64 0] := by unfold startV; rw [ht]; rfl
    rw [hS] at C
    clear hS
    simp only [if_true, Bool.true_and]
    by_cases hl : zs.length ≤ 1073741824
    · simp only [hl, decide_true, if_true]
      have hl2 : l ≤ 1073741824 := by omega
      obtain ⟨f, hf⟩ : ∃ f : Nat → I6, ∀ j, (f j).1 = zs.getD j 0 := ⟨fun j => ⟨zs.getD j 0, getD_i64 hwf j⟩, fun j => rfl⟩
      have hfz := ints_upto f hf
      rw [hzl] at hfz
      have HC := hid hcell
      have HF := hid hf
      have HZ := hid hfz
      clear hcell hf hfz hwf
      have hst : ∀ (a : Addr) (g : Fn) (x y : Array Value) (m : Mode) (w : World), (store a (.func g x y) m).run Try.prog w = stored Try.prog w a (.func g x y) m := fun a g x y m w => run_store Try.prog w a _ m rfl
      go_enter Try.func30, Try.ntmps30
      (repeat' (first | (go_big_may; (first | (go_at_call 40; refine (C _).mono ?_; rintro e w' ⟨rfl, hbw⟩; have hsz := hbw.size; (try simp only [World.size_alloc, World.size_setCell, World.size_drew] at hsz)))) | go_values | go_skip | go_guarded | go_step | go_upon | (simp only [Int.not_lt, Int.not_le] at *; go_simp) | (go_values <;> (try go_simp)) | (go_ite <;> go_prune <;> (try go_simp)) | (split <;> (first | (rename_i hx; exact (hx _ rfl).elim) | go_prune))))
      rename World => ws
      
      
      (refine wp_region_dq (row := none) (S := (fun Wz => Below w.heap.size w Wz ∧ w.heap.size ≤ Wz.heap.size ∧ Bx Wz (ws.heap.size) (#[.int .i64 t, .int .i64 0, .int .i64 0, .int .i64 0]) ∧ Bx Wz (ws.heap.size + 1) (#[dStep, dRest]))) (n0 := w.heap.size) 5 [] [(0, 0), (1, 0), (2, 0), (3, 1), (4, 1)] [] (by kernel_rfl) (by kernel_rfl) (fun _ _ d _ _ h => by cases d <;> exact h) ⟨by (repeat' (first | (with_reducible assumption) | (with_reducible exact Below.refl _ _) | (with_reducible refine Below.alloc ?_ ?_ _) | (with_reducible refine Below.setCell ?_ ?_ _) | (with_reducible refine Below.drew ?_) | (with_reducible refine below_more ?_ (by with_reducible assumption)) | go_size | omega | (with_reducible refine below_drewN ?_))), (by first | go_size | omega), Bx.of (by (repeat' (first | (with_reducible assumption) | ((with_reducible refine HB.new _ _ _ ?_) <;> (go_size; done)) | (with_reducible refine HB.old (by go_size) ?_) | (with_reducible refine HB.drew ?_) | (with_reducible refine HB.over5 ?_) | (with_reducible refine HB.over4 ?_) | (with_reducible refine HB.setne (by first | go_size | (dsimp only; omega)) ?_) | (with_reducible refine HN.set ?_) | (with_reducible refine HN.setne (by first | go_size | (dsimp only; omega)) ?_) | (with_reducible refine HN.drew ?_) | (with_reducible refine HN.old (by go_size) ?_) | (with_reducible exact HN.of5 (by assumption)) | (with_reducible exact HN.new5 _ _ (by go_size)) | (with_reducible exact HN.of4 (by assumption)) | (with_reducible exact HN.new4 _ _ (by go_size))))), Bx.of (by (repeat' (first | (with_reducible assumption) | ((with_reducible refine HB.new _ _ _ ?_) <;> (go_size; done)) | (with_reducible refine HB.old (by go_size) ?_) | (with_reducible refine HB.drew ?_) | (with_reducible refine HB.over5 ?_) | (with_reducible refine HB.over4 ?_) | (with_reducible refine HB.setne (by first | go_size | (dsimp only; omega)) ?_) | (with_reducible refine HN.set ?_) | (with_reducible refine HN.setne (by first | go_size | (dsimp only; omega)) ?_) | (with_reducible refine HN.drew ?_) | (with_reducible refine HN.old (by go_size) ?_) | (with_reducible exact HN.of5 (by assumption)) | (with_reducible exact HN.new5 _ _ (by go_size)) | (with_reducible exact HN.of4 (by assumption)) | (with_reducible exact HN.new4 _ _ (by go_size)))))⟩ (fun _ _ h g => keep2 h (below_gt g) rfl) (fun _ h => h.2.1) (fun _ h => by cases h) (by simp) ?_)
      refine' dq_pure (by rfl) (by rfl) ?hv1 ?rest1
      case hv1 => (intro w hw; (try dsimp only at hw); go_split_ands; go_simp; try with_reducible rfl)
      case' rest1 => try simp only [Act.put, List.setIfInBounds_toArray, List.set_cons_zero, List.set_cons_succ]
      refine' dq_pure (by rfl) (by rfl) ?hv2 ?rest2
      case hv2 => (intro w hw; (try dsimp only at hw); go_split_ands; go_simp; try with_reducible rfl)
      case' rest2 => try simp only [Act.put, List.setIfInBounds_toArray, List.set_cons_zero, List.set_cons_succ]
      refine' dq_pure (by rfl) (by rfl) ?hv3 ?rest3
      case hv3 => (intro w hw; (try dsimp only at hw); go_split_ands; go_simp; try with_reducible rfl)
      case' rest3 => try simp only [Act.put, List.setIfInBounds_toArray, List.set_cons_zero, List.set_cons_succ]
      refine' dq_ask (R := (fun v Wz => ∃ Bs, v = .func (.func 71) #[] #[.pointer (some ⟨Bs, 0, none⟩)] ∧ HB Wz Bs #[.slice s l cp])) (by rfl) (by rfl) ?hv4 ?hc4 ?rest4 (fun _ _ h g => keep2 h (below_gt g) rfl)
      case hv4 => (intro w; go_simp; exact ⟨rfl, rfl⟩)
      case hc4 => exact (fun wq hsq htq => (values_fn s l cp wq).mono fun e w' ⟨he, hw⟩ => ⟨_, he, ⟨_, rfl, hw ▸ HB.new _ _ _ rfl⟩, hw ▸ gt_alloc _ _ _⟩)
      case' rest4 => try simp only [Act.put, List.setIfInBounds_toArray, List.set_cons_zero, List.set_cons_succ]
      rintro vf wf hsf hgf ⟨Bs, rfl, hBs⟩
      refine' dq_ask (R := (fun v Wz => Wz.ownsRow w.heap.size 48 2 v (mall t zs).length (scells (mall t zs)))) (by rfl) (by rfl) ?hv5 ?hc5 ?rest5 (fun _ _ h g => keep2 h (below_gt g) rfl)
      case hv5 => (intro w; go_simp; exact ⟨rfl, rfl⟩)
      case hc5 => exact (fun wq hsq htq => (by
              have hq := HB.below hBs (below_gt htq)
              have hbq := hsq.1
              have hcq : 0 < l → ∃ b off, s = some ⟨b, off, none⟩ ∧ b < wq.heap.size ∧ ∀ j, j < l → wq.cell? ⟨b, off + j, none⟩ = some (.int .i64 (f j).1) := fun h0 => by
                obtain ⟨b, off, rfl, hb, hcs⟩ := HC.out h0
                exact ⟨b, off, rfl, Nat.lt_of_lt_of_le hb hbq.size, fun j hj => by rw [HF.out j]; exact (hbq.cell (p := ⟨b, off + j, none⟩) hb).trans (hcs j hj)⟩
              obtain ⟨_, hqc, _, hql⟩ := Bx.of hq
              refine (divide_any ht Bs l cp s f hl2 wq hql (by simpa using hqc 0) hcq).mono fun e w' ⟨v, he, hr, hb⟩ => ⟨v, he, ?_, gt_below hb _⟩
              rw [HZ.out] at hr
              exact own_base hr hbq.size))
      case' rest5 => try simp only [Act.put, List.setIfInBounds_toArray, List.set_cons_zero, List.set_cons_succ]
      rintro vr wr hsr hgr hrow
      refine dq_nil ?_
      simp only [fa, List.drop_succ_cons, List.drop_zero]
      rintro W ⟨⟨hb0, hn0, ⟨B1, B1c, B1f, B1l⟩, ⟨B2, B2c, B2f, B2l⟩⟩, hgl⟩ hbs
      clear hbs
      have hrowW := hrow.kept hgl (Classical.em _)
      clear hrow
      (repeat' (first | go_values | go_skip | go_guarded | go_step | go_upon | (simp only [Int.not_lt, Int.not_le] at *; go_simp) | (go_values <;> (try go_simp)) | (go_ite <;> go_prune <;> (try go_simp)) | (split <;> (first | (rename_i hx; exact (hx _ rfl).elim) | go_prune))))
      refine bodyPost_ret ?_ rfl ⟨vr, rfl, hrowW, by (repeat' (first | (with_reducible assumption) | (with_reducible exact Below.refl _ _) | (with_reducible refine Below.alloc ?_ ?_ _) | (with_reducible refine Below.setCell ?_ ?_ _) | (with_reducible refine Below.drew ?_) | (with_reducible refine below_more ?_ (by with_reducible assumption)) | go_size | omega | (with_reducible refine below_drewN ?_)))⟩
      simp [results, Try.results30, go_sem]
    · simp only [hl, decide_false, Bool.false_eq_true, if_false]
      have hl2 : 1073741824 < l := by omega
      clear hcell hwf
      go_enter Try.func30, Try.ntmps30
      (repeat' (first | (go_big_may; (first | (go_at_call 40; refine (C _).mono ?_; rintro e w' ⟨rfl, hbw⟩; have hsz := hbw.size; (try simp only [World.size_alloc, World.size_setCell, World.size_drew] at hsz)))) | go_values | go_skip | go_guarded | go_step | go_upon | (simp only [Int.not_lt, Int.not_le] at *; go_simp) | (go_values <;> (try go_simp)) | (go_ite <;> go_prune <;> (try go_simp)) | (split <;> (first | (rename_i hx; exact (hx _ rfl).elim) | go_prune))))
      refine bodyPost_ret ?_ rfl ⟨.slice none 0 0, rfl, World.ownsRow_nil _ _ _ _, by (repeat' (first | (with_reducible assumption) | (with_reducible exact Below.refl _ _) | (with_reducible refine Below.alloc ?_ ?_ _) | (with_reducible refine Below.setCell ?_ ?_ _) | (with_reducible refine Below.drew ?_) | (with_reducible refine below_more ?_ (by with_reducible assumption)) | go_size | omega | (with_reducible refine below_drewN ?_)))⟩
      simp [results, Try.results30, go_sem]
end Go.Proofs.Ytenaeaojnebokaa
