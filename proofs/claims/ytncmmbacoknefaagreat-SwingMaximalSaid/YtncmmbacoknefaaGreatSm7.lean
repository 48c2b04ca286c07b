/- Several texts in one: what the row needs besides. -/
import Derived.Test.YtncmmbacoknefaaGreatRows
import Derived.WalkKit
import Derived.ProofKit
import Derived.OpenShut
import Derived.SizedLaws
import Derived.WalkLawsBesides
import Derived.WalkSpells
import Derived.RegionTactic
import Derived.ChangeAlike
import Derived.Outline
import Derived.Deep.RegionWith
import Derived.Test.YtncmmbacoknefaaGreatSm1
import Derived.Test.YtncmmbacoknefaaGreatSm2
import Derived.Test.YtncmmbacoknefaaGreatSm3
import Derived.Test.YtncmmbacoknefaaGreatSm4
import Derived.Test.YtncmmbacoknefaaGreatSm5
import Derived.Test.YtncmmbacoknefaaGreatSm6
set_option linter.defProp false

/- Law: A law's frame: the arguments opened, and what is owed behind the call, once for all laws of this seat. -/
namespace Go.Proofs.YtncmmbacoknefaaGreat
open Go.ChangeShapes Go.WideShapes Go.ChangeAt Go.RowKit
set_option linter.unusedVariables false
set_option linter.unusedSimpArgs false
theorem laidOut : laidOutB Tryz.prog = true := by kernel_rfl
section
variable {H : Type} {enc : TypeId × Value → H} {P : Program}
def readB (P : Program) (ts : List TypeId) : Bool := ts.all fun t => P.readableRec t && decide (t < P.types.size)
theorem below_trodAll (hl : laidOutB P = true) {W W' : World} (hb : Below W.heap.size W W') {sp : Nat → Bool} :
  ∀ {ts : List TypeId} {vs : List Value} {ds : List (DataW H)} {ps : List MemPlace}, readB P ts = true → DataW.TrodAll enc P W 0 (fun _ => true) true ts vs ds ps → (∀ x ∈ ps, x.block < W.heap.size) → (∀ x ∈ ps, sp x.block = true) →
   DataW.TrodAll enc P W' 0 sp true ts vs ds ps := by
 intro ts
 induction ts with
 | nil =>
  intro vs ds ps _ h _ _
  obtain ⟨rfl, rfl, rfl⟩ := trodAll_nil h
  exact trodAll_mk0
 | cons t ts ih =>
  intro vs ds ps hr h hlt hsp
  obtain ⟨v, vs', d, ds', p, q, rfl, rfl, rfl, h0, h1⟩ := trodAll_cons h
  simp only [readB, List.all_cons, Bool.and_eq_true, decide_eq_true_eq] at hr
  refine trodAll_cons_mk (WideElems.Trod_stays hl hr.1.1 hr.1.2 h0 (fun x hx => hb.same (hlt x (List.mem_append_left _ hx))) (fun x hx => hsp x (List.mem_append_left _ hx))) ?_
  exact ih (by simpa [readB] using hr.2) h1 (fun x hx => hlt x (List.mem_append_right _ hx)) (fun x hx => hsp x (List.mem_append_right _ hx))
theorem law_post {f : Func} {s : ChangeSpec} {W W' : World} {args : Array Value} {ds : List (DataW H)} {p : List MemPlace} {tb : TypeId}
  (hl : laidOutB P = true) (hr : readB P f.params.toList = true) (hvars : s.vars = []) (hrt : f.resultTypes = #[tb]) (htb : P.underlying tb = some .bool)
  (hW : DataW.Whole enc P f.params.toList s.vars false W args.toList ds [] p) (hs1 : (s.fn H (ds ++ [])).results = [.lit (.bool true)]) (hs2 : (s.fn H (ds ++ [])).args = ds) (hs3 : (s.fn H (ds ++ [])).vars = [])
  (hb : Below W.heap.size W W') : s.post enc P f false true false false W args (.bool true) W' := by
 have hlt : ∀ x ∈ p, x.block < W.heap.size := fun x hx => hW.lt x hx
 have hW2 := hW
 obtain ⟨p1, q1, hA, hV, rfl, hz, hn⟩ := hW2
 rw [hvars] at hV
 obtain ⟨_, rfl⟩ := trodVars_none hV
 simp only [List.append_nil] at hW hlt hz hn
 refine ⟨ds, [], p1, [], p1, [], hW, ?_, ?_, ?_, World.keptBut_mono (fun x hx => ⟨hx, Or.inr (Or.inl hx)⟩) (hb.frame (· ∈ p1)), fun h => by cases h⟩
 ·rw [hs1, hrt]
  exact trodAll_mk1 (shut_bool htb _)
 ·rw [hs2]
  exact below_trodAll hl hb hr hA hlt (fun x hx => by simpa using hlt x hx)
 ·rw [hs3, hvars]; rfl
theorem open_slz {t e : TypeId} {k : IntKind} {v : Value} {d : DataW H} {ps : List MemPlace} {W : World} {base : Nat} (ht : P.underlying t = some (.slice e)) (he : P.underlying e = some (.int k)) (hc : P.cellsOf e = 1)
  (hv : Value.okWide P W .any base t v) (h : DataW.Trod enc P W 0 (fun _ => true) true t v d ps) (hlt : ∀ x ∈ ps, x.block < W.heap.size) : ∃ zs, SlZ W k v zs := by
 obtain ⟨a0, len, cap, rfl⟩ := okWide_slice ht hv
 obtain ⟨fuel, hf⟩ := h
 rcases open_ints ht he hc hf with ⟨hcs, hx⟩ | ⟨a, len', cap', zs, hcs, _, hl, hm, hz, hx, hcell, hwz⟩
 ·simp [Value.cells] at hcs
  obtain ⟨rfl, rfl, rfl⟩ := hcs
  exact ⟨[], none, 0, 0, rfl, rfl, Nat.le_refl _, by simp [maxLen], by simp, fun h => absurd h (by omega)⟩
 ·simp [Value.cells] at hcs
  obtain ⟨rfl, rfl, rfl⟩ := hcs
  simp only [Prod.mk.injEq] at hx
  obtain ⟨rfl, rfl⟩ := hx
  simp only [if_true] at hz
  refine ⟨zs.take len, some a, len, cap, rfl, by simp; omega, hl, hm, fun z hz' => hwz z (List.mem_of_mem_take hz'), fun hpos => ?_⟩
  obtain ⟨b, off, rfl, hc'⟩ := ints_at hcell (by omega)
  refine ⟨b, off, rfl, hlt (.cell b off) (MemPlace.mem_row.2 ⟨0, by omega, by simp⟩), fun i hi => ?_⟩
  rw [show (zs.take len).getD i 0 = zs.getD i 0 by simp [List.getD_eq_getElem?_getD, List.getElem?_take, hi]]
  exact hc' i (by omega)
end
end Go.Proofs.YtncmmbacoknefaaGreat

/- MadeW: The tape's Wide, and the walk among calls of a tape's methods. -/
namespace Go.Proofs.YtncmmbacoknefaaGreat
open Go.ChangeShapes Go.WideShapes Go.ChangeAt Go.RowKit
set_option linter.unusedVariables false
set_option linter.unusedSimpArgs false
theorem AWs.over {B Bm b q : Nat} {w W : World} {n' : Bool} {d0 d1 d2 d3 : Int} (v0 : U64 d0) (v1 : U64 d1) (v2 : U64 d2) (v3 : U64 d3) (hq : w.heap.size ≤ q) (hB : B ≤ q) (h : AWs B Bm b q w W) :
  AWs B Bm b q w (((((W.setCell ⟨q + 1, 0, none⟩ (.bool n')).setCell ⟨q + 1, 1, none⟩ (.int .u64 d0)).setCell ⟨q + 1, 2, none⟩ (.int .u64 d1)).setCell ⟨q + 1, 3, none⟩ (.int .u64 d2)).setCell ⟨q + 1, 4, none⟩ (.int .u64 d3)) := by
 obtain ⟨ht, hG, B1, n, c0, c1, c2, c3, u0, u1, u2, u3, B2⟩ := h
 have hp : ∀ (j : Nat), w.heap.size ≤ (⟨q + 1, j, none⟩ : Addr).block := fun j => by show w.heap.size ≤ q + 1; omega
 have hp' : ∀ (j : Nat), B ≤ (⟨q + 1, j, none⟩ : Addr).block := fun j => by show B ≤ q + 1; omega
 have hn : ∀ (j : Nat), q ≠ (⟨q + 1, j, none⟩ : Addr).block := fun j => by show q ≠ q + 1; omega
 exact ⟨((((ht.setc (hp' _)).setc (hp' _)).setc (hp' _)).setc (hp' _)).setc (hp' _),
  grown_setCell (grown_setCell (grown_setCell (grown_setCell (grown_setCell hG (.inr (hp _)) _) (.inr (hp _)) _) (.inr (hp _)) _) (.inr (hp _)) _) (.inr (hp _)) _,
  ((((B1.setne (hn _)).setne (hn _)).setne (hn _)).setne (hn _)).setne (hn _), n', d0, d1, d2, d3, v0, v1, v2, v3, HB.over5 (HN.of5 B2)⟩
end Go.Proofs.YtncmmbacoknefaaGreat
