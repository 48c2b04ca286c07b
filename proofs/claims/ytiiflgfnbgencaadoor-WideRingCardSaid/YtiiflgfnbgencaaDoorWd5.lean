/- Several texts in one: Law, MadeW, LawT, SxV, Hf, Hg, Tp, Ck, Wk, Fu, CdL2, Tx, Ql, Spl, Hi, L02, Wn, LwD, Open, Wf, CdTw, Tw. -/
import Derived.Test.YtiiflgfnbgencaaDoorRows
import Derived.WalkKit
import Derived.ProofKit
import Derived.OpenShut
import Derived.SizedLaws
import Derived.WalkLawsBesides
import Derived.WalkSpells
import Derived.RegionTactic
import Derived.ChangeAlike
import Derived.Outline
import Derived.Deep.RegionWith
import Derived.Laws.AppendOwn
import Derived.Shelf.Strconv.Itoa3
import Derived.Lib.ItoaMem
import Derived.Lib.AppendIntMem
import Derived.BigCall
import Derived.BigGuard
import Derived.Test.YtiiflgfnbgencaaDoorProg
import Derived.Laws.IdiomCopy
import Derived.Deep.Upon
import Derived.LaidMore
import Derived.Stop.Joined
import Derived.MakeChecks
import Derived.Laws.IdiomArrays
import Derived.Test.YtiiflgfnbgencaaDoorWd2
import Derived.Test.YtiiflgfnbgencaaDoorWd4

/- Law: A law's frame: the arguments opened, and what is owed behind the call, once for all laws of this seat. -/
namespace Go.Proofs.YtiiflgfnbgencaaDoor
open Go.ChangeShapes Go.WideShapes Go.ChangeAt Go.RowKit
set_option linter.unusedVariables false
set_option linter.unusedSimpArgs false
theorem own : ownKnob Tryd.prog.godebug = none := by kernel_rfl
theorem laidOut : laidOutB Tryd.prog = true := by kernel_rfl
section
variable {H : Type} {enc : TypeId × Value → H} {P : Program}
def readB (P : Program) (ts : List TypeId) : Bool := ts.all fun t => P.readableRec t && decide (t < P.types.size)
theorem below_trodAll (hl : laidOutB P = true) {W W' : World} (hb : Below W.heap.size W W') {sp : Nat → Bool} :
    ∀ {ts : List TypeId} {vs : List Value} {ds : List (DataW H)} {ps : List MemPlace}, readB P ts = true → DataW.TrodAll enc P W 0 (fun _ => true) true ts vs ds ps → (∀ x ∈ ps, x.block < W.heap.size) → (∀ x ∈ ps, sp x.block = true) →
      DataW.TrodAll enc P W' 0 sp true ts vs ds ps := by
  intro ts
  induction ts with
  | nil =>
    intro vs ds ps _ h _ _
    obtain ⟨rfl, rfl, rfl⟩ := trodAll_nil h
    exact trodAll_mk0
  | cons t ts ih =>
    intro vs ds ps hr h hlt hsp
    obtain ⟨v, vs', d, ds', p, q, rfl, rfl, rfl, h0, h1⟩ := trodAll_cons h
    simp only [readB, List.all_cons, Bool.and_eq_true, decide_eq_true_eq] at hr
    refine trodAll_cons_mk (WideElems.Trod_stays hl hr.1.1 hr.1.2 h0 (fun x hx => hb.same (hlt x (List.mem_append_left _ hx))) (fun x hx => hsp x (List.mem_append_left _ hx))) ?_
    exact ih (by simpa [readB] using hr.2) h1 (fun x hx => hlt x (List.mem_append_right _ hx)) (fun x hx => hsp x (List.mem_append_right _ hx))
/-- What is owed behind a law's call: it returned true, and below the heap's old size nothing has turned. -/
theorem law_post {f : Func} {s : ChangeSpec} {W W' : World} {args : Array Value} {ds : List (DataW H)} {p : List MemPlace} {tb : TypeId}
    (hl : laidOutB P = true) (hr : readB P f.params.toList = true) (hvars : s.vars = []) (hrt : f.resultTypes = #[tb]) (htb : P.underlying tb = some .bool)
    (hW : DataW.Whole enc P f.params.toList s.vars false W args.toList ds [] p) (hs1 : (s.fn H (ds ++ [])).results = [.lit (.bool true)]) (hs2 : (s.fn H (ds ++ [])).args = ds) (hs3 : (s.fn H (ds ++ [])).vars = [])
    (hb : Below W.heap.size W W') : s.post enc P f false true false false W args (.bool true) W' := by
  have hlt : ∀ x ∈ p, x.block < W.heap.size := fun x hx => hW.lt x hx
  have hW2 := hW
  obtain ⟨p1, q1, hA, hV, rfl, hz, hn⟩ := hW2
  rw [hvars] at hV
  obtain ⟨_, rfl⟩ := trodVars_none hV
  simp only [List.append_nil] at hW hlt hz hn
  refine ⟨ds, [], p1, [], p1, [], hW, ?_, ?_, ?_, World.keptBut_mono (fun x hx => ⟨hx, Or.inr (Or.inl hx)⟩) (hb.frame (· ∈ p1)), fun h => by cases h⟩
  · rw [hs1, hrt]
    exact trodAll_mk1 (shut_bool htb _)
  · rw [hs2]
    exact below_trodAll hl hb hr hA hlt (fun x hx => by simpa using hlt x hx)
  · rw [hs3, hvars]; rfl
/-- A slice of integers as the world holds it. -/
def SlZ (W : World) (k : IntKind) (v : Value) (zs : List Int) : Prop := ∃ (a : Option Addr) (len cap : Nat), v = .slice a len cap ∧ zs.length = len ∧ len ≤ cap ∧ cap ≤ maxLen ∧ (∀ z ∈ zs, (Lit.int k z).wf = true) ∧
  (0 < len → ∃ b off, a = some ⟨b, off, none⟩ ∧ b < W.heap.size ∧ ∀ i, i < len → W.cell? ⟨b, off + i, none⟩ = some (.int k (zs.getD i 0)))
theorem open_slz {t e : TypeId} {k : IntKind} {v : Value} {d : DataW H} {ps : List MemPlace} {W : World} {base : Nat} (ht : P.underlying t = some (.slice e)) (he : P.underlying e = some (.int k)) (hc : P.cellsOf e = 1)
    (hv : Value.okWide P W .any base t v) (h : DataW.Trod enc P W 0 (fun _ => true) true t v d ps) (hlt : ∀ x ∈ ps, x.block < W.heap.size) : ∃ zs, SlZ W k v zs := by
  obtain ⟨a0, len, cap, rfl⟩ := okWide_slice ht hv
  obtain ⟨fuel, hf⟩ := h
  rcases open_ints ht he hc hf with ⟨hcs, hx⟩ | ⟨a, len', cap', zs, hcs, _, hl, hm, hz, hx, hcell, hwz⟩
  · simp [Value.cells] at hcs
    obtain ⟨rfl, rfl, rfl⟩ := hcs
    exact ⟨[], none, 0, 0, rfl, rfl, Nat.le_refl _, by simp [maxLen], by simp, fun h => absurd h (by omega)⟩
  · simp [Value.cells] at hcs
    obtain ⟨rfl, rfl, rfl⟩ := hcs
    simp only [Prod.mk.injEq] at hx
    obtain ⟨rfl, rfl⟩ := hx
    simp only [if_true] at hz
    refine ⟨zs.take len, some a, len, cap, rfl, by simp; omega, hl, hm, fun z hz' => hwz z (List.mem_of_mem_take hz'), fun hpos => ?_⟩
    obtain ⟨b, off, rfl, hc'⟩ := ints_at hcell (by omega)
    refine ⟨b, off, rfl, hlt (.cell b off) (MemPlace.mem_row.2 ⟨0, by omega, by simp⟩), fun i hi => ?_⟩
    rw [show (zs.take len).getD i 0 = zs.getD i 0 by simp [List.getD_eq_getElem?_getD, List.getElem?_take, hi]]
    exact hc' i (by omega)
end
end Go.Proofs.YtiiflgfnbgencaaDoor

/- MadeW: The tape's Wide, and the walk among calls of a tape's methods. -/
namespace Go.Proofs.YtiiflgfnbgencaaDoor
open Go.ChangeShapes Go.WideShapes Go.ChangeAt Go.RowKit
set_option linter.unusedVariables false
set_option linter.unusedSimpArgs false
theorem HB.gne {W W' : World} {b g : Nat} {cs : Array Value} (h : HB W b cs) (hg : W.grownBy W' (some g)) (hne : b ≠ g) : HB W' b cs := by
  have hl := h.lt
  obtain ⟨T, h⟩ := h
  exact ⟨T, (hg.block b hl (fun e => hne (Option.some.inj e))).trans h⟩
theorem grown_bel {a w w' : World} {row : Option Nat} (h : a.grownBy w row) (hb : Below w.heap.size w w') : a.grownBy w' row := grown_trans h (grown_below hb row)
theorem grown_drew {a w : World} {row : Option Nat} (h : a.grownBy w row) : a.grownBy w.drew row := ⟨h.os, h.tape, h.output, h.size, h.block⟩
theorem TapeOk.bel {B Bm : Nat} {w w' : World} {b : Nat} (h : TapeOk B Bm w b) (hb : Below w.heap.size w w') : TapeOk B Bm w' b := h.below (Below.mono hb h.leB)
theorem TapeOk.setc {B Bm : Nat} {w : World} {b : Nat} {p : Addr} {v : Value} (hp : B ≤ p.block) (h : TapeOk B Bm w b) : TapeOk B Bm (w.setCell p v) b := h.below ((Below.refl B w).setCell hp v)
/-- What is known while the tape's Wide runs: the tape, the blocks of the result and of the variable. -/
def AWs (B Bm b q : Nat) (w W : World) : Prop := TapeOk B Bm W b ∧ w.grownBy W (some b) ∧ HB W q #[.bool false, .int .u64 0, .int .u64 0, .int .u64 0, .int .u64 0] ∧ ∃ (n : Bool) (c0 c1 c2 c3 : Int), U64 c0 ∧ U64 c1 ∧ U64 c2 ∧ U64 c3 ∧ HB W (q + 1) #[.bool n, .int .u64 c0, .int .u64 c1, .int .u64 c2, .int .u64 c3]
def WPost (B Bm : Nat) (b : Nat) (w : World) (e : Ending) (w' : World) : Prop := ∃ n a b' c d, U64 a ∧ U64 b' ∧ U64 c ∧ U64 d ∧ e = .returned (WV n a b' c d) ∧ TapeOk B Bm w' b ∧ w.grownBy w' (some b)
theorem AWs.tape {B Bm b q : Nat} {w W : World} (h : AWs B Bm b q w W) : TapeOk B Bm W b := h.1
theorem AWs.drew {B Bm b q : Nat} {w W : World} (h : AWs B Bm b q w W) : AWs B Bm b q w W.drew := by
  obtain ⟨ht, hG, B1, n, c0, c1, c2, c3, u0, u1, u2, u3, B2⟩ := h
  exact ⟨ht.drew, grown_drew hG, B1.drew, n, c0, c1, c2, c3, u0, u1, u2, u3, B2.drew⟩
theorem AWs.alloc {B Bm b q : Nat} {w W : World} (h : AWs B Bm b q w W) (o : Obj) : AWs B Bm b q w (W.alloc o) := by
  obtain ⟨ht, hG, B1, n, c0, c1, c2, c3, u0, u1, u2, u3, B2⟩ := h
  exact ⟨ht.alloc _, grown_alloc hG _, B1.old B1.lt, n, c0, c1, c2, c3, u0, u1, u2, u3, B2.old B2.lt⟩
theorem AWs.bel {B Bm b q : Nat} {w W W' : World} (h : AWs B Bm b q w W) (hb : Below W.heap.size W W') : AWs B Bm b q w W' := by
  obtain ⟨ht, hG, B1, n, c0, c1, c2, c3, u0, u1, u2, u3, B2⟩ := h
  exact ⟨ht.bel hb, grown_bel hG hb, B1.below hb, n, c0, c1, c2, c3, u0, u1, u2, u3, B2.below hb⟩
theorem AWs.gne {B Bm b q : Nat} {w W W' : World} (h : AWs B Bm b q w W) (hg : W.grownBy W' (some b)) (ht' : TapeOk B Bm W' b) (hq : b < q) : AWs B Bm b q w W' := by
  obtain ⟨ht, hG, B1, n, c0, c1, c2, c3, u0, u1, u2, u3, B2⟩ := h
  exact ⟨ht', grown_trans hG hg, B1.gne hg (by omega), n, c0, c1, c2, c3, u0, u1, u2, u3, B2.gne hg (by omega)⟩
theorem AWs.store {B Bm b q : Nat} {w W : World} {j : Nat} {u : Int} (hu : U64 u) (hj : 1 ≤ j ∧ j ≤ 4) (hq : w.heap.size ≤ q) (hB : B ≤ q) (h : AWs B Bm b q w W) : AWs B Bm b q w (W.setCell ⟨q + 1, j, none⟩ (.int .u64 u)) := by
  obtain ⟨ht, hG, B1, n, c0, c1, c2, c3, u0, u1, u2, u3, B2⟩ := h
  have t := ht.setc (p := ⟨q + 1, j, none⟩) (v := .int .u64 u) (by show B ≤ q + 1; omega)
  have g := grown_setCell hG (p := ⟨q + 1, j, none⟩) (.inr (by show w.heap.size ≤ q + 1; omega)) (.int .u64 u)
  have b1 := B1.setne (a := ⟨q + 1, j, none⟩) (v := .int .u64 u) (by show q ≠ q + 1; omega)
  obtain rfl | rfl | rfl | rfl : j = 1 ∨ j = 2 ∨ j = 3 ∨ j = 4 := by omega
  · exact ⟨t, g, b1, n, u, c1, c2, c3, hu, u1, u2, u3, B2.set rfl⟩
  · exact ⟨t, g, b1, n, c0, u, c2, c3, u0, hu, u2, u3, B2.set rfl⟩
  · exact ⟨t, g, b1, n, c0, c1, u, c3, u0, u1, hu, u3, B2.set rfl⟩
  · exact ⟨t, g, b1, n, c0, c1, c2, u, u0, u1, u2, hu, B2.set rfl⟩
theorem AWs.at {B Bm b q m : Nat} {w W : World} (h : AWs B Bm b q w W) (hm : m ≤ 3) : ∃ c, W.cell? ⟨q + 1, 1 + m, none⟩ = some (.int .u64 c) ∧ W.frozen? ⟨q + 1, 1 + m, none⟩ = false ∧ q + 1 < W.heap.size ∧ B ≤ W.heap.size := by
  obtain ⟨ht, hG, B1, n, c0, c1, c2, c3, u0, u1, u2, u3, B2⟩ := h
  obtain ⟨B2, B2c, B2f, B2l⟩ := Bx.of B2
  obtain rfl | rfl | rfl | rfl : m = 0 ∨ m = 1 ∨ m = 2 ∨ m = 3 := by omega
  all_goals exact ⟨_, B2c _, B2f _, B2l, ht.leB⟩
theorem four_at {W : World} {g r : Nat} (h : HB W g #[.int .u64 0, .int .u64 1, .int .u64 9223372036854775808, .int .u64 18446744073709551615]) (hr : (r : Int) < 4) : ∃ x, W.cell? ⟨g, r, none⟩ = some (.int .u64 x) ∧ U64 x := by
  obtain ⟨B2, B2c, B2f, B2l⟩ := Bx.of h
  obtain rfl | rfl | rfl | rfl : r = 0 ∨ r = 1 ∨ r = 2 ∨ r = 3 := by omega
  all_goals exact ⟨_, B2c _, by decide, by decide⟩
theorem AWs.over {B Bm b q : Nat} {w W : World} {n' : Bool} {d0 d1 d2 d3 : Int} (v0 : U64 d0) (v1 : U64 d1) (v2 : U64 d2) (v3 : U64 d3) (hq : w.heap.size ≤ q) (hB : B ≤ q) (h : AWs B Bm b q w W) :
    AWs B Bm b q w (((((W.setCell ⟨q + 1, 0, none⟩ (.bool n')).setCell ⟨q + 1, 1, none⟩ (.int .u64 d0)).setCell ⟨q + 1, 2, none⟩ (.int .u64 d1)).setCell ⟨q + 1, 3, none⟩ (.int .u64 d2)).setCell ⟨q + 1, 4, none⟩ (.int .u64 d3)) := by
  obtain ⟨ht, hG, B1, n, c0, c1, c2, c3, u0, u1, u2, u3, B2⟩ := h
  have hp : ∀ (j : Nat), w.heap.size ≤ (⟨q + 1, j, none⟩ : Addr).block := fun j => by show w.heap.size ≤ q + 1; omega
  have hp' : ∀ (j : Nat), B ≤ (⟨q + 1, j, none⟩ : Addr).block := fun j => by show B ≤ q + 1; omega
  have hn : ∀ (j : Nat), q ≠ (⟨q + 1, j, none⟩ : Addr).block := fun j => by show q ≠ q + 1; omega
  exact ⟨((((ht.setc (hp' _)).setc (hp' _)).setc (hp' _)).setc (hp' _)).setc (hp' _),
    grown_setCell (grown_setCell (grown_setCell (grown_setCell (grown_setCell hG (.inr (hp _)) _) (.inr (hp _)) _) (.inr (hp _)) _) (.inr (hp _)) _) (.inr (hp _)) _,
    ((((B1.setne (hn _)).setne (hn _)).setne (hn _)).setne (hn _)).setne (hn _), n', d0, d1, d2, d3, v0, v1, v2, v3, HB.over5 (HN.of5 B2)⟩
set_option maxHeartbeats 4000000 in
set_option maxRecDepth 100000 in
theorem twide_any {B Bm : Nat} (b : Nat) (w : World) (ht : TapeOk B Bm w b) :
    Calls Tryd.prog 10 #[.pointer (some ⟨b, 0, none⟩)] w (WPost B Bm b w) := by
  have hG := grown_refl w (some b)
  have hBl := ht.ltB
  have hBs := ht.leB
  go_enter Tryd.func10, Tryd.ntmps10
  (repeat' (first | (go_big_may; (first | (go_at_call 27; refine (next_any (B := B) (Bm := Bm) b 5 ⟨by decide, by decide⟩ _ (by (repeat' (first | (with_reducible exact ht) | (with_reducible refine TapeOk.alloc ?_ _) | (with_reducible refine TapeOk.drew ?_) | (with_reducible refine TapeOk.setc (by first | go_size | (dsimp only; omega)) ?_))))).mono ?_; rintro e w' ⟨k, ⟨k1, k2, k3⟩, rfl, ht', hg⟩; have N1 := Bx.of (HB.gne (b := w.heap.size) (cs := #[.bool false, .int .u64 0, .int .u64 0, .int .u64 0, .int .u64 0]) (by (repeat' (first | (with_reducible assumption) | ((with_reducible refine HB.new _ _ _ ?_) <;> (go_size; done)) | (with_reducible refine HB.old (by go_size) ?_) | (with_reducible refine HB.drew ?_) | (with_reducible refine HB.over5 ?_) | (with_reducible refine HB.over4 ?_) | (with_reducible refine HB.setne (by first | go_size | (dsimp only; omega)) ?_) | (with_reducible refine HN.set ?_) | (with_reducible refine HN.setne (by first | go_size | (dsimp only; omega)) ?_) | (with_reducible refine HN.drew ?_) | (with_reducible refine HN.old (by go_size) ?_) | (with_reducible exact HN.of5 (by assumption)) | (with_reducible exact HN.new5 _ _ (by go_size)) | (with_reducible exact HN.of4 (by assumption)) | (with_reducible exact HN.new4 _ _ (by go_size))))) hg (by first | omega | (go_size; done))); have N2 := Bx.of (HB.gne (b := w.heap.size + 1) (cs := #[.bool false, .int .u64 0, .int .u64 0, .int .u64 0, .int .u64 0]) (by (repeat' (first | (with_reducible assumption) | ((with_reducible refine HB.new _ _ _ ?_) <;> (go_size; done)) | (with_reducible refine HB.old (by go_size) ?_) | (with_reducible refine HB.drew ?_) | (with_reducible refine HB.over5 ?_) | (with_reducible refine HB.over4 ?_) | (with_reducible refine HB.setne (by first | go_size | (dsimp only; omega)) ?_) | (with_reducible refine HN.set ?_) | (with_reducible refine HN.setne (by first | go_size | (dsimp only; omega)) ?_) | (with_reducible refine HN.drew ?_) | (with_reducible refine HN.old (by go_size) ?_) | (with_reducible exact HN.of5 (by assumption)) | (with_reducible exact HN.new5 _ _ (by go_size)) | (with_reducible exact HN.of4 (by assumption)) | (with_reducible exact HN.new4 _ _ (by go_size))))) hg (by first | omega | (go_size; done))); have hG' : w.grownBy w' (some (b)) := grown_trans (by (repeat' (first | (with_reducible exact hG) | (with_reducible refine grown_alloc ?_ _) | (with_reducible refine grown_drew ?_) | (with_reducible refine grown_setCell ?_ (.inr (by first | go_size | (dsimp only; omega))) _)))) hg; have hsz := hg.size; clear ht hG; have ht := ht'; have hG := hG'; clear ht' hG'; (try simp only [World.size_alloc, World.size_setCell, World.size_drew] at hsz); clear hg; (try clear B1 B1c B1f B1l); obtain ⟨B1, B1c, B1f, B1l⟩ := N1; (try clear B2 B2c B2f B2l); obtain ⟨B2, B2c, B2f, B2l⟩ := N2))) | go_values | go_skip | go_guarded | go_step | go_upon | (simp only [Int.not_lt, Int.not_le] at *; go_simp) | (go_values <;> (try go_simp)) | (go_ite <;> go_prune <;> (try go_simp)) | (split <;> (first | (rename_i hx; exact (hx _ rfl).elim) | go_prune))))
  have k4 := k2 (by decide)
  clear k2 k3
  go_loopw [4] (fun i wr => ∃ k : Nat, i = .int .i64 k ∧ k ≤ 4 ∧ AWs B Bm b w.heap.size w wr) (fun i _ => (intOf i).toNat)
  case atStart => exact ⟨k.toNat, by rw [Int.toNat_of_nonneg k1], by omega, ht, hG, B1, _, 0, 0, 0, 0, ⟨by decide, by decide⟩, ⟨by decide, by decide⟩, ⟨by decide, by decide⟩, ⟨by decide, by decide⟩, B2⟩
  case round =>
    clear ht hG B1 B1c B1f B1l B2 B2c B2f B2l k1 k4
    obtain ⟨k, rfl, hk, hA'⟩ := hrel
    have hA := hA'
    by_cases h0 : k = 0
    · subst h0
      clear hA; have hA := hA'; clear hA'; have hA2 := hA; obtain ⟨ht, hG, B1, n, c0, c1, c2, c3, u0, u1, u2, u3, B2⟩ := hA2; obtain ⟨B1, B1c, B1f, B1l⟩ := Bx.of B1; obtain ⟨B2, B2c, B2f, B2l⟩ := Bx.of B2
      (repeat' (first | (go_big_may; (first | (go_at_call 29; refine (bool_any (B := B) (Bm := Bm) b _ (by decide) (by decide) _ (AWs.tape (q := w.heap.size) (w := w) (by (repeat' (first | (with_reducible exact hA) | (with_reducible refine AWs.alloc ?_ _) | (with_reducible refine AWs.drew ?_) | (with_reducible refine AWs.over (lb0_in _) (lb1_in _) (lb2_in _) (lb3_in _) (by omega) (by omega) ?_) | (with_reducible refine AWs.store (by assumption) (by omega) (by omega) (by omega) ?_)))))).mono ?_; rintro e w' ⟨r, rfl, ht', hg⟩; have hA' : AWs B Bm b w.heap.size w w' := AWs.gne (by (repeat' (first | (with_reducible exact hA) | (with_reducible refine AWs.alloc ?_ _) | (with_reducible refine AWs.drew ?_) | (with_reducible refine AWs.over (lb0_in _) (lb1_in _) (lb2_in _) (lb3_in _) (by omega) (by omega) ?_) | (with_reducible refine AWs.store (by assumption) (by omega) (by omega) (by omega) ?_)))) hg ht' (by omega); clear hg ht'; clear ht hG B1 B1c B1f B1l B2 B2c B2f B2l u0 u1 u2 u3; clear hA; have hA := hA'; clear hA'; have hA2 := hA; obtain ⟨ht, hG, B1, n, c0, c1, c2, c3, u0, u1, u2, u3, B2⟩ := hA2; obtain ⟨B1, B1c, B1f, B1l⟩ := Bx.of B1; obtain ⟨B2, B2c, B2f, B2l⟩ := Bx.of B2) | (go_at_call 30; refine (int_any (B := B) (Bm := Bm) b _ (AWs.tape (q := w.heap.size) (w := w) (by (repeat' (first | (with_reducible exact hA) | (with_reducible refine AWs.alloc ?_ _) | (with_reducible refine AWs.drew ?_) | (with_reducible refine AWs.over (lb0_in _) (lb1_in _) (lb2_in _) (lb3_in _) (by omega) (by omega) ?_) | (with_reducible refine AWs.store (by assumption) (by omega) (by omega) (by omega) ?_)))))).mono ?_; rintro e w' ⟨z, hz, rfl, ht', hg⟩; have hA' : AWs B Bm b w.heap.size w w' := AWs.gne (by (repeat' (first | (with_reducible exact hA) | (with_reducible refine AWs.alloc ?_ _) | (with_reducible refine AWs.drew ?_) | (with_reducible refine AWs.over (lb0_in _) (lb1_in _) (lb2_in _) (lb3_in _) (by omega) (by omega) ?_) | (with_reducible refine AWs.store (by assumption) (by omega) (by omega) (by omega) ?_)))) hg ht' (by omega); clear hg ht'; clear ht hG B1 B1c B1f B1l B2 B2c B2f B2l u0 u1 u2 u3; clear hA; have hA := hA'; clear hA'; have hA2 := hA; obtain ⟨ht, hG, B1, n, c0, c1, c2, c3, u0, u1, u2, u3, B2⟩ := hA2; obtain ⟨B1, B1c, B1f, B1l⟩ := Bx.of B1; obtain ⟨B2, B2c, B2f, B2l⟩ := Bx.of B2) | (go_at_call 18; refine (rOf_any _ hz _).mono ?_; rintro e w' ⟨rfl, hbw⟩; have hA' : AWs B Bm b w.heap.size w w' := AWs.bel (by (repeat' (first | (with_reducible exact hA) | (with_reducible refine AWs.alloc ?_ _) | (with_reducible refine AWs.drew ?_) | (with_reducible refine AWs.over (lb0_in _) (lb1_in _) (lb2_in _) (lb3_in _) (by omega) (by omega) ?_) | (with_reducible refine AWs.store (by assumption) (by omega) (by omega) (by omega) ?_)))) hbw; clear hbw; clear ht hG B1 B1c B1f B1l B2 B2c B2f B2l u0 u1 u2 u3; clear hA; have hA := hA'; clear hA'; have hA2 := hA; obtain ⟨ht, hG, B1, n, c0, c1, c2, c3, u0, u1, u2, u3, B2⟩ := hA2; obtain ⟨B1, B1c, B1f, B1l⟩ := Bx.of B1; obtain ⟨B2, B2c, B2f, B2l⟩ := Bx.of B2) | (go_at_call 31; refine (rneg_any n c0 c1 c2 c3 u0 u1 u2 u3 _).mono ?_; rintro e w' ⟨rfl, hbw⟩; generalize -(wv n c0 c1 c2 c3) = zz; have hA' : AWs B Bm b w.heap.size w w' := AWs.bel (by (repeat' (first | (with_reducible exact hA) | (with_reducible refine AWs.alloc ?_ _) | (with_reducible refine AWs.drew ?_) | (with_reducible refine AWs.over (lb0_in _) (lb1_in _) (lb2_in _) (lb3_in _) (by omega) (by omega) ?_) | (with_reducible refine AWs.store (by assumption) (by omega) (by omega) (by omega) ?_)))) hbw; clear hbw; clear ht hG B1 B1c B1f B1l B2 B2c B2f B2l u0 u1 u2 u3; clear hA; have hA := hA'; clear hA'; have hA2 := hA; obtain ⟨ht, hG, B1, n, c0, c1, c2, c3, u0, u1, u2, u3, B2⟩ := hA2; obtain ⟨B1, B1c, B1f, B1l⟩ := Bx.of B1; obtain ⟨B2, B2c, B2f, B2l⟩ := Bx.of B2))) | go_values | go_skip | go_guarded | go_step | go_upon | (simp only [Int.not_lt, Int.not_le] at *; go_simp) | (go_values <;> (try go_simp)) | (go_ite <;> go_prune <;> (try go_simp)) | (split <;> (first | (rename_i hx; exact (hx _ rfl).elim) | go_prune))))
      all_goals first | (refine bodyPost_ret (v := WE zz) ?_ rfl ⟨_, _, _, _, _, lb0_in _, lb1_in _, lb2_in _, lb3_in _, rfl, by (repeat' (first | (with_reducible exact ht) | (with_reducible refine TapeOk.alloc ?_ _) | (with_reducible refine TapeOk.drew ?_) | (with_reducible refine TapeOk.setc (by first | go_size | (dsimp only; omega)) ?_))), by (repeat' (first | (with_reducible exact hG) | (with_reducible refine grown_alloc ?_ _) | (with_reducible refine grown_drew ?_) | (with_reducible refine grown_setCell ?_ (.inr (by first | go_size | (dsimp only; omega))) _)))⟩; simp [results, Tryd.results10, go_sem, B1c, B1f, B1l]; done) | (refine bodyPost_ret (v := WV n c0 c1 c2 c3) ?_ rfl ⟨_, _, _, _, _, u0, u1, u2, u3, rfl, by (repeat' (first | (with_reducible exact ht) | (with_reducible refine TapeOk.alloc ?_ _) | (with_reducible refine TapeOk.drew ?_) | (with_reducible refine TapeOk.setc (by first | go_size | (dsimp only; omega)) ?_))), by (repeat' (first | (with_reducible exact hG) | (with_reducible refine grown_alloc ?_ _) | (with_reducible refine grown_drew ?_) | (with_reducible refine grown_setCell ?_ (.inr (by first | go_size | (dsimp only; omega))) _)))⟩; simp [results, Tryd.results10, go_sem, B1c, B1f, B1l]; done)
    · obtain ⟨m, rfl⟩ : ∃ m, k = m + 1 := ⟨k - 1, by omega⟩
      have hm : m ≤ 3 := by omega
      have e1 : ((m + 1 : Nat) : Int) = (m : Int) + 1 := by omega
      simp only [e1]
      clear hA' h0 hk
      obtain ⟨c, hc, hf, hl, hlB⟩ := hA.at hm
      have E1 := hid e1
      clear e1
      (repeat' (first | (go_big_may; (first | (go_at_call 28; refine (word_any (B := B) (Bm := Bm) b _ (AWs.tape (q := w.heap.size) (w := w) (by (repeat' (first | (with_reducible exact hA) | (with_reducible refine AWs.alloc ?_ _) | (with_reducible refine AWs.drew ?_) | (with_reducible refine AWs.over (lb0_in _) (lb1_in _) (lb2_in _) (lb3_in _) (by omega) (by omega) ?_) | (with_reducible refine AWs.store (by assumption) (by omega) (by omega) (by omega) ?_)))))).mono ?_; rintro e w' ⟨u, hu, rfl, ht', hg⟩; have hA' : AWs B Bm b w.heap.size w w' := AWs.gne (by (repeat' (first | (with_reducible exact hA) | (with_reducible refine AWs.alloc ?_ _) | (with_reducible refine AWs.drew ?_) | (with_reducible refine AWs.over (lb0_in _) (lb1_in _) (lb2_in _) (lb3_in _) (by omega) (by omega) ?_) | (with_reducible refine AWs.store (by assumption) (by omega) (by omega) (by omega) ?_)))) hg ht' (by omega); clear hg ht' hc hf hl hlB hA; have hA := hA'; clear hA'; obtain ⟨c, hc, hf, hl, hlB⟩ := hA.at hm) | (go_at_call 29; refine (bool_any (B := B) (Bm := Bm) b 4 (by decide) (by decide) _ (AWs.tape (q := w.heap.size) (w := w) (by (repeat' (first | (with_reducible exact hA) | (with_reducible refine AWs.alloc ?_ _) | (with_reducible refine AWs.drew ?_) | (with_reducible refine AWs.over (lb0_in _) (lb1_in _) (lb2_in _) (lb3_in _) (by omega) (by omega) ?_) | (with_reducible refine AWs.store (by assumption) (by omega) (by omega) (by omega) ?_)))))).mono ?_; rintro e w' ⟨r, rfl, ht', hg⟩; have hA' : AWs B Bm b w.heap.size w w' := AWs.gne (by (repeat' (first | (with_reducible exact hA) | (with_reducible refine AWs.alloc ?_ _) | (with_reducible refine AWs.drew ?_) | (with_reducible refine AWs.over (lb0_in _) (lb1_in _) (lb2_in _) (lb3_in _) (by omega) (by omega) ?_) | (with_reducible refine AWs.store (by assumption) (by omega) (by omega) (by omega) ?_)))) hg ht' (by omega); clear hg ht' hc hf hl hlB hA; have hA := hA'; clear hA'; obtain ⟨c, hc, hf, hl, hlB⟩ := hA.at hm) | (go_at_call 27; refine (next_any (B := B) (Bm := Bm) b 4 ⟨by decide, by decide⟩ _ (AWs.tape (q := w.heap.size) (w := w) (by (repeat' (first | (with_reducible exact hA) | (with_reducible refine AWs.alloc ?_ _) | (with_reducible refine AWs.drew ?_) | (with_reducible refine AWs.over (lb0_in _) (lb1_in _) (lb2_in _) (lb3_in _) (by omega) (by omega) ?_) | (with_reducible refine AWs.store (by assumption) (by omega) (by omega) (by omega) ?_)))))).mono ?_; rintro e w' ⟨r, ⟨r1, r2, r3⟩, rfl, ht', hg⟩; have r4 := r2 (by decide); clear r2 r3; obtain ⟨r, rfl⟩ := Int.eq_ofNat_of_zero_le r1; clear r1; obtain ⟨x, hx, hxu⟩ := four_at (HB.gne (HB.new _ _ _ rfl) hg (by omega)) r4; have hA' : AWs B Bm b w.heap.size w w' := AWs.gne (by (repeat' (first | (with_reducible exact hA) | (with_reducible refine AWs.alloc ?_ _) | (with_reducible refine AWs.drew ?_) | (with_reducible refine AWs.over (lb0_in _) (lb1_in _) (lb2_in _) (lb3_in _) (by omega) (by omega) ?_) | (with_reducible refine AWs.store (by assumption) (by omega) (by omega) (by omega) ?_)))) hg ht' (by omega); clear hg ht' hc hf hl hlB hA; have hA := hA'; clear hA'; obtain ⟨c, hc, hf, hl, hlB⟩ := hA.at hm))) | go_values | go_skip | go_guarded | go_step | go_upon | (simp only [Int.not_lt, Int.not_le] at *; go_simp) | (go_values <;> (try go_simp)) | (go_ite <;> go_prune <;> (try go_simp)) | (split <;> (first | (rename_i hx; exact (hx _ rfl).elim) | go_prune))))
      all_goals go_roundw
      all_goals first
        | (case rel => exact ⟨m, rfl, by omega, by (repeat' (first | (with_reducible exact hA) | (with_reducible refine AWs.alloc ?_ _) | (with_reducible refine AWs.drew ?_) | (with_reducible refine AWs.over (lb0_in _) (lb1_in _) (lb2_in _) (lb3_in _) (by omega) (by omega) ?_) | (with_reducible refine AWs.store (by assumption) (by omega) (by omega) (by omega) ?_)))⟩)
        | (case measure => (simp [intOf]; try omega))
end Go.Proofs.YtiiflgfnbgencaaDoor

/- LawT: A law's frame where a tape comes behind boxed arguments. -/
namespace Go.Proofs.YtiiflgfnbgencaaDoor
open Go.ChangeShapes Go.WideShapes Go.ChangeAt Go.RowKit
set_option linter.unusedVariables false
set_option linter.unusedSimpArgs false
theorem SlZ.below {W W' : World} {k : IntKind} {v : Value} {zs : List Int} (h : SlZ W k v zs) (hb : Below W.heap.size W W') : SlZ W' k v zs := by
  obtain ⟨a, len, cap, rfl, h1, h2, h3, h4, h5⟩ := h
  refine ⟨a, len, cap, rfl, h1, h2, h3, h4, fun hl => ?_⟩
  obtain ⟨b, off, rfl, hlt, hc⟩ := h5 hl
  exact ⟨b, off, rfl, Nat.lt_of_lt_of_le hlt hb.size, fun i hi => (hb.cell hlt).trans (hc i hi)⟩
theorem next_in {B Bm : Nat} (b : Nat) (n : Int) (h1 : 1 ≤ n) (h2 : n ≤ 1000000) (w : World) (ht : TapeOk B Bm w b) :
    Calls Tryd.prog 27 #[.pointer (some ⟨b, 0, none⟩), .int .i64 n] w (TPost B Bm .i64 b w fun r => 0 ≤ r ∧ r < n) :=
  (next_any b n ⟨by omega, by omega⟩ w ht).mono fun e w' ⟨r, ⟨r1, r2, r3⟩, he, h⟩ => ⟨r, ⟨r1, r2 h1⟩, he, h⟩
end Go.Proofs.YtiiflgfnbgencaaDoor

/- SxV: A symbolic run: Wides and fractions as atoms; tapes; pairs of slices. -/
namespace Go.Proofs.YtiiflgfnbgencaaDoor
open Go Go.RowKit
set_option linter.unusedVariables false
set_option linter.unusedSimpArgs false
/-- The Wide of an integer, and the Ratio of two, as names. -/
def WX (z : Int) : Value := WE z
def RX (p q : Int) : Value := .agg #[.bool (sg p), .int .u64 (lb0 (ab p)), .int .u64 (lb1 (ab p)), .int .u64 (lb2 (ab p)), .int .u64 (lb3 (ab p)), .bool (sg q), .int .u64 (lb0 (ab q)), .int .u64 (lb1 (ab q)), .int .u64 (lb2 (ab q)), .int .u64 (lb3 (ab q))]
/-- The negative 0. -/
def NZ : Value := WV true 0 0 0 0
theorem IsW.x {z : Int} (h : Fits z) : IsW (WX z) z := IsW.we h
theorem sg_ab (z : Int) : sg (ab z) = false := by unfold sg; exact decide_eq_false (by have := ab_nonneg z; omega)
namespace Sx
variable {C : Cx} {S : St} {K : St → Prop} {d : Option Nat}
theorem x_foldR (p q : Int) : Value.agg [.bool (sg p), .int .u64 (lb0 (ab p)), .int .u64 (lb1 (ab p)), .int .u64 (lb2 (ab p)), .int .u64 (lb3 (ab p)), .bool (sg q), .int .u64 (lb0 (ab q)), .int .u64 (lb1 (ab q)), .int .u64 (lb2 (ab q)), .int .u64 (lb3 (ab q))].toArray = RX p q := rfl
theorem x_foldW (z : Int) : Value.agg [.bool (sg z), .int .u64 (lb0 (ab z)), .int .u64 (lb1 (ab z)), .int .u64 (lb2 (ab z)), .int .u64 (lb3 (ab z))].toArray = WX z := rfl
theorem x_foldA (z : Int) : Value.agg [.bool false, .int .u64 (lb0 (ab z)), .int .u64 (lb1 (ab z)), .int .u64 (lb2 (ab z)), .int .u64 (lb3 (ab z))].toArray = WX (ab z) := by
  rw [← x_foldW, ab_ab, sg_ab]
theorem x_fold0 : Value.agg [.bool false, .int .u64 0, .int .u64 0, .int .u64 0, .int .u64 0].toArray = WX 0 := rfl
theorem x_foldR0 : Value.agg [.bool false, .int .u64 0, .int .u64 0, .int .u64 0, .int .u64 0, .bool false, .int .u64 0, .int .u64 0, .int .u64 0, .int .u64 0].toArray = RX 0 0 := rfl
theorem x_foldN : Value.agg [.bool true, .int .u64 0, .int .u64 0, .int .u64 0, .int .u64 0].toArray = NZ := rfl
theorem x_cN : cellsO true (some (.v NZ)) = some [.bool true, .int .u64 0, .int .u64 0, .int .u64 0, .int .u64 0] := rfl
theorem x_vN : cellsV (some (.v NZ)) = some [.bool true, .int .u64 0, .int .u64 0, .int .u64 0, .int .u64 0] := rfl
theorem x_fN0 : fdS false 1 0 (some (.v NZ)) = some (True, .bool true) := rfl
theorem x_csg1 {z : Int} {p q : St → Prop} (h : z < 0) : condT (sg z) p q S = p S := by unfold sg; rw [decide_eq_true h]; rfl
theorem x_csg0 {z : Int} {p q : St → Prop} (h : ¬ z < 0) : condT (sg z) p q S = q S := by unfold sg; rw [decide_eq_false h]; rfl
theorem x_gsg1 {z : Int} {m : M} {w : Bool} (h : z < 0) : gdT (sg z) w C m d K S = gdT true w C m d K S := by unfold sg; rw [decide_eq_true h]
theorem x_gsg0 {z : Int} {m : M} {w : Bool} (h : ¬ z < 0) : gdT (sg z) w C m d K S = gdT false w C m d K S := by unfold sg; rw [decide_eq_false h]
theorem x_psg1 {z : Int} {f g : Option SV} (h : z < 0) : pickS f g (some (.v (.bool (sg z)))) = sv1 f := by unfold sg; rw [decide_eq_true h]; rfl
theorem x_psg0 {z : Int} {f g : Option SV} (h : ¬ z < 0) : pickS f g (some (.v (.bool (sg z)))) = sv1 g := by unfold sg; rw [decide_eq_false h]; rfl
theorem x_cW (z : Int) : cellsO true (some (.v (WX z))) = some [.bool (sg z), .int .u64 (lb0 (ab z)), .int .u64 (lb1 (ab z)), .int .u64 (lb2 (ab z)), .int .u64 (lb3 (ab z))] := rfl
theorem x_cR (p q : Int) : cellsO true (some (.v (RX p q))) = some [.bool (sg p), .int .u64 (lb0 (ab p)), .int .u64 (lb1 (ab p)), .int .u64 (lb2 (ab p)), .int .u64 (lb3 (ab p)), .bool (sg q), .int .u64 (lb0 (ab q)), .int .u64 (lb1 (ab q)), .int .u64 (lb2 (ab q)), .int .u64 (lb3 (ab q))] := rfl
theorem x_vW (z : Int) : cellsV (some (.v (WX z))) = some [.bool (sg z), .int .u64 (lb0 (ab z)), .int .u64 (lb1 (ab z)), .int .u64 (lb2 (ab z)), .int .u64 (lb3 (ab z))] := rfl
theorem x_vR (p q : Int) : cellsV (some (.v (RX p q))) = some [.bool (sg p), .int .u64 (lb0 (ab p)), .int .u64 (lb1 (ab p)), .int .u64 (lb2 (ab p)), .int .u64 (lb3 (ab p)), .bool (sg q), .int .u64 (lb0 (ab q)), .int .u64 (lb1 (ab q)), .int .u64 (lb2 (ab q)), .int .u64 (lb3 (ab q))] := rfl
theorem x_fW0 (z : Int) : fdS false 1 0 (some (.v (WX z))) = some (True, .bool (sg z)) := rfl
theorem x_fR0 (p q : Int) : fdS true 5 0 (some (.v (RX p q))) = some (True, WX p) := rfl
theorem x_fR5 (p q : Int) : fdS true 5 5 (some (.v (RX p q))) = some (True, WX q) := rfl
theorem qxE : type_of% @x_foldR ∧ type_of% @x_foldW ∧ type_of% @x_foldA ∧ type_of% @x_fold0 ∧ type_of% @x_foldR0 ∧ type_of% @x_foldN ∧ type_of% @x_cN ∧ type_of% @x_vN ∧ type_of% @x_fN0 ∧ type_of% @x_csg1 ∧ type_of% @x_csg0 ∧ type_of% @x_gsg1 ∧ type_of% @x_gsg0 ∧ type_of% @x_psg1 ∧ type_of% @x_psg0 ∧ type_of% @x_cW ∧ type_of% @x_cR ∧ type_of% @x_vW ∧ type_of% @x_vR ∧ type_of% @x_fW0 ∧ type_of% @x_fR0 ∧ type_of% @x_fR5 :=
  ⟨@x_foldR, @x_foldW, @x_foldA, @x_fold0, @x_foldR0, @x_foldN, @x_cN, @x_vN, @x_fN0, @x_csg1, @x_csg0, @x_gsg1, @x_gsg0, @x_psg1, @x_psg0, @x_cW, @x_cR, @x_vW, @x_vR, @x_fW0, @x_fR0, @x_fR5⟩
theorem asks_r2 {f : FuncId} {l : List Value} {L : List Kn} {ws vs : List Int} (he : ∀ (l : Array Value) W, (callFunc f l).run C.P W = .ok (.enter f l) W) (hT : S.T = kX C.w0.heap.size L)
    (h : ∀ W, Below C.w0.heap.size C.w0 W → (∀ k ∈ L, k.ok C.w0.heap.size W) → Calls C.P f l.toArray W fun e w' => ∃ u v, e = .returned (.tuple #[u, v]) ∧ SlF w' W.heap.size u ws ∧ SlF w' W.heap.size v vs ∧ Below W.heap.size W w')
    (hk : ∀ a cap b cbp, Shp a ws.length cap → Shp b vs.length cbp → K (St.put ⟨S.n, S.E, S.H, kX C.w0.heap.size (.r (.slice a ws.length cap) ws :: .r (.slice b vs.length cbp) vs :: L)⟩ d (.v (.tuple #[.slice a ws.length cap, .slice b vs.length cbp])))) : asks C f l d K S := by
  refine asks_T (ι := {x : (Option Addr × Nat) × (Option Addr × Nat) // Shp x.1.1 ws.length x.1.2 ∧ Shp x.2.1 vs.length x.2.2}) (fun x => .tuple #[.slice x.1.1.1 ws.length x.1.1.2, .slice x.1.2.1 vs.length x.1.2.2]) (fun x => kX C.w0.heap.size (.r (.slice x.1.1.1 ws.length x.1.1.2) ws :: .r (.slice x.1.2.1 vs.length x.1.2.2) vs :: L)) (fun W hW hok hbs => givesT_calls he (fun i => kX_stab C _) ?_) (fun x => hk _ _ _ _ x.2.1 x.2.2)
  rw [hT] at hok
  refine (h W hW hok).mono fun e w' ⟨u, v, h1, h2, h3, h4⟩ => ?_
  obtain ⟨a, cap, rfl, hs⟩ := h2.1.shp
  obtain ⟨b, cbp, rfl, hs'⟩ := h3.1.shp
  have hok2 : (Kn.r (.slice a ws.length cap) ws).ok C.w0.heap.size w' := Kn.ok.base (k := .r _ ws) h2 hW.size (fun _ h => by cases h)
  have hok3 : (Kn.r (.slice b vs.length cbp) vs).ok C.w0.heap.size w' := Kn.ok.base (k := .r _ vs) h3 hW.size (fun _ h => by cases h)
  have hge : ∀ c ∈ rbs (.slice a ws.length cap), W.heap.size ≤ c := fun c hc => (Kn.ok.lt (k := .r (.slice a ws.length cap) ws) h2 c hc).1
  have hge' : ∀ c ∈ rbs (.slice b vs.length cbp), W.heap.size ≤ c := fun c hc => (Kn.ok.lt (k := .r (.slice b vs.length cbp) vs) h3 c hc).1
  refine ⟨⟨((a, cap), (b, cbp)), hs, hs'⟩, h1, ⟨h4.os, h4.tape, h4.output, h4.size, fun i hi _ => h4.block i hi⟩, ?_, ?_⟩
  · intro k hk
    rcases List.mem_cons.1 hk with rfl | hk
    · exact hok2
    · rcases List.mem_cons.1 hk with rfl | hk
      · exact hok3
      · exact (hok k hk).below h4
  · intro c hc
    obtain ⟨k, hk, hc⟩ := kX_bs.1 hc
    rcases List.mem_cons.1 hk with rfl | hk
    · exact ⟨.inr (hge c hc), (hok2.lt c hc).2⟩
    · rcases List.mem_cons.1 hk with rfl | hk
      · exact ⟨.inr (hge' c hc), (hok3.lt c hc).2⟩
      · exact ⟨.inl (by rw [hT]; exact kX_bs.2 ⟨k, hk, hc⟩), Nat.lt_of_lt_of_le ((hok k hk).lt c hc).2 h4.size⟩
/-- Block tb holds a tape whose numbers are the caller's. -/
def tK (tb : Nat) : KnG where
  bs := [tb]
  ok n W := n ≤ tb ∧ TapeOk (tb + 1) n W tb
  lt := fun {n W} h b hb => by
    rw [List.mem_singleton.1 hb]
    exact ⟨h.1, h.2.lt⟩
  keep := fun {n W W'} h hs hb ho => by
    obtain ⟨h0, a, len, cap, k, h1, h2, h3, h4, h5, h6, h7, h8⟩ := h
    have ht := hb tb (List.mem_singleton.2 rfl)
    refine ⟨h0, a, len, cap, k, h1, Nat.le_trans h2 hs, (World.cell?_of_block (a := ⟨tb, 0, none⟩) ht).trans h3, (World.cell?_of_block (a := ⟨tb, 1, none⟩) ht).trans h4, (World.frozen?_of_block (a := ⟨tb, 1, none⟩) ht).trans h5, h6, h7, fun hl => ?_⟩
    obtain ⟨bb, off, e, hne, hlt, hlm, hc⟩ := h8 hl
    refine ⟨bb, off, e, hne, hlt, hlm, fun i hi => ?_⟩
    obtain ⟨x, hx, hix⟩ := hc i hi
    exact ⟨x, (World.cell?_of_block (a := ⟨bb, off + i, none⟩) (ho bb hlm (by omega))).trans hx, hix⟩
/-- A new tape of the caller's numbers. -/
theorem asks_new {L : List Kn} {zs : List Int} {a : Option Addr} {len cap : Nat} (hP : C.P = Tryd.prog) (hT : S.T = kX C.w0.heap.size L) (h0 : SlZ C.w0 .i64 (.slice a len cap) zs) (he : ∀ (l : Array Value) W, (callFunc 9 l).run Tryd.prog W = .ok (.enter 9 l) W)
    (hk : ∀ tb, tb ∉ S.T.bs → K (St.put ⟨S.n, S.E, S.H, kX C.w0.heap.size (.g (tK tb) :: L)⟩ d (.v (.pointer (some ⟨tb, 0, none⟩))))) : asks C 9 [.slice a len cap] d K S := by
  refine asks_T (ι := {x : Nat // x ∉ S.T.bs}) (fun x => .pointer (some ⟨x.1, 0, none⟩)) (fun x => kX C.w0.heap.size (.g (tK x.1) :: L)) (fun W hW hok hbs => givesT_calls (by rw [hP]; exact he) (fun i => kX_stab C _) ?_) (fun x => hk _ x.2)
  rw [hT] at hok
  rw [hP]
  refine (new_any a len cap W).mono fun e w' ⟨he, hw⟩ => ?_
  subst hw
  have hb : Below W.heap.size W (W.alloc (.cells #[.slice a len cap, .int .i64 0] 50)) := (Below.refl _ _).alloc (Nat.le_refl _) _
  have ht : TapeOk (W.heap.size + 1) C.w0.heap.size (W.alloc (.cells #[.slice a len cap, .int .i64 0] 50)) W.heap.size := by
    obtain ⟨a', len', cap', e, hl, hlc, hcm, hwf, hc⟩ := h0
    cases e
    have hm : cap ≤ 9223372036854775807 := by simpa [maxLen] using hcm
    refine ⟨a, len, cap, 0, by omega, by simp, World.cell?_alloc_new _ _ _ _, World.cell?_alloc_new _ _ _ _, by simp [go_sem], by omega, by omega, fun hpos => ?_⟩
    obtain ⟨b, off, rfl, hlt, hcell⟩ := hc hpos
    have hsz := hW.size
    refine ⟨b, off, rfl, by omega, by omega, hlt, fun i hi => ⟨zs.getD i 0, (hb.cell (p := ⟨b, off + i, none⟩) (show b < _ by omega)).trans ((hW.cell (p := ⟨b, off + i, none⟩) hlt).trans (hcell i hi)), ?_⟩⟩
    refine I64.of_wf (hwf _ ?_)
    rw [List.getD_eq_getElem?_getD, List.getElem?_eq_getElem (by omega)]
    exact List.getElem_mem _
  refine ⟨⟨W.heap.size, fun hT2 => by have := (hbs _ hT2).2; omega⟩, he, ⟨hb.os, hb.tape, hb.output, hb.size, fun i hi _ => hb.block i hi⟩, ?_, ?_⟩
  · intro k hk
    rcases List.mem_cons.1 hk with rfl | hk
    · exact ⟨hW.size, ht⟩
    · exact (hok k hk).below hb
  · intro b hbb
    obtain ⟨k, hk, hbb⟩ := kX_bs.1 hbb
    rcases List.mem_cons.1 hk with rfl | hk
    · have : b = W.heap.size := List.mem_singleton.1 hbb
      subst this
      exact ⟨.inr (Nat.le_refl _), ht.lt⟩
    · exact ⟨.inl (by rw [hT]; exact kX_bs.2 ⟨k, hk, hbb⟩), Nat.lt_of_lt_of_le ((hok k hk).lt b hbb).2 hb.size⟩
end Sx
end Go.Proofs.YtiiflgfnbgencaaDoor

/- Hf: What calls of the reference's DivMod and Unsigned give; the numbers as atoms. -/
namespace Go.Proofs.YtiiflgfnbgencaaDoor
open Go Go.RowKit Sx
set_option linter.unusedVariables false
set_option linter.unusedSimpArgs false
theorem g_wide {neg : Bool} {a : Option Addr} {len cap : Nat} {ws : List Int} {W : World} (h : SlU W (.slice a len cap) ws) : Gives Tryd.prog 58 [.bool neg, .slice a len cap] W (· = .tuple #[WE (cl (sv neg (VL ws))), .bool (fb (sv neg (VL ws)))]) :=
  gives_known en_r02_wide (rwide_any neg a len cap ws W h)
theorem ask_wide {C : Cx} {S : St} {K : St → Prop} {d : Option Nat} {L : List Kn} {a : Option Addr} {c : Nat} {t z : Int} {neg : Bool} (hP : C.P = Tryd.prog) (hT : S.T = kX C.w0.heap.size L) (hm : .r (.slice a (wl t).length c) (wl t) ∈ L) (ht : 0 ≤ t) (e : z = sv neg t) (hf : Fits z)
    (hk : K (S.put d (.v (.tuple #[WE z, .bool true])))) : asks C 58 [.bool neg, .slice a (wl t).length c] d K S :=
  asks_ext (v := .tuple #[WE z, .bool true]) (fun W hW hok => by
    rw [hT] at hok
    have := g_wide (neg := neg) (W := W) (hok (.r (.slice a (wl t).length c) (wl t)) hm).1
    rw [VL_wl ht, ← e, cl_fit hf, fb_fit hf] at this
    rw [hP]
    exact this) hk
theorem fits_ediv {z y : Int} (h : Fits z) (hy : y ≠ 0) : Fits (z / y) := by
  refine fits_le h ?_
  rcases Int.lt_or_lt_of_ne hy with h | h
  · have e : z / y = -(z / -y) := by rw [Int.ediv_neg, Int.neg_neg]
    rw [e, ab_neg]
    exact ab_fdiv_le z (by omega)
  · exact ab_fdiv_le z h
theorem fits_emod {z y : Int} (h : Fits y) (hy : y ≠ 0) : Fits (z % y) := by
  refine fits_le h ?_
  have h1 := Int.emod_nonneg z hy
  rw [ab_pos h1]
  have h2 := Int.emod_lt z hy
  unfold ab
  split <;> omega
set_option maxRecDepth 100000 in
theorem rg_divmod {v v' : Value} {z y : Int} (h : IsW v z) (h' : IsW v' y) (W0 : World) : Gives Tryd.prog 52 [v, v'] W0 (· = .tuple #[WE (z / y), WE (dr z y), .bool (decide (y ≠ 0))]) := by
  have fz : Fits z := by obtain ⟨n, a, b, c, d, -, rfl, ha, hb, hc, hd⟩ := h; unfold Fits; rw [ab_wv ha hb hc hd]; exact up4_mv ha hb hc hd
  have fy : Fits y := by obtain ⟨n, a, b, c, d, -, rfl, ha, hb, hc, hd⟩ := h'; unfold Fits; rw [ab_wv ha hb hc hd]; exact up4_mv ha hb hc hd
  obtain ⟨n, m, rfl, am, hab, hz, hn⟩ := h.me
  obtain ⟨n', m', rfl, am', hab', hy, hn'⟩ := h'.me
  refine gives_known en_r02_DivMod ?_
  have p1 : cn n (lb0 m) (lb1 m) (lb2 m) (lb3 m) = decide (z < 0) := hn
  have p2 : cn n' (lb0 m') (lb1 m') (lb2 m') (lb3 m') = decide (y < 0) := hn'
  have SI : IsW (WV (decide (y < 0)) (lb0 m') (lb1 m') (lb2 m') (lb3 m')) y := by
    have := IsW.raw (n := cn n' (lb0 m') (lb1 m') (lb2 m') (lb3 m')) (lb0_in m') (lb1_in m') (lb2_in m') (lb3_in m')
    rw [wv_cn, p2] at this
    have e : wv n' (lb0 m') (lb1 m') (lb2 m') (lb3 m') = y := by rw [hy]; unfold wv sv; rw [mv_me am']
    rw [e] at this
    exact this
  clear hz hy hn hn' h h'
  have hcm := cm_zero y
  by_cases hy0 : y = 0
  · have hc0 : cm y 0 = 0 := by subst hy0; rfl
    have e1 : z / y = 0 := by rw [hy0]; exact Int.ediv_zero z
    have e2 : dr z y = 0 := if_pos hy0
    have e3 : decide (y ≠ 0) = false := by simp [hy0]
    rw [e1, e2, e3]
    clear hcm e1 e2 e3 hab hab'
    refine known_of (enter Tryd.func52 r02_DivMod.ok (args := [WV n (lb0 m) (lb1 m) (lb2 m) (lb3 m), WV n' (lb0 m') (lb1 m') (lb2 m') (lb3 m')]) (by simp) ?_)
    repeat' (first | simp (disch := omega) only [sxE, r02_DivMod.E, Nat.reduceAdd, Nat.reduceEqDiff, Nat.reduceMul, Nat.reduceSub, Int.reduceAdd, Int.reduceSub, Int.reduceMul, Int.reduceNeg, Int.reduceLT, Int.reduceLE, Int.reduceEq, Int.reduceToNat, ↓reduceIte, Int.reducePow, Nat.reduceLeDiff, Nat.reduceLT, ne_eq, eq_self, List.length_cons, List.length_nil, p1, p2] | (with_reducible refine Sx.call_at (f := 45) (fun W hW => rg_clean _ (lb0_in _) (lb1_in _) (lb2_in _) (lb3_in _) W) ?_) | (with_reducible refine Sx.call_at (f := 56) (fun W hW => rg_sign SI W) ?_))
    rfl
  · have hc0 : cm y 0 ≠ 0 := by rw [hcm]; split <;> (try split) <;> omega
    have e3 : decide (y ≠ 0) = true := by simp [hy0]
    have hm' : 0 < m' := by rw [← hab']; unfold ab; split <;> omega
    obtain ⟨D1, D2⟩ := dm_plain (z := z) hy0
    rw [hab, hab'] at D1 D2
    have e2 : dr z y = z % y := if_neg hy0
    rw [e2, e3]
    have ar : A4 (m % m') := ⟨Int.emod_nonneg _ (by omega), by have := Int.emod_lt_of_pos m hm'; have := am'.2; omega⟩
    have aq : A4 (m / m') := ⟨Int.ediv_nonneg am.1 (by omega), by have := Int.ediv_le_self m' am.1; have := am.2; omega⟩
    have q1 := fits_ediv fz hy0
    have q2 := fits_emod (z := z) fy hy0
    generalize hQ : z / y = Q at *
    generalize hR : z % y = R at *
    refine known_of (enter Tryd.func52 r02_DivMod.ok (args := [WV n (lb0 m) (lb1 m) (lb2 m) (lb3 m), WV n' (lb0 m') (lb1 m') (lb2 m') (lb3 m')]) (by simp) ?_)
    repeat' (first | simp (disch := omega) only [sxE, r02_DivMod.E, Nat.reduceAdd, Nat.reduceEqDiff, Nat.reduceMul, Nat.reduceSub, Int.reduceAdd, Int.reduceSub, Int.reduceMul, Int.reduceNeg, Int.reduceLT, Int.reduceLE, Int.reduceEq, Int.reduceToNat, ↓reduceIte, Int.reducePow, Nat.reduceLeDiff, Nat.reduceLT, ne_eq, eq_self, List.length_cons, List.length_nil, p1, p2] | (with_reducible refine Sx.call_at (f := 45) (fun W hW => rg_clean _ (lb0_in _) (lb1_in _) (lb2_in _) (lb3_in _) W) ?_) | (with_reducible refine Sx.call_at (f := 56) (fun W hW => rg_sign SI W) ?_))
    refine asks_r (L := []) (ws := wl m) en_r02_of (kX_nil _) (fun W hW _ => of_mag am W) fun a1 c1 hs1 hn1 => ?_
    simp (disch := omega) only [sxE, r02_DivMod.E, Nat.reduceAdd, Nat.reduceEqDiff, Nat.reduceMul, Nat.reduceSub, Int.reduceAdd, Int.reduceSub, Int.reduceMul, Int.reduceNeg, Int.reduceLT, Int.reduceLE, Int.reduceEq, Int.reduceToNat, ↓reduceIte, Int.reducePow, Nat.reduceLeDiff, Nat.reduceLT, ne_eq, eq_self, List.length_cons, List.length_nil]
    refine asks_r (L := [.r (.slice a1 (wl m).length c1) (wl m)]) (ws := wl m') en_r02_of rfl (fun W hW _ => of_mag am' W) fun a2 c2 hs2 hn2 => ?_
    simp (disch := omega) only [sxE, r02_DivMod.E, Nat.reduceAdd, Nat.reduceEqDiff, Nat.reduceMul, Nat.reduceSub, Int.reduceAdd, Int.reduceSub, Int.reduceMul, Int.reduceNeg, Int.reduceLT, Int.reduceLE, Int.reduceEq, Int.reduceToNat, ↓reduceIte, Int.reducePow, Nat.reduceLeDiff, Nat.reduceLT, ne_eq, eq_self, List.length_cons, List.length_nil]
    refine asks_r2 (L := [.r (.slice a2 (wl m').length c2) (wl m'), .r (.slice a1 (wl m).length c1) (wl m)]) (ws := wl (m / m')) (vs := wl (m % m')) en_r02_divmod rfl (fun W hW hok => rdivmod_any am am' hm' (hok (.r (.slice a1 (wl m).length c1) (wl m)) (List.mem_cons_of_mem _ List.mem_cons_self)).1 (hok (.r (.slice a2 (wl m').length c2) (wl m')) List.mem_cons_self).1) fun a3 c3 a4 c4 hs3 hs4 => ?_
    clear hn1 hn2 hs1 hs2 hs3 hs4 hcm p1 p2
    have l1 := pw4b ar
    have l2 := pw4b aq
    have l3 := pw4b am'
    have v1 := VL_wl aq.1
    have v2 := VL_wl ar.1
    have hl0 : ((wl (m % m')).length : Int) > 0 ↔ m % m' ≠ 0 := by
      constructor
      · intro h e; rw [e, wl_nil (Int.le_refl _)] at h; simp at h
      · intro h
        have := ar.1
        rw [wl_cons (by omega), List.length_cons]; omega
    by_cases hC : ¬ z < 0 ∨ m % m' = 0
    · obtain ⟨e4, e5⟩ := D1 hC
      clear D1 D2 hab hab' SI e3 hQ hR e2 l1 l2 l3
      have e6 : sv false (m % m') = R := e5.symm
      have hR0 : R = sv false (m % m') := e5
      by_cases hz : z < 0
      · have h0 : m % m' = 0 := by omega
        have hlf : ¬ ((wl (m % m')).length : Int) > 0 := fun h => hl0.1 h h0
        clear hl0 hC
        simp only [decide_eq_true hz]
        repeat' (first | simp (disch := omega) only [sxE, r02_DivMod.E, Nat.reduceAdd, Nat.reduceEqDiff, Nat.reduceMul, Nat.reduceSub, Int.reduceAdd, Int.reduceSub, Int.reduceMul, Int.reduceNeg, Int.reduceLT, Int.reduceLE, Int.reduceEq, Int.reduceToNat, ↓reduceIte, Int.reducePow, Nat.reduceLeDiff, Nat.reduceLT, ne_eq, eq_self, List.length_cons, List.length_nil])
        refine ask_wide rfl rfl List.mem_cons_self aq.1 (by rw [e4, decide_eq_true hz]; rfl) q1 ?_
        repeat' (first | simp (disch := omega) only [sxE, r02_DivMod.E, Nat.reduceAdd, Nat.reduceEqDiff, Nat.reduceMul, Nat.reduceSub, Int.reduceAdd, Int.reduceSub, Int.reduceMul, Int.reduceNeg, Int.reduceLT, Int.reduceLE, Int.reduceEq, Int.reduceToNat, ↓reduceIte, Int.reducePow, Nat.reduceLeDiff, Nat.reduceLT, ne_eq, eq_self, List.length_cons, List.length_nil])
        refine ask_wide rfl rfl (List.mem_cons_of_mem _ List.mem_cons_self) ar.1 hR0 q2 ?_
        repeat' (first | simp (disch := omega) only [sxE, r02_DivMod.E, Nat.reduceAdd, Nat.reduceEqDiff, Nat.reduceMul, Nat.reduceSub, Int.reduceAdd, Int.reduceSub, Int.reduceMul, Int.reduceNeg, Int.reduceLT, Int.reduceLE, Int.reduceEq, Int.reduceToNat, ↓reduceIte, Int.reducePow, Nat.reduceLeDiff, Nat.reduceLT, ne_eq, eq_self, List.length_cons, List.length_nil])
      · clear hl0 hC
        simp only [decide_eq_false hz]
        repeat' (first | simp (disch := omega) only [sxE, r02_DivMod.E, Nat.reduceAdd, Nat.reduceEqDiff, Nat.reduceMul, Nat.reduceSub, Int.reduceAdd, Int.reduceSub, Int.reduceMul, Int.reduceNeg, Int.reduceLT, Int.reduceLE, Int.reduceEq, Int.reduceToNat, ↓reduceIte, Int.reducePow, Nat.reduceLeDiff, Nat.reduceLT, ne_eq, eq_self, List.length_cons, List.length_nil])
        refine ask_wide rfl rfl List.mem_cons_self aq.1 (by rw [e4, decide_eq_false hz]; rfl) q1 ?_
        repeat' (first | simp (disch := omega) only [sxE, r02_DivMod.E, Nat.reduceAdd, Nat.reduceEqDiff, Nat.reduceMul, Nat.reduceSub, Int.reduceAdd, Int.reduceSub, Int.reduceMul, Int.reduceNeg, Int.reduceLT, Int.reduceLE, Int.reduceEq, Int.reduceToNat, ↓reduceIte, Int.reducePow, Nat.reduceLeDiff, Nat.reduceLT, ne_eq, eq_self, List.length_cons, List.length_nil])
        refine ask_wide rfl rfl (List.mem_cons_of_mem _ List.mem_cons_self) ar.1 hR0 q2 ?_
        repeat' (first | simp (disch := omega) only [sxE, r02_DivMod.E, Nat.reduceAdd, Nat.reduceEqDiff, Nat.reduceMul, Nat.reduceSub, Int.reduceAdd, Int.reduceSub, Int.reduceMul, Int.reduceNeg, Int.reduceLT, Int.reduceLE, Int.reduceEq, Int.reduceToNat, ↓reduceIte, Int.reducePow, Nat.reduceLeDiff, Nat.reduceLT, ne_eq, eq_self, List.length_cons, List.length_nil])
    · have hz : z < 0 := by omega
      have h0 : m % m' ≠ 0 := by omega
      obtain ⟨e4, e5⟩ := D2 hz h0
      have hlf : ((wl (m % m')).length : Int) > 0 := hl0.2 h0
      clear D1 D2 hab hab' SI e3 hQ hR e2 hl0 hC
      have hR0 : R = sv false (m' - m % m') := e5
      simp only [decide_eq_true hz]
      repeat' (first | simp (disch := omega) only [sxE, r02_DivMod.E, Nat.reduceAdd, Nat.reduceEqDiff, Nat.reduceMul, Nat.reduceSub, Int.reduceAdd, Int.reduceSub, Int.reduceMul, Int.reduceNeg, Int.reduceLT, Int.reduceLE, Int.reduceEq, Int.reduceToNat, ↓reduceIte, Int.reducePow, Nat.reduceLeDiff, Nat.reduceLT, ne_eq, eq_self, List.length_cons, List.length_nil])
      have w1 : wl (1 : Int) = [1] := (wl_one (by decide) (by rw [wl_cons (by decide), show (1 : Int) / 18446744073709551616 = 0 by decide, wl_nil (by decide)]; rfl)).1
      have hlt := Int.emod_lt_of_pos m hm'
      have asx : A4 (m' - m % m') := ⟨by omega, by have := ar.1; have := am'.2; omega⟩
      have aq1 : A4 (m / m' + 1) := by
        refine ⟨by have := aq.1; omega, ?_⟩
        have h2 : 2 ≤ m' := by
          rcases Int.lt_or_le m' 2 with h | h
          · exact absurd (show m % m' = 0 by have : m' = 1 := by omega
                                             rw [this]; exact Int.emod_one m) h0
          · exact h
        have := Int.mul_ediv_add_emod m m'
        have h3 := Int.mul_le_mul_of_nonneg_right h2 aq.1
        have := am.2
        have := ar.1
        omega
      refine genA_o (L := [.r (.slice a3 (wl (m / m')).length c3) (wl (m / m')), .r (.slice a4 (wl (m % m')).length c4) (wl (m % m')), .r (.slice a2 (wl m').length c2) (wl m'), .r (.slice a1 (wl m).length c1) (wl m)]) (ws := [1]) rfl (fun W hW _ => gen_one ⟨by decide, by decide⟩ W) fun g5 c5 hn5 => ?_
      clear hn5
      repeat' (first | simp (disch := omega) only [sxE, r02_DivMod.E, Nat.reduceAdd, Nat.reduceEqDiff, Nat.reduceMul, Nat.reduceSub, Int.reduceAdd, Int.reduceSub, Int.reduceMul, Int.reduceNeg, Int.reduceLT, Int.reduceLE, Int.reduceEq, Int.reduceToNat, ↓reduceIte, Int.reducePow, Nat.reduceLeDiff, Nat.reduceLT, ne_eq, eq_self, List.length_cons, List.length_nil])
      refine asks_r (L := [.o (.slice (some ⟨g5, 0, none⟩) 1 c5) [1], .r (.slice a3 (wl (m / m')).length c3) (wl (m / m')), .r (.slice a4 (wl (m % m')).length c4) (wl (m % m')), .r (.slice a2 (wl m').length c2) (wl m'), .r (.slice a1 (wl m).length c1) (wl m)]) (ws := wl (m / m' + 1)) en_r02_add rfl (fun W hW hok => by
        have h5 : OwnU W W0.heap.size (.slice (some ⟨g5, 0, none⟩) 1 c5) [1] := hok (.o (.slice (some ⟨g5, 0, none⟩) 1 c5) [1]) List.mem_cons_self
        exact radd_any _ _ _ _ _ _ _ _ aq.1 (by decide) (by omega) (by decide) W (hok (.r (.slice a3 (wl (m / m')).length c3) (wl (m / m'))) (List.mem_cons_of_mem _ List.mem_cons_self)).1 (by rw [w1]; exact h5.sl)) fun a6 c6 hs6 hn6 => ?_
      clear hs6 hn6
      repeat' (first | simp (disch := omega) only [sxE, r02_DivMod.E, Nat.reduceAdd, Nat.reduceEqDiff, Nat.reduceMul, Nat.reduceSub, Int.reduceAdd, Int.reduceSub, Int.reduceMul, Int.reduceNeg, Int.reduceLT, Int.reduceLE, Int.reduceEq, Int.reduceToNat, ↓reduceIte, Int.reducePow, Nat.reduceLeDiff, Nat.reduceLT, ne_eq, eq_self, List.length_cons, List.length_nil])
      refine asks_r (L := [.r (.slice a6 (wl (m / m' + 1)).length c6) (wl (m / m' + 1)), .o (.slice (some ⟨g5, 0, none⟩) 1 c5) [1], .r (.slice a3 (wl (m / m')).length c3) (wl (m / m')), .r (.slice a4 (wl (m % m')).length c4) (wl (m % m')), .r (.slice a2 (wl m').length c2) (wl m'), .r (.slice a1 (wl m).length c1) (wl m)]) (ws := wl m') en_r02_of rfl (fun W hW _ => of_mag am' W) fun a7 c7 hs7 hn7 => ?_
      clear hs7 hn7
      repeat' (first | simp (disch := omega) only [sxE, r02_DivMod.E, Nat.reduceAdd, Nat.reduceEqDiff, Nat.reduceMul, Nat.reduceSub, Int.reduceAdd, Int.reduceSub, Int.reduceMul, Int.reduceNeg, Int.reduceLT, Int.reduceLE, Int.reduceEq, Int.reduceToNat, ↓reduceIte, Int.reducePow, Nat.reduceLeDiff, Nat.reduceLT, ne_eq, eq_self, List.length_cons, List.length_nil])
      refine asks_r (L := [.r (.slice a7 (wl m').length c7) (wl m'), .r (.slice a6 (wl (m / m' + 1)).length c6) (wl (m / m' + 1)), .o (.slice (some ⟨g5, 0, none⟩) 1 c5) [1], .r (.slice a3 (wl (m / m')).length c3) (wl (m / m')), .r (.slice a4 (wl (m % m')).length c4) (wl (m % m')), .r (.slice a2 (wl m').length c2) (wl m'), .r (.slice a1 (wl m).length c1) (wl m)]) (ws := wl (m' - m % m')) en_r02_sub rfl (fun W hW hok => rsub_any _ _ _ _ _ _ _ _ ar.1 (by omega) (by omega) W (hok (.r (.slice a7 (wl m').length c7) (wl m')) (by simp)).1 (hok (.r (.slice a4 (wl (m % m')).length c4) (wl (m % m'))) (by simp)).1) fun a8 c8 hs8 hn8 => ?_
      clear hs8 hn8
      repeat' (first | simp (disch := omega) only [sxE, r02_DivMod.E, Nat.reduceAdd, Nat.reduceEqDiff, Nat.reduceMul, Nat.reduceSub, Int.reduceAdd, Int.reduceSub, Int.reduceMul, Int.reduceNeg, Int.reduceLT, Int.reduceLE, Int.reduceEq, Int.reduceToNat, ↓reduceIte, Int.reducePow, Nat.reduceLeDiff, Nat.reduceLT, ne_eq, eq_self, List.length_cons, List.length_nil])
      refine ask_wide rfl rfl (t := m / m' + 1) (by simp) aq1.1 (by rw [e4, decide_eq_true hz]; rfl) q1 ?_
      repeat' (first | simp (disch := omega) only [sxE, r02_DivMod.E, Nat.reduceAdd, Nat.reduceEqDiff, Nat.reduceMul, Nat.reduceSub, Int.reduceAdd, Int.reduceSub, Int.reduceMul, Int.reduceNeg, Int.reduceLT, Int.reduceLE, Int.reduceEq, Int.reduceToNat, ↓reduceIte, Int.reducePow, Nat.reduceLeDiff, Nat.reduceLT, ne_eq, eq_self, List.length_cons, List.length_nil])
      refine ask_wide rfl rfl (t := m' - m % m') (by simp) asx.1 hR0 q2 ?_
      repeat' (first | simp (disch := omega) only [sxE, r02_DivMod.E, Nat.reduceAdd, Nat.reduceEqDiff, Nat.reduceMul, Nat.reduceSub, Int.reduceAdd, Int.reduceSub, Int.reduceMul, Int.reduceNeg, Int.reduceLT, Int.reduceLE, Int.reduceEq, Int.reduceToNat, ↓reduceIte, Int.reducePow, Nat.reduceLeDiff, Nat.reduceLT, ne_eq, eq_self, List.length_cons, List.length_nil])
def unb (z : Int) : Bool := decide (0 ≤ z ∧ z < 18446744073709551616)
def unv (z : Int) : Int := if unb z then z else 0
theorem ab_of_sv {n : Bool} {m z : Int} (h : ab z = m) : (decide (z < 0) = true → z = -m) ∧ (decide (z < 0) = false → z = m) := by
  unfold ab at h
  constructor
  · intro h2; rw [if_pos (of_decide_eq_true h2)] at h; omega
  · intro h2; rw [if_neg (of_decide_eq_false h2)] at h; exact h
theorem rg_unsigned {v : Value} {z : Int} (h : IsW v z) (W : World) : Gives Tryd.prog 54 [v] W (· = .tuple #[.int .u64 (unv z), .bool (unb z)]) := by
  obtain ⟨n, m, rfl, am, hab, hz, hn⟩ := h.me
  refine gives_known en_r02_Unsigned ?_
  have p1 : cn n (lb0 m) (lb1 m) (lb2 m) (lb3 m) = decide (z < 0) := hn
  obtain ⟨k1, k2⟩ := ab_of_sv (n := n) hab
  have hl : ¬ 1 < ((wl m).length : Int) ↔ m < 18446744073709551616 := by
    have := wl_len_lt am.1 1
    have e : ((18446744073709551616 : Int) ^ 1) = 18446744073709551616 := by decide
    have e2 : (pw 1 : Int) = 18446744073709551616 := rfl
    rw [e2] at this
    omega
  clear h hn hz hab
  refine known_of (enter Tryd.func54 r02_Unsigned.ok (args := [WV n (lb0 m) (lb1 m) (lb2 m) (lb3 m)]) (by simp) ?_)
  repeat' (first | simp (disch := omega) only [sxE, r02_Unsigned.E, Nat.reduceAdd, Nat.reduceEqDiff, Nat.reduceMul, Nat.reduceSub, Int.reduceAdd, Int.reduceSub, Int.reduceMul, Int.reduceNeg, Int.reduceLT, Int.reduceLE, Int.reduceEq, Int.reduceToNat, ↓reduceIte, Int.reducePow, Nat.reduceLeDiff, Nat.reduceLT, ne_eq, eq_self, List.length_cons, List.length_nil, p1] | (with_reducible refine Sx.call_at (f := 45) (fun W hW => rg_clean _ (lb0_in _) (lb1_in _) (lb2_in _) (lb3_in _) W) ?_))
  refine asks_r (L := []) (ws := wl m) en_r02_of (kX_nil _) (fun W hW _ => of_mag am W) fun a1 c1 hs1 hn1 => ?_
  clear hs1 hn1
  by_cases hneg : z < 0
  · have u1 : unb z = false := decide_eq_false (by omega)
    have u2 : unv z = 0 := by unfold unv; rw [u1]; rfl
    rw [u1, u2, decide_eq_true hneg]
    repeat' (first | simp (disch := omega) only [sxE, r02_Unsigned.E, Nat.reduceAdd, Nat.reduceEqDiff, Nat.reduceMul, Nat.reduceSub, Int.reduceAdd, Int.reduceSub, Int.reduceMul, Int.reduceNeg, Int.reduceLT, Int.reduceLE, Int.reduceEq, Int.reduceToNat, ↓reduceIte, Int.reducePow, Nat.reduceLeDiff, Nat.reduceLT, ne_eq, eq_self, List.length_cons, List.length_nil])
  · have hzm := k2 (decide_eq_false hneg)
    rw [decide_eq_false hneg]
    by_cases hlt : m < 18446744073709551616
    · have u1 : unb z = true := decide_eq_true (by have := am.1; omega)
      have u2 : unv z = m := by unfold unv; rw [u1]; exact hzm
      have u3 : lb0 m = m := Int.emod_eq_of_lt am.1 hlt
      have u4 := hl.2 hlt
      rw [u1, u2, u3]
      clear hl k1 k2 u1 u2 u3 p1 hneg hzm
      repeat' (first | simp (disch := omega) only [sxE, r02_Unsigned.E, Nat.reduceAdd, Nat.reduceEqDiff, Nat.reduceMul, Nat.reduceSub, Int.reduceAdd, Int.reduceSub, Int.reduceMul, Int.reduceNeg, Int.reduceLT, Int.reduceLE, Int.reduceEq, Int.reduceToNat, ↓reduceIte, Int.reducePow, Nat.reduceLeDiff, Nat.reduceLT, ne_eq, eq_self, List.length_cons, List.length_nil])
    · have u1 : unb z = false := decide_eq_false (by omega)
      have u2 : unv z = 0 := by unfold unv; rw [u1]; rfl
      have u4 : 1 < ((wl m).length : Int) := by omega
      rw [u1, u2]
      clear hl k1 k2 u1 u2 p1 hneg hzm
      repeat' (first | simp (disch := omega) only [sxE, r02_Unsigned.E, Nat.reduceAdd, Nat.reduceEqDiff, Nat.reduceMul, Nat.reduceSub, Int.reduceAdd, Int.reduceSub, Int.reduceMul, Int.reduceNeg, Int.reduceLT, Int.reduceLE, Int.reduceEq, Int.reduceToNat, ↓reduceIte, Int.reducePow, Nat.reduceLeDiff, Nat.reduceLT, ne_eq, eq_self, List.length_cons, List.length_nil])
end Go.Proofs.YtiiflgfnbgencaaDoor

/- Hg: What calls of wide and of its reference give, on integers as atoms. -/
namespace Go.Proofs.YtiiflgfnbgencaaDoor
open Go Go.RowKit Sx
set_option linter.unusedVariables false
set_option linter.unusedSimpArgs false
theorem Fits.is {z : Int} (h : Fits z) : IsW (WX z) z := IsW.x h
theorem nz_is : IsW NZ 0 := ⟨true, 0, 0, 0, 0, rfl, rfl, ⟨by decide, by decide⟩, ⟨by decide, by decide⟩, ⟨by decide, by decide⟩, ⟨by decide, by decide⟩⟩
/-- A raw Wide: the Wide of an integer, or the negative 0. -/
theorem raw_cases (n : Bool) {a b c d : Int} (ha : U64 a) (hb : U64 b) (hc : U64 c) (hd : U64 d) : (∃ z, Fits z ∧ WV n a b c d = WX z) ∨ WV n a b c d = NZ := by
  by_cases h : (n && mz a b c d) = true
  · right
    rw [Bool.and_eq_true] at h
    obtain ⟨rfl, h2⟩ := h
    have hw : a = 0 ∧ b = 0 ∧ c = 0 ∧ d = 0 := by simpa [mz, meq] using h2
    obtain ⟨rfl, rfl, rfl, rfl⟩ := hw
    rfl
  · left
    refine ⟨wv n a b c d, ?_, ?_⟩
    · unfold Fits; rw [ab_wv ha hb hc hd]; exact up4_mv ha hb hc hd
    · have : cn n a b c d = n := by unfold cn; cases n <;> cases h2 : mz a b c d <;> simp_all
      have e := we_wv (n := n) ha hb hc hd
      rw [this] at e
      exact e
theorem valid_wx {z : Int} (h : Fits z) : (!sg z || !mz (lb0 (ab z)) (lb1 (ab z)) (lb2 (ab z)) (lb3 (ab z))) = true := by
  have a4 : A4 (ab z) := ⟨ab_nonneg z, (fits_lt z).1 h⟩
  rw [mz_me a4]
  unfold sg ab
  by_cases hz : z < 0
  · rw [decide_eq_true hz, if_pos hz, decide_eq_false (by omega)]; rfl
  · rw [decide_eq_false hz]; rfl
theorem tup2 {a b c d : Value} (h : a = c) (h' : b = d) : Value.tuple #[a, b] = Value.tuple #[c, d] := by rw [h, h']
theorem tup3 {a b c a' b' c' : Value} (h : a = a') (h1 : b = b') (h2 : c = c') : Value.tuple #[a, b, c] = Value.tuple #[a', b', c'] := by rw [h, h1, h2]
theorem gives_eq {P : Program} {f : FuncId} {l : List Value} {W : World} {u v : Value} (h : Gives P f l W (· = u)) (e : u = v) : Gives P f l W (· = v) := by subst e; exact h
theorem gx_valid {z : Int} (h : Fits z) (W : World) : Gives Tryd.prog 38 [WX z] W (· = .bool true) := gives_eq (g_valid _ _ _ _ _ W) (congrArg Value.bool (valid_wx h))
theorem gx_valid0 (W : World) : Gives Tryd.prog 38 [NZ] W (· = .bool false) := g_valid true 0 0 0 0 W
theorem rx_valid {z : Int} (h : Fits z) (W : World) : Gives Tryd.prog 55 [WX z] W (· = .bool true) := gives_eq (rg_valid _ (lb0_in _) (lb1_in _) (lb2_in _) (lb3_in _) W) (congrArg Value.bool (valid_wx h))
theorem rx_valid0 (W : World) : Gives Tryd.prog 55 [NZ] W (· = .bool false) := rg_valid true ⟨by decide, by decide⟩ ⟨by decide, by decide⟩ ⟨by decide, by decide⟩ ⟨by decide, by decide⟩ W
theorem gx_mul {x y : Int} (h : Fits x) (h' : Fits y) (hf : Fits (x * y)) (W : World) : Gives Tryd.prog 12 [WX x, WX y] W (· = .tuple #[WX (x * y), .bool true]) := gives_eq (g_mul h.is h'.is W) (tup2 (by rw [cl_fit hf]; rfl) (by rw [fb_fit hf]))
theorem gx_sign {x : Int} (h : Fits x) (W : World) : Gives Tryd.prog 21 [WX x] W (· = .int .i64 (cm x 0)) := g_sign h.is W
theorem gx_of {x : Int} (h : I64 x) (W : World) : Gives Tryd.prog 15 [.int .i64 x] W (· = WX x) := g_of h W
theorem gx_ofU {x : Int} (h : U64 x) (W : World) : Gives Tryd.prog 17 [.int .u64 x] W (· = WX x) := g_ofU h W
theorem gx_compare {x y : Int} (h : Fits x) (h' : Fits y) (W : World) : Gives Tryd.prog 22 [WX x, WX y] W (· = .int .i64 (cm x y)) := g_compare h.is h'.is W
theorem gx_divmod {x y : Int} (h : Fits x) (h' : Fits y) (hy : y ≠ 0) (W : World) : Gives Tryd.prog 20 [WX x, WX y] W (· = .tuple #[WX (x / y), WX (x % y), .bool true]) := gives_eq (g_divmod h.is h'.is W) (tup3 rfl (by unfold dr; rw [if_neg hy]; rfl) (by rw [decide_eq_true hy]))
theorem rx_neg {x : Int} (h : Fits x) (W : World) : Gives Tryd.prog 31 [WX x] W (· = WX (-x)) := rg_neg h.is W
theorem rx_of {x : Int} (h : I64 x) (W : World) : Gives Tryd.prog 18 [.int .i64 x] W (· = WX x) := rg_Of h W
theorem rx_ofU {x : Int} (h : U64 x) (W : World) : Gives Tryd.prog 19 [.int .u64 x] W (· = WX x) := rg_OfU h W
theorem we_inj {x y : Int} (h : Fits x) (h' : Fits y) : weq (sg x) (lb0 (ab x)) (lb1 (ab x)) (lb2 (ab x)) (lb3 (ab x)) (sg y) (lb0 (ab y)) (lb1 (ab y)) (lb2 (ab y)) (lb3 (ab y)) = decide (x = y) := by
  rw [Bool.eq_iff_iff, decide_eq_true_iff]
  constructor
  · intro e
    have e' : sg x = sg y ∧ lb0 (ab x) = lb0 (ab y) ∧ lb1 (ab x) = lb1 (ab y) ∧ lb2 (ab x) = lb2 (ab y) ∧ lb3 (ab x) = lb3 (ab y) := by simpa [weq, meq] using e
    obtain ⟨e0, e1, e2, e3, e4⟩ := e'
    have m1 := mv_me (z := ab x) ⟨ab_nonneg x, (fits_lt x).1 h⟩
    have m2 := mv_me (z := ab y) ⟨ab_nonneg y, (fits_lt y).1 h'⟩
    rw [e1, e2, e3, e4, m2] at m1
    unfold sg at e0
    have e0' : (x < 0) ↔ (y < 0) := by simpa using e0
    unfold ab at m1
    (repeat' (split at m1)) <;> omega
  · rintro rfl
    unfold weq meq; simp
theorem eqx_run {ng : Bool} {xo yo : Operand} {x y : Int} (h : Fits x) (h' : Fits y) (W : World) :
    ((do eqGuard (if ng then .neq else .eql) 28 xo yo (WX x) (WX y); binOp (if ng then .neq else .eql) 28 (WX x) (WX y)) : Sem Value).run Tryd.prog W = .ok (.bool (if ng then !decide (x = y) else decide (x = y))) W := by
  have := eqw_run (ng := ng) (xo := xo) (yo := yo) (sg x) (lb0 (ab x)) (lb1 (ab x)) (lb2 (ab x)) (lb3 (ab x)) (sg y) (lb0 (ab y)) (lb1 (ab y)) (lb2 (ab y)) (lb3 (ab y)) W
  rw [we_inj h h'] at this
  exact this
/-- A raw Wide that counts as z; b: it is valid. -/
def RW (v : Value) (b : Bool) (z : Int) : Prop := (b = true ∧ v = WX z ∧ Fits z) ∨ (b = false ∧ v = NZ ∧ z = 0)
theorem RW.five {v : Value} {b : Bool} {z : Int} (h : RW v b z) : ∃ c0 c1 c2 c3 c4, v = .agg #[c0, c1, c2, c3, c4] := by
  rcases h with ⟨-, rfl, -⟩ | ⟨-, rfl, -⟩ <;> exact ⟨_, _, _, _, _, rfl⟩
theorem RW.is {v : Value} {b : Bool} {z : Int} (h : RW v b z) : IsW v z := by
  rcases h with ⟨-, rfl, h⟩ | ⟨-, rfl, rfl⟩
  · exact h.is
  · exact nz_is
theorem RW.fits {v : Value} {b : Bool} {z : Int} (h : RW v b z) : Fits z := by
  rcases h with ⟨-, rfl, h⟩ | ⟨-, rfl, rfl⟩
  · exact h
  · exact fits_zero
theorem Fits.rw {z : Int} (h : Fits z) : RW (WX z) true z := .inl ⟨rfl, rfl, h⟩
theorem rw_raw (n : Bool) {a b c d : Int} (ha : U64 a) (hb : U64 b) (hc : U64 c) (hd : U64 d) : ∃ t z, RW (WV n a b c d) t z := by
  rcases raw_cases n ha hb hc hd with ⟨z, hz, e⟩ | e
  · exact ⟨true, z, by rw [e]; exact hz.rw⟩
  · exact ⟨false, 0, .inr ⟨rfl, e, rfl⟩⟩
theorem gy_valid {v : Value} {b : Bool} {z : Int} (h : RW v b z) (W : World) : Gives Tryd.prog 38 [v] W (· = .bool b) := by
  rcases h with ⟨rfl, rfl, h⟩ | ⟨rfl, rfl, rfl⟩
  · exact gx_valid h W
  · exact gx_valid0 W
theorem ry_valid {v : Value} {b : Bool} {z : Int} (h : RW v b z) (W : World) : Gives Tryd.prog 55 [v] W (· = .bool b) := by
  rcases h with ⟨rfl, rfl, h⟩ | ⟨rfl, rfl, rfl⟩
  · exact rx_valid h W
  · exact rx_valid0 W
end Go.Proofs.YtiiflgfnbgencaaDoor

/- Tp: A symbolic run: calls that move a tape. -/
namespace Go.Proofs.YtiiflgfnbgencaaDoor
open Go Go.RowKit Sx
set_option linter.unusedVariables false
set_option linter.unusedSimpArgs false
namespace Sx
variable {C : Cx} {S : St} {K : St → Prop} {d : Option Nat}
/-- What is known of a tape in the caller's world w: it is a tape, and nothing else of w has turned. -/
def hK (w : World) (tb B Bm : Nat) : KnG where
  bs := List.range' tb (w.heap.size - tb)
  ok n W := n = tb ∧ (tb < w.heap.size ∧ B ≤ w.heap.size) ∧ TapeOk B Bm W tb ∧ w.heap.size ≤ W.heap.size ∧ ∀ i, i < w.heap.size → i ≠ tb → W.heap[i]? = w.heap[i]?
  lt := fun {n W} h b hb => by
    obtain ⟨h0, ⟨h1, h1b⟩, h2, h3, -⟩ := h
    rw [List.mem_range'] at hb
    obtain ⟨i, hi, rfl⟩ := hb
    omega
  keep := fun {n W W'} h hs hb ho => by
    obtain ⟨h0, ⟨hw, hB⟩, ⟨a, len, cap, k, h1, h2, h3, h4, h5, h6, h7, h8⟩, hsz, hg⟩ := h
    have all : ∀ i, i < w.heap.size → W'.heap[i]? = W.heap[i]? := fun i hi => by
      rcases Nat.lt_or_ge i tb with h | h
      · exact ho i (by omega) (by omega)
      · exact hb i (List.mem_range'.2 ⟨i - tb, by omega, by omega⟩)
    have ht := all tb hw
    refine ⟨h0, ⟨hw, hB⟩, ⟨a, len, cap, k, h1, Nat.le_trans h2 hs, (World.cell?_of_block (a := ⟨tb, 0, none⟩) ht).trans h3, (World.cell?_of_block (a := ⟨tb, 1, none⟩) ht).trans h4, (World.frozen?_of_block (a := ⟨tb, 1, none⟩) ht).trans h5, h6, h7, fun hl => ?_⟩, Nat.le_trans hsz hs, fun i hi hn => (all i hi).trans (hg i hi hn)⟩
    obtain ⟨bb, off, e, hne, hlt, hlm, hc⟩ := h8 hl
    refine ⟨bb, off, e, hne, hlt, hlm, fun i hi => ?_⟩
    obtain ⟨x, hx, hix⟩ := hc i hi
    exact ⟨x, (World.cell?_of_block (a := ⟨bb, off + i, none⟩) (all bb (by omega))).trans hx, hix⟩
/-- It tells of the tape in block tb, and goes on behind calls that move it. -/
structure TpK (k : KnG) (n tb B Bm : Nat) : Prop where
  tape : ∀ {W}, k.ok n W → TapeOk B Bm W tb
  go : ∀ {W W'}, k.ok n W → TapeOk B Bm W' tb → W.grownBy W' (some tb) → k.ok n W'
  ge : ∀ {W}, k.ok n W → n ≤ tb
  mem : ∀ {W}, k.ok n W → tb ∈ k.bs
theorem tpk_t (n tb : Nat) : TpK (tK tb) n tb (tb + 1) n where
  tape h := h.2
  go h ht hg := ⟨h.1, ht⟩
  ge h := h.1
  mem h := List.mem_singleton.2 rfl
theorem tpk_h (w : World) (tb B Bm : Nat) : TpK (hK w tb B Bm) tb tb B Bm where
  tape h := h.2.2.1
  go h ht hg := ⟨h.1, h.2.1, ht, Nat.le_trans h.2.2.2.1 hg.size, fun i hi hn => (hg.block i (Nat.lt_of_lt_of_le hi h.2.2.2.1) (fun e => hn (Option.some.inj e))).trans (h.2.2.2.2 i hi hn)⟩
  ge h := Nat.le_of_eq h.1
  mem h := List.mem_range'.2 ⟨0, by have := h.2.1; omega, by omega⟩
/-- A call that moves the tape and nothing else that is known. -/
theorem asks_tp {f : FuncId} {l : List Value} {L : List Kn} {ι : Type} {P : ι → Prop} {k : KnG} {tb B Bm : Nat} (v : ι → Value) (hk : TpK k C.w0.heap.size tb B Bm) (he : ∀ (l : Array Value) W, (callFunc f l).run C.P W = .ok (.enter f l) W) (hT : S.T = kX C.w0.heap.size L) (hm : .g k ∈ L) (hmv : C.mv S = S.T.bs)
    (hL : ∀ j ∈ L, j = .g k ∨ tb ∉ j.bs)
    (h : ∀ W, TapeOk B Bm W tb → Calls C.P f l.toArray W fun e w' => ∃ i, P i ∧ e = .returned (v i) ∧ TapeOk B Bm w' tb ∧ W.grownBy w' (some tb))
    (hK : ∀ i, P i → K (St.put S d (.v (v i)))) : asks C f l d K S := by
  refine asks_T (ι := {i // P i}) (fun i => v i.1) (fun _ => S.T) (fun W hW hok hbs => givesT_calls he (fun i => by rw [hT]; exact kX_stab C L) ?_) (fun i => hK i.1 i.2)
  rw [hT] at hok
  have ho : k.ok C.w0.heap.size W := hok _ hm
  refine (h W (hk.tape ho)).mono fun e w' ⟨i, hi, he, h1, h2⟩ => ⟨⟨i, hi⟩, he, ⟨h2.os, h2.tape, h2.output, h2.size, fun j hj hn => h2.block j hj fun e => hn (by cases e; rw [hmv, hT]; exact kX_bs.2 ⟨_, hm, hk.mem ho⟩)⟩, ?_, fun b hb => ⟨.inl hb, ?_⟩⟩
  · rw [hT]
    intro j hj
    rcases hL j hj with rfl | hb
    · exact hk.go ho h1 h2
    · refine (hok j hj).keep h2.size (fun b hbb => h2.block b ((hok j hj).lt b hbb).2 fun e => hb (by cases e; exact hbb)) fun b hbn hbl => h2.block b hbl fun e => ?_
      have := hk.ge ho
      have e2 : b = tb := Option.some.inj e
      omega
  · rw [hT] at hb
    exact Nat.lt_of_lt_of_le (kX_lt hok b hb).2 h2.size
/-- The start of a function that is given a tape. -/
theorem hK_start {w : World} {tb B Bm : Nat} (h : TapeOk B Bm w tb) : (kX (cut w tb).heap.size [.g (hK w tb B Bm)]).ok w ∧ ∀ b ∈ (kX (cut w tb).heap.size [.g (hK w tb B Bm)]).bs, (cut w tb).heap.size ≤ b ∧ b < w.heap.size := by
  have hc := cut_size (Nat.le_of_lt h.lt)
  have h1 : (kX (cut w tb).heap.size [.g (hK w tb B Bm)]).ok w := fun k hk => by
    rw [List.mem_singleton.1 hk]
    exact ⟨hc, ⟨h.lt, h.leB⟩, h, Nat.le_refl _, fun _ _ _ => rfl⟩
  exact ⟨h1, kX_lt h1⟩
theorem hK_end {w w' : World} {tb B Bm : Nat} {L : List Kn} (h : (kX (cut w tb).heap.size L).ok w') (hm : .g (hK w tb B Bm) ∈ L) (hb : Below (cut w tb).heap.size (cut w tb) w') : TapeOk B Bm w' tb ∧ w.grownBy w' (some tb) := by
  have hk : (hK w tb B Bm).ok (cut w tb).heap.size w' := h _ hm
  exact ⟨hk.2.2.1, hb.os, hb.tape, hb.output, hk.2.2.2.1, fun i hi hn => hk.2.2.2.2 i hi fun e => hn (by rw [e])⟩
theorem tpk_h' {w : World} {tb B Bm : Nat} (h : TapeOk B Bm w tb) : TpK (hK w tb B Bm) (cut w tb).heap.size tb B Bm := by
  rw [cut_size (Nat.le_of_lt h.lt)]; exact tpk_h w tb B Bm
end Sx
/-- What a call that moves the tape in block tb gives. -/
def TpC (f : FuncId) (l : List Value) (tb : Nat) {ι : Type} (P : ι → Prop) (v : ι → Value) : Prop := ∀ {B Bm : Nat} (W : World), TapeOk B Bm W tb → Calls Tryd.prog f l.toArray W fun e w' => ∃ i, P i ∧ e = .returned (v i) ∧ TapeOk B Bm w' tb ∧ W.grownBy w' (some tb)
theorem t_next (tb : Nat) {n : Int} (h1 : 1 ≤ n) (h2 : n ≤ 1000000) : TpC 27 [.pointer (some ⟨tb, 0, none⟩), .int .i64 n] tb (fun r : Int => 0 ≤ r ∧ r < n) (fun r => .int .i64 r) :=
  fun W h => (next_in tb n h1 h2 W h).mono fun e w' ⟨r, a, b, c, d⟩ => ⟨r, a, b, c, d⟩
theorem t_bool (tb : Nat) {n : Int} (h1 : 2 ≤ n) (h2 : n ≤ 1000) : TpC 29 [.pointer (some ⟨tb, 0, none⟩), .int .i64 n] tb (fun _ : Bool => True) (fun r => .bool r) :=
  fun W h => (bool_any tb n h1 h2 W h).mono fun e w' ⟨r, b, c, d⟩ => ⟨r, trivial, b, c, d⟩
theorem t_word (tb : Nat) : TpC 28 [.pointer (some ⟨tb, 0, none⟩)] tb U64 (fun r => .int .u64 r) :=
  fun W h => (word_any tb W h).mono fun e w' ⟨r, a, b, c, d⟩ => ⟨r, a, b, c, d⟩
theorem t_int (tb : Nat) : TpC 30 [.pointer (some ⟨tb, 0, none⟩)] tb I64 (fun r => .int .i64 r) :=
  fun W h => (int_any tb W h).mono fun e w' ⟨r, a, b, c, d⟩ => ⟨r, a, b, c, d⟩
/-- A raw Wide by its cells. -/
structure RC where
  c0 : Value
  c1 : Value
  c2 : Value
  c3 : Value
  c4 : Value
def RC.v (c : RC) : Value := .agg #[c.c0, c.c1, c.c2, c.c3, c.c4]
theorem t_wide (tb : Nat) : TpC 10 [.pointer (some ⟨tb, 0, none⟩)] tb (fun c : RC => ∃ t z, RW (.agg #[c.c0, c.c1, c.c2, c.c3, c.c4]) t z) (fun c => .agg #[c.c0, c.c1, c.c2, c.c3, c.c4]) :=
  fun W h => (twide_any tb W h).mono fun e w' ⟨n, a, b, c, d, ha, hb, hc, hd, he, h1, h2⟩ => ⟨⟨.bool n, .int .u64 a, .int .u64 b, .int .u64 c, .int .u64 d⟩, rw_raw n ha hb hc hd, he, h1, h2⟩
theorem asks_tc {C : Cx} {S : St} {K : St → Prop} {d : Option Nat} {f : FuncId} {l : List Value} {L : List Kn} {ι : Type} {P : ι → Prop} {v : ι → Value} {k : KnG} {tb B Bm : Nat} (hP : C.P = Tryd.prog) (hk : TpK k C.w0.heap.size tb B Bm) (h : TpC f l tb P v) (he : ∀ (l : Array Value) W, (callFunc f l).run Tryd.prog W = .ok (.enter f l) W) (hT : S.T = kX C.w0.heap.size L) (hm : .g k ∈ L) (hmv : C.mv S = S.T.bs)
    (hL : ∀ j ∈ L, j = .g k ∨ tb ∉ j.bs) (hK : ∀ i, P i → K (St.put S d (.v (v i)))) : asks C f l d K S :=
  asks_tp v hk (by rw [hP]; exact he) hT hm hmv hL (fun W hW => by rw [hP]; exact h W hW) hK
end Go.Proofs.YtiiflgfnbgencaaDoor

/- Ck: A symbolic run: blocks of the call's own that are known cell by cell. -/
namespace Go.Proofs.YtiiflgfnbgencaaDoor
open Go Go.RowKit Sx
set_option linter.unusedVariables false
set_option linter.unusedSimpArgs false
namespace Sx
variable {C : Cx} {S : St} {K : St → Prop} {d : Option Nat}
/-- Block b holds these cells. -/
def cK (b : Nat) (cs : List Value) : KnG where
  bs := [b]
  ok n W := n ≤ b ∧ HB W b cs.toArray
  lt := fun {n W} h c hc => by
    rw [List.mem_singleton.1 hc]
    exact ⟨h.1, h.2.lt⟩
  keep := fun {n W W'} h hs hb ho => by
    obtain ⟨T, hT⟩ := h.2
    exact ⟨h.1, T, (hb b (List.mem_singleton.2 rfl)).trans hT⟩
theorem cK_cell {b : Nat} {cs : List Value} {n : Nat} {W : World} (h : (cK b cs).ok n W) {i : Nat} {v : Value} (hv : cs[i]? = some v) : W.cell? ⟨b, i, none⟩ = some v := by
  have hc := (Bx.of h.2).2.1 i
  rw [hc]
  simpa using hv
/-- An operation that makes a block. -/
theorem genA_c {q : GK} {l : List Value} {L : List Kn} {cs : List Value} {T : TypeId} (v : Nat → Value) (hT : S.T = kX C.w0.heap.size L)
    (h : ∀ W, (genRun q l).run C.P W = .ok (.value (v W.heap.size)) (W.alloc (.cells cs.toArray T (0, 0))))
    (hk : ∀ b, b ∉ S.T.bs → K (St.put ⟨S.n, S.E, S.H, kX C.w0.heap.size (.g (cK b cs) :: L)⟩ d (.v (v b)))) : genA C q l d K S := by
  refine genA_T (ι := {x : Nat // x ∉ S.T.bs}) (fun x => v x.1) (fun x => kX C.w0.heap.size (.g (cK x.1 cs) :: L)) (fun W hW hok hbs => ⟨?_⟩) (fun x => hk _ x.2)
  rw [hT] at hok
  rw [h W]
  have hb : Below W.heap.size W (W.alloc (.cells cs.toArray T (0, 0))) := (Below.refl _ _).alloc (Nat.le_refl _) _
  have hc : (cK W.heap.size cs).ok C.w0.heap.size (W.alloc (.cells cs.toArray T (0, 0))) := ⟨hW.size, HB.new W _ T rfl⟩
  refine ⟨⟨W.heap.size, fun hT2 => by have := (hbs _ hT2).2; omega⟩, rfl, ⟨hb.os, hb.tape, hb.output, hb.size, fun i hi _ => hb.block i hi⟩, ?_, kX_stab C _, ?_⟩
  · intro k hk
    rcases List.mem_cons.1 hk with rfl | hk
    · exact hc
    · exact (hok k hk).below hb
  · intro b hbb
    obtain ⟨k, hk, hbb⟩ := kX_bs.1 hbb
    rcases List.mem_cons.1 hk with rfl | hk
    · have : b = W.heap.size := List.mem_singleton.1 hbb
      subst this
      exact ⟨.inr (Nat.le_refl _), hc.2.lt⟩
    · exact ⟨.inl (by rw [hT]; exact kX_bs.2 ⟨k, hk, hbb⟩), Nat.lt_of_lt_of_le ((hok k hk).lt b hbb).2 hb.size⟩
/-- Cells of such a block are read. -/
theorem ldP_c {L : List Kn} {b o m : Nat} {g : Bool} {cs l : List Value} (hT : (C.kn S).T = kX C.w0.heap.size L) (hm : .g (cK b cs) ∈ L) (hl : l.length = m) (hs : ∀ j v, l[j]? = some v → cs[o + j]? = some v) (hk : K (S.put d (.v (mk g l)))) : ldP C g m ⟨b, o, none⟩ d K S :=
  ldP_ext l hl (fun W hW hok j v hj => by
    rw [hT] at hok
    have ho : (cK b cs).ok C.w0.heap.size W := hok _ hm
    rw [Addr.add_lit]
    exact cK_cell ho (hs j v hj)) hk
end Sx
end Go.Proofs.YtiiflgfnbgencaaDoor

/- Wk: A symbolic run: rows of the call's own that grow by append. -/
namespace Go.Proofs.YtiiflgfnbgencaaDoor
open Go Go.RowKit Sx
set_option linter.unusedVariables false
set_option linter.unusedSimpArgs false
theorem append_own {P : Program} {W : World} (base : Nat) (t ty e : TypeId) (i : TypeInfo) (z : Value) (size bytes : Nat) (ht : P.underlying t = some (.slice e)) (hi : P.info? e = some i) (hz : i.zero = some z)
    (hsize : i.size = size) (hby : i.bytes = bytes) (hzs : z.cells.size = size) (hsz : 0 < size) (v : Value) (n : Nat) (xs : List Value) (hown : W.ownsRow base e size v n xs)
    (b m c : Nat) (news : List Value) (hl : news.length = m * size) (hm : 0 < m) (hnews : ∀ (j : Nat) u, news[j]? = some u → W.cell? ⟨b, j, none⟩ = some u) (h1 : ∀ u ∈ news, u.oneCell' = true)
    (h63 : n + m ≤ maxLen) (hbytes : (n + m) * bytes ≤ 140737488355328) (hbase : base ≤ W.heap.size) :
    ∃ g cap w', (Builtin.append_ #[t, t] ty #[v, .slice (some ⟨b, 0, none⟩) m c]).run P W = .ok (.slice (some ⟨g, 0, none⟩) (n + m) cap) w' ∧ w'.ownsRow base e size (.slice (some ⟨g, 0, none⟩) (n + m) cap) (n + m) (xs ++ news) ∧ W.grownBy w' v.ownBlock ∧ (v.ownBlock = some g ∨ W.heap.size ≤ g) := by
  have hadd : ∀ (j : Nat) u, news[j]? = some u → W.cell? ((⟨b, 0, none⟩ : Addr).add j) = some u := fun j u hj => by
    have : (⟨b, 0, none⟩ : Addr).add j = ⟨b, j, none⟩ := by rw [Addr.add_lit, Nat.zero_add]
    rw [this]
    exact hnews j u hj
  obtain ⟨v', w', hr, ho, hg, -⟩ := run_append_own (P := P) (w := W) base t ty e i z size bytes ht hi hz hsize hby hzs hsz v n xs hown ⟨b, 0, none⟩ m c news hl hadd h1 h63 hbytes hbase
  have key : ∃ g cap, v' = .slice (some ⟨g, 0, none⟩) (n + m) cap ∧ (v.ownBlock = some g ∨ W.heap.size ≤ g) := by
    subst hsize; subst hby
    rcases hown.2 with ⟨rfl, rfl⟩ | ⟨g, cap, cur, rfl, hbg, hg2, hnc, hcm, hcs, htake⟩
    · have := run_append_nil (P := P) W t ty e i z ht hi hz ⟨b, 0, none⟩ m c news hl hadd hm (by simp only [maxLen] at h63; omega) (by rw [Nat.zero_add] at hbytes; omega)
      rw [hr] at this
      cases this
      exact ⟨_, _, by rw [Nat.zero_add], .inr (Nat.le_refl _)⟩
    · by_cases hroom : n + m ≤ cap
      · have hfit : n * i.size + news.length ≤ cur.size := by rw [hl, hcs, ← Nat.add_mul]; exact Nat.mul_le_mul_right _ hroom
        have := run_append_room (P := P) W t ty e i ht hi g n cap cur hg2 ⟨b, 0, none⟩ m c news hl hadd h1 hroom hfit
        rw [hr] at this
        cases this
        exact ⟨_, _, rfl, .inl rfl⟩
      · have holds : ∀ j u, xs[j]? = some u → W.cell? ((⟨g, 0, none⟩ : Addr).add j) = some u := hown.cells (g := g) rfl
        have := run_append_grow (P := P) W t ty e i z ht hi hz ⟨g, 0, none⟩ n cap xs hown.1 holds ⟨b, 0, none⟩ m c news hl hadd (by omega) (by simp only [maxLen] at h63; omega) (growslice_fits (by omega) hbytes)
        rw [hr] at this
        cases this
        exact ⟨_, _, rfl, .inr (Nat.le_refl _)⟩
  obtain ⟨g, cap, rfl, hgg⟩ := key
  exact ⟨g, cap, w', hr, ho, hg, hgg⟩
namespace Sx
variable {C : Cx} {S : St} {K : St → Prop} {d : Option Nat}
/-- v is a row of the call's own: n elements of the type e, with these cells. -/
def wK (e : TypeId) (s : Nat) (v : Value) (n : Nat) (xs : List Value) : KnG where
  bs := v.ownBlock.toList
  ok m W := W.ownsRow m e s v n xs
  lt := fun {m W} h b hb => h.lt b (by simpa using hb)
  keep := fun {m W W'} h hs hb ho => by
    refine ⟨h.1, ?_⟩
    rcases h.2 with hn | ⟨g, cap, cur, rfl, hbg, hg, hnc, hcm, hcs, htake⟩
    · exact .inl hn
    · exact .inr ⟨g, cap, cur, rfl, hbg, (hb g (by simp [Value.ownBlock])).trans hg, hnc, hcm, hcs, htake⟩
/-- append, of a new literal's elements. -/
theorem genA_grow {P : Program} (hP : C.P = P) {L : List Kn} (L' : Nat → Nat → List Kn) {t e : TypeId} {i : TypeInfo} {z : Value} {size bytes : Nat} {v : Value} {n : Nat} {xs : List Value} {b m c : Nat} {news : List Value} {cs : List Bool}
    (ht : P.underlying t = some (.slice e)) (hi : P.info? e = some i) (hz : i.zero = some z) (hsize : i.size = size) (hby : i.bytes = bytes) (hzs : z.cells.size = size) (hsz : 0 < size)
    (hT : S.T = kX C.w0.heap.size L) (hv : ∀ W, (∀ k ∈ L, k.ok C.w0.heap.size W) → W.ownsRow C.w0.heap.size e size v n xs) (hmv : ∀ g, v.ownBlock = some g → g ∈ S.T.bs ∧ g ∈ C.mv S)
    (hm : .g (cK b news) ∈ L) (hl : news.length = m * size) (hm0 : 0 < m) (h1 : ∀ u ∈ news, u.oneCell' = true) (h63 : n + m ≤ maxLen) (hbytes : (n + m) * bytes ≤ 140737488355328)
    (hL : ∀ g cap, ∀ k ∈ L' g cap, k = .g (wK e size (.slice (some ⟨g, 0, none⟩) (n + m) cap) (n + m) (xs ++ news)) ∨ (k ∈ L ∧ ∀ b ∈ k.bs, v.ownBlock ≠ some b))
    (hk : ∀ g cap, K (St.put ⟨S.n, S.E, S.H, kX C.w0.heap.size (L' g cap)⟩ d (.v (.slice (some ⟨g, 0, none⟩) (n + m) cap)))) : genA C (.bi .append [t, t] t cs) [v, .slice (some ⟨b, 0, none⟩) m c] d K S := by
  subst hP
  refine genA_T (ι := Nat × Nat) (fun x => .slice (some ⟨x.1, 0, none⟩) (n + m) x.2) (fun x => kX C.w0.heap.size (L' x.1 x.2)) (fun W hW hok hbs => ⟨?_⟩) (fun x => hk _ _)
  rw [hT] at hok
  have hc : (cK b news).ok C.w0.heap.size W := hok _ hm
  obtain ⟨g, cap, w', hr, ho, hg, hgg⟩ := append_own (P := C.P) C.w0.heap.size t t e i z size bytes ht hi hz hsize hby hzs hsz v n xs (hv W hok) b m c news hl hm0 (fun j u hj => cK_cell hc hj) h1 h63 hbytes hW.size
  have hr' : (genRun (.bi .append [t, t] t cs) [v, .slice (some ⟨b, 0, none⟩) m c]).run C.P W = .ok (.value (.slice (some ⟨g, 0, none⟩) (n + m) cap)) w' := by
    show (do let x ← Builtin.append_ #[t, t] t #[v, .slice (some ⟨b, 0, none⟩) m c]; pure (Next.value x)).run C.P W = _
    rw [run_bind_ok hr]; rfl
  rw [hr']
  refine ⟨⟨g, cap⟩, rfl, ⟨hg.os, hg.tape, hg.output, hg.size, fun j hj hn => hg.block j hj fun e => hn (hmv j e.symm).2⟩, ?_, kX_stab C _, ?_⟩
  · intro k hk
    rcases hL g cap k hk with rfl | ⟨hk, hb⟩
    · exact ho
    · exact (hok k hk).keep hg.size (fun b hbb => hg.block b ((hok k hk).lt b hbb).2 fun e => hb b hbb e.symm) fun b hbn hbl => hg.block b hbl fun e => by have := (hbs b (hmv b e.symm).1).1; omega
  · intro x hx
    obtain ⟨k, hk, hx⟩ := kX_bs.1 hx
    rcases hL g cap k hk with rfl | ⟨hk, hb⟩
    · have hxg : x = g := by
        have : x ∈ [g] := hx
        simpa using this
      subst hxg
      refine ⟨hgg.elim (fun e => .inl (hmv x e).1) .inr, ?_⟩
      exact (ho.lt x rfl).2
    · exact ⟨.inl (by rw [hT]; exact kX_bs.2 ⟨k, hk, hx⟩), Nat.lt_of_lt_of_le ((hok k hk).lt x hx).2 hg.size⟩
end Sx
end Go.Proofs.YtiiflgfnbgencaaDoor

/- Fu: strconv.FormatUint at base 10, for 100 and above (the table of powers of ten is laid). -/
namespace Go.Proofs.YtiiflgfnbgencaaDoor
open Go Go.Shelf Go.RowKit Go.Sort Go.Lib
set_option linter.unusedVariables false
set_option linter.unusedSimpArgs false
theorem holds_zero0 (w : World) (T : TypeId) (nd : Nat) (hs : nd ≤ 24) : Holds (fun (b : UInt8) => Value.int .u8 (b.toNat : Int)) (w.alloc (.cells zeros24 T)) w.heap.size 0 (Array.replicate nd (0 : UInt8)) := fun j hj => by
  have hj' : j < nd := by simpa using hj
  refine ⟨?_, World.frozen?_alloc_new _ _ _ _⟩
  rw [World.cell?_alloc_new, zeros24_at _ (by omega), getElem!_pos _ j hj]
  simp
theorem fin_zero (w : World) (o : Obj) (dk : Array UInt8) (k : Nat) : ∃ os, (putRow (fun (b : UInt8) => Value.int .u8 (b.toNat : Int)) (w.alloc o) w.heap.size 0 dk).drewN k = grow (w.drewN k) os := by
  rw [alloc_eq_grow]
  obtain ⟨os', _, e⟩ := putRow_grow_new (fun (b : UInt8) => Value.int .u8 (b.toNat : Int)) w #[o] w.heap.size 0 dk (Nat.le_refl _)
  exact ⟨os', by rw [e]; rfl⟩
set_option maxRecDepth 100000 in
set_option maxHeartbeats 6400000 in
theorem fmtU (u : Nat) (h1 : 100 ≤ u) (hu64 : u < 18446744073709551616) (w : World) (htab : Lib.TabIs Tryd.prog w "internal/strconv.uint64pow10" .u64 Lib.pow10Tab) :
    Calls Tryd.prog 67 #[.int .u64 u, .int .i64 10] w fun e w' => e = .returned (.string ⟨(Lib.decDigits u).toArray⟩) ∧ Below w.heap.size w w' := by
  have hu1 : 1 ≤ u := by omega
  have hnd20 : Lib.nDigits u ≤ 20 := by have := Lib.numDigits_eq u hu1 hu64; split at this <;> omega
  have hal : Tryd.prog.arrayLen 110 = 24 := by kernel_rfl
  have hsl1 : ∀ W, (Instr.sliceAt 110 (.pointer (some ⟨w.heap.size, 0, none⟩)) none (some (.int .i64 (Lib.nDigits u : Int))) none).run Tryd.prog W = .ok (.slice (some ⟨w.heap.size, 0, none⟩) (Lib.nDigits u) 24) W := fun W => by
    rw [run_sliceAt_array_h W 110 ⟨w.heap.size, 0, none⟩ (by simp [Program.arrayLen, Program.elem, Tryd.underlying110]) .i64 (Lib.nDigits u : Int) (by omega) (by rw [hal]; omega)]
    go_simp
  have hH0 := holds_zero0 w 110 (Lib.nDigits u) (by omega)
  have hfmt := Tryd.internal_strconv_formatBase10 w.heap.size 0 24 u (Array.replicate (Lib.nDigits u) 0) (w.alloc (.cells Lib.zeros24 110)) hH0 (by rw [Array.size_replicate]; exact Lib.lt_pow_nDigits u) hu64 (by rw [Array.size_replicate]; omega)
  rw [Array.size_replicate] at hfmt
  have HH0 := Lib.hid hH0
  clear hH0 hal
  have hc1 : decide ((u : Int) < 100) = false := decide_eq_false (by omega)
  go_enter Tryd.func67, Tryd.ntmps67
  go_wp2_with (first
    | (go_at_call 86; refine (Tryd.internal_strconv_numDigits u hu1 hu64 _ (Lib.tabIs_alloc htab _)).mono ?_; rintro e w' ⟨rfl, rfl⟩))
  go_at_call 87
  refine hfmt.mono ?_
  rintro e w' ⟨rfl, k, v', dk, rfl, hF⟩
  have hcv : (convert 76 9 (.slice (some ⟨w.heap.size, 0, none⟩) (Lib.nDigits u) 24)).run Tryd.prog ((putRow (fun (b : UInt8) => Value.int .u8 (b.toNat : Int)) (w.alloc (.cells Lib.zeros24 110)) w.heap.size 0 dk).drewN k) = .ok (.string ⟨(Lib.decDigits u).toArray⟩) ((putRow (fun (b : UInt8) => Value.int .u8 (b.toNat : Int)) (w.alloc (.cells Lib.zeros24 110)) w.heap.size 0 dk).drewN k) := by
    have h := run_convert_bytes_back (P := Tryd.prog) ((putRow (fun (b : UInt8) => Value.int .u8 (b.toNat : Int)) (w.alloc (.cells Lib.zeros24 110)) w.heap.size 0 dk).drewN k) 76 9 5 ⟨w.heap.size, 0, none⟩ 24 (Lib.decDigits u) Tryd.underlying76 Tryd.underlying5 Tryd.underlying9 (fun j hj => by
      rw [Lib.row_is_numeral hF j hj, Lib.add_plain, World.cell?_drewN]
      exact cell?_putRow (fun (b : UInt8) => Value.int .u8 (b.toNat : Int)) _ w.heap.size 0 _ dk HH0.out (by rw [hF.size, Array.size_replicate]) j (by rw [hF.size]; rw [Lib.decDigits_length] at hj; exact hj))
    rw [Lib.decDigits_length] at h
    exact h
  go_wp2
  go_ret
  obtain ⟨os, eo⟩ := fin_zero w (.cells Lib.zeros24 110) dk k
  refine ⟨rfl, ?_⟩
  rw [eo]
  exact Lib.below_grow _ w (Nat.le_refl _) k os
set_option maxRecDepth 100000 in
theorem fmtS (u : Nat) (h : u < 100) (w : World) :
    Calls Tryd.prog 67 #[.int .u64 u, .int .i64 10] w fun e w' => e = .returned (.string ⟨(Lib.decDigits u).toArray⟩) ∧ Below w.heap.size w w' := by
  have hc1 : decide ((u : Int) < 100) = true := decide_eq_true (by omega)
  have hw : IntKind.i64.wrap (u : Int) = u := by rw [IntKind.wrap_i64]; omega
  go_enter Tryd.func67, Tryd.ntmps67
  go_wp2_with (go_at_call 85; refine (Tryd.internal_strconv_small u h _).mono ?_; rintro e w' ⟨rfl, rfl⟩)
  go_ret
  exact ⟨rfl, Below.refl _ _⟩
set_option maxRecDepth 100000 in
theorem fmtT (u : Nat) (hu64 : u < 18446744073709551616) (w : World) (htab : Lib.TabIs Tryd.prog w "internal/strconv.uint64pow10" .u64 Lib.pow10Tab) :
    Calls Tryd.prog 41 #[.int .u64 u, .int .i64 10] w fun e w' => e = .returned (.string ⟨(Lib.decDigits u).toArray⟩) ∧ Below w.heap.size w w' := by
  have hc : Calls Tryd.prog 67 #[.int .u64 u, .int .i64 10] w fun e w' => e = .returned (.string ⟨(Lib.decDigits u).toArray⟩) ∧ Below w.heap.size w w' := by
    by_cases h : u < 100
    · exact fmtS u h w
    · exact fmtU u (by omega) hu64 w htab
  go_enter Tryd.func41, Tryd.ntmps41
  go_wp2_with (go_at_call 67; refine hc.mono ?_; rintro e w' ⟨rfl, hb⟩)
  go_ret
  exact ⟨rfl, hb⟩
end Go.Proofs.YtiiflgfnbgencaaDoor

/- CdL2: MADE BY PROGRAM (sxgen.py): the small code of some functions, points of it and their equations. -/
namespace Go.Proofs.YtiiflgfnbgencaaDoor
open Go Go.RowKit Sx
set_option linter.unusedVariables false
variable (C : Cx) (R L1 L2 L3 L4 : St → Prop)
namespace wide_Text
def r0 : List G := [(some 1, none, (.box true 5 (.tmp 0))), (some 2, none, (.mv (.const (.string ⟨#[]⟩))))]
def r1 : List G := [(some 9, none, (.ld true 5 (.tmp 1))), (some 10, none, (.call false 32 [(.tmp 9)])), (none, none, (.st true 5 (.tmp 1) (.tmp 10)))]
def r2 : List G := [(some 3, none, (.mv (.const (.slice none 0 0))))]
def r3 : List G := [(some 11, none, (.fa 1 (.tmp 1))), (some 12, none, (.ld true 4 (.tmp 11))), (some 4, none, (.new [(.int .u64 0), (.int .u64 0), (.int .u64 0), (.int .u64 0)])), (none, none, (.st true 4 (.tmp 4) (.tmp 12)))]
def r4 : List G := [(some 14, none, (.ld true 4 (.tmp 4))), (some 15, none, (.bd [(.int .u64 0), (.int .u64 0), (.int .u64 0), (.int .u64 0)] [(0, 1, (.const (.int .u64 1000000000000000000)))])), (some 16, none, (.call false 39 [(.tmp 14), (.tmp 15)])), (some 13, none, (.mv (.tmp 16))), (some 17, none, (.ex (.tmp 13) 0)), (some 18, none, (.ex (.tmp 13) 1)), (some 5, none, (.new [(.int .u64 0), (.int .u64 0), (.int .u64 0), (.int .u64 0)])), (some 6, none, (.new [(.int .u64 0), (.int .u64 0), (.int .u64 0), (.int .u64 0)])), (none, none, (.st true 4 (.tmp 5) (.tmp 17))), (none, none, (.st true 4 (.tmp 6) (.tmp 18)))]
def r5 : List G := [(some 19, none, (.ia 4 1 (.tmp 6) (.const (.int .i64 0)))), (some 20, none, (.ld false 1 (.tmp 19))), (some 21, none, (.call false 41 [(.tmp 20), (.const (.int .i64 10))])), (some 7, none, (.mv (.tmp 21)))]
def r6 : List G := [(some 22, none, (.ld true 4 (.tmp 5))), (some 23, none, (.bd [(.int .u64 0), (.int .u64 0), (.int .u64 0), (.int .u64 0)] [])), (some 24, none, (.eqg false 26 (.tmp 22) (.tmp 23)))]
def r7 : List G := [(some 25, none, (.mv (.tmp 3))), (some 26, none, (.mv (.tmp 7))), (some 27, none, (.gen false (.bsl 67 1 [0]) [(.tmp 26)])), (some 28, none, (.gen false (.bi .append [67, 67] 67 [false, false]) [(.tmp 25), (.tmp 27)])), (some 3, none, (.mv (.tmp 28)))]
def r8 : List G := [(some 29, none, (.mv (.tmp 3))), (some 30, none, (.mv (.tmp 7))), (some 31, none, (.len true (.tmp 30))), (some 32, none, (.bin .sub (.const (.int .i64 18)) (.tmp 31))), (some 33, none, (.call false 42 [(.const (.string ⟨#[48]⟩)), (.tmp 32)])), (some 34, none, (.mv (.tmp 7))), (some 35, none, (.bin .add (.tmp 33) (.tmp 34))), (some 36, none, (.gen false (.bsl 67 1 [0]) [(.tmp 35)])), (some 37, none, (.gen false (.bi .append [67, 67] 67 [false, false]) [(.tmp 29), (.tmp 36)])), (some 3, none, (.mv (.tmp 37)))]
def r9 : List G := [(some 38, none, (.ld true 4 (.tmp 5))), (none, none, (.st true 4 (.tmp 4) (.tmp 38)))]
def r10 : List G := [(some 39, none, (.ld true 4 (.tmp 4)))]
def r11 : List G := [(some 4, none, (.new [(.int .u64 0), (.int .u64 0), (.int .u64 0), (.int .u64 0)])), (none, none, (.st true 4 (.tmp 4) (.tmp 39)))]
def r12 : List G := [(some 40, none, (.mv (.tmp 3))), (some 41, none, (.call false 43 [(.tmp 40)]))]
def r13 : List G := [(some 42, none, (.mv (.tmp 3))), (some 43, none, (.call false 44 [(.tmp 42), (.const (.string ⟨#[]⟩))])), (some 8, none, (.mv (.tmp 43)))]
def r14 : List G := [(some 44, none, (.fa 0 (.tmp 1))), (some 45, none, (.ld false 1 (.tmp 44)))]
def r15 : List G := [(some 46, none, (.mv (.tmp 8))), (some 47, none, (.bin .add (.const (.string ⟨#[45]⟩)) (.tmp 46))), (some 2, none, (.mv (.tmp 47)))]
def r16 : List G := [(some 48, none, (.mv (.tmp 8))), (some 2, none, (.mv (.tmp 48)))]
def c : MC := (.seq (.reg r0 (some [1])) (.seq (.reg r1 (some [1])) (.seq (.reg r2 (some [1, 3])) (.seq (.seq (.reg r3 (some [1, 3, 4])) (.block 0 (.loop (.seq (.block 1 (.seq (.reg r4 (some [1, 3, 4, 5, 6])) (.seq (.reg r5 (some [1, 3, 4, 5, 7])) (.seq (.seq (.reg r6 (some [1, 3, 4, 5, 7, 24])) (.cond (.tmp 24) (.seq (.reg r7 (some [1, 3])) (.exit 0)) .skip)) (.seq (.reg r8 (some [1, 3, 4, 5])) (.reg r9 (some [1, 3, 4]))))))) (.seq (.reg r10 (some [1, 3, 39])) (.reg r11 (some [1, 3, 4]))))))) (.seq (.reg r12 (some [1, 3])) (.seq (.reg r13 (some [1, 8])) (.seq (.seq (.reg r14 (some [8, 45])) (.cond (.tmp 45) (.seq (.reg r15 (some [2])) .ret) .skip)) (.seq (.reg r16 (some [2])) .ret))))))))
def ann : Ann := [(0, (some [1], 0, [], [], [])), (1, (some [1], 0, [], [], [])), (2, (some [1, 3], 0, [], [], [])), (3, (some [1, 3, 4], 0, [], [], [])), (4, (some [1, 3, 4, 5, 6], 0, [], [], [])), (5, (some [1, 3, 4, 5, 7], 0, [], [], [])), (6, (some [1, 3, 4, 5, 7, 24], 0, [], [], [])), (7, (some [1, 3], 0, [], [], [])), (8, (some [1, 3, 4, 5], 0, [], [], [])), (9, (some [1, 3, 4], 0, [], [], [])), (10, (some [1, 3, 39], 0, [], [], [])), (11, (some [1, 3, 4], 0, [], [], [])), (12, (some [1, 3], 0, [], [], [])), (13, (some [1, 8], 0, [], [], [])), (14, (some [8, 45], 0, [], [], [])), (15, (some [2], 0, [], [], [])), (16, (some [2], 0, [], [], []))]
theorem ok : compF Tryd.prog Tryd.f24 ann = some (49, c, [(2, none)]) := by kernel_rfl
def p1 (S : St) : Prop := ops C r16 (kq [2] R) S
def p3 (S : St) : Prop := ops C r15 (kq [2] R) S
def p2 (S : St) : Prop := condX (S.ev (.tmp 45)) (p3 C R) (p1 C R) S
def p4 (S : St) : Prop := ops C r14 (kq [8, 45] (p2 C R)) S
def p5 (S : St) : Prop := ops C r13 (kq [1, 8] (p4 C R)) S
def p6 (S : St) : Prop := ops C r12 (kq [1, 3] (p5 C R)) S
def p8 (S : St) : Prop := ops C r11 (kq [1, 3, 4] L1) S
def p9 (S : St) : Prop := ops C r10 (kq [1, 3, 39] (p8 C L1)) S
def p10 (S : St) : Prop := ops C r9 (kq [1, 3, 4] (p9 C L1)) S
def p11 (S : St) : Prop := ops C r8 (kq [1, 3, 4, 5] (p10 C L1)) S
def p13 (S : St) : Prop := ops C r7 (kq [1, 3] (p6 C R)) S
def p12 (S : St) : Prop := condX (S.ev (.tmp 24)) (p13 C R) (p11 C L1) S
def p14 (S : St) : Prop := ops C r6 (kq [1, 3, 4, 5, 7, 24] (p12 C R L1)) S
def p15 (S : St) : Prop := ops C r5 (kq [1, 3, 4, 5, 7] (p14 C R L1)) S
def p16 (S : St) : Prop := ops C r4 (kq [1, 3, 4, 5, 6] (p15 C R L1)) S
def p7 (S : St) : Prop := LX C (fun L1 => (p16 C R L1)) S
theorem p7_l (S : St) : p7 C R S = LX C (fun L1 => (p16 C R L1)) S := rfl
def p17 (S : St) : Prop := ops C r3 (kq [1, 3, 4] (p7 C R)) S
def p18 (S : St) : Prop := ops C r2 (kq [1, 3] (p17 C R)) S
def p19 (S : St) : Prop := ops C r1 (kq [1] (p18 C R)) S
def p20 (S : St) : Prop := ops C r0 (kq [1] (p19 C R)) S
theorem s (S : St) : X C c (retK R) S = p20 C R S := by kernel_rfl
theorem E : type_of% @r16.eq_1 ∧ type_of% @p1.eq_1 ∧ type_of% @r15.eq_1 ∧ type_of% @p3.eq_1 ∧ type_of% @p2.eq_1 ∧ type_of% @r14.eq_1 ∧ type_of% @p4.eq_1 ∧ type_of% @r13.eq_1 ∧ type_of% @p5.eq_1 ∧ type_of% @r12.eq_1 ∧ type_of% @p6.eq_1 ∧ type_of% @r11.eq_1 ∧ type_of% @p8.eq_1 ∧ type_of% @r10.eq_1 ∧ type_of% @p9.eq_1 ∧ type_of% @r9.eq_1 ∧ type_of% @p10.eq_1 ∧ type_of% @r8.eq_1 ∧ type_of% @p11.eq_1 ∧ type_of% @r7.eq_1 ∧ type_of% @p13.eq_1 ∧ type_of% @p12.eq_1 ∧ type_of% @r6.eq_1 ∧ type_of% @p14.eq_1 ∧ type_of% @r5.eq_1 ∧ type_of% @p15.eq_1 ∧ type_of% @r4.eq_1 ∧ type_of% @p16.eq_1 ∧ type_of% @r3.eq_1 ∧ type_of% @p17.eq_1 ∧ type_of% @r2.eq_1 ∧ type_of% @p18.eq_1 ∧ type_of% @r1.eq_1 ∧ type_of% @p19.eq_1 ∧ type_of% @r0.eq_1 ∧ type_of% @p20.eq_1 ∧ type_of% @s := ⟨@r16.eq_1, @p1.eq_1, @r15.eq_1, @p3.eq_1, @p2.eq_1, @r14.eq_1, @p4.eq_1, @r13.eq_1, @p5.eq_1, @r12.eq_1, @p6.eq_1, @r11.eq_1, @p8.eq_1, @r10.eq_1, @p9.eq_1, @r9.eq_1, @p10.eq_1, @r8.eq_1, @p11.eq_1, @r7.eq_1, @p13.eq_1, @p12.eq_1, @r6.eq_1, @p14.eq_1, @r5.eq_1, @p15.eq_1, @r4.eq_1, @p16.eq_1, @r3.eq_1, @p17.eq_1, @r2.eq_1, @p18.eq_1, @r1.eq_1, @p19.eq_1, @r0.eq_1, @p20.eq_1, @s⟩
end wide_Text
namespace wide_Int64
def r0 : List G := [(some 1, none, (.box true 5 (.tmp 0))), (some 2, none, (.mv (.const (.int .i64 0)))), (some 3, none, (.mv (.const (.bool false))))]
def r1 : List G := [(some 5, none, (.ld true 5 (.tmp 1))), (some 6, none, (.call false 32 [(.tmp 5)])), (none, none, (.st true 5 (.tmp 1) (.tmp 6)))]
def r2 : List G := [(some 7, none, (.fa 1 (.tmp 1))), (some 8, none, (.ia 4 1 (.tmp 7) (.const (.int .i64 0)))), (some 9, none, (.ld false 1 (.tmp 8))), (some 4, none, (.mv (.tmp 9)))]
def r3 : List G := [(some 11, none, (.fa 1 (.tmp 1))), (some 12, none, (.ld true 4 (.tmp 11))), (some 13, none, (.mv (.tmp 4))), (some 14, none, (.bd [(.int .u64 0), (.int .u64 0), (.int .u64 0), (.int .u64 0)] [(0, 1, (.tmp 13))])), (some 15, none, (.eqg true 26 (.tmp 12) (.tmp 14))), (some 16, none, (.mv (.tmp 15))), (some 17, some (16, false), (.mv (.tmp 4))), (some 18, some (16, false), (.bin .gtr (.tmp 17) (.const (.int .u64 9223372036854775808)))), (some 19, none, (.pick (.tmp 16) (.const (.bool true)) (.tmp 18))), (some 20, none, (.mv (.tmp 19))), (some 21, some (20, false), (.mv (.tmp 4))), (some 22, some (20, false), (.bin .eql (.tmp 21) (.const (.int .u64 9223372036854775808)))), (some 23, some (20, false), (.mv (.tmp 22))), (some 24, some (23, true), (.fa 0 (.tmp 1))), (some 25, some (23, true), (.ld false 1 (.tmp 24))), (some 26, some (23, true), (.un .not (.tmp 25))), (some 27, some (20, false), (.pick (.tmp 23) (.tmp 26) (.const (.bool false)))), (some 28, none, (.pick (.tmp 20) (.const (.bool true)) (.tmp 27))), (some 10, none, (.mv (.tmp 28)))]
def r4 : List G := [(some 2, none, (.mv (.const (.int .i64 0)))), (some 3, none, (.mv (.const (.bool false))))]
def r5 : List G := [(some 30, none, (.fa 0 (.tmp 1))), (some 31, none, (.ld false 1 (.tmp 30))), (some 29, none, (.mv (.tmp 31)))]
def r6 : List G := [(some 32, none, (.mv (.tmp 4))), (some 33, none, (.un .neg (.tmp 32))), (some 34, none, (.cv .i64 (.tmp 33))), (some 2, none, (.mv (.tmp 34))), (some 3, none, (.mv (.const (.bool true))))]
def r7 : List G := [(some 35, none, (.mv (.tmp 4))), (some 36, none, (.cv .i64 (.tmp 35))), (some 2, none, (.mv (.tmp 36))), (some 3, none, (.mv (.const (.bool true))))]
def c : MC := (.seq (.reg r0 (some [1])) (.seq (.reg r1 (some [1])) (.seq (.reg r2 (some [1, 4])) (.seq (.block 0 (.seq (.reg r3 (some [1, 4, 10])) (.cond (.tmp 10) (.seq (.reg r4 (some [2, 3])) .ret) (.seq (.reg r5 (some [4, 29])) (.cond (.tmp 29) (.seq (.reg r6 (some [2, 3])) .ret) .skip))))) (.seq (.reg r7 (some [2, 3])) .ret)))))
def ann : Ann := [(0, (some [1], 0, [], [], [])), (1, (some [1], 0, [], [], [])), (2, (some [1, 4], 0, [], [], [])), (3, (some [1, 4, 10], 0, [], [], [])), (4, (some [2, 3], 0, [], [], [])), (5, (some [4, 29], 0, [], [], [])), (6, (some [2, 3], 0, [], [], [])), (7, (some [2, 3], 0, [], [], []))]
theorem ok : compF Tryd.prog Tryd.f14 ann = some (37, c, [(2, none), (3, none)]) := by kernel_rfl
def p1 (S : St) : Prop := ops C r7 (kq [2, 3] R) S
def p3 (S : St) : Prop := ops C r4 (kq [2, 3] R) S
def p5 (S : St) : Prop := ops C r6 (kq [2, 3] R) S
def p4 (S : St) : Prop := condX (S.ev (.tmp 29)) (p5 C R) (p1 C R) S
def p6 (S : St) : Prop := ops C r5 (kq [4, 29] (p4 C R)) S
def p2 (S : St) : Prop := condX (S.ev (.tmp 10)) (p3 C R) (p6 C R) S
def p7 (S : St) : Prop := ops C r3 (kq [1, 4, 10] (p2 C R)) S
def p8 (S : St) : Prop := ops C r2 (kq [1, 4] (p7 C R)) S
def p9 (S : St) : Prop := ops C r1 (kq [1] (p8 C R)) S
def p10 (S : St) : Prop := ops C r0 (kq [1] (p9 C R)) S
theorem s (S : St) : X C c (retK R) S = p10 C R S := by kernel_rfl
theorem E : type_of% @r7.eq_1 ∧ type_of% @p1.eq_1 ∧ type_of% @r4.eq_1 ∧ type_of% @p3.eq_1 ∧ type_of% @r6.eq_1 ∧ type_of% @p5.eq_1 ∧ type_of% @p4.eq_1 ∧ type_of% @r5.eq_1 ∧ type_of% @p6.eq_1 ∧ type_of% @p2.eq_1 ∧ type_of% @r3.eq_1 ∧ type_of% @p7.eq_1 ∧ type_of% @r2.eq_1 ∧ type_of% @p8.eq_1 ∧ type_of% @r1.eq_1 ∧ type_of% @p9.eq_1 ∧ type_of% @r0.eq_1 ∧ type_of% @p10.eq_1 ∧ type_of% @s := ⟨@r7.eq_1, @p1.eq_1, @r4.eq_1, @p3.eq_1, @r6.eq_1, @p5.eq_1, @p4.eq_1, @r5.eq_1, @p6.eq_1, @p2.eq_1, @r3.eq_1, @p7.eq_1, @r2.eq_1, @p8.eq_1, @r1.eq_1, @p9.eq_1, @r0.eq_1, @p10.eq_1, @s⟩
end wide_Int64
namespace wide_Unsigned
def r0 : List G := [(some 1, none, (.box true 5 (.tmp 0))), (some 2, none, (.mv (.const (.int .u64 0)))), (some 3, none, (.mv (.const (.bool false))))]
def r1 : List G := [(some 4, none, (.ld true 5 (.tmp 1))), (some 5, none, (.call false 32 [(.tmp 4)])), (none, none, (.st true 5 (.tmp 1) (.tmp 5)))]
def r2 : List G := [(some 6, none, (.fa 0 (.tmp 1))), (some 7, none, (.ld false 1 (.tmp 6))), (some 8, none, (.mv (.tmp 7))), (some 9, some (8, false), (.fa 1 (.tmp 1))), (some 10, some (8, false), (.ld true 4 (.tmp 9))), (some 11, some (8, false), (.fa 1 (.tmp 1))), (some 12, some (8, false), (.ia 4 1 (.tmp 11) (.const (.int .i64 0)))), (some 13, some (8, false), (.ld false 1 (.tmp 12))), (some 14, some (8, false), (.bd [(.int .u64 0), (.int .u64 0), (.int .u64 0), (.int .u64 0)] [(0, 1, (.tmp 13))])), (some 15, some (8, false), (.eqg true 26 (.tmp 10) (.tmp 14))), (some 16, none, (.pick (.tmp 8) (.const (.bool true)) (.tmp 15)))]
def r3 : List G := [(some 2, none, (.mv (.const (.int .u64 0)))), (some 3, none, (.mv (.const (.bool false))))]
def r4 : List G := [(some 17, none, (.fa 1 (.tmp 1))), (some 18, none, (.ia 4 1 (.tmp 17) (.const (.int .i64 0)))), (some 19, none, (.ld false 1 (.tmp 18))), (some 2, none, (.mv (.tmp 19))), (some 3, none, (.mv (.const (.bool true))))]
def c : MC := (.seq (.reg r0 (some [1])) (.seq (.reg r1 (some [1])) (.seq (.seq (.reg r2 (some [1, 16])) (.cond (.tmp 16) (.seq (.reg r3 (some [2, 3])) .ret) .skip)) (.seq (.reg r4 (some [2, 3])) .ret))))
def ann : Ann := [(0, (some [1], 0, [], [], [])), (1, (some [1], 0, [], [], [])), (2, (some [1, 16], 0, [], [], [])), (3, (some [2, 3], 0, [], [], [])), (4, (some [2, 3], 0, [], [], []))]
theorem ok : compF Tryd.prog Tryd.f16 ann = some (20, c, [(2, none), (3, none)]) := by kernel_rfl
def p1 (S : St) : Prop := ops C r4 (kq [2, 3] R) S
def p3 (S : St) : Prop := ops C r3 (kq [2, 3] R) S
def p2 (S : St) : Prop := condX (S.ev (.tmp 16)) (p3 C R) (p1 C R) S
def p4 (S : St) : Prop := ops C r2 (kq [1, 16] (p2 C R)) S
def p5 (S : St) : Prop := ops C r1 (kq [1] (p4 C R)) S
def p6 (S : St) : Prop := ops C r0 (kq [1] (p5 C R)) S
theorem s (S : St) : X C c (retK R) S = p6 C R S := by kernel_rfl
theorem E : type_of% @r4.eq_1 ∧ type_of% @p1.eq_1 ∧ type_of% @r3.eq_1 ∧ type_of% @p3.eq_1 ∧ type_of% @p2.eq_1 ∧ type_of% @r2.eq_1 ∧ type_of% @p4.eq_1 ∧ type_of% @r1.eq_1 ∧ type_of% @p5.eq_1 ∧ type_of% @r0.eq_1 ∧ type_of% @p6.eq_1 ∧ type_of% @s := ⟨@r4.eq_1, @p1.eq_1, @r3.eq_1, @p3.eq_1, @p2.eq_1, @r2.eq_1, @p4.eq_1, @r1.eq_1, @p5.eq_1, @r0.eq_1, @p6.eq_1, @s⟩
end wide_Unsigned
namespace w02_known
def r0 : List G := [(some 0, none, (.mv (.const (.bool false))))]
def r1 : List G := [(some 7, none, (.call false 15 [(.const (.int .i64 (-3)))])), (some 8, none, (.call false 17 [(.const (.int .u64 9223372036854775808))])), (some 9, none, (.call false 12 [(.tmp 7), (.tmp 8)])), (some 6, none, (.mv (.tmp 9))), (some 10, none, (.ex (.tmp 6) 0)), (some 11, none, (.ex (.tmp 6) 1)), (some 1, none, (.new zW)), (none, none, (.st true 5 (.tmp 1) (.tmp 10))), (some 2, none, (.mv (.tmp 11)))]
def r2 : List G := [(some 13, none, (.call false 15 [(.const (.int .i64 (-7)))])), (some 14, none, (.call false 15 [(.const (.int .i64 2))])), (some 15, none, (.call false 20 [(.tmp 13), (.tmp 14)])), (some 12, none, (.mv (.tmp 15))), (some 16, none, (.ex (.tmp 12) 0)), (some 17, none, (.ex (.tmp 12) 1)), (some 18, none, (.ex (.tmp 12) 2)), (some 3, none, (.new zW)), (some 4, none, (.new zW)), (none, none, (.st true 5 (.tmp 3) (.tmp 16))), (none, none, (.st true 5 (.tmp 4) (.tmp 17))), (some 5, none, (.mv (.tmp 18)))]
def r3 : List G := [(some 19, none, (.mv (.tmp 2))), (some 20, none, (.mv (.tmp 19))), (some 21, some (20, true), (.mv (.tmp 5))), (some 22, none, (.pick (.tmp 20) (.tmp 21) (.const (.bool false)))), (some 23, none, (.mv (.tmp 22))), (some 24, some (23, true), (.ld true 5 (.tmp 1))), (some 25, some (23, true), (.call true 24 [(.tmp 24)])), (some 26, some (23, true), (.eqg false 9 (.tmp 25) (.const (.string ⟨#[45, 50, 55, 54, 55, 48, 49, 49, 54, 49, 49, 48, 53, 54, 52, 51, 50, 55, 52, 50, 52]⟩)))), (some 27, none, (.pick (.tmp 23) (.tmp 26) (.const (.bool false)))), (some 28, none, (.mv (.tmp 27))), (some 29, some (28, true), (.ld true 5 (.tmp 3))), (some 30, some (28, true), (.call true 15 [(.const (.int .i64 (-4)))])), (some 31, some (28, true), (.eqg false 28 (.tmp 29) (.tmp 30))), (some 32, none, (.pick (.tmp 28) (.tmp 31) (.const (.bool false)))), (some 33, none, (.mv (.tmp 32))), (some 34, some (33, true), (.ld true 5 (.tmp 4))), (some 35, some (33, true), (.call true 15 [(.const (.int .i64 1))])), (some 36, some (33, true), (.eqg false 28 (.tmp 34) (.tmp 35))), (some 37, none, (.pick (.tmp 33) (.tmp 36) (.const (.bool false)))), (some 38, none, (.mv (.tmp 37))), (some 39, some (38, true), (.ld true 5 (.tmp 1))), (some 40, some (38, true), (.call true 38 [(.tmp 39)])), (some 41, none, (.pick (.tmp 38) (.tmp 40) (.const (.bool false))))]
def t3 : List G := [(some 0, none, (.mv (.tmp 41)))]
def c : MC := (.seq (.reg r0 (some [])) (.seq (.reg r1 (some [1, 2])) (.seq (.reg r2 (some [1, 2, 3, 4, 5])) (.seq (.dreg r3 t3 (some [0])) .ret))))
def ann : Ann := [(0, (some [], 0, [], [], [])), (1, (some [1, 2], 0, [], [], [])), (2, (some [1, 2, 3, 4, 5], 0, [], [], [])), (3, (some [0], 23, [], [(0, 0), (1, 0), (2, 0), (3, 0), (4, 0), (5, 0), (6, 0), (7, 0), (8, 0), (9, 0), (10, 0), (11, 0), (12, 0), (13, 0), (14, 0), (15, 0), (16, 0), (17, 0), (18, 0), (19, 0), (20, 0), (21, 0), (22, 0)], []))]
theorem ok : compF Tryd.prog Tryd.f13 ann = some (42, c, [(0, none)]) := by kernel_rfl
def p1 (S : St) : Prop := ops C r3 (ops C t3 (kq [0] R)) S
def p2 (S : St) : Prop := ops C r2 (kq [1, 2, 3, 4, 5] (p1 C R)) S
def p3 (S : St) : Prop := ops C r1 (kq [1, 2] (p2 C R)) S
def p4 (S : St) : Prop := ops C r0 (kq [] (p3 C R)) S
theorem s (S : St) : X C c (retK R) S = p4 C R S := by kernel_rfl
theorem E : type_of% @r3.eq_1 ∧ type_of% @t3.eq_1 ∧ type_of% @p1.eq_1 ∧ type_of% @r2.eq_1 ∧ type_of% @p2.eq_1 ∧ type_of% @r1.eq_1 ∧ type_of% @p3.eq_1 ∧ type_of% @r0.eq_1 ∧ type_of% @p4.eq_1 ∧ type_of% @s := ⟨@r3.eq_1, @t3.eq_1, @p1.eq_1, @r2.eq_1, @p2.eq_1, @r1.eq_1, @p3.eq_1, @r0.eq_1, @p4.eq_1, @s⟩
end w02_known
namespace w02_alike
def r0 : List G := [(some 2, none, (.box true 5 (.tmp 0))), (some 3, none, (.box true 5 (.tmp 1))), (some 4, none, (.mv (.const (.bool false))))]
def r1 : List G := [(some 32, none, (.ld true 5 (.tmp 2))), (some 33, none, (.ld true 5 (.tmp 3))), (some 34, none, (.call false 11 [(.tmp 32), (.tmp 33)])), (some 31, none, (.mv (.tmp 34))), (some 35, none, (.ex (.tmp 31) 0)), (some 36, none, (.ex (.tmp 31) 1)), (some 5, none, (.new zW)), (none, none, (.st true 5 (.tmp 5) (.tmp 35))), (some 6, none, (.mv (.tmp 36)))]
def r2 : List G := [(some 38, none, (.ld true 5 (.tmp 2))), (some 39, none, (.ld true 5 (.tmp 3))), (some 40, none, (.call false 48 [(.tmp 38), (.tmp 39)])), (some 37, none, (.mv (.tmp 40))), (some 41, none, (.ex (.tmp 37) 0)), (some 42, none, (.ex (.tmp 37) 1)), (some 7, none, (.new zW)), (none, none, (.st true 5 (.tmp 7) (.tmp 41))), (some 8, none, (.mv (.tmp 42)))]
def r3 : List G := [(some 44, none, (.ld true 5 (.tmp 2))), (some 45, none, (.ld true 5 (.tmp 3))), (some 46, none, (.call false 23 [(.tmp 44), (.tmp 45)])), (some 43, none, (.mv (.tmp 46))), (some 47, none, (.ex (.tmp 43) 0)), (some 48, none, (.ex (.tmp 43) 1)), (some 9, none, (.new zW)), (none, none, (.st true 5 (.tmp 9) (.tmp 47))), (some 10, none, (.mv (.tmp 48)))]
def r4 : List G := [(some 50, none, (.ld true 5 (.tmp 2))), (some 51, none, (.ld true 5 (.tmp 3))), (some 52, none, (.call false 49 [(.tmp 50), (.tmp 51)])), (some 49, none, (.mv (.tmp 52))), (some 53, none, (.ex (.tmp 49) 0)), (some 54, none, (.ex (.tmp 49) 1)), (some 11, none, (.new zW)), (none, none, (.st true 5 (.tmp 11) (.tmp 53))), (some 12, none, (.mv (.tmp 54)))]
def r5 : List G := [(some 56, none, (.ld true 5 (.tmp 2))), (some 57, none, (.ld true 5 (.tmp 3))), (some 58, none, (.call false 12 [(.tmp 56), (.tmp 57)])), (some 55, none, (.mv (.tmp 58))), (some 59, none, (.ex (.tmp 55) 0)), (some 60, none, (.ex (.tmp 55) 1)), (some 13, none, (.new zW)), (none, none, (.st true 5 (.tmp 13) (.tmp 59))), (some 14, none, (.mv (.tmp 60)))]
def r6 : List G := [(some 62, none, (.ld true 5 (.tmp 2))), (some 63, none, (.ld true 5 (.tmp 3))), (some 64, none, (.call false 50 [(.tmp 62), (.tmp 63)])), (some 61, none, (.mv (.tmp 64))), (some 65, none, (.ex (.tmp 61) 0)), (some 66, none, (.ex (.tmp 61) 1)), (some 15, none, (.new zW)), (none, none, (.st true 5 (.tmp 15) (.tmp 65))), (some 16, none, (.mv (.tmp 66)))]
def r7 : List G := [(some 67, none, (.ld true 5 (.tmp 5))), (some 68, none, (.ld true 5 (.tmp 7))), (some 69, none, (.eqg true 28 (.tmp 67) (.tmp 68))), (some 70, none, (.mv (.tmp 69))), (some 71, some (70, false), (.mv (.tmp 6))), (some 72, some (70, false), (.mv (.tmp 8))), (some 73, some (70, false), (.bq true (.tmp 71) (.tmp 72))), (some 74, none, (.pick (.tmp 70) (.const (.bool true)) (.tmp 73))), (some 75, none, (.mv (.tmp 74))), (some 76, some (75, false), (.ld true 5 (.tmp 9))), (some 77, some (75, false), (.ld true 5 (.tmp 11))), (some 78, some (75, false), (.eqg true 28 (.tmp 76) (.tmp 77))), (some 79, none, (.pick (.tmp 75) (.const (.bool true)) (.tmp 78))), (some 80, none, (.mv (.tmp 79))), (some 81, some (80, false), (.mv (.tmp 10))), (some 82, some (80, false), (.mv (.tmp 12))), (some 83, some (80, false), (.bq true (.tmp 81) (.tmp 82))), (some 84, none, (.pick (.tmp 80) (.const (.bool true)) (.tmp 83))), (some 85, none, (.mv (.tmp 84))), (some 86, some (85, false), (.ld true 5 (.tmp 13))), (some 87, some (85, false), (.ld true 5 (.tmp 15))), (some 88, some (85, false), (.eqg true 28 (.tmp 86) (.tmp 87))), (some 89, none, (.pick (.tmp 85) (.const (.bool true)) (.tmp 88))), (some 90, none, (.mv (.tmp 89))), (some 91, some (90, false), (.mv (.tmp 14))), (some 92, some (90, false), (.mv (.tmp 16))), (some 93, some (90, false), (.bq true (.tmp 91) (.tmp 92))), (some 94, none, (.pick (.tmp 90) (.const (.bool true)) (.tmp 93))), (some 95, none, (.mv (.tmp 94))), (some 96, some (95, false), (.ld true 5 (.tmp 2))), (some 97, some (95, false), (.ld true 5 (.tmp 3))), (some 98, some (95, false), (.call true 22 [(.tmp 96), (.tmp 97)])), (some 99, some (95, false), (.ld true 5 (.tmp 2))), (some 100, some (95, false), (.ld true 5 (.tmp 3))), (some 101, some (95, false), (.call true 51 [(.tmp 99), (.tmp 100)])), (some 102, some (95, false), (.bin .neq (.tmp 98) (.tmp 101))), (some 103, none, (.pick (.tmp 95) (.const (.bool true)) (.tmp 102)))]
def t7 : List G := []
def r8 : List G := [(some 4, none, (.mv (.const (.bool false))))]
def r9 : List G := [(some 105, none, (.ld true 5 (.tmp 2))), (some 106, none, (.ld true 5 (.tmp 3))), (some 107, none, (.call false 20 [(.tmp 105), (.tmp 106)])), (some 104, none, (.mv (.tmp 107))), (some 108, none, (.ex (.tmp 104) 0)), (some 109, none, (.ex (.tmp 104) 1)), (some 110, none, (.ex (.tmp 104) 2)), (some 17, none, (.new zW)), (some 18, none, (.new zW)), (none, none, (.st true 5 (.tmp 17) (.tmp 108))), (none, none, (.st true 5 (.tmp 18) (.tmp 109))), (some 19, none, (.mv (.tmp 110)))]
def r10 : List G := [(some 112, none, (.ld true 5 (.tmp 2))), (some 113, none, (.ld true 5 (.tmp 3))), (some 114, none, (.call false 52 [(.tmp 112), (.tmp 113)])), (some 111, none, (.mv (.tmp 114))), (some 115, none, (.ex (.tmp 111) 0)), (some 116, none, (.ex (.tmp 111) 1)), (some 117, none, (.ex (.tmp 111) 2)), (some 20, none, (.new zW)), (some 21, none, (.new zW)), (none, none, (.st true 5 (.tmp 20) (.tmp 115))), (none, none, (.st true 5 (.tmp 21) (.tmp 116))), (some 22, none, (.mv (.tmp 117)))]
def r11 : List G := [(some 119, none, (.ld true 5 (.tmp 2))), (some 120, none, (.call false 14 [(.tmp 119)])), (some 118, none, (.mv (.tmp 120))), (some 121, none, (.ex (.tmp 118) 0)), (some 122, none, (.ex (.tmp 118) 1)), (some 23, none, (.mv (.tmp 121))), (some 24, none, (.mv (.tmp 122)))]
def r12 : List G := [(some 124, none, (.ld true 5 (.tmp 2))), (some 125, none, (.call false 53 [(.tmp 124)])), (some 123, none, (.mv (.tmp 125))), (some 126, none, (.ex (.tmp 123) 0)), (some 127, none, (.ex (.tmp 123) 1)), (some 25, none, (.mv (.tmp 126))), (some 26, none, (.mv (.tmp 127)))]
def r13 : List G := [(some 129, none, (.ld true 5 (.tmp 2))), (some 130, none, (.call false 16 [(.tmp 129)])), (some 128, none, (.mv (.tmp 130))), (some 131, none, (.ex (.tmp 128) 0)), (some 132, none, (.ex (.tmp 128) 1)), (some 27, none, (.mv (.tmp 131))), (some 28, none, (.mv (.tmp 132)))]
def r14 : List G := [(some 134, none, (.ld true 5 (.tmp 2))), (some 135, none, (.call false 54 [(.tmp 134)])), (some 133, none, (.mv (.tmp 135))), (some 136, none, (.ex (.tmp 133) 0)), (some 137, none, (.ex (.tmp 133) 1)), (some 29, none, (.mv (.tmp 136))), (some 30, none, (.mv (.tmp 137)))]
def r15 : List G := [(some 138, none, (.ld true 5 (.tmp 17))), (some 139, none, (.ld true 5 (.tmp 20))), (some 140, none, (.eqg false 28 (.tmp 138) (.tmp 139))), (some 141, none, (.mv (.tmp 140))), (some 142, some (141, true), (.ld true 5 (.tmp 18))), (some 143, some (141, true), (.ld true 5 (.tmp 21))), (some 144, some (141, true), (.eqg false 28 (.tmp 142) (.tmp 143))), (some 145, none, (.pick (.tmp 141) (.tmp 144) (.const (.bool false)))), (some 146, none, (.mv (.tmp 145))), (some 147, some (146, true), (.mv (.tmp 19))), (some 148, some (146, true), (.mv (.tmp 22))), (some 149, some (146, true), (.bq false (.tmp 147) (.tmp 148))), (some 150, none, (.pick (.tmp 146) (.tmp 149) (.const (.bool false)))), (some 151, none, (.mv (.tmp 150))), (some 152, some (151, true), (.mv (.tmp 23))), (some 153, some (151, true), (.mv (.tmp 25))), (some 154, some (151, true), (.bin .eql (.tmp 152) (.tmp 153))), (some 155, none, (.pick (.tmp 151) (.tmp 154) (.const (.bool false)))), (some 156, none, (.mv (.tmp 155))), (some 157, some (156, true), (.mv (.tmp 24))), (some 158, some (156, true), (.mv (.tmp 26))), (some 159, some (156, true), (.bq false (.tmp 157) (.tmp 158))), (some 160, none, (.pick (.tmp 156) (.tmp 159) (.const (.bool false)))), (some 161, none, (.mv (.tmp 160))), (some 162, some (161, true), (.mv (.tmp 27))), (some 163, some (161, true), (.mv (.tmp 29))), (some 164, some (161, true), (.bin .eql (.tmp 162) (.tmp 163))), (some 165, none, (.pick (.tmp 161) (.tmp 164) (.const (.bool false)))), (some 166, none, (.mv (.tmp 165))), (some 167, some (166, true), (.mv (.tmp 28))), (some 168, some (166, true), (.mv (.tmp 30))), (some 169, some (166, true), (.bq false (.tmp 167) (.tmp 168))), (some 170, none, (.pick (.tmp 166) (.tmp 169) (.const (.bool false)))), (some 171, none, (.mv (.tmp 170))), (some 172, some (171, true), (.ld true 5 (.tmp 2))), (some 173, some (171, true), (.call true 38 [(.tmp 172)])), (some 174, some (171, true), (.ld true 5 (.tmp 2))), (some 175, some (171, true), (.call true 55 [(.tmp 174)])), (some 176, some (171, true), (.bq false (.tmp 173) (.tmp 175))), (some 177, none, (.pick (.tmp 171) (.tmp 176) (.const (.bool false)))), (some 178, none, (.mv (.tmp 177))), (some 179, some (178, true), (.ld true 5 (.tmp 2))), (some 180, some (178, true), (.call true 21 [(.tmp 179)])), (some 181, some (178, true), (.ld true 5 (.tmp 2))), (some 182, some (178, true), (.call true 56 [(.tmp 181)])), (some 183, some (178, true), (.bin .eql (.tmp 180) (.tmp 182))), (some 184, none, (.pick (.tmp 178) (.tmp 183) (.const (.bool false)))), (some 185, none, (.mv (.tmp 184))), (some 186, some (185, true), (.ld true 5 (.tmp 2))), (some 187, some (185, true), (.call true 40 [(.tmp 186)])), (some 188, some (185, true), (.ld true 5 (.tmp 2))), (some 189, some (185, true), (.call true 31 [(.tmp 188)])), (some 190, some (185, true), (.eqg false 28 (.tmp 187) (.tmp 189))), (some 191, none, (.pick (.tmp 185) (.tmp 190) (.const (.bool false))))]
def t15 : List G := [(some 4, none, (.mv (.tmp 191)))]
def c : MC := (.seq (.reg r0 (some [2, 3])) (.seq (.reg r1 (some [2, 3, 5, 6])) (.seq (.reg r2 (some [2, 3, 5, 6, 7, 8])) (.seq (.reg r3 (some [2, 3, 5, 6, 7, 8, 9, 10])) (.seq (.reg r4 (some [2, 3, 5, 6, 7, 8, 9, 10, 11, 12])) (.seq (.reg r5 (some [2, 3, 5, 6, 7, 8, 9, 10, 11, 12, 13, 14])) (.seq (.reg r6 (some [2, 3, 5, 6, 7, 8, 9, 10, 11, 12, 13, 14, 15, 16])) (.seq (.seq (.dreg r7 t7 (some [2, 3, 103])) (.cond (.tmp 103) (.seq (.reg r8 (some [4])) .ret) .skip)) (.seq (.reg r9 (some [2, 3, 17, 18, 19])) (.seq (.reg r10 (some [2, 17, 18, 19, 20, 21, 22])) (.seq (.reg r11 (some [2, 17, 18, 19, 20, 21, 22, 23, 24])) (.seq (.reg r12 (some [2, 17, 18, 19, 20, 21, 22, 23, 24, 25, 26])) (.seq (.reg r13 (some [2, 17, 18, 19, 20, 21, 22, 23, 24, 25, 26, 27, 28])) (.seq (.reg r14 (some [2, 17, 18, 19, 20, 21, 22, 23, 24, 25, 26, 27, 28, 29, 30])) (.seq (.dreg r15 t15 (some [4])) .ret)))))))))))))))
def ann : Ann := [(0, (some [2, 3], 0, [], [], [])), (1, (some [2, 3, 5, 6], 0, [], [], [])), (2, (some [2, 3, 5, 6, 7, 8], 0, [], [], [])), (3, (some [2, 3, 5, 6, 7, 8, 9, 10], 0, [], [], [])), (4, (some [2, 3, 5, 6, 7, 8, 9, 10, 11, 12], 0, [], [], [])), (5, (some [2, 3, 5, 6, 7, 8, 9, 10, 11, 12, 13, 14], 0, [], [], [])), (6, (some [2, 3, 5, 6, 7, 8, 9, 10, 11, 12, 13, 14, 15, 16], 0, [], [], [])), (7, (some [2, 3, 103], 37, [], [(0, 0), (1, 0), (2, 0), (3, 0), (4, 0), (5, 0), (6, 0), (7, 0), (8, 0), (9, 0), (10, 0), (11, 0), (12, 0), (13, 0), (14, 0), (15, 0), (16, 0), (17, 0), (18, 0), (19, 0), (20, 0), (21, 0), (22, 0), (23, 0), (24, 0), (25, 0), (26, 0), (27, 0), (28, 0), (29, 0), (30, 0), (31, 0), (32, 0), (33, 0), (34, 0), (35, 0), (36, 0)], [])), (8, (some [4], 0, [], [], [])), (9, (some [2, 3, 17, 18, 19], 0, [], [], [])), (10, (some [2, 17, 18, 19, 20, 21, 22], 0, [], [], [])), (11, (some [2, 17, 18, 19, 20, 21, 22, 23, 24], 0, [], [], [])), (12, (some [2, 17, 18, 19, 20, 21, 22, 23, 24, 25, 26], 0, [], [], [])), (13, (some [2, 17, 18, 19, 20, 21, 22, 23, 24, 25, 26, 27, 28], 0, [], [], [])), (14, (some [2, 17, 18, 19, 20, 21, 22, 23, 24, 25, 26, 27, 28, 29, 30], 0, [], [], [])), (15, (some [4], 54, [], [(0, 0), (1, 0), (2, 0), (3, 0), (4, 0), (5, 0), (6, 0), (7, 0), (8, 0), (9, 0), (10, 0), (11, 0), (12, 0), (13, 0), (14, 0), (15, 0), (16, 0), (17, 0), (18, 0), (19, 0), (20, 0), (21, 0), (22, 0), (23, 0), (24, 0), (25, 0), (26, 0), (27, 0), (28, 0), (29, 0), (30, 0), (31, 0), (32, 0), (33, 0), (34, 0), (35, 0), (36, 0), (37, 0), (38, 0), (39, 0), (40, 0), (41, 0), (42, 0), (43, 0), (44, 0), (45, 0), (46, 0), (47, 0), (48, 0), (49, 0), (50, 0), (51, 0), (52, 0), (53, 0)], []))]
theorem ok : compF Tryd.prog Tryd.f26 ann = some (192, c, [(4, none)]) := by kernel_rfl
def p1 (S : St) : Prop := ops C r15 (ops C t15 (kq [4] R)) S
def p2 (S : St) : Prop := ops C r14 (kq [2, 17, 18, 19, 20, 21, 22, 23, 24, 25, 26, 27, 28, 29, 30] (p1 C R)) S
def p3 (S : St) : Prop := ops C r13 (kq [2, 17, 18, 19, 20, 21, 22, 23, 24, 25, 26, 27, 28] (p2 C R)) S
def p4 (S : St) : Prop := ops C r12 (kq [2, 17, 18, 19, 20, 21, 22, 23, 24, 25, 26] (p3 C R)) S
def p5 (S : St) : Prop := ops C r11 (kq [2, 17, 18, 19, 20, 21, 22, 23, 24] (p4 C R)) S
def p6 (S : St) : Prop := ops C r10 (kq [2, 17, 18, 19, 20, 21, 22] (p5 C R)) S
def p7 (S : St) : Prop := ops C r9 (kq [2, 3, 17, 18, 19] (p6 C R)) S
def p9 (S : St) : Prop := ops C r8 (kq [4] R) S
def p8 (S : St) : Prop := condX (S.ev (.tmp 103)) (p9 C R) (p7 C R) S
def p10 (S : St) : Prop := ops C r7 (ops C t7 (kq [2, 3, 103] (p8 C R))) S
def p11 (S : St) : Prop := ops C r6 (kq [2, 3, 5, 6, 7, 8, 9, 10, 11, 12, 13, 14, 15, 16] (p10 C R)) S
def p12 (S : St) : Prop := ops C r5 (kq [2, 3, 5, 6, 7, 8, 9, 10, 11, 12, 13, 14] (p11 C R)) S
def p13 (S : St) : Prop := ops C r4 (kq [2, 3, 5, 6, 7, 8, 9, 10, 11, 12] (p12 C R)) S
def p14 (S : St) : Prop := ops C r3 (kq [2, 3, 5, 6, 7, 8, 9, 10] (p13 C R)) S
def p15 (S : St) : Prop := ops C r2 (kq [2, 3, 5, 6, 7, 8] (p14 C R)) S
def p16 (S : St) : Prop := ops C r1 (kq [2, 3, 5, 6] (p15 C R)) S
def p17 (S : St) : Prop := ops C r0 (kq [2, 3] (p16 C R)) S
theorem s (S : St) : X C c (retK R) S = p17 C R S := by kernel_rfl
theorem E : type_of% @r15.eq_1 ∧ type_of% @t15.eq_1 ∧ type_of% @p1.eq_1 ∧ type_of% @r14.eq_1 ∧ type_of% @p2.eq_1 ∧ type_of% @r13.eq_1 ∧ type_of% @p3.eq_1 ∧ type_of% @r12.eq_1 ∧ type_of% @p4.eq_1 ∧ type_of% @r11.eq_1 ∧ type_of% @p5.eq_1 ∧ type_of% @r10.eq_1 ∧ type_of% @p6.eq_1 ∧ type_of% @r9.eq_1 ∧ type_of% @p7.eq_1 ∧ type_of% @r8.eq_1 ∧ type_of% @p9.eq_1 ∧ type_of% @p8.eq_1 ∧ type_of% @r7.eq_1 ∧ type_of% @t7.eq_1 ∧ type_of% @p10.eq_1 ∧ type_of% @r6.eq_1 ∧ type_of% @p11.eq_1 ∧ type_of% @r5.eq_1 ∧ type_of% @p12.eq_1 ∧ type_of% @r4.eq_1 ∧ type_of% @p13.eq_1 ∧ type_of% @r3.eq_1 ∧ type_of% @p14.eq_1 ∧ type_of% @r2.eq_1 ∧ type_of% @p15.eq_1 ∧ type_of% @r1.eq_1 ∧ type_of% @p16.eq_1 ∧ type_of% @r0.eq_1 ∧ type_of% @p17.eq_1 ∧ type_of% @s := ⟨@r15.eq_1, @t15.eq_1, @p1.eq_1, @r14.eq_1, @p2.eq_1, @r13.eq_1, @p3.eq_1, @r12.eq_1, @p4.eq_1, @r11.eq_1, @p5.eq_1, @r10.eq_1, @p6.eq_1, @r9.eq_1, @p7.eq_1, @r8.eq_1, @p9.eq_1, @p8.eq_1, @r7.eq_1, @t7.eq_1, @p10.eq_1, @r6.eq_1, @p11.eq_1, @r5.eq_1, @p12.eq_1, @r4.eq_1, @p13.eq_1, @r3.eq_1, @p14.eq_1, @r2.eq_1, @p15.eq_1, @r1.eq_1, @p16.eq_1, @r0.eq_1, @p17.eq_1, @s⟩
end w02_alike
end Go.Proofs.YtiiflgfnbgencaaDoor

/- Tx: The package wide: Text of one number (that of the sanity check). -/
namespace Go.Proofs.YtiiflgfnbgencaaDoor
open Go Go.RowKit Sx
set_option linter.unusedVariables false
set_option linter.unusedSimpArgs false
def s18 : ByteArray := ⟨#[54, 55, 48, 49, 49, 54, 49, 49, 48, 53, 54, 52, 51, 50, 55, 52, 50, 52]⟩
def s27 : ByteArray := ⟨#[50, 55]⟩
theorem en_fu (l : Array Value) (W : World) : (callFunc 41 l).run Tryd.prog W = .ok (.enter 41 l) W := Sx.en_of Tryd.func41 (by kernel_rfl) (by kernel_rfl) l W
theorem en_rep (l : Array Value) (W : World) : (callFunc 42 l).run Tryd.prog W = .ok (.enter 42 l) W := Sx.en_of Tryd.func42 (by kernel_rfl) (by kernel_rfl) l W
theorem en_rev (l : Array Value) (W : World) : (callFunc 43 l).run Tryd.prog W = .ok (.enter 43 l) W := Sx.en_of Tryd.func43 (by kernel_rfl) (by kernel_rfl) l W
theorem en_join (l : Array Value) (W : World) : (callFunc 44 l).run Tryd.prog W = .ok (.enter 44 l) W := Sx.en_of Tryd.func44 (by kernel_rfl) (by kernel_rfl) l W
def tabs (W : World) : Prop := Lib.TabIs Tryd.prog W "internal/strconv.uint64pow10" .u64 Lib.pow10Tab
theorem tabs_below {B : Nat} {W W' : World} (h : tabs W) (hB : W.heap.size = B) (hb : Below B W W') : tabs W' := by
  subst hB
  exact Lib.tabBelow_of_tabIs h W' hb
theorem fmt18 (W : World) (h : tabs W) : Gives Tryd.prog 41 [.int .u64 670116110564327424, .int .i64 10] W (· = .string s18) := by
  refine gives_known en_fu ?_
  have e : (⟨(Lib.decDigits 670116110564327424).toArray⟩ : ByteArray) = s18 := by decide +kernel
  rw [← e]
  exact fmtT 670116110564327424 (by decide) W h
theorem fmt27 (W : World) (h : tabs W) : Gives Tryd.prog 41 [.int .u64 27, .int .i64 10] W (· = .string s27) := by
  refine gives_known en_fu ?_
  have e : (⟨(Lib.decDigits 27).toArray⟩ : ByteArray) = s27 := by decide +kernel
  rw [← e]
  exact fmtT 27 (by decide) W h
theorem rep0 (W : World) : Gives Tryd.prog 42 [.string ⟨#[48]⟩, .int .i64 0] W (· = .string ⟨#[]⟩) :=
  gives_known en_rep ((Tryd.strings_Repeat_zero _ W).mono fun e w' ⟨h1, h2⟩ => ⟨h1, by rw [h2]; exact Below.refl _ _⟩)
namespace Sx
variable {C : Cx} {S : St} {K : St → Prop} {d : Option Nat}
/-- Block b reads as these cells; it has room for cap. -/
def rK (b cap : Nat) (cs : List Value) : KnG where
  bs := [b]
  ok n W := n ≤ b ∧ b < W.heap.size ∧ cs.length ≤ cap ∧ ∀ (j : Nat) x, cs[j]? = some x → W.cell? ⟨b, j, none⟩ = some x
  lt := fun {n W} h c hc => by rw [List.mem_singleton.1 hc]; exact ⟨h.1, h.2.1⟩
  keep := fun {n W W'} h hs hb ho => ⟨h.1, Nat.lt_of_lt_of_le h.2.1 hs, h.2.2.1, fun j x hj => (World.cell?_of_block (a := ⟨b, j, none⟩) (hb b (List.mem_singleton.2 rfl))).trans (h.2.2.2 j x hj)⟩
end Sx
theorem setCells_more (g : Nat) : ∀ (vs : List Value) (o : Nat) (w : World), (w.setCells g o vs).tape = w.tape ∧ (w.setCells g o vs).heap.size = w.heap.size
  | [], o, w => ⟨rfl, rfl⟩
  | v :: r, o, w => by
    rw [World.setCells]
    obtain ⟨h1, h2⟩ := setCells_more g r (o + 1) (w.setCell ⟨g, o, none⟩ v)
    exact ⟨h1.trans (by unfold World.setCell; (repeat' split) <;> rfl), h2.trans (World.size_setCell _ _ _)⟩
/-- slices.Reverse of a row of two texts. -/
theorem asks_rev {C : Cx} {S : St} {K : St → Prop} {d : Option Nat} {L : List Kn} {g cap : Nat} {a b : ByteArray} (hP : C.P = Tryd.prog) (hT : S.T = kX C.w0.heap.size L) (hm : .g (wK 9 1 (.slice (some ⟨g, 0, none⟩) 2 cap) 2 [.string a, .string b]) ∈ L)
    (hmv : g ∈ C.mv S) (hbs : g ∈ S.T.bs)
    (hk : K (St.put ⟨S.n, S.E, S.H, kX C.w0.heap.size [.g (rK g cap [.string b, .string a])]⟩ d (.v (.tuple #[])))) : asks C 43 [.slice (some ⟨g, 0, none⟩) 2 cap] d K S := by
  refine asks_kn (ι := Unit) (L := L) (gs := [g]) (fun _ => .tuple #[]) (fun _ => [.g (rK g cap [.string b, .string a])]) (by rw [hP]; exact en_rev) hT (fun x hx => by rw [List.mem_singleton.1 hx]; exact hmv) (fun W hok x hx => by
    rw [List.mem_singleton.1 hx]
    exact ((hok _ hm).lt g (by simp [Kn.bs, wK, Value.ownBlock])).1) (fun W hW hok => ?_) fun _ => hk
  rw [hP]
  have ho : W.ownsRow C.w0.heap.size 9 1 (.slice (some ⟨g, 0, none⟩) 2 cap) 2 [.string a, .string b] := hok _ hm
  have hlt := ho.lt g rfl
  have hcell : ∀ (j : Nat) x, [Value.string a, .string b][j]? = some x → W.cell? ⟨g, j, none⟩ = some x := fun j x hj => by
    have := ho.cells (g := g) rfl j x hj
    rw [Addr.add_lit, Nat.zero_add] at this
    exact this
  have hcap : 2 ≤ cap := by
    rcases ho.2 with ⟨h, -⟩ | ⟨g', cap', cur, h, -, -, hn, -⟩
    · cases h
    · cases h; exact hn
  have hfz : ∀ j, W.frozen? ⟨g, j, none⟩ = false := fun j => by
    rcases ho.2 with ⟨h, -⟩ | ⟨g', cap', cur, h, -, hg, -⟩
    · cases h
    · cases h
      simp [World.frozen?, hg]
  have hc : ∀ i, i < 2 → W.cell? ⟨g, 0 + i, none⟩ = some (.string ((fun i => if i = 0 then a else b) i)) := fun i hi => by
    rcases i with _ | _ | i
    · exact hcell 0 _ rfl
    · exact hcell 1 _ rfl
    · omega
  refine (Tryd.slices_Reverse_string_cells g 0 2 cap (fun i => if i = 0 then a else b) W (by decide) hc (fun j _ => hfz _)).mono fun e w' ⟨h1, q, h2⟩ => ⟨(), h1, ?_, ?_⟩
  · subst h2
    refine ⟨?_, ?_, ?_, ?_, ?_⟩
    · rw [World.os_setCells]; rfl
    · rw [(setCells_more g _ 0 (W.drewN q)).1]; rfl
    · rw [World.output_setCells]; rfl
    · rw [(setCells_more g _ 0 (W.drewN q)).2]; exact Nat.le_refl _
    · intro i hi hn
      exact World.heap_setCells_other _ g 0 _ hi fun e => hn (by rw [e]; exact List.mem_singleton.2 rfl)
  · intro k hk
    rw [List.mem_singleton.1 hk]
    right
    refine ⟨?_, fun x hx => .inl ?_⟩
    · subst h2
      have hv : (Lib.strsOf (fun i => if i = 0 then a else b) 2).reverse.map encStr = [Value.string b, .string a] := by
        show [encStr b.data.toList, encStr a.data.toList] = _
        simp [encStr]
      rw [hv]
      have hsome : ∀ j, j < [Value.string b, Value.string a].length → ((W.drewN q).cell? ⟨g, 0 + j, none⟩).isSome = true := fun j hj => by
        rw [World.cell?_drewN, hc j hj]; rfl
      refine ⟨hlt.1, by rw [(setCells_more g _ 0 (W.drewN q)).2]; exact hlt.2, hcap, fun j x hj => ?_⟩
      have hj' : j < 2 := by
        rcases j with _ | _ | j
        · omega
        · omega
        · cases hj
      have := World.cell?_setCells_in g [Value.string b, .string a] 0 (W.drewN q) hsome j hj'
      rw [Nat.zero_add] at this
      rw [this, ← hj, List.getElem?_eq_getElem hj']
    · rw [show x = g from List.mem_singleton.1 hx]
      exact hbs
def sJ : ByteArray := ⟨#[50, 55, 54, 55, 48, 49, 49, 54, 49, 49, 48, 53, 54, 52, 51, 50, 55, 52, 50, 52]⟩
theorem asks_join {C : Cx} {S : St} {K : St → Prop} {d : Option Nat} {g cap : Nat} (hP : C.P = Tryd.prog) (hT : S.T = kX C.w0.heap.size [.g (rK g cap [.string s27, .string s18])])
    (hk : K (St.put ⟨S.n, S.E, S.H, kX C.w0.heap.size [.g (rK g cap [.string s27, .string s18])]⟩ d (.v (.string sJ)))) : asks C 44 [.slice (some ⟨g, 0, none⟩) 2 cap, .string ⟨#[]⟩] d K S := by
  refine asks_kn (ι := Unit) (L := [.g (rK g cap [.string s27, .string s18])]) (gs := []) (fun _ => .string sJ) (fun _ => [.g (rK g cap [.string s27, .string s18])]) (by rw [hP]; exact en_join) hT (fun x hx => by cases hx) (fun W hok x hx => by cases hx) (fun W hW hok => ?_) fun _ => hk
  rw [hP]
  obtain ⟨h1, h2, h3, h4⟩ : (rK g cap [.string s27, .string s18]).ok C.w0.heap.size W := hok _ (List.mem_singleton.2 rfl)
  refine (Tryd.strings_Join g 0 cap [s27, s18] ⟨#[]⟩ W (fun j x hj => ?_) h2 (by decide) h3 (by decide)).mono fun e w' ⟨e1, e2⟩ => ⟨(), ?_, moves_below e2, fun k hk => .inl ⟨hk, fun _ _ h => by cases h⟩⟩
  · rw [Nat.zero_add]
    refine h4 j _ ?_
    rcases j with _ | _ | j
    · cases hj; rfl
    · cases hj; rfl
    · cases hj
  · rw [e1]
    have : (⟨(Lib.join ([s27, s18].map (·.data.toList)) (⟨#[]⟩ : ByteArray).data.toList).toArray⟩ : ByteArray) = sJ := by decide +kernel
    rw [this]
theorem info_str : (Tryd.prog.info? 9).map (fun i => (i.zero, i.size, i.bytes)) = some (some (.string ⟨#[]⟩), 1, 16) := by kernel_rfl
set_option maxRecDepth 100000 in
set_option maxHeartbeats 1000000 in
theorem g_text (W : World) (ht : tabs W) : Gives Tryd.prog 24 [.agg #[.bool true, .int .u64 9223372036854775808, .int .u64 1, .int .u64 0, .int .u64 0]] W (· = .string ⟨#[45, 50, 55, 54, 55, 48, 49, 49, 54, 49, 49, 48, 53, 54, 52, 51, 50, 55, 52, 50, 52]⟩) := by
  have cl : ∀ W, Gives Tryd.prog 32 [.agg #[.bool true, .int .u64 9223372036854775808, .int .u64 1, .int .u64 0, .int .u64 0]] W (· = .agg #[.bool true, .int .u64 9223372036854775808, .int .u64 1, .int .u64 0, .int .u64 0]) := fun W => g_clean true 9223372036854775808 1 0 0 W
  have dv1 : ∀ W, Gives Tryd.prog 39 [.agg #[.int .u64 9223372036854775808, .int .u64 1, .int .u64 0, .int .u64 0], .agg #[.int .u64 1000000000000000000, .int .u64 0, .int .u64 0, .int .u64 0]] W (· = .tuple #[.agg #[.int .u64 27, .int .u64 0, .int .u64 0, .int .u64 0], .agg #[.int .u64 670116110564327424, .int .u64 0, .int .u64 0, .int .u64 0]]) := fun W => g_div (a := 27670116110564327424) (b := 1000000000000000000) ⟨by decide, by decide⟩ ⟨by decide, by decide⟩ (by decide) W
  have dv2 : ∀ W, Gives Tryd.prog 39 [.agg #[.int .u64 27, .int .u64 0, .int .u64 0, .int .u64 0], .agg #[.int .u64 1000000000000000000, .int .u64 0, .int .u64 0, .int .u64 0]] W (· = .tuple #[.agg #[.int .u64 0, .int .u64 0, .int .u64 0, .int .u64 0], .agg #[.int .u64 27, .int .u64 0, .int .u64 0, .int .u64 0]]) := fun W => g_div (a := 27) (b := 1000000000000000000) ⟨by decide, by decide⟩ ⟨by decide, by decide⟩ (by decide) W
  have f1 := fun W' (hb : Below W.heap.size W W') => fmt18 W' (tabs_below ht rfl hb)
  have f2 := fun W' (hb : Below W.heap.size W W') => fmt27 W' (tabs_below ht rfl hb)
  have z1 : s18.size = 18 := rfl
  have q1 : meq 27 0 0 0 0 0 0 0 = false := rfl
  have q2 : meq 0 0 0 0 0 0 0 0 = true := rfl
  have c1 : ¬ (((⟨#[]⟩ : ByteArray).size + s18.size : Nat) : Int) > IntKind.i64.max := by decide
  have c3 : ¬ (((⟨#[45]⟩ : ByteArray).size + sJ.size : Nat) : Int) > IntKind.i64.max := by decide
  have c4 : (⟨#[45]⟩ : ByteArray) ++ sJ = ⟨#[45, 50, 55, 54, 55, 48, 49, 49, 54, 49, 49, 48, 53, 54, 52, 51, 50, 55, 52, 50, 52]⟩ := by decide +kernel
  have c2 : (⟨#[]⟩ : ByteArray) ++ s18 = s18 := by decide +kernel
  refine gives_known en_wide_Text ?_
  refine known_of (enter Tryd.func24 wide_Text.ok (args := [_]) (by simp) ?_)
  repeat' (first | simp (disch := omega) only [sxE, wide_Text.E, Nat.reduceAdd, Nat.reduceEqDiff, Nat.reduceMul, Nat.reduceSub, Int.reduceAdd, Int.reduceSub, Int.reduceMul, Int.reduceNeg, Int.reduceLT, Int.reduceLE, Int.reduceEq, Int.reduceToNat, ↓reduceIte, Int.reducePow, Nat.reduceLeDiff, Nat.reduceLT, ne_eq, eq_self, List.length_cons, List.length_nil, q1, q2, c1, c2, z1] | (with_reducible refine Sx.call_at (f := 32) (fun W hW => cl W) ?_) | (with_reducible refine Sx.call_at (f := 39) (fun W hW => dv1 W) ?_) | (with_reducible refine Sx.call_at (f := 39) (fun W hW => dv2 W) ?_) | (with_reducible refine Sx.call_at (f := 41) (fun W hW => f1 W hW) ?_) | (with_reducible refine Sx.call_at (f := 41) (fun W hW => f2 W hW) ?_) | (with_reducible refine Sx.call_at (f := 42) (fun W hW => rep0 W) ?_) | (with_reducible refine eq_is (fun W => by exact eqm_run _ _ _ _ _ _ _ _ W) ?_) | (rw [wide_Text.p7_l]) | (with_reducible apply LX_round))
  obtain ⟨i0, hi, hz0, hz1, hz2⟩ := info_parts info_str
  refine genA_c (L := []) (cs := [.string s18]) (T := 9) (fun b => .slice (some ⟨b, 0, none⟩) 1 1) (kX_nil _) (fun W => by kernel_rfl) fun b1 hb1 => ?_
  clear hb1
  repeat' (first | simp (disch := omega) only [sxE, wide_Text.E, Nat.reduceAdd, Nat.reduceEqDiff, Nat.reduceMul, Nat.reduceSub, Int.reduceAdd, Int.reduceSub, Int.reduceMul, Int.reduceNeg, Int.reduceLT, Int.reduceLE, Int.reduceEq, Int.reduceToNat, ↓reduceIte, Int.reducePow, Nat.reduceLeDiff, Nat.reduceLT, ne_eq, eq_self, List.length_cons, List.length_nil, q1, q2, c1, c2, z1] | (with_reducible refine Sx.call_at (f := 39) (fun W hW => dv1 W) ?_) | (with_reducible refine Sx.call_at (f := 39) (fun W hW => dv2 W) ?_) | (with_reducible refine Sx.call_at (f := 41) (fun W hW => f1 W hW) ?_) | (with_reducible refine Sx.call_at (f := 41) (fun W hW => f2 W hW) ?_) | (with_reducible refine Sx.call_at (f := 42) (fun W hW => rep0 W) ?_) | (with_reducible refine eq_is (fun W => by exact eqm_run _ _ _ _ _ _ _ _ W) ?_) | (rw [wide_Text.p7_l]) | (with_reducible apply LX_round))
  refine genA_grow (P := Tryd.prog) rfl (L := [.g (cK b1 [.string s18])]) (fun g cap => [.g (wK 9 1 (.slice (some ⟨g, 0, none⟩) (0 + 1) cap) (0 + 1) ([] ++ [.string s18]))]) Tryd.underlying67 hi hz0 hz1 hz2 rfl (by decide) rfl (fun W _ => World.ownsRow_nil _ _ _ _) (fun g h => by cases h) (List.mem_singleton.2 rfl) rfl (by decide) (fun u hu => by rw [List.mem_singleton.1 hu]; rfl) (by decide) (by decide) (fun g cap k hk => .inl (List.mem_singleton.1 hk)) fun g cap => ?_
  simp only [Nat.zero_add, List.nil_append]
  repeat' (first | simp (disch := omega) only [sxE, wide_Text.E, Nat.reduceAdd, Nat.reduceEqDiff, Nat.reduceMul, Nat.reduceSub, Int.reduceAdd, Int.reduceSub, Int.reduceMul, Int.reduceNeg, Int.reduceLT, Int.reduceLE, Int.reduceEq, Int.reduceToNat, ↓reduceIte, Int.reducePow, Nat.reduceLeDiff, Nat.reduceLT, ne_eq, eq_self, List.length_cons, List.length_nil, q1, q2, c1, c2, z1] | (with_reducible refine Sx.call_at (f := 39) (fun W hW => dv1 W) ?_) | (with_reducible refine Sx.call_at (f := 39) (fun W hW => dv2 W) ?_) | (with_reducible refine Sx.call_at (f := 41) (fun W hW => f1 W hW) ?_) | (with_reducible refine Sx.call_at (f := 41) (fun W hW => f2 W hW) ?_) | (with_reducible refine Sx.call_at (f := 42) (fun W hW => rep0 W) ?_) | (with_reducible refine eq_is (fun W => by exact eqm_run _ _ _ _ _ _ _ _ W) ?_) | (rw [wide_Text.p7_l]) | (with_reducible apply LX_round))
  refine genA_c (L := [.g (wK 9 1 (.slice (some ⟨g, 0, none⟩) 1 cap) 1 [.string s18])]) (cs := [.string s27]) (T := 9) (fun b => .slice (some ⟨b, 0, none⟩) 1 1) rfl (fun W => by kernel_rfl) fun b2 hb2 => ?_
  clear hb2
  repeat' (first | simp (disch := omega) only [sxE, wide_Text.E, Nat.reduceAdd, Nat.reduceEqDiff, Nat.reduceMul, Nat.reduceSub, Int.reduceAdd, Int.reduceSub, Int.reduceMul, Int.reduceNeg, Int.reduceLT, Int.reduceLE, Int.reduceEq, Int.reduceToNat, ↓reduceIte, Int.reducePow, Nat.reduceLeDiff, Nat.reduceLT, ne_eq, eq_self, List.length_cons, List.length_nil, q1, q2, c1, c2, z1] | (with_reducible refine Sx.call_at (f := 39) (fun W hW => dv1 W) ?_) | (with_reducible refine Sx.call_at (f := 39) (fun W hW => dv2 W) ?_) | (with_reducible refine Sx.call_at (f := 41) (fun W hW => f1 W hW) ?_) | (with_reducible refine Sx.call_at (f := 41) (fun W hW => f2 W hW) ?_) | (with_reducible refine Sx.call_at (f := 42) (fun W hW => rep0 W) ?_) | (with_reducible refine eq_is (fun W => by exact eqm_run _ _ _ _ _ _ _ _ W) ?_) | (rw [wide_Text.p7_l]) | (with_reducible apply LX_round))
  refine genA_grow (P := Tryd.prog) rfl (L := [.g (cK b2 [.string s27]), .g (wK 9 1 (.slice (some ⟨g, 0, none⟩) 1 cap) 1 [.string s18])]) (fun g cap => [.g (wK 9 1 (.slice (some ⟨g, 0, none⟩) (1 + 1) cap) (1 + 1) ([.string s18] ++ [.string s27]))]) Tryd.underlying67 hi hz0 hz1 hz2 rfl (by decide) rfl (fun W hok => hok (.g (wK 9 1 (.slice (some ⟨g, 0, none⟩) 1 cap) 1 [.string s18])) (List.mem_cons_of_mem _ (List.mem_singleton.2 rfl))) (fun g' h => by
    cases h
    have hm : g ∈ (kX W.heap.size [.g (cK b2 [.string s27]), .g (wK 9 1 (.slice (some ⟨g, 0, none⟩) 1 cap) 1 [.string s18])]).bs := kX_bs.2 ⟨_, List.mem_cons_of_mem _ (List.mem_singleton.2 rfl), by simp [Kn.bs, wK, Value.ownBlock]⟩
    exact ⟨hm, hm⟩) List.mem_cons_self rfl (by decide) (fun u hu => by rw [List.mem_singleton.1 hu]; rfl) (by decide) (by decide) (fun g cap k hk => .inl (List.mem_singleton.1 hk)) fun g2 cap2 => ?_
  simp only [Nat.reduceAdd, List.cons_append, List.nil_append]
  clear f1 f2
  repeat' (first | simp (disch := omega) only [sxE, wide_Text.E, Nat.reduceAdd, Nat.reduceEqDiff, Nat.reduceMul, Nat.reduceSub, Int.reduceAdd, Int.reduceSub, Int.reduceMul, Int.reduceNeg, Int.reduceLT, Int.reduceLE, Int.reduceEq, Int.reduceToNat, ↓reduceIte, Int.reducePow, Nat.reduceLeDiff, Nat.reduceLT, ne_eq, eq_self, List.length_cons, List.length_nil, q1, q2, c1, c2, z1])
  have hm : g2 ∈ (kX W.heap.size [.g (wK 9 1 (.slice (some ⟨g2, 0, none⟩) 2 cap2) 2 [.string s18, .string s27])]).bs := kX_bs.2 ⟨_, List.mem_singleton.2 rfl, by simp [Kn.bs, wK, Value.ownBlock]⟩
  refine asks_rev rfl rfl (List.mem_singleton.2 rfl) hm hm ?_
  repeat' (first | simp (disch := omega) only [sxE, wide_Text.E, Nat.reduceAdd, Nat.reduceEqDiff, Nat.reduceMul, Nat.reduceSub, Int.reduceAdd, Int.reduceSub, Int.reduceMul, Int.reduceNeg, Int.reduceLT, Int.reduceLE, Int.reduceEq, Int.reduceToNat, ↓reduceIte, Int.reducePow, Nat.reduceLeDiff, Nat.reduceLT, ne_eq, eq_self, List.length_cons, List.length_nil, q1, q2, c1, c2, z1])
  refine asks_join rfl rfl ?_
  repeat' (first | simp (disch := omega) only [sxE, wide_Text.E, Nat.reduceAdd, Nat.reduceEqDiff, Nat.reduceMul, Nat.reduceSub, Int.reduceAdd, Int.reduceSub, Int.reduceMul, Int.reduceNeg, Int.reduceLT, Int.reduceLE, Int.reduceEq, Int.reduceToNat, ↓reduceIte, Int.reducePow, Nat.reduceLeDiff, Nat.reduceLT, ne_eq, eq_self, List.length_cons, List.length_nil, c3, c4])
end Go.Proofs.YtiiflgfnbgencaaDoor

/- Ql: Plain laws of fractions. -/
namespace Go.Proofs.YtiiflgfnbgencaaDoor
set_option linter.unusedVariables false
set_option linter.unusedSimpArgs false
theorem km_neg (x y : Int) : cm x y = -cm y x := by unfold cm; (repeat' split) <;> omega
theorem km_bd (x y : Int) : -1 ≤ cm x y ∧ cm x y ≤ 1 := by unfold cm; (repeat' split) <;> omega
theorem km_le (x y : Int) : cm x y ≤ 0 ↔ x ≤ y := by unfold cm; (repeat' split) <;> omega
theorem km_gt (x y : Int) : 0 < cm x y ↔ y < x := by unfold cm; (repeat' split) <;> omega
theorem km_lt (x y : Int) : cm x y < 0 ↔ x < y := by unfold cm; (repeat' split) <;> omega
theorem km_ge0 (x y : Int) : 0 ≤ cm x y ↔ y ≤ x := by unfold cm; (repeat' split) <;> omega
theorem km_eq (x y : Int) : cm x y = 0 ↔ x = y := by unfold cm; (repeat' split) <;> omega
end Go.Proofs.YtiiflgfnbgencaaDoor

/- Spl: Plain facts of the simplest fraction of an interval. -/
namespace Go.Proofs.YtiiflgfnbgencaaDoor
set_option linter.unusedVariables false
set_option linter.unusedSimpArgs false
/-- The simplest fraction from a / b to c / d, both greater than 0. -/
def sp : Nat → Int → Int → Int → Int → Int × Int
  | 0, _, _, _, _ => (0, 0)
  | n + 1, a, b, c, d =>
    if a % b = 0 then (a / b, 1)
    else if a / b < c / d then (a / b + 1, 1)
    else (a / b * (sp n d (c % d) b (a % b)).1 + (sp n d (c % d) b (a % b)).2, (sp n d (c % d) b (a % b)).1)
end Go.Proofs.YtiiflgfnbgencaaDoor

/- Hi: The reference's Int64 of a number that fits. -/
namespace Go.Proofs.YtiiflgfnbgencaaDoor
open Go Go.RowKit Sx
set_option linter.unusedVariables false
set_option linter.unusedSimpArgs false
set_option maxHeartbeats 1000000
def U8 (x : Int) : Prop := 0 ≤ x ∧ x ≤ 255
theorem U8.of_wf {x : Int} (h : (Lit.int .u8 x).wf = true) : U8 x := by
  have e : IntKind.u8.min = 0 := by decide
  have e' : IntKind.u8.max = 255 := by decide
  simp [Lit.wf, e, e'] at h
  exact h
end Go.Proofs.YtiiflgfnbgencaaDoor

/- L02: Helpers of the statements about wide: Int64, Unsigned, Sub of the program; known. -/
namespace Go.Proofs.YtiiflgfnbgencaaDoor
open Go Go.RowKit Sx
set_option linter.unusedVariables false
set_option linter.unusedSimpArgs false
theorem g_sub {v v' : Value} {z z' : Int} (h : IsW v z) (h' : IsW v' z') (W : World) : Gives Tryd.prog 23 [v, v'] W (· = .tuple #[WE (cl (z - z')), .bool (fb (z - z'))]) := gives_known en_wide_Sub (sub_w h h' W)
theorem eqs_run {ng : Bool} {xo yo : Operand} (a : ByteArray) (W : World) :
    ((do eqGuard (if ng then .neq else .eql) 9 xo yo (.string a) (.string a); binOp (if ng then .neq else .eql) 9 (.string a) (.string a)) : Sem Value).run Tryd.prog W = .ok (.bool (if ng then false else true)) W := by
  have e : (a.toList == a.toList) = true := beq_self_eq_true _
  cases ng
  · have g : (eqGuard .eql 9 xo yo (.string a) (.string a)).run Tryd.prog W = .ok () W := by unfold eqGuard; rfl
    show (do eqGuard .eql 9 xo yo (.string a) (.string a); binOp .eql 9 (.string a) (.string a) : Sem Value).run Tryd.prog W = _
    rw [run_bind_ok g]
    have e2 : binOp .eql 9 (.string a) (.string a) = Op.stringOp .eql a a := by unfold binOp; rfl
    rw [e2]
    unfold Op.stringOp
    simp only [e]
    rfl
  · have g : (eqGuard .neq 9 xo yo (.string a) (.string a)).run Tryd.prog W = .ok () W := by unfold eqGuard; rfl
    show (do eqGuard .neq 9 xo yo (.string a) (.string a); binOp .neq 9 (.string a) (.string a) : Sem Value).run Tryd.prog W = _
    rw [run_bind_ok g]
    have e2 : binOp .neq 9 (.string a) (.string a) = Op.stringOp .neq a a := by unfold binOp; rfl
    rw [e2]
    unfold Op.stringOp
    simp only [e]
    rfl
set_option maxRecDepth 100000 in
set_option maxHeartbeats 1000000 in
theorem g_known02 (W : World) (ht : tabs W) : Gives Tryd.prog 13 [] W (· = .bool true) := by
  have i3 : I64 (-3) := ⟨by decide, by decide⟩
  have i7 : I64 (-7) := ⟨by decide, by decide⟩
  have i2 : I64 2 := ⟨by decide, by decide⟩
  have i4 : I64 (-4) := ⟨by decide, by decide⟩
  have i1 : I64 1 := ⟨by decide, by decide⟩
  have u3 : U64 9223372036854775808 := ⟨by decide, by decide⟩
  have f3 := (bd_i64 i3).fits
  have f7 := (bd_i64 i7).fits
  have f2 := (bd_i64 i2).fits
  have f4 := (bd_i64 i4).fits
  have f1 := (bd_i64 i1).fits
  have fu := (bd_u64 u3).fits
  have fp : Fits (-27670116110564327424) := (fits_lt _).2 (by decide)
  have o3 := fun W => gx_of i3 W
  have o7 := fun W => gx_of i7 W
  have o2 := fun W => gx_of i2 W
  have o4 := fun W => gx_of i4 W
  have o1 := fun W => gx_of i1 W
  have ou := fun W => gx_ofU u3 W
  have mu : ∀ W, Gives Tryd.prog 12 [WX (-3), WX 9223372036854775808] W (· = .tuple #[WX (-27670116110564327424), .bool true]) := fun W => gx_mul f3 fu fp W
  have dv : ∀ W, Gives Tryd.prog 20 [WX (-7), WX 2] W (· = .tuple #[WX (-4), WX 1, .bool true]) := fun W => gx_divmod f7 f2 (by decide) W
  have tx : ∀ W', Below W.heap.size W W' → Gives Tryd.prog 24 [WX (-27670116110564327424)] W' (· = .string ⟨#[45, 50, 55, 54, 55, 48, 49, 49, 54, 49, 49, 48, 53, 54, 52, 51, 50, 55, 52, 50, 52]⟩) := fun W' hb => g_text W' (tabs_below ht rfl hb)
  have va := fun W => gx_valid fp W
  refine gives_known en_w02_known ?_
  refine known_of (enter Tryd.func13 w02_known.ok (args := []) (by simp) ?_)
  repeat' (first | simp (disch := omega) only [sxE, w02_known.E, Nat.reduceAdd, Nat.reduceEqDiff, Nat.reduceMul, Nat.reduceSub, Int.reduceAdd, Int.reduceSub, Int.reduceMul, Int.reduceNeg, Int.reduceLT, Int.reduceLE, Int.reduceEq, Int.reduceToNat, ↓reduceIte, Int.reducePow, Nat.reduceLeDiff, Nat.reduceLT, ne_eq, eq_self, List.length_cons, List.length_nil, qxE, beq_self_eq_true] | (with_reducible refine Sx.call_at (f := 15) (fun W hW => o3 W) ?_) | (with_reducible refine Sx.call_at (f := 15) (fun W hW => o7 W) ?_) | (with_reducible refine Sx.call_at (f := 15) (fun W hW => o2 W) ?_) | (with_reducible refine Sx.call_at (f := 15) (fun W hW => o4 W) ?_) | (with_reducible refine Sx.call_at (f := 15) (fun W hW => o1 W) ?_) | (with_reducible refine Sx.call_at (f := 17) (fun W hW => ou W) ?_) | (with_reducible refine Sx.call_at (f := 12) (fun W hW => mu W) ?_) | (with_reducible refine Sx.call_at (f := 20) (fun W hW => dv W) ?_) | (with_reducible refine Sx.call_at (f := 24) (fun W hW => tx W hW) ?_) | (with_reducible refine Sx.call_at (f := 38) (fun W hW => va W) ?_) | (with_reducible refine eq_is (fun W => by exact eqs_run _ W) ?_) | (with_reducible refine eq_is (fun W => by first | exact eqx_run f4 f4 W | exact eqx_run f1 f1 W) ?_))
end Go.Proofs.YtiiflgfnbgencaaDoor

/- Wn: Int64 and Unsigned of both, for all Wides. -/
namespace Go.Proofs.YtiiflgfnbgencaaDoor
open Go Go.RowKit Sx
set_option linter.unusedVariables false
set_option linter.unusedSimpArgs false
def i6b (z : Int) : Bool := decide (-9223372036854775808 ≤ z ∧ z ≤ 9223372036854775807)
def i6v (z : Int) : Int := if i6b z then z else 0
theorem meq_low {m : Int} (h : A4 m) : meq (lb0 m) (lb1 m) (lb2 m) (lb3 m) (lb0 m) 0 0 0 = decide (m < 18446744073709551616) := by
  have h4 := mv_me h
  have b0 := lb0_in m
  have b1 := lb1_in m
  have b2 := lb2_in m
  have b3 := lb3_in m
  rw [Bool.eq_iff_iff, decide_eq_true_eq]
  unfold meq
  generalize lb0 m = a at *
  generalize lb1 m = b at *
  generalize lb2 m = c at *
  generalize lb3 m = d at *
  unfold MV at h4
  obtain ⟨a1, a2⟩ := b0
  obtain ⟨c1, c2⟩ := b1
  obtain ⟨d1, d2⟩ := b2
  obtain ⟨e1, e2⟩ := b3
  simp only [beq_self_eq_true, Bool.true_and, Bool.and_eq_true, beq_iff_eq]
  omega
set_option maxRecDepth 100000 in
theorem g_unsigned {v : Value} {z : Int} (h : IsW v z) (W : World) : Gives Tryd.prog 16 [v] W (· = .tuple #[.int .u64 (unv z), .bool (unb z)]) := by
  obtain ⟨n, m, rfl, am, hab, hz, hn⟩ := h.me
  refine gives_known en_wide_Unsigned ?_
  have p1 : cn n (lb0 m) (lb1 m) (lb2 m) (lb3 m) = decide (z < 0) := hn
  obtain ⟨k1, k2⟩ := ab_of_sv (n := n) hab
  have ml := meq_low am
  have am0 := am.1
  clear h hn hz hab
  by_cases hneg : z < 0
  · have u1 : unb z = false := decide_eq_false (by omega)
    have u2 : unv z = 0 := by unfold unv; rw [u1]; rfl
    rw [decide_eq_true hneg] at p1
    rw [u1, u2]
    clear k1 k2 am am0
    refine known_of (enter Tryd.func16 wide_Unsigned.ok (args := [WV n (lb0 m) (lb1 m) (lb2 m) (lb3 m)]) (by simp) ?_)
    repeat' (first | simp (disch := omega) only [sxE, wide_Unsigned.E, Nat.reduceAdd, Nat.reduceEqDiff, Nat.reduceMul, Nat.reduceSub, Int.reduceAdd, Int.reduceSub, Int.reduceMul, Int.reduceNeg, Int.reduceLT, Int.reduceLE, Int.reduceEq, Int.reduceToNat, ↓reduceIte, Int.reducePow, Nat.reduceLeDiff, Nat.reduceLT, ne_eq, eq_self, List.length_cons, List.length_nil, p1] | (with_reducible refine Sx.call_at (f := 32) (fun W hW => g_clean _ _ _ _ _ W) ?_))
  · have hzm := k2 (decide_eq_false hneg)
    rw [decide_eq_false hneg] at p1
    by_cases hlt : m < 18446744073709551616
    · have u1 : unb z = true := decide_eq_true (by omega)
      have u2 : unv z = m := by unfold unv; rw [u1]; exact hzm
      have u3 : lb0 m = m := Int.emod_eq_of_lt am0 hlt
      rw [decide_eq_true hlt] at ml
      rw [u1, u2]
      clear k1 k2 u1 u2 hneg hzm am
      refine known_of (enter Tryd.func16 wide_Unsigned.ok (args := [WV n (lb0 m) (lb1 m) (lb2 m) (lb3 m)]) (by simp) ?_)
      repeat' (first | simp (disch := omega) only [sxE, wide_Unsigned.E, Nat.reduceAdd, Nat.reduceEqDiff, Nat.reduceMul, Nat.reduceSub, Int.reduceAdd, Int.reduceSub, Int.reduceMul, Int.reduceNeg, Int.reduceLT, Int.reduceLE, Int.reduceEq, Int.reduceToNat, ↓reduceIte, Int.reducePow, Nat.reduceLeDiff, Nat.reduceLT, ne_eq, eq_self, List.length_cons, List.length_nil, p1, ml] | (with_reducible refine Sx.call_at (f := 32) (fun W hW => g_clean _ _ _ _ _ W) ?_) | (with_reducible refine eq_is (fun W => by exact eqm_run _ _ _ _ _ _ _ _ W) ?_))
      rw [u3]
    · have u1 : unb z = false := decide_eq_false (by omega)
      have u2 : unv z = 0 := by unfold unv; rw [u1]; rfl
      rw [decide_eq_false hlt] at ml
      rw [u1, u2]
      clear k1 k2 u1 u2 hneg hzm am
      refine known_of (enter Tryd.func16 wide_Unsigned.ok (args := [WV n (lb0 m) (lb1 m) (lb2 m) (lb3 m)]) (by simp) ?_)
      repeat' (first | simp (disch := omega) only [sxE, wide_Unsigned.E, Nat.reduceAdd, Nat.reduceEqDiff, Nat.reduceMul, Nat.reduceSub, Int.reduceAdd, Int.reduceSub, Int.reduceMul, Int.reduceNeg, Int.reduceLT, Int.reduceLE, Int.reduceEq, Int.reduceToNat, ↓reduceIte, Int.reducePow, Nat.reduceLeDiff, Nat.reduceLT, ne_eq, eq_self, List.length_cons, List.length_nil, p1, ml] | (with_reducible refine Sx.call_at (f := 32) (fun W hW => g_clean _ _ _ _ _ W) ?_) | (with_reducible refine eq_is (fun W => by exact eqm_run _ _ _ _ _ _ _ _ W) ?_))
theorem wr_lo {m : Int} (h0 : 0 ≤ m) (h : m < 9223372036854775808) : IntKind.i64.wrap m = m := wrap_i64_lo m h0 h
theorem wr_neg {m : Int} (h0 : 0 < m) (h : m ≤ 9223372036854775808) : IntKind.u64.wrap (0 - m) = 18446744073709551616 - m ∧ IntKind.i64.wrap (18446744073709551616 - m) = -m := by
  refine ⟨by unfold IntKind.wrap; simp [IntKind.signed, IntKind.bits]; omega, ?_⟩
  rw [wrap_i64_hi _ (by omega) (by omega)]
  omega
set_option maxRecDepth 100000 in
set_option maxHeartbeats 1000000 in
theorem g_int64 {v : Value} {z : Int} (h : IsW v z) (W : World) : Gives Tryd.prog 14 [v] W (· = .tuple #[.int .i64 (i6v z), .bool (i6b z)]) := by
  obtain ⟨n, m, rfl, am, hab, hz, hn⟩ := h.me
  refine gives_known en_wide_Int64 ?_
  have p1 : cn n (lb0 m) (lb1 m) (lb2 m) (lb3 m) = decide (z < 0) := hn
  obtain ⟨k1, k2⟩ := ab_of_sv (n := n) hab
  have ml := meq_low am
  have am0 := am.1
  clear h hn hz hab
  have no : i6b z = false → i6v z = 0 := fun e => by unfold i6v; rw [e]; rfl
  have yes : i6b z = true → i6v z = z := fun e => by unfold i6v; rw [e]; rfl
  by_cases hlt : m < 18446744073709551616
  · have u3 : lb0 m = m := Int.emod_eq_of_lt am0 hlt
    rw [decide_eq_true hlt] at ml
    by_cases hneg : z < 0
    · have hzm := k1 (decide_eq_true hneg)
      rw [decide_eq_true hneg] at p1
      by_cases hb : m ≤ 9223372036854775808
      · have u1 : i6b z = true := decide_eq_true (by omega)
        rw [yes u1, u1]
        obtain ⟨w1, w2⟩ := wr_neg (m := m) (by omega) hb
        rw [← u3] at w1 w2
        have hb' : ¬ 9223372036854775808 < lb0 m := by omega
        clear k1 k2 u1 hneg am no yes
        have hzm' : z = -lb0 m := by omega
        rw [hzm']
        clear hzm hzm' u3
        by_cases he : lb0 m = 9223372036854775808
        · have d1 : (lb0 m == 9223372036854775808) = true := beq_iff_eq.2 he
          refine known_of (enter Tryd.func14 wide_Int64.ok (args := [WV n (lb0 m) (lb1 m) (lb2 m) (lb3 m)]) (by simp) ?_)
          repeat' (first | simp (disch := omega) only [sxE, wide_Int64.E, Nat.reduceAdd, Nat.reduceEqDiff, Nat.reduceMul, Nat.reduceSub, Int.reduceAdd, Int.reduceSub, Int.reduceMul, Int.reduceNeg, Int.reduceLT, Int.reduceLE, Int.reduceEq, Int.reduceToNat, ↓reduceIte, Int.reducePow, Nat.reduceLeDiff, Nat.reduceLT, ne_eq, eq_self, List.length_cons, List.length_nil, p1, ml, d1, w1, w2] | (with_reducible refine Sx.call_at (f := 32) (fun W hW => g_clean _ _ _ _ _ W) ?_) | (with_reducible refine eq_is (fun W => by exact eqm_run _ _ _ _ _ _ _ _ W) ?_))
        · have d1 : (lb0 m == 9223372036854775808) = false := beq_eq_false_iff_ne.2 he
          refine known_of (enter Tryd.func14 wide_Int64.ok (args := [WV n (lb0 m) (lb1 m) (lb2 m) (lb3 m)]) (by simp) ?_)
          repeat' (first | simp (disch := omega) only [sxE, wide_Int64.E, Nat.reduceAdd, Nat.reduceEqDiff, Nat.reduceMul, Nat.reduceSub, Int.reduceAdd, Int.reduceSub, Int.reduceMul, Int.reduceNeg, Int.reduceLT, Int.reduceLE, Int.reduceEq, Int.reduceToNat, ↓reduceIte, Int.reducePow, Nat.reduceLeDiff, Nat.reduceLT, ne_eq, eq_self, List.length_cons, List.length_nil, p1, ml, d1, w1, w2] | (with_reducible refine Sx.call_at (f := 32) (fun W hW => g_clean _ _ _ _ _ W) ?_) | (with_reducible refine eq_is (fun W => by exact eqm_run _ _ _ _ _ _ _ _ W) ?_))
      · have u1 : i6b z = false := decide_eq_false (by omega)
        rw [no u1, u1]
        have hb' : 9223372036854775808 < lb0 m := by omega
        clear k1 k2 u1 hneg am no yes u3
        refine known_of (enter Tryd.func14 wide_Int64.ok (args := [WV n (lb0 m) (lb1 m) (lb2 m) (lb3 m)]) (by simp) ?_)
        repeat' (first | simp (disch := omega) only [sxE, wide_Int64.E, Nat.reduceAdd, Nat.reduceEqDiff, Nat.reduceMul, Nat.reduceSub, Int.reduceAdd, Int.reduceSub, Int.reduceMul, Int.reduceNeg, Int.reduceLT, Int.reduceLE, Int.reduceEq, Int.reduceToNat, ↓reduceIte, Int.reducePow, Nat.reduceLeDiff, Nat.reduceLT, ne_eq, eq_self, List.length_cons, List.length_nil, p1, ml] | (with_reducible refine Sx.call_at (f := 32) (fun W hW => g_clean _ _ _ _ _ W) ?_) | (with_reducible refine eq_is (fun W => by exact eqm_run _ _ _ _ _ _ _ _ W) ?_))
    · have hzm := k2 (decide_eq_false hneg)
      rw [decide_eq_false hneg] at p1
      by_cases hb : m < 9223372036854775808
      · have u1 : i6b z = true := decide_eq_true (by omega)
        rw [yes u1, u1]
        have w1 := wr_lo (m := lb0 m) (by omega) (by omega)
        have hb' : ¬ 9223372036854775808 < lb0 m := by omega
        have d1 : (lb0 m == 9223372036854775808) = false := beq_eq_false_iff_ne.2 (by omega)
        have hzm' : z = lb0 m := by omega
        clear k1 k2 u1 hneg am no yes
        rw [hzm']
        clear hzm hzm' u3
        refine known_of (enter Tryd.func14 wide_Int64.ok (args := [WV n (lb0 m) (lb1 m) (lb2 m) (lb3 m)]) (by simp) ?_)
        repeat' (first | simp (disch := omega) only [sxE, wide_Int64.E, Nat.reduceAdd, Nat.reduceEqDiff, Nat.reduceMul, Nat.reduceSub, Int.reduceAdd, Int.reduceSub, Int.reduceMul, Int.reduceNeg, Int.reduceLT, Int.reduceLE, Int.reduceEq, Int.reduceToNat, ↓reduceIte, Int.reducePow, Nat.reduceLeDiff, Nat.reduceLT, ne_eq, eq_self, List.length_cons, List.length_nil, p1, ml, d1, w1] | (with_reducible refine Sx.call_at (f := 32) (fun W hW => g_clean _ _ _ _ _ W) ?_) | (with_reducible refine eq_is (fun W => by exact eqm_run _ _ _ _ _ _ _ _ W) ?_))
      · have u1 : i6b z = false := decide_eq_false (by omega)
        rw [no u1, u1]
        clear k1 k2 u1 hneg am no yes
        by_cases he : lb0 m = 9223372036854775808
        · have hb' : ¬ 9223372036854775808 < lb0 m := by omega
          have d1 : (lb0 m == 9223372036854775808) = true := beq_iff_eq.2 he
          refine known_of (enter Tryd.func14 wide_Int64.ok (args := [WV n (lb0 m) (lb1 m) (lb2 m) (lb3 m)]) (by simp) ?_)
          repeat' (first | simp (disch := omega) only [sxE, wide_Int64.E, Nat.reduceAdd, Nat.reduceEqDiff, Nat.reduceMul, Nat.reduceSub, Int.reduceAdd, Int.reduceSub, Int.reduceMul, Int.reduceNeg, Int.reduceLT, Int.reduceLE, Int.reduceEq, Int.reduceToNat, ↓reduceIte, Int.reducePow, Nat.reduceLeDiff, Nat.reduceLT, ne_eq, eq_self, List.length_cons, List.length_nil, p1, ml, d1] | (with_reducible refine Sx.call_at (f := 32) (fun W hW => g_clean _ _ _ _ _ W) ?_) | (with_reducible refine eq_is (fun W => by exact eqm_run _ _ _ _ _ _ _ _ W) ?_))
        · have hb' : 9223372036854775808 < lb0 m := by omega
          refine known_of (enter Tryd.func14 wide_Int64.ok (args := [WV n (lb0 m) (lb1 m) (lb2 m) (lb3 m)]) (by simp) ?_)
          repeat' (first | simp (disch := omega) only [sxE, wide_Int64.E, Nat.reduceAdd, Nat.reduceEqDiff, Nat.reduceMul, Nat.reduceSub, Int.reduceAdd, Int.reduceSub, Int.reduceMul, Int.reduceNeg, Int.reduceLT, Int.reduceLE, Int.reduceEq, Int.reduceToNat, ↓reduceIte, Int.reducePow, Nat.reduceLeDiff, Nat.reduceLT, ne_eq, eq_self, List.length_cons, List.length_nil, p1, ml] | (with_reducible refine Sx.call_at (f := 32) (fun W hW => g_clean _ _ _ _ _ W) ?_) | (with_reducible refine eq_is (fun W => by exact eqm_run _ _ _ _ _ _ _ _ W) ?_))
  · have u1 : i6b z = false := decide_eq_false (by
      cases hd : decide (z < 0) <;> simp only [hd, true_implies, reduceCtorEq, false_implies] at k1 k2 <;> omega)
    rw [decide_eq_false hlt] at ml
    rw [no u1, u1]
    clear k1 k2 u1 am no yes
    refine known_of (enter Tryd.func14 wide_Int64.ok (args := [WV n (lb0 m) (lb1 m) (lb2 m) (lb3 m)]) (by simp) ?_)
    repeat' (first | simp (disch := omega) only [sxE, wide_Int64.E, Nat.reduceAdd, Nat.reduceEqDiff, Nat.reduceMul, Nat.reduceSub, Int.reduceAdd, Int.reduceSub, Int.reduceMul, Int.reduceNeg, Int.reduceLT, Int.reduceLE, Int.reduceEq, Int.reduceToNat, ↓reduceIte, Int.reducePow, Nat.reduceLeDiff, Nat.reduceLT, ne_eq, eq_self, List.length_cons, List.length_nil, p1, ml] | (with_reducible refine Sx.call_at (f := 32) (fun W hW => g_clean _ _ _ _ _ W) ?_) | (with_reducible refine eq_is (fun W => by exact eqm_run _ _ _ _ _ _ _ _ W) ?_))
end Go.Proofs.YtiiflgfnbgencaaDoor

/- LwD: The tables that the rows list: a world that has them; what they give the walks. -/
namespace Go.Proofs.YtiiflgfnbgencaaDoor
open Go.ChangeShapes Go.WideShapes Go.ChangeAt Go.WideMaps Go.WideElems Go.RowKit
set_option linter.unusedVariables false
set_option linter.unusedSimpArgs false
def laidD : List (String × DataW Unit) := [("math/bits.deBruijn32tab", Rows.laid_math_bits_deBruijn32tab), ("math/bits.deBruijn64tab", Rows.laid_math_bits_deBruijn64tab), ("internal/strconv.uint64pow10", Rows.laid_internal_strconv_uint64pow10)]
theorem door_met (os : Os) (args : Array Value) : laidMetH Tryd.prog laidD ((World.doorLaid Tryd.prog 400 os).forCall (fun _ _ => 0) ⟨#[], args, []⟩).memory :=
  laidMetH_of_parts3 (fuel := 8) (laidMet_of_run' 8 (by kernel_rfl) (by kernel_rfl)) (by kernel_rfl) (by kernel_rfl)
theorem tabs_of_laid {W : World} (h : laidMetH Tryd.prog laidD W) : tabs W := by
  rw [MakeChecks.laidMetH_plain _ _ _ (by kernel_rfl)] at h
  obtain ⟨ps, ⟨g0, t0, cs0, f0, p0, q0, _, _, _, _, ⟨g1, t1, cs1, f1, p1, q1, _, _, _, _, ⟨g2, t2, cs2, f2, p2, q2, hg2, ht2, hv2, hd2, _, _⟩, _⟩, _⟩, _⟩ := h
  have hty : (Tryd.prog.globals[g2]?).map (·.type) = some 119 := by
    have h1 : Tryd.prog.globalNamed "internal/strconv.uint64pow10" = some 2 := by kernel_rfl
    have h3 : (Tryd.prog.globals[2]?).map (·.type) = some 119 := by kernel_rfl
    obtain rfl := Option.some.inj (h1.symm.trans hg2)
    exact h3
  obtain rfl := Option.some.inj (hty.symm.trans ht2)
  unfold tabs Lib.TabIs
  rw [hv2, ← Lib.cells_of_tab (k := .u64) (zs := Lib.pow10Tab) Tryd.underlying119 Tryd.underlying25 (by kernel_rfl) (by kernel_rfl) (show _ = some (Lib.tabData .u64 Lib.pow10Tab, p2) from hd2)]
end Go.Proofs.YtiiflgfnbgencaaDoor

/- Open: Opening arguments that are structs: samples and Wides. -/
namespace Go.Proofs.YtiiflgfnbgencaaDoor
open Go.ChangeShapes Go.WideShapes Go.ChangeAt Go.RowKit
set_option linter.unusedVariables false
set_option linter.unusedSimpArgs false
section
variable {H : Type} {enc : TypeId × Value → H} {P : Program}
theorem list5 {l : List Value} (h : l.length = 5) : ∃ x y z u v, l = [x, y, z, u, v] := by
  match l, h with
  | [x, y, z, u, v], _ => exact ⟨x, y, z, u, v, rfl⟩
theorem open_wid {t e : TypeId} {f0 f1 : Field} {v : Value} {d : DataW H} {ps : List MemPlace} {W : World} {base : Nat} (ht : P.underlying t = some (.struct #[f0, f1])) (k0 : P.underlying f0.type = some .bool) (k1 : P.underlying f1.type = some (.array 4 e)) (ke : P.underlying e = some (.int .u64)) (o0 : f0.offset = 0) (o1 : f1.offset = 1)
    (c0 : P.cellsOf f0.type = 1) (c1 : P.cellsOf f1.type = 4) (ce : P.cellsOf e = 1) (ct : P.cellsOf t = 5) (hv : Value.okWide P W .any base t v) (h : DataW.Trod enc P W 0 (fun _ => true) true t v d ps) : ∃ n a b c d', v = WV n a b c d' ∧ U64 a ∧ U64 b ∧ U64 c ∧ U64 d' := by
  obtain ⟨cs, rfl, hsz⟩ := okWide_struct ht hv
  obtain ⟨fuel, hf⟩ := h
  obtain ⟨y0, y1, n, _, hlen, e0, e1⟩ := trod_struct2 ht hf
  have hl : cs.toList.length = 5 := by rw [Array.length_toList, hsz, ct]
  obtain ⟨x, y, z, u, v, hxy⟩ := list5 hl
  have hcs : cs = #[x, y, z, u, v] := by rw [← Array.toArray_toList (xs := cs), hxy]
  subst hcs
  rw [o0, c0] at e0
  rw [o1, c1] at e1
  obtain ⟨nb, en, -⟩ := DataW.trod_bool k0 e0
  have e1' : DataW.trod enc P W 0 (fun _ => true) true n f1.type [y, z, u, v] = some y1 := by simpa [Value.cells] using e1
  obtain ⟨z0, z1, z2, z3, m, _, g0, g1, g2, g3⟩ := trod_array4 k1 ce e1'
  obtain ⟨a0, r0, -, w0⟩ := DataW.trod_int ke g0
  obtain ⟨a1, r1, -, w1⟩ := DataW.trod_int ke g1
  obtain ⟨a2, r2, -, w2⟩ := DataW.trod_int ke g2
  obtain ⟨a3, r3, -, w3⟩ := DataW.trod_int ke g3
  simp [Value.cells] at en r0 r1 r2 r3
  subst en; subst r0; subst r1; subst r2; subst r3
  exact ⟨nb, a0, a1, a2, a3, rfl, U64.of_wf w0, U64.of_wf w1, U64.of_wf w2, U64.of_wf w3⟩
end
set_option maxRecDepth 100000 in
theorem open_wide {H : Type} {enc : TypeId × Value → H} {v : Value} {d : DataW H} {ps : List MemPlace} {W : World} {base : Nat} (hv : Value.okWide Tryd.prog W .any base 28 v) (h : DataW.Trod enc Tryd.prog W 0 (fun _ => true) true 28 v d ps) : ∃ n a b c d', v = WV n a b c d' ∧ U64 a ∧ U64 b ∧ U64 c ∧ U64 d' :=
  open_wid Tryd.underlying28 Tryd.underlying4 Tryd.underlying26 Tryd.underlying25 rfl rfl (by kernel_rfl) (by kernel_rfl) (by kernel_rfl) (by kernel_rfl) hv h
end Go.Proofs.YtiiflgfnbgencaaDoor

/- Wf: The reference's Int64 of all Wides; alike of the statements about wide. -/
namespace Go.Proofs.YtiiflgfnbgencaaDoor
open Go Go.RowKit Sx
set_option linter.unusedVariables false
set_option linter.unusedSimpArgs false
set_option maxRecDepth 100000 in
set_option maxHeartbeats 1000000 in
theorem rgf_int64 {v : Value} {z : Int} (h : IsW v z) (W : World) : Gives Tryd.prog 53 [v] W (· = .tuple #[.int .i64 (i6v z), .bool (i6b z)]) := by
  obtain ⟨n, m, rfl, am, hab, -, hn⟩ := h.me
  refine gives_known en_r02_Int64 ?_
  have p1 : cn n (lb0 m) (lb1 m) (lb2 m) (lb3 m) = decide (z < 0) := hn
  obtain ⟨k1, k2⟩ := ab_of_sv (n := n) hab
  have hm0 := am.1
  have hl : ¬ 1 < ((wl m).length : Int) ↔ m < 18446744073709551616 := by
    have := wl_len_lt am.1 1
    have e : ((18446744073709551616 : Int) ^ 1) = 18446744073709551616 := by decide
    have e2 : (pw 1 : Int) = 18446744073709551616 := rfl
    rw [e2] at this
    omega
  have no : i6b z = false → i6v z = 0 := fun e => by unfold i6v; rw [e]; rfl
  have yes : i6b z = true → i6v z = z := fun e => by unfold i6v; rw [e]; rfl
  clear h hn hab
  refine known_of (enter Tryd.func53 r02_Int64.ok (args := [WV n (lb0 m) (lb1 m) (lb2 m) (lb3 m)]) (by simp) ?_)
  repeat' (first | simp (disch := omega) only [sxE, r02_Int64.E, Nat.reduceAdd, Nat.reduceEqDiff, Nat.reduceMul, Nat.reduceSub, Int.reduceAdd, Int.reduceSub, Int.reduceMul, Int.reduceNeg, Int.reduceLT, Int.reduceLE, Int.reduceEq, Int.reduceToNat, ↓reduceIte, Int.reducePow, Nat.reduceLeDiff, Nat.reduceLT, ne_eq, eq_self, List.length_cons, List.length_nil, p1] | (with_reducible refine Sx.call_at (f := 45) (fun W hW => rg_clean _ (lb0_in _) (lb1_in _) (lb2_in _) (lb3_in _) W) ?_))
  by_cases h0 : m = 0
  · have hz0 : z = 0 := by cases hd : decide (z < 0) <;> simp only [hd, true_implies, reduceCtorEq, false_implies] at k1 k2 <;> omega
    refine asks_r (L := []) (ws := []) en_r02_of (kX_nil _) (fun W hW _ => by have := of_mag (n := decide (z < 0)) am W; unfold MagP at this; rwa [show wl m = [] by rw [h0]; exact wl_nil (Int.le_refl _)] at this) fun a1 c1 hs1 hn1 => ?_
    have u1 : i6b z = true := decide_eq_true (by omega)
    rw [yes u1, u1]
    clear hs1 hn1 k1 k2 hl no yes u1
    subst hz0
    repeat' (first | simp (disch := omega) only [sxE, r02_Int64.E, Nat.reduceAdd, Nat.reduceEqDiff, Nat.reduceMul, Nat.reduceSub, Int.reduceAdd, Int.reduceSub, Int.reduceMul, Int.reduceNeg, Int.reduceLT, Int.reduceLE, Int.reduceEq, Int.reduceToNat, ↓reduceIte, Int.reducePow, Nat.reduceLeDiff, Nat.reduceLT, ne_eq, eq_self, List.length_cons, List.length_nil])
  · by_cases hlt : m < 18446744073709551616
    · have e1 : wl m = [m] := by rw [wl_cons (by omega), wl_nil (by omega), Int.emod_eq_of_lt hm0 (by omega)]
      refine asks_r (L := []) (ws := [m]) en_r02_of (kX_nil _) (fun W hW _ => by have := of_mag (n := decide (z < 0)) am W; unfold MagP at this; rwa [e1] at this) fun a1 c1 hs1 hn1 => ?_
      obtain ⟨b, off, rfl⟩ : ∃ b off, a1 = some ⟨b, off, none⟩ := hs1.some Nat.zero_lt_one
      have g0 : [m].getD 0 0 = m := rfl
      clear hs1 hn1 hl e1
      by_cases hneg : z < 0
      · have hzm := k1 (decide_eq_true hneg)
        rw [decide_eq_true hneg]
        by_cases hb : m ≤ 9223372036854775808
        · have u1 : i6b z = true := decide_eq_true (by omega)
          rw [yes u1, u1]
          obtain ⟨w1, w2⟩ := wr_neg (m := m) (by omega) hb
          have hb' : ¬ 9223372036854775808 < m := by omega
          rw [hzm]
          clear k1 k2 p1 hneg u1 no yes hzm
          repeat' (first | simp (disch := omega) only [sxE, r02_Int64.E, Nat.reduceAdd, Nat.reduceEqDiff, Nat.reduceMul, Nat.reduceSub, Int.reduceAdd, Int.reduceSub, Int.reduceMul, Int.reduceNeg, Int.reduceLT, Int.reduceLE, Int.reduceEq, Int.reduceToNat, ↓reduceIte, Int.reducePow, Nat.reduceLeDiff, Nat.reduceLT, ne_eq, eq_self, List.length_cons, List.length_nil, w1, w2, g0, Nat.add_zero] | (refine ldP_r 0 rfl List.mem_cons_self Nat.zero_lt_one ?_))
        · have u1 : i6b z = false := decide_eq_false (by omega)
          rw [no u1, u1]
          have hb' : 9223372036854775808 < m := by omega
          clear k1 k2 p1 hneg u1 no yes hzm
          repeat' (first | simp (disch := omega) only [sxE, r02_Int64.E, Nat.reduceAdd, Nat.reduceEqDiff, Nat.reduceMul, Nat.reduceSub, Int.reduceAdd, Int.reduceSub, Int.reduceMul, Int.reduceNeg, Int.reduceLT, Int.reduceLE, Int.reduceEq, Int.reduceToNat, ↓reduceIte, Int.reducePow, Nat.reduceLeDiff, Nat.reduceLT, ne_eq, eq_self, List.length_cons, List.length_nil, g0, Nat.add_zero] | (refine ldP_r 0 rfl List.mem_cons_self Nat.zero_lt_one ?_))
      · have hzm := k2 (decide_eq_false hneg)
        rw [decide_eq_false hneg]
        by_cases hb : m < 9223372036854775808
        · have u1 : i6b z = true := decide_eq_true (by omega)
          rw [yes u1, u1]
          have w1 := wr_lo (m := m) hm0 hb
          have hb' : ¬ 9223372036854775808 ≤ m := by omega
          rw [hzm]
          clear k1 k2 p1 hneg u1 no yes hzm
          repeat' (first | simp (disch := omega) only [sxE, r02_Int64.E, Nat.reduceAdd, Nat.reduceEqDiff, Nat.reduceMul, Nat.reduceSub, Int.reduceAdd, Int.reduceSub, Int.reduceMul, Int.reduceNeg, Int.reduceLT, Int.reduceLE, Int.reduceEq, Int.reduceToNat, ↓reduceIte, Int.reducePow, Nat.reduceLeDiff, Nat.reduceLT, ne_eq, eq_self, List.length_cons, List.length_nil, w1, g0, Nat.add_zero] | (refine ldP_r 0 rfl List.mem_cons_self Nat.zero_lt_one ?_))
        · have u1 : i6b z = false := decide_eq_false (by omega)
          rw [no u1, u1]
          have hb' : 9223372036854775808 ≤ m := by omega
          clear k1 k2 p1 hneg u1 no yes hzm
          repeat' (first | simp (disch := omega) only [sxE, r02_Int64.E, Nat.reduceAdd, Nat.reduceEqDiff, Nat.reduceMul, Nat.reduceSub, Int.reduceAdd, Int.reduceSub, Int.reduceMul, Int.reduceNeg, Int.reduceLT, Int.reduceLE, Int.reduceEq, Int.reduceToNat, ↓reduceIte, Int.reducePow, Nat.reduceLeDiff, Nat.reduceLT, ne_eq, eq_self, List.length_cons, List.length_nil, g0, Nat.add_zero] | (refine ldP_r 0 rfl List.mem_cons_self Nat.zero_lt_one ?_))
    · refine asks_r (L := []) (ws := wl m) en_r02_of (kX_nil _) (fun W hW _ => of_mag am W) fun a1 c1 hs1 hn1 => ?_
      have hl1 : 1 < ((wl m).length : Int) := Decidable.byContradiction fun e => hlt (hl.1 e)
      have u1 : i6b z = false := decide_eq_false (by
        cases hd : decide (z < 0) <;> simp only [hd, true_implies, reduceCtorEq, false_implies] at k1 k2 <;> omega)
      rw [no u1, u1]
      have hl0 : ¬ ((wl m).length : Int) = 0 := by omega
      clear k1 k2 p1 u1 no yes hl hs1 hn1
      repeat' (first | simp (disch := omega) only [sxE, r02_Int64.E, Nat.reduceAdd, Nat.reduceEqDiff, Nat.reduceMul, Nat.reduceSub, Int.reduceAdd, Int.reduceSub, Int.reduceMul, Int.reduceNeg, Int.reduceLT, Int.reduceLE, Int.reduceEq, Int.reduceToNat, ↓reduceIte, Int.reducePow, Nat.reduceLeDiff, Nat.reduceLT, ne_eq, eq_self, List.length_cons, List.length_nil])
theorem bb_selfw (b : Bool) : (b == b) = true := by cases b <;> rfl
set_option maxRecDepth 100000 in
set_option maxHeartbeats 2000000 in
theorem g_alike02 {v v' : Value} {t t' : Bool} {x y : Int} (h : RW v t x) (h' : RW v' t' y) (W : World) : Gives Tryd.prog 26 [v, v'] W (· = .bool true) := by
  have a1 : ∀ W, Gives Tryd.prog 11 [v, v'] W (· = .tuple #[WX (cl (x + y)), .bool (fb (x + y))]) := fun W => g_add h.is h'.is W
  have a2 : ∀ W, Gives Tryd.prog 48 [v, v'] W (· = .tuple #[WX (cl (x + y)), .bool (fb (x + y))]) := fun W => rg_add h.is h'.is W
  have b1 : ∀ W, Gives Tryd.prog 23 [v, v'] W (· = .tuple #[WX (cl (x - y)), .bool (fb (x - y))]) := fun W => g_sub h.is h'.is W
  have b2 : ∀ W, Gives Tryd.prog 49 [v, v'] W (· = .tuple #[WX (cl (x - y)), .bool (fb (x - y))]) := fun W => rg_sub h.is h'.is W
  have c1 : ∀ W, Gives Tryd.prog 12 [v, v'] W (· = .tuple #[WX (cl (x * y)), .bool (fb (x * y))]) := fun W => g_mul h.is h'.is W
  have c2 : ∀ W, Gives Tryd.prog 50 [v, v'] W (· = .tuple #[WX (cl (x * y)), .bool (fb (x * y))]) := fun W => rg_mul h.is h'.is W
  have d1 := fun W => g_compare h.is h'.is W
  have d2 := fun W => rg_compare h.is h'.is W
  have fx := h.fits
  have fe : Fits (x / y) := by
    by_cases hy : y = 0
    · rw [hy, Int.ediv_zero]; exact fits_zero
    · exact fits_ediv fx hy
  have fr : Fits (dr x y) := by
    unfold dr
    split
    · exact fits_zero
    · rename_i hy; exact fits_emod h'.fits hy
  have e1 : ∀ W, Gives Tryd.prog 20 [v, v'] W (· = .tuple #[WX (x / y), WX (dr x y), .bool (decide (y ≠ 0))]) := fun W => g_divmod h.is h'.is W
  have e2 : ∀ W, Gives Tryd.prog 52 [v, v'] W (· = .tuple #[WX (x / y), WX (dr x y), .bool (decide (y ≠ 0))]) := fun W => rg_divmod h.is h'.is W
  have i1 := fun W => g_int64 h.is W
  have i2 := fun W => rgf_int64 h.is W
  have u1 := fun W => g_unsigned h.is W
  have u2 := fun W => rg_unsigned h.is W
  have v1 := fun W => gy_valid h W
  have v2 := fun W => ry_valid h W
  have s1 := fun W => g_sign h.is W
  have s2 := fun W => rg_sign h.is W
  have n1 : ∀ W, Gives Tryd.prog 40 [v] W (· = WX (-x)) := fun W => g_neg h.is W
  have n2 : ∀ W, Gives Tryd.prog 31 [v] W (· = WX (-x)) := fun W => rg_neg h.is W
  have fn : Fits (-x) := fits_le fx (by rw [ab_neg]; exact Int.le_refl _)
  have fa := fits_cl (x + y)
  have fs := fits_cl (x - y)
  have fm := fits_cl (x * y)
  obtain ⟨p0, p1, p2, p3, p4, rfl⟩ := h.five
  obtain ⟨q0, q1, q2, q3, q4, rfl⟩ := h'.five
  clear h h' fx
  generalize cl (x + y) = A at *
  generalize fb (x + y) = A' at *
  generalize cl (x - y) = B at *
  generalize fb (x - y) = B' at *
  generalize cl (x * y) = C at *
  generalize fb (x * y) = C' at *
  generalize x / y = D at *
  generalize dr x y = E at *
  generalize decide (y ≠ 0) = E' at *
  generalize i6v x = I at *
  generalize i6b x = I' at *
  generalize unv x = U at *
  generalize unb x = U' at *
  generalize cm x y = M at *
  generalize cm x 0 = S at *
  generalize -x = N at *
  have z1 := bb_selfw A'
  have z2 := bb_selfw B'
  have z3 := bb_selfw C'
  have z4 := bb_selfw E'
  have z5 := bb_selfw I'
  have z6 := bb_selfw U'
  have z7 := bb_selfw t
  refine gives_known en_w02_alike ?_
  refine known_of (enter Tryd.func26 w02_alike.ok (args := [_, _]) (by simp) ?_)
  repeat' (first | simp (disch := omega) only [sxE, w02_alike.E, Nat.reduceAdd, Nat.reduceEqDiff, Nat.reduceMul, Nat.reduceSub, Int.reduceAdd, Int.reduceSub, Int.reduceMul, Int.reduceNeg, Int.reduceLT, Int.reduceLE, Int.reduceEq, Int.reduceToNat, ↓reduceIte, Int.reducePow, Nat.reduceLeDiff, Nat.reduceLT, ne_eq, eq_self, List.length_cons, List.length_nil, qxE, z1, z2, z3, z4, z5, z6, z7, beq_self_eq_true] | (with_reducible refine Sx.call_at (f := 11) (fun W hW => a1 W) ?_) | (with_reducible refine Sx.call_at (f := 48) (fun W hW => a2 W) ?_) | (with_reducible refine Sx.call_at (f := 23) (fun W hW => b1 W) ?_) | (with_reducible refine Sx.call_at (f := 49) (fun W hW => b2 W) ?_) | (with_reducible refine Sx.call_at (f := 12) (fun W hW => c1 W) ?_) | (with_reducible refine Sx.call_at (f := 50) (fun W hW => c2 W) ?_) | (with_reducible refine Sx.call_at (f := 22) (fun W hW => d1 W) ?_) | (with_reducible refine Sx.call_at (f := 51) (fun W hW => d2 W) ?_) | (with_reducible refine Sx.call_at (f := 20) (fun W hW => e1 W) ?_) | (with_reducible refine Sx.call_at (f := 52) (fun W hW => e2 W) ?_) | (with_reducible refine Sx.call_at (f := 14) (fun W hW => i1 W) ?_) | (with_reducible refine Sx.call_at (f := 53) (fun W hW => i2 W) ?_) | (with_reducible refine Sx.call_at (f := 16) (fun W hW => u1 W) ?_) | (with_reducible refine Sx.call_at (f := 54) (fun W hW => u2 W) ?_) | (with_reducible refine Sx.call_at (f := 38) (fun W hW => v1 W) ?_) | (with_reducible refine Sx.call_at (f := 55) (fun W hW => v2 W) ?_) | (with_reducible refine Sx.call_at (f := 21) (fun W hW => s1 W) ?_) | (with_reducible refine Sx.call_at (f := 56) (fun W hW => s2 W) ?_) | (with_reducible refine Sx.call_at (f := 40) (fun W hW => n1 W) ?_) | (with_reducible refine Sx.call_at (f := 31) (fun W hW => n2 W) ?_) | (with_reducible refine eq_is (fun W => by first | exact eqx_run fa fa W | exact eqx_run fs fs W | exact eqx_run fm fm W | exact eqx_run fe fe W | exact eqx_run fr fr W | exact eqx_run fn fn W) ?_))
end Go.Proofs.YtiiflgfnbgencaaDoor

/- CdTw: MADE BY PROGRAM (sxgen.py): the small code of some functions, points of it and their equations. -/
namespace Go.Proofs.YtiiflgfnbgencaaDoor
open Go Go.RowKit Sx
set_option linter.unusedVariables false
variable (C : Cx) (R L1 L2 L3 L4 : St → Prop)
namespace m_Tape__Wide
def r0 : List G := [(some 2, none, (.new zW))]
def r1 : List G := [(some 5, none, (.bd zW [])), (some 3, none, (.new zW)), (none, none, (.st true 5 (.tmp 3) (.tmp 5)))]
def r2 : List G := [(some 6, none, (.mv (.tmp 0))), (some 7, none, (.call false 27 [(.tmp 6), (.const (.int .i64 5))])), (some 4, none, (.mv (.tmp 7)))]
def r3 : List G := [(some 8, none, (.mv (.tmp 4))), (some 9, none, (.bin .gtr (.tmp 8) (.const (.int .i64 0))))]
def r5 : List G := [(some 12, none, (.mv (.tmp 4))), (some 13, none, (.bin .sub (.tmp 12) (.const (.int .i64 1)))), (some 14, none, (.mv (.tmp 0))), (some 15, none, (.call false 28 [(.tmp 14)])), (some 16, none, (.fa 1 (.tmp 3))), (some 17, none, (.ia 4 1 (.tmp 16) (.tmp 13))), (none, none, (.st false 1 (.tmp 17) (.tmp 15)))]
def r6 : List G := [(some 18, none, (.mv (.tmp 0))), (some 19, none, (.call false 29 [(.tmp 18), (.const (.int .i64 4))]))]
def r7 : List G := [(some 20, none, (.mv (.tmp 4))), (some 21, none, (.bin .sub (.tmp 20) (.const (.int .i64 1)))), (some 22, none, (.gen false (.bsl 54 4 [0, 1, 2, 3]) [(.const (.int .u64 0)), (.const (.int .u64 1)), (.const (.int .u64 9223372036854775808)), (.const (.int .u64 18446744073709551615))])), (some 23, none, (.mv (.tmp 0))), (some 24, none, (.call false 27 [(.tmp 23), (.const (.int .i64 4))])), (some 25, none, (.is 1 (.tmp 22) (.tmp 24))), (some 26, none, (.ld false 1 (.tmp 25))), (some 27, none, (.fa 1 (.tmp 3))), (some 28, none, (.ia 4 1 (.tmp 27) (.tmp 21))), (none, none, (.st false 1 (.tmp 28) (.tmp 26)))]
def r4 : List G := [(some 10, none, (.mv (.tmp 4))), (some 11, none, (.bin .sub (.tmp 10) (.const (.int .i64 1)))), (some 4, none, (.mv (.tmp 11)))]
def r8 : List G := [(some 29, none, (.mv (.tmp 0))), (some 30, none, (.call false 29 [(.tmp 29), (.const (.int .i64 3))]))]
def r9 : List G := [(some 31, none, (.mv (.tmp 0))), (some 32, none, (.call false 30 [(.tmp 31)])), (some 33, none, (.call false 18 [(.tmp 32)])), (none, none, (.st true 5 (.tmp 3) (.tmp 33)))]
def r10 : List G := [(some 34, none, (.mv (.tmp 0))), (some 35, none, (.call false 29 [(.tmp 34), (.const (.int .i64 2))]))]
def r11 : List G := [(some 36, none, (.ld true 5 (.tmp 3))), (some 37, none, (.call false 31 [(.tmp 36)])), (none, none, (.st true 5 (.tmp 3) (.tmp 37)))]
def r12 : List G := [(some 38, none, (.ld true 5 (.tmp 3))), (none, none, (.st true 5 (.tmp 2) (.tmp 38)))]
def c : MC := (.seq (.reg r0 (some [0, 2])) (.seq (.reg r1 (some [0, 2, 3])) (.seq (.seq (.reg r2 (some [0, 2, 3, 4])) (.block 0 (.loop (.seq (.seq (.reg r3 (some [0, 2, 3, 4, 9])) (.cond (.tmp 9) .skip (.exit 0))) (.seq (.block 1 (.seq (.reg r5 (some [0, 2, 3, 4])) (.seq (.reg r6 (some [0, 2, 3, 4, 19])) (.cond (.tmp 19) (.reg r7 (some [0, 2, 3, 4])) .skip)))) (.reg r4 (some [0, 2, 3, 4]))))))) (.seq (.seq (.reg r8 (some [0, 2, 3, 30])) (.cond (.tmp 30) (.reg r9 (some [0, 2, 3])) .skip)) (.seq (.seq (.reg r10 (some [2, 3, 35])) (.cond (.tmp 35) (.reg r11 (some [2, 3])) .skip)) (.seq (.reg r12 (some [2])) .ret))))))
def ann : Ann := [(0, (some [0, 2], 0, [], [], [])), (1, (some [0, 2, 3], 0, [], [], [])), (2, (some [0, 2, 3, 4], 0, [], [], [])), (3, (some [0, 2, 3, 4, 9], 0, [], [], [])), (4, (some [0, 2, 3, 4], 0, [], [], [])), (5, (some [0, 2, 3, 4], 0, [], [], [])), (6, (some [0, 2, 3, 4, 19], 0, [], [], [])), (7, (some [0, 2, 3, 4], 0, [], [], [])), (8, (some [0, 2, 3, 30], 0, [], [], [])), (9, (some [0, 2, 3], 0, [], [], [])), (10, (some [2, 3, 35], 0, [], [], [])), (11, (some [2, 3], 0, [], [], [])), (12, (some [2], 0, [], [], []))]
theorem ok : compF Tryd.prog Tryd.f10 ann = some (39, c, [(2, some (true, 5))]) := by kernel_rfl
def p1 (S : St) : Prop := ops C r12 (kq [2] R) S
def p3 (S : St) : Prop := ops C r11 (kq [2, 3] (p1 C R)) S
def p2 (S : St) : Prop := condX (S.ev (.tmp 35)) (p3 C R) (p1 C R) S
def p4 (S : St) : Prop := ops C r10 (kq [2, 3, 35] (p2 C R)) S
def p6 (S : St) : Prop := ops C r9 (kq [0, 2, 3] (p4 C R)) S
def p5 (S : St) : Prop := condX (S.ev (.tmp 30)) (p6 C R) (p4 C R) S
def p7 (S : St) : Prop := ops C r8 (kq [0, 2, 3, 30] (p5 C R)) S
def p9 (S : St) : Prop := ops C r4 (kq [0, 2, 3, 4] L1) S
def p11 (S : St) : Prop := ops C r7 (kq [0, 2, 3, 4] (p9 C L1)) S
def p10 (S : St) : Prop := condX (S.ev (.tmp 19)) (p11 C L1) (p9 C L1) S
def p12 (S : St) : Prop := ops C r6 (kq [0, 2, 3, 4, 19] (p10 C L1)) S
def p13 (S : St) : Prop := ops C r5 (kq [0, 2, 3, 4] (p12 C L1)) S
def p14 (S : St) : Prop := condX (S.ev (.tmp 9)) (p13 C L1) (p7 C R) S
def p15 (S : St) : Prop := ops C r3 (kq [0, 2, 3, 4, 9] (p14 C R L1)) S
def p8 (S : St) : Prop := LX C (fun L1 => (p15 C R L1)) S
theorem p8_l (S : St) : p8 C R S = LX C (fun L1 => (p15 C R L1)) S := rfl
def p16 (S : St) : Prop := ops C r2 (kq [0, 2, 3, 4] (p8 C R)) S
def p17 (S : St) : Prop := ops C r1 (kq [0, 2, 3] (p16 C R)) S
def p18 (S : St) : Prop := ops C r0 (kq [0, 2] (p17 C R)) S
theorem s (S : St) : X C c (retK R) S = p18 C R S := by kernel_rfl
theorem E : type_of% @r12.eq_1 ∧ type_of% @p1.eq_1 ∧ type_of% @r11.eq_1 ∧ type_of% @p3.eq_1 ∧ type_of% @p2.eq_1 ∧ type_of% @r10.eq_1 ∧ type_of% @p4.eq_1 ∧ type_of% @r9.eq_1 ∧ type_of% @p6.eq_1 ∧ type_of% @p5.eq_1 ∧ type_of% @r8.eq_1 ∧ type_of% @p7.eq_1 ∧ type_of% @r4.eq_1 ∧ type_of% @p9.eq_1 ∧ type_of% @r7.eq_1 ∧ type_of% @p11.eq_1 ∧ type_of% @p10.eq_1 ∧ type_of% @r6.eq_1 ∧ type_of% @p12.eq_1 ∧ type_of% @r5.eq_1 ∧ type_of% @p13.eq_1 ∧ type_of% @p14.eq_1 ∧ type_of% @r3.eq_1 ∧ type_of% @p15.eq_1 ∧ type_of% @r2.eq_1 ∧ type_of% @p16.eq_1 ∧ type_of% @r1.eq_1 ∧ type_of% @p17.eq_1 ∧ type_of% @r0.eq_1 ∧ type_of% @p18.eq_1 ∧ type_of% @s := ⟨@r12.eq_1, @p1.eq_1, @r11.eq_1, @p3.eq_1, @p2.eq_1, @r10.eq_1, @p4.eq_1, @r9.eq_1, @p6.eq_1, @p5.eq_1, @r8.eq_1, @p7.eq_1, @r4.eq_1, @p9.eq_1, @r7.eq_1, @p11.eq_1, @p10.eq_1, @r6.eq_1, @p12.eq_1, @r5.eq_1, @p13.eq_1, @p14.eq_1, @r3.eq_1, @p15.eq_1, @r2.eq_1, @p16.eq_1, @r1.eq_1, @p17.eq_1, @r0.eq_1, @p18.eq_1, @s⟩
end m_Tape__Wide
end Go.Proofs.YtiiflgfnbgencaaDoor

/- Tw: The tape's Wide is valid: by the symbolic run. -/
namespace Go.Proofs.YtiiflgfnbgencaaDoor
open Go Go.RowKit Sx
set_option linter.unusedVariables false
set_option linter.unusedSimpArgs false
def IsX (v : Value) : Prop := ∃ z : Int, Fits z ∧ v = WX z
theorem raw_false {a b c d : Int} (ha : U64 a) (hb : U64 b) (hc : U64 c) (hd : U64 d) : ∃ z, Fits z ∧ Value.agg #[.bool false, .int .u64 a, .int .u64 b, .int .u64 c, .int .u64 d] = WX z := by
  rcases raw_cases false ha hb hc hd with ⟨z, h, e⟩ | e
  · exact ⟨z, h, e⟩
  · cases e
theorem neg_fits {a b c d : Int} (ha : U64 a) (hb : U64 b) (hc : U64 c) (hd : U64 d) : Fits (-(wv false a b c d)) := by
  have h := a4_mv ha hb hc hd
  refine (fits_lt _).2 ?_
  show ab (-MV a b c d) < _
  rw [ab_neg, ab_pos h.1]
  exact h.2
theorem hK_bs {w : World} {tb B Bm : Nat} (h : tb < w.heap.size) : tb ∈ (Kn.g (hK w tb B Bm)).bs := by simp [Kn.bs, hK]; omega
set_option maxHeartbeats 8000000 in
set_option maxRecDepth 100000 in
theorem t_wideV (tb : Nat) : TpC 10 [.pointer (some ⟨tb, 0, none⟩)] tb (fun z : Int => Fits z) (fun z => WX z) := by
  intro B Bm w ht
  refine Calls.mono (enterG Tryd.func10 m_Tape__Wide.ok (args := [.pointer (some ⟨tb, 0, none⟩)]) (w0 := cut w tb) (T := kX (cut w tb).heap.size [.g (hK w tb B Bm)]) (R := fun v X => (IsX) v ∧ X = kX (cut w tb).heap.size [.g (hK w tb B Bm)]) (by simp) (below_cut (Nat.le_of_lt ht.lt)) (hK_start ht).1 (kX_stab (Sx.cx _ (cut w tb) _) _) (hK_start ht).2 ?run) ?fin; have hk := tpk_h' ht
  case fin =>
    rintro e w' ⟨v, X, rfl, ⟨⟨x, hx, rfl⟩, rfl⟩, hX, hb, -⟩
    obtain ⟨h1, h2⟩ := hK_end hX (List.mem_singleton.2 rfl) hb
    exact ⟨x, hx, rfl, h1, h2⟩
  case run =>
    try dsimp only
    repeat' (first | simp (disch := omega) only [sxE, m_Tape__Wide.E, Nat.reduceAdd, Nat.reduceEqDiff, Nat.reduceMul, Nat.reduceSub, Int.reduceAdd, Int.reduceSub, Int.reduceMul, Int.reduceNeg, Int.reduceLT, Int.reduceLE, Int.reduceEq, Int.reduceToNat, ↓reduceIte, Int.reducePow, Nat.reduceLeDiff, Nat.reduceLT, ne_eq, eq_self, List.length_cons, List.length_nil, qxE])
    refine asks_tc rfl (hk) (t_next tb (by decide) (by decide)) en_m_Tape__Next rfl (by first | exact List.mem_singleton.2 rfl | simp) rfl (by first | exact fun j hj => .inl (List.mem_singleton.1 hj) | simp) ?_
    rintro r ⟨r1, r2⟩
    repeat' (first | simp (disch := omega) only [sxE, m_Tape__Wide.E, Nat.reduceAdd, Nat.reduceEqDiff, Nat.reduceMul, Nat.reduceSub, Int.reduceAdd, Int.reduceSub, Int.reduceMul, Int.reduceNeg, Int.reduceLT, Int.reduceLE, Int.reduceEq, Int.reduceToNat, ↓reduceIte, Int.reducePow, Nat.reduceLeDiff, Nat.reduceLT, ne_eq, eq_self, List.length_cons, List.length_nil, qxE])
    obtain ⟨n, rfl⟩ : ∃ n : Nat, r = n := ⟨r.toNat, by omega⟩
    have hz : U64 0 := ⟨by decide, by decide⟩
    rw [m_Tape__Wide.p8_l]
    refine LX_inv (fun x : Nat × Int × Int × Int × Int => ⟨2, [(0, .v (.pointer (some ⟨tb, 0, none⟩))), (2, .p 0 0), (3, .p 1 0), (4, .v (.int .i64 (x.1 : Int)))], [(1, [.bool false, .int .u64 x.2.1, .int .u64 x.2.2.1, .int .u64 x.2.2.2.1, .int .u64 x.2.2.2.2]), (0, [.bool false, .int .u64 0, .int .u64 0, .int .u64 0, .int .u64 0])], kX (cut w tb).heap.size [.g (hK w tb B Bm)]⟩) (fun x => x.1 ≤ 4 ∧ U64 x.2.1 ∧ U64 x.2.2.1 ∧ U64 x.2.2.2.1 ∧ U64 x.2.2.2.2) (fun x => x.1) ?round (n, 0, 0, 0, 0) ⟨by dsimp only; omega, hz, hz, hz, hz⟩ ?start
    case start =>
      have y0 : sg 0 = false := rfl
      have y1 : lb0 (ab 0) = 0 := rfl
      have y2 : lb1 (ab 0) = 0 := rfl
      have y3 : lb2 (ab 0) = 0 := rfl
      have y4 : lb3 (ab 0) = 0 := rfl
      simp (disch := omega) only [sxE, m_Tape__Wide.E, Nat.reduceAdd, Nat.reduceEqDiff, Nat.reduceMul, Nat.reduceSub, Int.reduceAdd, Int.reduceSub, Int.reduceMul, Int.reduceNeg, Int.reduceLT, Int.reduceLE, Int.reduceEq, Int.reduceToNat, ↓reduceIte, Int.reducePow, Nat.reduceLeDiff, Nat.reduceLT, ne_eq, eq_self, List.length_cons, List.length_nil, y0, y1, y2, y3, y4]
    case round =>
      rintro ⟨i, c0, c1, c2, c3⟩ ⟨hi, u0, u1, u2, u3⟩
      try dsimp only at hi u0 u1 u2 u3 ⊢
      clear r1 r2
      rcases i with _ | i
      · rw [show ((0 : Nat) : Int) = 0 from rfl]
        have hn := raw_false u0 u1 u2 u3
        have ng : ∀ W, Gives Tryd.prog 31 [.agg #[.bool false, .int .u64 c0, .int .u64 c1, .int .u64 c2, .int .u64 c3]] W (· = WX (-(wv false c0 c1 c2 c3))) := fun W => rg_neg ⟨false, c0, c1, c2, c3, rfl, rfl, u0, u1, u2, u3⟩ W
        obtain ⟨zz, fz, ez⟩ := hn
        have fw : Fits (-(wv false c0 c1 c2 c3)) := neg_fits u0 u1 u2 u3
        repeat' (first | simp (disch := omega) only [sxE, m_Tape__Wide.E, Nat.reduceAdd, Nat.reduceEqDiff, Nat.reduceMul, Nat.reduceSub, Int.reduceAdd, Int.reduceSub, Int.reduceMul, Int.reduceNeg, Int.reduceLT, Int.reduceLE, Int.reduceEq, Int.reduceToNat, ↓reduceIte, Int.reducePow, Nat.reduceLeDiff, Nat.reduceLT, ne_eq, eq_self, List.length_cons, List.length_nil, qxE])
        refine asks_tc rfl (hk) (t_bool tb (by decide) (by decide)) en_m_Tape__Bool rfl (by first | exact List.mem_singleton.2 rfl | simp) rfl (by first | exact fun j hj => .inl (List.mem_singleton.1 hj) | simp) ?_
        rintro (_ | _) -
        · repeat' (first | simp (disch := omega) only [sxE, m_Tape__Wide.E, Nat.reduceAdd, Nat.reduceEqDiff, Nat.reduceMul, Nat.reduceSub, Int.reduceAdd, Int.reduceSub, Int.reduceMul, Int.reduceNeg, Int.reduceLT, Int.reduceLE, Int.reduceEq, Int.reduceToNat, ↓reduceIte, Int.reducePow, Nat.reduceLeDiff, Nat.reduceLT, ne_eq, eq_self, List.length_cons, List.length_nil, qxE])
          refine asks_tc rfl (hk) (t_bool tb (by decide) (by decide)) en_m_Tape__Bool rfl (by first | exact List.mem_singleton.2 rfl | simp) rfl (by first | exact fun j hj => .inl (List.mem_singleton.1 hj) | simp) ?_
          rintro (_ | _) -
          · repeat' (first | simp (disch := omega) only [sxE, m_Tape__Wide.E, Nat.reduceAdd, Nat.reduceEqDiff, Nat.reduceMul, Nat.reduceSub, Int.reduceAdd, Int.reduceSub, Int.reduceMul, Int.reduceNeg, Int.reduceLT, Int.reduceLE, Int.reduceEq, Int.reduceToNat, ↓reduceIte, Int.reducePow, Nat.reduceLeDiff, Nat.reduceLT, ne_eq, eq_self, List.length_cons, List.length_nil, qxE])
            exact ⟨zz, fz, ez⟩
          · repeat' (first | simp (disch := omega) only [sxE, m_Tape__Wide.E, Nat.reduceAdd, Nat.reduceEqDiff, Nat.reduceMul, Nat.reduceSub, Int.reduceAdd, Int.reduceSub, Int.reduceMul, Int.reduceNeg, Int.reduceLT, Int.reduceLE, Int.reduceEq, Int.reduceToNat, ↓reduceIte, Int.reducePow, Nat.reduceLeDiff, Nat.reduceLT, ne_eq, eq_self, List.length_cons, List.length_nil, qxE] | (with_reducible refine Sx.call_at (f := 31) (fun W hW => ng W) ?_))
            exact ⟨_, fw, rfl⟩
        · repeat' (first | simp (disch := omega) only [sxE, m_Tape__Wide.E, Nat.reduceAdd, Nat.reduceEqDiff, Nat.reduceMul, Nat.reduceSub, Int.reduceAdd, Int.reduceSub, Int.reduceMul, Int.reduceNeg, Int.reduceLT, Int.reduceLE, Int.reduceEq, Int.reduceToNat, ↓reduceIte, Int.reducePow, Nat.reduceLeDiff, Nat.reduceLT, ne_eq, eq_self, List.length_cons, List.length_nil, qxE])
          refine asks_tc rfl (hk) (t_int tb) en_m_Tape__Int rfl (by first | exact List.mem_singleton.2 rfl | simp) rfl (by first | exact fun j hj => .inl (List.mem_singleton.1 hj) | simp) ?_
          intro x hx
          have o1 := fun W => rx_of hx W
          have fx := (bd_i64 hx).fits
          have fnx : Fits (-x) := fits_le fx (by rw [ab_neg]; exact Int.le_refl _)
          have n2 := fun W => rx_neg fx W
          repeat' (first | simp (disch := omega) only [sxE, m_Tape__Wide.E, Nat.reduceAdd, Nat.reduceEqDiff, Nat.reduceMul, Nat.reduceSub, Int.reduceAdd, Int.reduceSub, Int.reduceMul, Int.reduceNeg, Int.reduceLT, Int.reduceLE, Int.reduceEq, Int.reduceToNat, ↓reduceIte, Int.reducePow, Nat.reduceLeDiff, Nat.reduceLT, ne_eq, eq_self, List.length_cons, List.length_nil, qxE] | (with_reducible refine Sx.call_at (f := 18) (fun W hW => o1 W) ?_))
          refine asks_tc rfl (hk) (t_bool tb (by decide) (by decide)) en_m_Tape__Bool rfl (by first | exact List.mem_singleton.2 rfl | simp) rfl (by first | exact fun j hj => .inl (List.mem_singleton.1 hj) | simp) ?_
          rintro (_ | _) -
          · repeat' (first | simp (disch := omega) only [sxE, m_Tape__Wide.E, Nat.reduceAdd, Nat.reduceEqDiff, Nat.reduceMul, Nat.reduceSub, Int.reduceAdd, Int.reduceSub, Int.reduceMul, Int.reduceNeg, Int.reduceLT, Int.reduceLE, Int.reduceEq, Int.reduceToNat, ↓reduceIte, Int.reducePow, Nat.reduceLeDiff, Nat.reduceLT, ne_eq, eq_self, List.length_cons, List.length_nil, qxE])
            exact ⟨x, fx, rfl⟩
          · repeat' (first | simp (disch := omega) only [sxE, m_Tape__Wide.E, Nat.reduceAdd, Nat.reduceEqDiff, Nat.reduceMul, Nat.reduceSub, Int.reduceAdd, Int.reduceSub, Int.reduceMul, Int.reduceNeg, Int.reduceLT, Int.reduceLE, Int.reduceEq, Int.reduceToNat, ↓reduceIte, Int.reducePow, Nat.reduceLeDiff, Nat.reduceLT, ne_eq, eq_self, List.length_cons, List.length_nil, qxE] | (with_reducible refine Sx.call_at (f := 31) (fun W hW => n2 W) ?_))
            exact ⟨_, fnx, rfl⟩
      · obtain rfl | rfl | rfl | rfl : i = 0 ∨ i = 1 ∨ i = 2 ∨ i = 3 := by omega
        · rw [show ((0 + 1 : Nat) : Int) = 1 from rfl]
          repeat' (first | simp (disch := omega) only [sxE, m_Tape__Wide.E, Nat.reduceAdd, Nat.reduceEqDiff, Nat.reduceMul, Nat.reduceSub, Int.reduceAdd, Int.reduceSub, Int.reduceMul, Int.reduceNeg, Int.reduceLT, Int.reduceLE, Int.reduceEq, Int.reduceToNat, ↓reduceIte, Int.reducePow, Nat.reduceLeDiff, Nat.reduceLT, ne_eq, eq_self, List.length_cons, List.length_nil, qxE])
          refine asks_tc rfl (hk) (t_word tb) en_m_Tape__Word rfl (by first | exact List.mem_singleton.2 rfl | simp) rfl (by first | exact fun j hj => .inl (List.mem_singleton.1 hj) | simp) ?_
          intro u hu
          repeat' (first | simp (disch := omega) only [sxE, m_Tape__Wide.E, Nat.reduceAdd, Nat.reduceEqDiff, Nat.reduceMul, Nat.reduceSub, Int.reduceAdd, Int.reduceSub, Int.reduceMul, Int.reduceNeg, Int.reduceLT, Int.reduceLE, Int.reduceEq, Int.reduceToNat, ↓reduceIte, Int.reducePow, Nat.reduceLeDiff, Nat.reduceLT, ne_eq, eq_self, List.length_cons, List.length_nil, qxE])
          refine asks_tc rfl (hk) (t_bool tb (by decide) (by decide)) en_m_Tape__Bool rfl (by first | exact List.mem_singleton.2 rfl | simp) rfl (by first | exact fun j hj => .inl (List.mem_singleton.1 hj) | simp) ?_
          rintro (_ | _) -
          case' false =>
            repeat' (first | simp (disch := omega) only [sxE, m_Tape__Wide.E, Nat.reduceAdd, Nat.reduceEqDiff, Nat.reduceMul, Nat.reduceSub, Int.reduceAdd, Int.reduceSub, Int.reduceMul, Int.reduceNeg, Int.reduceLT, Int.reduceLE, Int.reduceEq, Int.reduceToNat, ↓reduceIte, Int.reducePow, Nat.reduceLeDiff, Nat.reduceLT, ne_eq, eq_self, List.length_cons, List.length_nil, qxE])
            exact ⟨(0, u, c1, c2, c3), ⟨by dsimp only; omega, hu, u1, u2, u3⟩, by dsimp only; omega, ⟨rfl, rfl⟩⟩
          case' true =>
            repeat' (first | simp (disch := omega) only [sxE, m_Tape__Wide.E, Nat.reduceAdd, Nat.reduceEqDiff, Nat.reduceMul, Nat.reduceSub, Int.reduceAdd, Int.reduceSub, Int.reduceMul, Int.reduceNeg, Int.reduceLT, Int.reduceLE, Int.reduceEq, Int.reduceToNat, ↓reduceIte, Int.reducePow, Nat.reduceLeDiff, Nat.reduceLT, ne_eq, eq_self, List.length_cons, List.length_nil, qxE])
            refine genA_c (L := [.g (hK w tb B Bm)]) (cs := [.int .u64 0, .int .u64 1, .int .u64 9223372036854775808, .int .u64 18446744073709551615]) (T := 25) (fun b => .slice (some ⟨b, 0, none⟩) 4 4) rfl (fun W => by kernel_rfl) fun gb hgb => ?_
            have hne : tb ∉ (Kn.g (cK gb [.int .u64 0, .int .u64 1, .int .u64 9223372036854775808, .int .u64 18446744073709551615])).bs := fun h => hgb (by rw [← List.mem_singleton.1 h]; exact kX_bs.2 ⟨_, List.mem_singleton.2 rfl, hK_bs ht.lt⟩)
            clear hgb
            repeat' (first | simp (disch := omega) only [sxE, m_Tape__Wide.E, Nat.reduceAdd, Nat.reduceEqDiff, Nat.reduceMul, Nat.reduceSub, Int.reduceAdd, Int.reduceSub, Int.reduceMul, Int.reduceNeg, Int.reduceLT, Int.reduceLE, Int.reduceEq, Int.reduceToNat, ↓reduceIte, Int.reducePow, Nat.reduceLeDiff, Nat.reduceLT, ne_eq, eq_self, List.length_cons, List.length_nil, qxE])
            refine asks_tc rfl hk (t_next tb (by decide) (by decide)) en_m_Tape__Next rfl (List.mem_cons_of_mem _ (List.mem_singleton.2 rfl)) rfl (fun j hj => by
              rcases List.mem_cons.1 hj with rfl | hj
              · exact .inr hne
              · exact .inl (List.mem_singleton.1 hj)) ?_
            rintro q ⟨q1, q2⟩
            rcases (show q = 0 ∨ q = 1 ∨ q = 2 ∨ q = 3 by omega) with rfl | rfl | rfl | rfl
            · repeat' (first | simp (disch := omega) only [sxE, m_Tape__Wide.E, Nat.reduceAdd, Nat.reduceEqDiff, Nat.reduceMul, Nat.reduceSub, Int.reduceAdd, Int.reduceSub, Int.reduceMul, Int.reduceNeg, Int.reduceLT, Int.reduceLE, Int.reduceEq, Int.reduceToNat, ↓reduceIte, Int.reducePow, Nat.reduceLeDiff, Nat.reduceLT, ne_eq, eq_self, List.length_cons, List.length_nil, qxE, Nat.zero_add, Nat.add_zero, Nat.one_mul, Nat.mul_one] | (refine ldP_c (cs := [.int .u64 0, .int .u64 1, .int .u64 9223372036854775808, .int .u64 18446744073709551615]) (l := [.int .u64 0]) rfl List.mem_cons_self rfl (fun j v h => by rcases j with _ | j; exact h; cases h) ?_))
              exact ⟨(0, 0, c1, c2, c3), ⟨by dsimp only; omega, ⟨by dsimp only; omega, by dsimp only; omega⟩, u1, u2, u3⟩, by dsimp only; omega, ⟨rfl, rfl, extS_kn fun k hk => by rw [List.mem_singleton.1 hk]; exact List.mem_cons_of_mem _ (List.mem_singleton.2 rfl)⟩⟩
            · repeat' (first | simp (disch := omega) only [sxE, m_Tape__Wide.E, Nat.reduceAdd, Nat.reduceEqDiff, Nat.reduceMul, Nat.reduceSub, Int.reduceAdd, Int.reduceSub, Int.reduceMul, Int.reduceNeg, Int.reduceLT, Int.reduceLE, Int.reduceEq, Int.reduceToNat, ↓reduceIte, Int.reducePow, Nat.reduceLeDiff, Nat.reduceLT, ne_eq, eq_self, List.length_cons, List.length_nil, qxE, Nat.zero_add, Nat.add_zero, Nat.one_mul, Nat.mul_one] | (refine ldP_c (cs := [.int .u64 0, .int .u64 1, .int .u64 9223372036854775808, .int .u64 18446744073709551615]) (l := [.int .u64 1]) rfl List.mem_cons_self rfl (fun j v h => by rcases j with _ | j; exact h; cases h) ?_))
              exact ⟨(0, 1, c1, c2, c3), ⟨by dsimp only; omega, ⟨by dsimp only; omega, by dsimp only; omega⟩, u1, u2, u3⟩, by dsimp only; omega, ⟨rfl, rfl, extS_kn fun k hk => by rw [List.mem_singleton.1 hk]; exact List.mem_cons_of_mem _ (List.mem_singleton.2 rfl)⟩⟩
            · repeat' (first | simp (disch := omega) only [sxE, m_Tape__Wide.E, Nat.reduceAdd, Nat.reduceEqDiff, Nat.reduceMul, Nat.reduceSub, Int.reduceAdd, Int.reduceSub, Int.reduceMul, Int.reduceNeg, Int.reduceLT, Int.reduceLE, Int.reduceEq, Int.reduceToNat, ↓reduceIte, Int.reducePow, Nat.reduceLeDiff, Nat.reduceLT, ne_eq, eq_self, List.length_cons, List.length_nil, qxE, Nat.zero_add, Nat.add_zero, Nat.one_mul, Nat.mul_one] | (refine ldP_c (cs := [.int .u64 0, .int .u64 1, .int .u64 9223372036854775808, .int .u64 18446744073709551615]) (l := [.int .u64 9223372036854775808]) rfl List.mem_cons_self rfl (fun j v h => by rcases j with _ | j; exact h; cases h) ?_))
              exact ⟨(0, 9223372036854775808, c1, c2, c3), ⟨by dsimp only; omega, ⟨by dsimp only; omega, by dsimp only; omega⟩, u1, u2, u3⟩, by dsimp only; omega, ⟨rfl, rfl, extS_kn fun k hk => by rw [List.mem_singleton.1 hk]; exact List.mem_cons_of_mem _ (List.mem_singleton.2 rfl)⟩⟩
            · repeat' (first | simp (disch := omega) only [sxE, m_Tape__Wide.E, Nat.reduceAdd, Nat.reduceEqDiff, Nat.reduceMul, Nat.reduceSub, Int.reduceAdd, Int.reduceSub, Int.reduceMul, Int.reduceNeg, Int.reduceLT, Int.reduceLE, Int.reduceEq, Int.reduceToNat, ↓reduceIte, Int.reducePow, Nat.reduceLeDiff, Nat.reduceLT, ne_eq, eq_self, List.length_cons, List.length_nil, qxE, Nat.zero_add, Nat.add_zero, Nat.one_mul, Nat.mul_one] | (refine ldP_c (cs := [.int .u64 0, .int .u64 1, .int .u64 9223372036854775808, .int .u64 18446744073709551615]) (l := [.int .u64 18446744073709551615]) rfl List.mem_cons_self rfl (fun j v h => by rcases j with _ | j; exact h; cases h) ?_))
              exact ⟨(0, 18446744073709551615, c1, c2, c3), ⟨by dsimp only; omega, ⟨by dsimp only; omega, by dsimp only; omega⟩, u1, u2, u3⟩, by dsimp only; omega, ⟨rfl, rfl, extS_kn fun k hk => by rw [List.mem_singleton.1 hk]; exact List.mem_cons_of_mem _ (List.mem_singleton.2 rfl)⟩⟩
        · rw [show ((1 + 1 : Nat) : Int) = 2 from rfl]
          repeat' (first | simp (disch := omega) only [sxE, m_Tape__Wide.E, Nat.reduceAdd, Nat.reduceEqDiff, Nat.reduceMul, Nat.reduceSub, Int.reduceAdd, Int.reduceSub, Int.reduceMul, Int.reduceNeg, Int.reduceLT, Int.reduceLE, Int.reduceEq, Int.reduceToNat, ↓reduceIte, Int.reducePow, Nat.reduceLeDiff, Nat.reduceLT, ne_eq, eq_self, List.length_cons, List.length_nil, qxE])
          refine asks_tc rfl (hk) (t_word tb) en_m_Tape__Word rfl (by first | exact List.mem_singleton.2 rfl | simp) rfl (by first | exact fun j hj => .inl (List.mem_singleton.1 hj) | simp) ?_
          intro u hu
          repeat' (first | simp (disch := omega) only [sxE, m_Tape__Wide.E, Nat.reduceAdd, Nat.reduceEqDiff, Nat.reduceMul, Nat.reduceSub, Int.reduceAdd, Int.reduceSub, Int.reduceMul, Int.reduceNeg, Int.reduceLT, Int.reduceLE, Int.reduceEq, Int.reduceToNat, ↓reduceIte, Int.reducePow, Nat.reduceLeDiff, Nat.reduceLT, ne_eq, eq_self, List.length_cons, List.length_nil, qxE])
          refine asks_tc rfl (hk) (t_bool tb (by decide) (by decide)) en_m_Tape__Bool rfl (by first | exact List.mem_singleton.2 rfl | simp) rfl (by first | exact fun j hj => .inl (List.mem_singleton.1 hj) | simp) ?_
          rintro (_ | _) -
          case' false =>
            repeat' (first | simp (disch := omega) only [sxE, m_Tape__Wide.E, Nat.reduceAdd, Nat.reduceEqDiff, Nat.reduceMul, Nat.reduceSub, Int.reduceAdd, Int.reduceSub, Int.reduceMul, Int.reduceNeg, Int.reduceLT, Int.reduceLE, Int.reduceEq, Int.reduceToNat, ↓reduceIte, Int.reducePow, Nat.reduceLeDiff, Nat.reduceLT, ne_eq, eq_self, List.length_cons, List.length_nil, qxE])
            exact ⟨(1, c0, u, c2, c3), ⟨by dsimp only; omega, u0, hu, u2, u3⟩, by dsimp only; omega, ⟨rfl, rfl⟩⟩
          case' true =>
            repeat' (first | simp (disch := omega) only [sxE, m_Tape__Wide.E, Nat.reduceAdd, Nat.reduceEqDiff, Nat.reduceMul, Nat.reduceSub, Int.reduceAdd, Int.reduceSub, Int.reduceMul, Int.reduceNeg, Int.reduceLT, Int.reduceLE, Int.reduceEq, Int.reduceToNat, ↓reduceIte, Int.reducePow, Nat.reduceLeDiff, Nat.reduceLT, ne_eq, eq_self, List.length_cons, List.length_nil, qxE])
            refine genA_c (L := [.g (hK w tb B Bm)]) (cs := [.int .u64 0, .int .u64 1, .int .u64 9223372036854775808, .int .u64 18446744073709551615]) (T := 25) (fun b => .slice (some ⟨b, 0, none⟩) 4 4) rfl (fun W => by kernel_rfl) fun gb hgb => ?_
            have hne : tb ∉ (Kn.g (cK gb [.int .u64 0, .int .u64 1, .int .u64 9223372036854775808, .int .u64 18446744073709551615])).bs := fun h => hgb (by rw [← List.mem_singleton.1 h]; exact kX_bs.2 ⟨_, List.mem_singleton.2 rfl, hK_bs ht.lt⟩)
            clear hgb
            repeat' (first | simp (disch := omega) only [sxE, m_Tape__Wide.E, Nat.reduceAdd, Nat.reduceEqDiff, Nat.reduceMul, Nat.reduceSub, Int.reduceAdd, Int.reduceSub, Int.reduceMul, Int.reduceNeg, Int.reduceLT, Int.reduceLE, Int.reduceEq, Int.reduceToNat, ↓reduceIte, Int.reducePow, Nat.reduceLeDiff, Nat.reduceLT, ne_eq, eq_self, List.length_cons, List.length_nil, qxE])
            refine asks_tc rfl hk (t_next tb (by decide) (by decide)) en_m_Tape__Next rfl (List.mem_cons_of_mem _ (List.mem_singleton.2 rfl)) rfl (fun j hj => by
              rcases List.mem_cons.1 hj with rfl | hj
              · exact .inr hne
              · exact .inl (List.mem_singleton.1 hj)) ?_
            rintro q ⟨q1, q2⟩
            rcases (show q = 0 ∨ q = 1 ∨ q = 2 ∨ q = 3 by omega) with rfl | rfl | rfl | rfl
            · repeat' (first | simp (disch := omega) only [sxE, m_Tape__Wide.E, Nat.reduceAdd, Nat.reduceEqDiff, Nat.reduceMul, Nat.reduceSub, Int.reduceAdd, Int.reduceSub, Int.reduceMul, Int.reduceNeg, Int.reduceLT, Int.reduceLE, Int.reduceEq, Int.reduceToNat, ↓reduceIte, Int.reducePow, Nat.reduceLeDiff, Nat.reduceLT, ne_eq, eq_self, List.length_cons, List.length_nil, qxE, Nat.zero_add, Nat.add_zero, Nat.one_mul, Nat.mul_one] | (refine ldP_c (cs := [.int .u64 0, .int .u64 1, .int .u64 9223372036854775808, .int .u64 18446744073709551615]) (l := [.int .u64 0]) rfl List.mem_cons_self rfl (fun j v h => by rcases j with _ | j; exact h; cases h) ?_))
              exact ⟨(1, c0, 0, c2, c3), ⟨by dsimp only; omega, u0, ⟨by dsimp only; omega, by dsimp only; omega⟩, u2, u3⟩, by dsimp only; omega, ⟨rfl, rfl, extS_kn fun k hk => by rw [List.mem_singleton.1 hk]; exact List.mem_cons_of_mem _ (List.mem_singleton.2 rfl)⟩⟩
            · repeat' (first | simp (disch := omega) only [sxE, m_Tape__Wide.E, Nat.reduceAdd, Nat.reduceEqDiff, Nat.reduceMul, Nat.reduceSub, Int.reduceAdd, Int.reduceSub, Int.reduceMul, Int.reduceNeg, Int.reduceLT, Int.reduceLE, Int.reduceEq, Int.reduceToNat, ↓reduceIte, Int.reducePow, Nat.reduceLeDiff, Nat.reduceLT, ne_eq, eq_self, List.length_cons, List.length_nil, qxE, Nat.zero_add, Nat.add_zero, Nat.one_mul, Nat.mul_one] | (refine ldP_c (cs := [.int .u64 0, .int .u64 1, .int .u64 9223372036854775808, .int .u64 18446744073709551615]) (l := [.int .u64 1]) rfl List.mem_cons_self rfl (fun j v h => by rcases j with _ | j; exact h; cases h) ?_))
              exact ⟨(1, c0, 1, c2, c3), ⟨by dsimp only; omega, u0, ⟨by dsimp only; omega, by dsimp only; omega⟩, u2, u3⟩, by dsimp only; omega, ⟨rfl, rfl, extS_kn fun k hk => by rw [List.mem_singleton.1 hk]; exact List.mem_cons_of_mem _ (List.mem_singleton.2 rfl)⟩⟩
            · repeat' (first | simp (disch := omega) only [sxE, m_Tape__Wide.E, Nat.reduceAdd, Nat.reduceEqDiff, Nat.reduceMul, Nat.reduceSub, Int.reduceAdd, Int.reduceSub, Int.reduceMul, Int.reduceNeg, Int.reduceLT, Int.reduceLE, Int.reduceEq, Int.reduceToNat, ↓reduceIte, Int.reducePow, Nat.reduceLeDiff, Nat.reduceLT, ne_eq, eq_self, List.length_cons, List.length_nil, qxE, Nat.zero_add, Nat.add_zero, Nat.one_mul, Nat.mul_one] | (refine ldP_c (cs := [.int .u64 0, .int .u64 1, .int .u64 9223372036854775808, .int .u64 18446744073709551615]) (l := [.int .u64 9223372036854775808]) rfl List.mem_cons_self rfl (fun j v h => by rcases j with _ | j; exact h; cases h) ?_))
              exact ⟨(1, c0, 9223372036854775808, c2, c3), ⟨by dsimp only; omega, u0, ⟨by dsimp only; omega, by dsimp only; omega⟩, u2, u3⟩, by dsimp only; omega, ⟨rfl, rfl, extS_kn fun k hk => by rw [List.mem_singleton.1 hk]; exact List.mem_cons_of_mem _ (List.mem_singleton.2 rfl)⟩⟩
            · repeat' (first | simp (disch := omega) only [sxE, m_Tape__Wide.E, Nat.reduceAdd, Nat.reduceEqDiff, Nat.reduceMul, Nat.reduceSub, Int.reduceAdd, Int.reduceSub, Int.reduceMul, Int.reduceNeg, Int.reduceLT, Int.reduceLE, Int.reduceEq, Int.reduceToNat, ↓reduceIte, Int.reducePow, Nat.reduceLeDiff, Nat.reduceLT, ne_eq, eq_self, List.length_cons, List.length_nil, qxE, Nat.zero_add, Nat.add_zero, Nat.one_mul, Nat.mul_one] | (refine ldP_c (cs := [.int .u64 0, .int .u64 1, .int .u64 9223372036854775808, .int .u64 18446744073709551615]) (l := [.int .u64 18446744073709551615]) rfl List.mem_cons_self rfl (fun j v h => by rcases j with _ | j; exact h; cases h) ?_))
              exact ⟨(1, c0, 18446744073709551615, c2, c3), ⟨by dsimp only; omega, u0, ⟨by dsimp only; omega, by dsimp only; omega⟩, u2, u3⟩, by dsimp only; omega, ⟨rfl, rfl, extS_kn fun k hk => by rw [List.mem_singleton.1 hk]; exact List.mem_cons_of_mem _ (List.mem_singleton.2 rfl)⟩⟩
        · rw [show ((2 + 1 : Nat) : Int) = 3 from rfl]
          repeat' (first | simp (disch := omega) only [sxE, m_Tape__Wide.E, Nat.reduceAdd, Nat.reduceEqDiff, Nat.reduceMul, Nat.reduceSub, Int.reduceAdd, Int.reduceSub, Int.reduceMul, Int.reduceNeg, Int.reduceLT, Int.reduceLE, Int.reduceEq, Int.reduceToNat, ↓reduceIte, Int.reducePow, Nat.reduceLeDiff, Nat.reduceLT, ne_eq, eq_self, List.length_cons, List.length_nil, qxE])
          refine asks_tc rfl (hk) (t_word tb) en_m_Tape__Word rfl (by first | exact List.mem_singleton.2 rfl | simp) rfl (by first | exact fun j hj => .inl (List.mem_singleton.1 hj) | simp) ?_
          intro u hu
          repeat' (first | simp (disch := omega) only [sxE, m_Tape__Wide.E, Nat.reduceAdd, Nat.reduceEqDiff, Nat.reduceMul, Nat.reduceSub, Int.reduceAdd, Int.reduceSub, Int.reduceMul, Int.reduceNeg, Int.reduceLT, Int.reduceLE, Int.reduceEq, Int.reduceToNat, ↓reduceIte, Int.reducePow, Nat.reduceLeDiff, Nat.reduceLT, ne_eq, eq_self, List.length_cons, List.length_nil, qxE])
          refine asks_tc rfl (hk) (t_bool tb (by decide) (by decide)) en_m_Tape__Bool rfl (by first | exact List.mem_singleton.2 rfl | simp) rfl (by first | exact fun j hj => .inl (List.mem_singleton.1 hj) | simp) ?_
          rintro (_ | _) -
          case' false =>
            repeat' (first | simp (disch := omega) only [sxE, m_Tape__Wide.E, Nat.reduceAdd, Nat.reduceEqDiff, Nat.reduceMul, Nat.reduceSub, Int.reduceAdd, Int.reduceSub, Int.reduceMul, Int.reduceNeg, Int.reduceLT, Int.reduceLE, Int.reduceEq, Int.reduceToNat, ↓reduceIte, Int.reducePow, Nat.reduceLeDiff, Nat.reduceLT, ne_eq, eq_self, List.length_cons, List.length_nil, qxE])
            exact ⟨(2, c0, c1, u, c3), ⟨by dsimp only; omega, u0, u1, hu, u3⟩, by dsimp only; omega, ⟨rfl, rfl⟩⟩
          case' true =>
            repeat' (first | simp (disch := omega) only [sxE, m_Tape__Wide.E, Nat.reduceAdd, Nat.reduceEqDiff, Nat.reduceMul, Nat.reduceSub, Int.reduceAdd, Int.reduceSub, Int.reduceMul, Int.reduceNeg, Int.reduceLT, Int.reduceLE, Int.reduceEq, Int.reduceToNat, ↓reduceIte, Int.reducePow, Nat.reduceLeDiff, Nat.reduceLT, ne_eq, eq_self, List.length_cons, List.length_nil, qxE])
            refine genA_c (L := [.g (hK w tb B Bm)]) (cs := [.int .u64 0, .int .u64 1, .int .u64 9223372036854775808, .int .u64 18446744073709551615]) (T := 25) (fun b => .slice (some ⟨b, 0, none⟩) 4 4) rfl (fun W => by kernel_rfl) fun gb hgb => ?_
            have hne : tb ∉ (Kn.g (cK gb [.int .u64 0, .int .u64 1, .int .u64 9223372036854775808, .int .u64 18446744073709551615])).bs := fun h => hgb (by rw [← List.mem_singleton.1 h]; exact kX_bs.2 ⟨_, List.mem_singleton.2 rfl, hK_bs ht.lt⟩)
            clear hgb
            repeat' (first | simp (disch := omega) only [sxE, m_Tape__Wide.E, Nat.reduceAdd, Nat.reduceEqDiff, Nat.reduceMul, Nat.reduceSub, Int.reduceAdd, Int.reduceSub, Int.reduceMul, Int.reduceNeg, Int.reduceLT, Int.reduceLE, Int.reduceEq, Int.reduceToNat, ↓reduceIte, Int.reducePow, Nat.reduceLeDiff, Nat.reduceLT, ne_eq, eq_self, List.length_cons, List.length_nil, qxE])
            refine asks_tc rfl hk (t_next tb (by decide) (by decide)) en_m_Tape__Next rfl (List.mem_cons_of_mem _ (List.mem_singleton.2 rfl)) rfl (fun j hj => by
              rcases List.mem_cons.1 hj with rfl | hj
              · exact .inr hne
              · exact .inl (List.mem_singleton.1 hj)) ?_
            rintro q ⟨q1, q2⟩
            rcases (show q = 0 ∨ q = 1 ∨ q = 2 ∨ q = 3 by omega) with rfl | rfl | rfl | rfl
            · repeat' (first | simp (disch := omega) only [sxE, m_Tape__Wide.E, Nat.reduceAdd, Nat.reduceEqDiff, Nat.reduceMul, Nat.reduceSub, Int.reduceAdd, Int.reduceSub, Int.reduceMul, Int.reduceNeg, Int.reduceLT, Int.reduceLE, Int.reduceEq, Int.reduceToNat, ↓reduceIte, Int.reducePow, Nat.reduceLeDiff, Nat.reduceLT, ne_eq, eq_self, List.length_cons, List.length_nil, qxE, Nat.zero_add, Nat.add_zero, Nat.one_mul, Nat.mul_one] | (refine ldP_c (cs := [.int .u64 0, .int .u64 1, .int .u64 9223372036854775808, .int .u64 18446744073709551615]) (l := [.int .u64 0]) rfl List.mem_cons_self rfl (fun j v h => by rcases j with _ | j; exact h; cases h) ?_))
              exact ⟨(2, c0, c1, 0, c3), ⟨by dsimp only; omega, u0, u1, ⟨by dsimp only; omega, by dsimp only; omega⟩, u3⟩, by dsimp only; omega, ⟨rfl, rfl, extS_kn fun k hk => by rw [List.mem_singleton.1 hk]; exact List.mem_cons_of_mem _ (List.mem_singleton.2 rfl)⟩⟩
            · repeat' (first | simp (disch := omega) only [sxE, m_Tape__Wide.E, Nat.reduceAdd, Nat.reduceEqDiff, Nat.reduceMul, Nat.reduceSub, Int.reduceAdd, Int.reduceSub, Int.reduceMul, Int.reduceNeg, Int.reduceLT, Int.reduceLE, Int.reduceEq, Int.reduceToNat, ↓reduceIte, Int.reducePow, Nat.reduceLeDiff, Nat.reduceLT, ne_eq, eq_self, List.length_cons, List.length_nil, qxE, Nat.zero_add, Nat.add_zero, Nat.one_mul, Nat.mul_one] | (refine ldP_c (cs := [.int .u64 0, .int .u64 1, .int .u64 9223372036854775808, .int .u64 18446744073709551615]) (l := [.int .u64 1]) rfl List.mem_cons_self rfl (fun j v h => by rcases j with _ | j; exact h; cases h) ?_))
              exact ⟨(2, c0, c1, 1, c3), ⟨by dsimp only; omega, u0, u1, ⟨by dsimp only; omega, by dsimp only; omega⟩, u3⟩, by dsimp only; omega, ⟨rfl, rfl, extS_kn fun k hk => by rw [List.mem_singleton.1 hk]; exact List.mem_cons_of_mem _ (List.mem_singleton.2 rfl)⟩⟩
            · repeat' (first | simp (disch := omega) only [sxE, m_Tape__Wide.E, Nat.reduceAdd, Nat.reduceEqDiff, Nat.reduceMul, Nat.reduceSub, Int.reduceAdd, Int.reduceSub, Int.reduceMul, Int.reduceNeg, Int.reduceLT, Int.reduceLE, Int.reduceEq, Int.reduceToNat, ↓reduceIte, Int.reducePow, Nat.reduceLeDiff, Nat.reduceLT, ne_eq, eq_self, List.length_cons, List.length_nil, qxE, Nat.zero_add, Nat.add_zero, Nat.one_mul, Nat.mul_one] | (refine ldP_c (cs := [.int .u64 0, .int .u64 1, .int .u64 9223372036854775808, .int .u64 18446744073709551615]) (l := [.int .u64 9223372036854775808]) rfl List.mem_cons_self rfl (fun j v h => by rcases j with _ | j; exact h; cases h) ?_))
              exact ⟨(2, c0, c1, 9223372036854775808, c3), ⟨by dsimp only; omega, u0, u1, ⟨by dsimp only; omega, by dsimp only; omega⟩, u3⟩, by dsimp only; omega, ⟨rfl, rfl, extS_kn fun k hk => by rw [List.mem_singleton.1 hk]; exact List.mem_cons_of_mem _ (List.mem_singleton.2 rfl)⟩⟩
            · repeat' (first | simp (disch := omega) only [sxE, m_Tape__Wide.E, Nat.reduceAdd, Nat.reduceEqDiff, Nat.reduceMul, Nat.reduceSub, Int.reduceAdd, Int.reduceSub, Int.reduceMul, Int.reduceNeg, Int.reduceLT, Int.reduceLE, Int.reduceEq, Int.reduceToNat, ↓reduceIte, Int.reducePow, Nat.reduceLeDiff, Nat.reduceLT, ne_eq, eq_self, List.length_cons, List.length_nil, qxE, Nat.zero_add, Nat.add_zero, Nat.one_mul, Nat.mul_one] | (refine ldP_c (cs := [.int .u64 0, .int .u64 1, .int .u64 9223372036854775808, .int .u64 18446744073709551615]) (l := [.int .u64 18446744073709551615]) rfl List.mem_cons_self rfl (fun j v h => by rcases j with _ | j; exact h; cases h) ?_))
              exact ⟨(2, c0, c1, 18446744073709551615, c3), ⟨by dsimp only; omega, u0, u1, ⟨by dsimp only; omega, by dsimp only; omega⟩, u3⟩, by dsimp only; omega, ⟨rfl, rfl, extS_kn fun k hk => by rw [List.mem_singleton.1 hk]; exact List.mem_cons_of_mem _ (List.mem_singleton.2 rfl)⟩⟩
        · rw [show ((3 + 1 : Nat) : Int) = 4 from rfl]
          repeat' (first | simp (disch := omega) only [sxE, m_Tape__Wide.E, Nat.reduceAdd, Nat.reduceEqDiff, Nat.reduceMul, Nat.reduceSub, Int.reduceAdd, Int.reduceSub, Int.reduceMul, Int.reduceNeg, Int.reduceLT, Int.reduceLE, Int.reduceEq, Int.reduceToNat, ↓reduceIte, Int.reducePow, Nat.reduceLeDiff, Nat.reduceLT, ne_eq, eq_self, List.length_cons, List.length_nil, qxE])
          refine asks_tc rfl (hk) (t_word tb) en_m_Tape__Word rfl (by first | exact List.mem_singleton.2 rfl | simp) rfl (by first | exact fun j hj => .inl (List.mem_singleton.1 hj) | simp) ?_
          intro u hu
          repeat' (first | simp (disch := omega) only [sxE, m_Tape__Wide.E, Nat.reduceAdd, Nat.reduceEqDiff, Nat.reduceMul, Nat.reduceSub, Int.reduceAdd, Int.reduceSub, Int.reduceMul, Int.reduceNeg, Int.reduceLT, Int.reduceLE, Int.reduceEq, Int.reduceToNat, ↓reduceIte, Int.reducePow, Nat.reduceLeDiff, Nat.reduceLT, ne_eq, eq_self, List.length_cons, List.length_nil, qxE])
          refine asks_tc rfl (hk) (t_bool tb (by decide) (by decide)) en_m_Tape__Bool rfl (by first | exact List.mem_singleton.2 rfl | simp) rfl (by first | exact fun j hj => .inl (List.mem_singleton.1 hj) | simp) ?_
          rintro (_ | _) -
          case' false =>
            repeat' (first | simp (disch := omega) only [sxE, m_Tape__Wide.E, Nat.reduceAdd, Nat.reduceEqDiff, Nat.reduceMul, Nat.reduceSub, Int.reduceAdd, Int.reduceSub, Int.reduceMul, Int.reduceNeg, Int.reduceLT, Int.reduceLE, Int.reduceEq, Int.reduceToNat, ↓reduceIte, Int.reducePow, Nat.reduceLeDiff, Nat.reduceLT, ne_eq, eq_self, List.length_cons, List.length_nil, qxE])
            exact ⟨(3, c0, c1, c2, u), ⟨by dsimp only; omega, u0, u1, u2, hu⟩, by dsimp only; omega, ⟨rfl, rfl⟩⟩
          case' true =>
            repeat' (first | simp (disch := omega) only [sxE, m_Tape__Wide.E, Nat.reduceAdd, Nat.reduceEqDiff, Nat.reduceMul, Nat.reduceSub, Int.reduceAdd, Int.reduceSub, Int.reduceMul, Int.reduceNeg, Int.reduceLT, Int.reduceLE, Int.reduceEq, Int.reduceToNat, ↓reduceIte, Int.reducePow, Nat.reduceLeDiff, Nat.reduceLT, ne_eq, eq_self, List.length_cons, List.length_nil, qxE])
            refine genA_c (L := [.g (hK w tb B Bm)]) (cs := [.int .u64 0, .int .u64 1, .int .u64 9223372036854775808, .int .u64 18446744073709551615]) (T := 25) (fun b => .slice (some ⟨b, 0, none⟩) 4 4) rfl (fun W => by kernel_rfl) fun gb hgb => ?_
            have hne : tb ∉ (Kn.g (cK gb [.int .u64 0, .int .u64 1, .int .u64 9223372036854775808, .int .u64 18446744073709551615])).bs := fun h => hgb (by rw [← List.mem_singleton.1 h]; exact kX_bs.2 ⟨_, List.mem_singleton.2 rfl, hK_bs ht.lt⟩)
            clear hgb
            repeat' (first | simp (disch := omega) only [sxE, m_Tape__Wide.E, Nat.reduceAdd, Nat.reduceEqDiff, Nat.reduceMul, Nat.reduceSub, Int.reduceAdd, Int.reduceSub, Int.reduceMul, Int.reduceNeg, Int.reduceLT, Int.reduceLE, Int.reduceEq, Int.reduceToNat, ↓reduceIte, Int.reducePow, Nat.reduceLeDiff, Nat.reduceLT, ne_eq, eq_self, List.length_cons, List.length_nil, qxE])
            refine asks_tc rfl hk (t_next tb (by decide) (by decide)) en_m_Tape__Next rfl (List.mem_cons_of_mem _ (List.mem_singleton.2 rfl)) rfl (fun j hj => by
              rcases List.mem_cons.1 hj with rfl | hj
              · exact .inr hne
              · exact .inl (List.mem_singleton.1 hj)) ?_
            rintro q ⟨q1, q2⟩
            rcases (show q = 0 ∨ q = 1 ∨ q = 2 ∨ q = 3 by omega) with rfl | rfl | rfl | rfl
            · repeat' (first | simp (disch := omega) only [sxE, m_Tape__Wide.E, Nat.reduceAdd, Nat.reduceEqDiff, Nat.reduceMul, Nat.reduceSub, Int.reduceAdd, Int.reduceSub, Int.reduceMul, Int.reduceNeg, Int.reduceLT, Int.reduceLE, Int.reduceEq, Int.reduceToNat, ↓reduceIte, Int.reducePow, Nat.reduceLeDiff, Nat.reduceLT, ne_eq, eq_self, List.length_cons, List.length_nil, qxE, Nat.zero_add, Nat.add_zero, Nat.one_mul, Nat.mul_one] | (refine ldP_c (cs := [.int .u64 0, .int .u64 1, .int .u64 9223372036854775808, .int .u64 18446744073709551615]) (l := [.int .u64 0]) rfl List.mem_cons_self rfl (fun j v h => by rcases j with _ | j; exact h; cases h) ?_))
              exact ⟨(3, c0, c1, c2, 0), ⟨by dsimp only; omega, u0, u1, u2, ⟨by dsimp only; omega, by dsimp only; omega⟩⟩, by dsimp only; omega, ⟨rfl, rfl, extS_kn fun k hk => by rw [List.mem_singleton.1 hk]; exact List.mem_cons_of_mem _ (List.mem_singleton.2 rfl)⟩⟩
            · repeat' (first | simp (disch := omega) only [sxE, m_Tape__Wide.E, Nat.reduceAdd, Nat.reduceEqDiff, Nat.reduceMul, Nat.reduceSub, Int.reduceAdd, Int.reduceSub, Int.reduceMul, Int.reduceNeg, Int.reduceLT, Int.reduceLE, Int.reduceEq, Int.reduceToNat, ↓reduceIte, Int.reducePow, Nat.reduceLeDiff, Nat.reduceLT, ne_eq, eq_self, List.length_cons, List.length_nil, qxE, Nat.zero_add, Nat.add_zero, Nat.one_mul, Nat.mul_one] | (refine ldP_c (cs := [.int .u64 0, .int .u64 1, .int .u64 9223372036854775808, .int .u64 18446744073709551615]) (l := [.int .u64 1]) rfl List.mem_cons_self rfl (fun j v h => by rcases j with _ | j; exact h; cases h) ?_))
              exact ⟨(3, c0, c1, c2, 1), ⟨by dsimp only; omega, u0, u1, u2, ⟨by dsimp only; omega, by dsimp only; omega⟩⟩, by dsimp only; omega, ⟨rfl, rfl, extS_kn fun k hk => by rw [List.mem_singleton.1 hk]; exact List.mem_cons_of_mem _ (List.mem_singleton.2 rfl)⟩⟩
            · repeat' (first | simp (disch := omega) only [sxE, m_Tape__Wide.E, Nat.reduceAdd, Nat.reduceEqDiff, Nat.reduceMul, Nat.reduceSub, Int.reduceAdd, Int.reduceSub, Int.reduceMul, Int.reduceNeg, Int.reduceLT, Int.reduceLE, Int.reduceEq, Int.reduceToNat, ↓reduceIte, Int.reducePow, Nat.reduceLeDiff, Nat.reduceLT, ne_eq, eq_self, List.length_cons, List.length_nil, qxE, Nat.zero_add, Nat.add_zero, Nat.one_mul, Nat.mul_one] | (refine ldP_c (cs := [.int .u64 0, .int .u64 1, .int .u64 9223372036854775808, .int .u64 18446744073709551615]) (l := [.int .u64 9223372036854775808]) rfl List.mem_cons_self rfl (fun j v h => by rcases j with _ | j; exact h; cases h) ?_))
              exact ⟨(3, c0, c1, c2, 9223372036854775808), ⟨by dsimp only; omega, u0, u1, u2, ⟨by dsimp only; omega, by dsimp only; omega⟩⟩, by dsimp only; omega, ⟨rfl, rfl, extS_kn fun k hk => by rw [List.mem_singleton.1 hk]; exact List.mem_cons_of_mem _ (List.mem_singleton.2 rfl)⟩⟩
            · repeat' (first | simp (disch := omega) only [sxE, m_Tape__Wide.E, Nat.reduceAdd, Nat.reduceEqDiff, Nat.reduceMul, Nat.reduceSub, Int.reduceAdd, Int.reduceSub, Int.reduceMul, Int.reduceNeg, Int.reduceLT, Int.reduceLE, Int.reduceEq, Int.reduceToNat, ↓reduceIte, Int.reducePow, Nat.reduceLeDiff, Nat.reduceLT, ne_eq, eq_self, List.length_cons, List.length_nil, qxE, Nat.zero_add, Nat.add_zero, Nat.one_mul, Nat.mul_one] | (refine ldP_c (cs := [.int .u64 0, .int .u64 1, .int .u64 9223372036854775808, .int .u64 18446744073709551615]) (l := [.int .u64 18446744073709551615]) rfl List.mem_cons_self rfl (fun j v h => by rcases j with _ | j; exact h; cases h) ?_))
              exact ⟨(3, c0, c1, c2, 18446744073709551615), ⟨by dsimp only; omega, u0, u1, u2, ⟨by dsimp only; omega, by dsimp only; omega⟩⟩, by dsimp only; omega, ⟨rfl, rfl, extS_kn fun k hk => by rw [List.mem_singleton.1 hk]; exact List.mem_cons_of_mem _ (List.mem_singleton.2 rfl)⟩⟩
end Go.Proofs.YtiiflgfnbgencaaDoor
