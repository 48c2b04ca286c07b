/- A region that draws its order, walked once: what reads or calls is taken in the text's order while the world may drift; then the boxes are made; then the stores follow. -/
import Derived.Test.YthcboomdkpiflaaRows
import Derived.Test.YthcboomdkpiflaaTool
import Derived.StillTail
import Derived.OrdersHeld
import Derived.WalkKit
import Derived.Handy
namespace Go.Proofs.Ythcboomdkpiflaa
open Go Go.RowKit
set_option linter.unusedVariables false
set_option linter.unusedSimpArgs false

section
variable {P : Program} {ops : Array Oper} {Q : Exit → Act → World → Prop} {S : World → Prop} {row : Option Nat}

/-- What a step leaves. -/
def stepIs (P : Program) (R : Value → World → Prop) : Result Next → Prop
  | .ok (.value v) w' => R v w'
  | .ok .skip w' => R undef w'
  | .ok (.enter f args) w' => Calls P f args w' fun e w'' => ∃ v, e = .returned v ∧ R v w''
  | _ => False

/-- In every world that meets S the operation leaves v, and the world grows. -/
def YieldsD (P : Program) (ops : Array Oper) (S : World → Prop) (row : Option Nat) (o : Oper) (v : Value) (a : Act) : Prop :=
  (Region.wanted o (yielded ops a.tmps) = true ∧ ∀ w, S w → stepIs P (fun u w' => u = v ∧ w.grownBy w' row) ((execOp a.eval o).run P w)) ∨
  (Region.wanted o (yielded ops a.tmps) = false ∧ v = undef)

theorem YieldsD.of_same {o : Oper} {v : Value} {a a' : Act} (hy : YieldsD P ops S row o v a) (he : execOp a'.eval o = execOp a.eval o)
    (hw : Region.wanted o (yielded ops a'.tmps) = Region.wanted o (yielded ops a.tmps)) : YieldsD P ops S row o v a' := by
  unfold YieldsD at *
  rw [he, hw]
  exact hy

theorem YieldsD.wpOp {i : Nat} {o : Oper} {v : Value} {a : Act} (hi : ops[i]? = some o) (hy : YieldsD P ops S row o v a)
    {K : Act → World → Prop} {w : World} (hS : S w) (h : ∀ w', w.grownBy w' row → K (a.put o.dst v) w') : wpOp P ops Q i K a w := by
  unfold Go.wpOp
  simp only [hi]
  rcases hy with ⟨hw, hv⟩ | ⟨hw, rfl⟩
  · simp only [hw, if_true]
    refine .inl ?_
    unfold Oper.wp
    have hs := hv w hS
    generalize (execOp a.eval o).run P w = r at *
    cases r with
    | ok n w' =>
      cases n <;> simp only [stepIs, Oper.upon] at hs ⊢
      case value u => obtain ⟨rfl, hg⟩ := hs; exact h _ hg
      case skip => obtain ⟨e, hg⟩ := hs; rw [e]; exact h _ hg
      case enter f args => exact Calls.mono hs fun e w'' ⟨u, he, hu, hg⟩ => by subst he; subst hu; exact h _ hg
    | halt x w' => cases hs
  · simp only [hw, Bool.false_eq_true, if_false]
    exact h _ (grown_refl' _ _)
where grown_refl' (w : World) (row : Option Nat) : w.grownBy w row := ⟨rfl, rfl, rfl, Nat.le_refl _, fun _ _ _ => rfl⟩

/-- One operation, apart from another whose value is known. -/
theorem wpOp_putD {j : Nat} {oi oj : Oper} {v : Value} (hj : ops[j]? = some oj) (hap : oi.apart ops oj = true)
    (hsi : ∀ cs b, oi.op ≠ .select cs b) (hsj : ∀ cs b, oj.op ≠ .select cs b)
    (hQ : ∀ c (a : Act) d v w, Q (.panic c) (a.put d v) w → Q (.panic c) a w) {K : Act → World → Prop} {a : Act} {w : World}
    (hy : YieldsD P ops S row oi v a) (h : wpOp P ops Q j K (a.put oi.dst v) w) :
    wpOp P ops Q j (fun a' w' => YieldsD P ops S row oi v a' ∧ K (a'.put oi.dst v) w') a w := by
  obtain ⟨h1, h2, h3⟩ := Oper.apart_spec hap
  have keep : ∀ (a : Act), YieldsD P ops S row oi v a → ∀ u, YieldsD P ops S row oi v (a.put oj.dst u) := fun a hy u =>
    hy.of_same (execOp_put oi hsi a oj.dst u h3) (wanted_put oi a oj.dst u h3)
  have keepD : ∀ d, YieldsD P ops S row oi v { a with defers := d :: a.defers } := fun d => hy.of_same rfl rfl
  unfold wpOp at *
  simp only [hj] at *
  rw [wanted_put oj a oi.dst v h1] at h
  split
  · rename_i hw
    simp only [hw, if_true] at h
    rcases h with h | ⟨hasks, hlets⟩
    case inr => exact .inr ⟨by unfold Oper.asks at *; rw [execOp_put oj hsj a oi.dst v h1] at hasks; exact hasks, hlets⟩
    refine .inl ?_
    unfold Oper.wp at *
    rw [execOp_put oj hsj a oi.dst v h1] at h
    generalize (execOp a.eval oj).run P w = r at *
    cases r with
    | ok n w' =>
      cases n <;> simp only [Oper.upon] at h ⊢
      case value u => exact ⟨keep a hy u, by rw [← Act.put_comm a v u h2]; exact h⟩
      case skip => exact ⟨keep a hy _, by rw [← Act.put_comm a v undef h2]; exact h⟩
      case defer d =>
        refine ⟨keep _ (keepD d) _, ?_⟩
        rw [← Act.put_comm _ v undef h2, ← Act.put_defers]
        exact h
      case enter f args =>
        refine Calls.mono h fun e w'' he => ?_
        cases e with
        | returned u => exact ⟨keep a hy u, by rw [← Act.put_comm a v u h2]; exact he⟩
        | panicked c => exact hQ _ _ _ _ _ he
        | outgrown => exact he
      case row row args => exact Rows.mono h fun u w'' he => ⟨keep a hy u, by rw [← Act.put_comm a v u h2]; exact he⟩
    | halt x w' =>
      cases x <;> simp only [Oper.upon] at h ⊢
      case panic u => exact hQ _ _ _ _ _ h
  · rename_i hw
    simp only [hw] at h
    exact ⟨keep a hy _, by rw [← Act.put_comm a v undef h2]; exact h⟩

/-- The operations that make a box: number, slot, cells. -/
abbrev Boxes := List (Nat × Tmp × Array Value)
def Fit (n0 : Nat) (bs : List (Nat × Array Value)) (w : World) (b : Nat) (zs : Array Value) : Prop := n0 ≤ b ∧ (∀ p ∈ bs, p.1 ≠ b) ∧ HB w b zs

/-- Whatever order is picked for the first n, the world drifting in between; a box may be any block that fits; then L. -/
def wpDr (P : Program) (ops : Array Oper) (Q : Exit → Act → World → Prop) (S : World → Prop) (row : Option Nat) (n n0 g : Nat) (bx : Boxes) (L : Array Bool → Act → List (Nat × Array Value) → World → Prop) : Nat → Array Bool → Act → List (Nat × Array Value) → World → Prop
  | 0, listed, a, bs, w => ∀ w1, S w1 → w.grownBy w1 row → L listed a bs w1
  | f + 1, listed, a, bs, w => ∀ w1, S w1 → w.grownBy w1 row → Region.ready .any ops listed ≠ [] ∧
      ∀ i ∈ Region.ready .any ops listed, (n ≤ i → wpOp P ops Q i (wpAny P .any ops Q (f + g) (listed.setIfInBounds i true)) a w1) ∧
        (i < n → (∃ x ∈ bx, x.1 = i) → ∀ x ∈ bx, x.1 = i → ∀ b, Fit n0 bs w1 b x.2.2 → wpDr P ops Q S row n n0 g bx L f (listed.setIfInBounds i true) (a.put (some x.2.1) (.pointer (some ⟨b, 0, none⟩))) ((b, x.2.2) :: bs) w1) ∧
        (i < n → (¬∃ x ∈ bx, x.1 = i) → wpOp P ops Q i (fun a' w' => w1.grownBy w' row ∧ wpDr P ops Q S row n n0 g bx L f (listed.setIfInBounds i true) a' bs w') a w1)

theorem gt_refl (w : World) (row : Option Nat) : w.grownBy w row := ⟨rfl, rfl, rfl, Nat.le_refl _, fun _ _ _ => rfl⟩
theorem gt_trans {a b c : World} {row : Option Nat} (h : a.grownBy b row) (k : b.grownBy c row) : a.grownBy c row :=
  ⟨k.os.trans h.os, k.tape.trans h.tape, k.output.trans h.output, Nat.le_trans h.size k.size, fun i hi hn => (k.block i (Nat.lt_of_lt_of_le hi h.size) hn).trans (h.block i hi hn)⟩
theorem gt_alloc (w : World) (o : Obj) (row : Option Nat) : w.grownBy (w.alloc o) row :=
  ⟨rfl, rfl, rfl, by simp, fun i hi hne => Below.heap_alloc w o i hi⟩
theorem gt_below {a w : World} (h : Below a.heap.size a w) (row : Option Nat) : a.grownBy w row := ⟨h.os, h.tape, h.output, h.size, fun i hi _ => h.block i hi⟩
theorem below_gt {a w : World} (h : a.grownBy w none) : Below a.heap.size a w := (Below.refl _ a).grown h (Nat.le_refl _) (fun k e => by cases e)
theorem HB.gt {w w' : World} {b n0 : Nat} {cs : Array Value} (h : HB w b cs) (g : w.grownBy w' row) (hb : n0 ≤ b) (hrow : ∀ r, row = some r → r < n0) : HB w' b cs := by
  have hl := h.lt
  obtain ⟨T, h⟩ := h
  exact ⟨T, (g.block b hl (fun e => by have := hrow _ e.symm; omega)).trans h⟩
theorem Fit.gt {n0 b : Nat} {bs : List (Nat × Array Value)} {w w' : World} {zs : Array Value} (h : Fit n0 bs w b zs) (g : w.grownBy w' row) (hrow : ∀ r, row = some r → r < n0) : Fit n0 bs w' b zs := ⟨h.1, h.2.1, h.2.2.gt g h.1 hrow⟩

section
variable {n n0 g : Nat} {bx : Boxes} {L : Array Bool → Act → List (Nat × Array Value) → World → Prop}
theorem wpDr_drift : ∀ {f : Nat} {listed : Array Bool} {a : Act} {bs : List (Nat × Array Value)} {w w' : World}, wpDr P ops Q S row n n0 g bx L f listed a bs w → w.grownBy w' row → wpDr P ops Q S row n n0 g bx L f listed a bs w'
  | 0, _, _, _, _, _, h, g => fun w1 hs h1 => h w1 hs (gt_trans g h1)
  | _ + 1, _, _, _, _, _, h, g => fun w1 hs h1 => h w1 hs (gt_trans g h1)
end

/-- An operation that makes a box of these cells. -/
def Makes (P : Program) (o : Oper) (d : Tmp) (zs : Array Value) : Prop :=
  o.dst = some d ∧ o.guard = none ∧ o.after = #[] ∧ ∀ ρ w, ∃ T, (execOp ρ o).run P w = .ok (.value (.pointer (some ⟨w.heap.size, 0, none⟩))) (w.alloc (.cells zs T (0, 0)))

theorem wpAny_of_dr {n n0 g : Nat} {bx : Boxes} {L : Array Bool → Act → List (Nat × Array Value) → World → Prop} (hk : ∀ w w', S w → w.grownBy w' row → S w') (hn0 : ∀ w, S w → n0 ≤ w.heap.size) (hrow : ∀ r, row = some r → r < n0)
    (hbx : ∀ x ∈ bx, ∃ o, ops[x.1]? = some o ∧ Makes P o x.2.1 x.2.2) (hL : ∀ listed a bs w, L listed a bs w → wpAny P .any ops Q g listed a w) :
    ∀ (f : Nat) (listed : Array Bool) (a : Act) (bs : List (Nat × Array Value)) (w : World), S w → (∀ p ∈ bs, p.1 < w.heap.size) → wpDr P ops Q S row n n0 g bx L f listed a bs w → wpAny P .any ops Q (f + g) listed a w
  | 0, listed, a, bs, w, hs, hlt, h => by rw [Nat.zero_add]; exact hL _ _ _ _ (h w hs (gt_refl _ _))
  | f + 1, listed, a, bs, w, hs, hlt, h => by
    rw [show f + 1 + g = (f + g) + 1 by omega]
    have h' := h w hs (gt_refl _ _)
    refine ⟨fun h0 => absurd h0 h'.1, fun i hi => ?_⟩
    rcases Nat.lt_or_ge i n with hin | hin
    rotate_left
    · exact (h'.2 i hi).1 hin
    by_cases hx : ∃ x ∈ bx, x.1 = i
    · obtain ⟨x, hxm, rfl⟩ := hx
      obtain ⟨o, ho, hd, hg, haf, hrun⟩ := hbx x hxm
      obtain ⟨T, hrunT⟩ := hrun a.eval w
      unfold wpOp
      simp only [ho]
      have hw : Region.wanted o (yielded ops a.tmps) = true := by unfold Region.wanted; rw [hg]
      simp only [hw, if_true]
      refine .inl ?_
      unfold Oper.wp
      rw [hrunT]
      simp only [Oper.upon]
      have hs2 : S (w.alloc (.cells x.2.2 T (0, 0))) := hk _ _ hs (gt_alloc _ _ _)
      have hfit : Fit n0 bs (w.alloc (.cells x.2.2 T (0, 0))) w.heap.size x.2.2 := ⟨hn0 _ hs, fun p hp e => by have := hlt p hp; omega, HB.new _ _ _ rfl⟩
      have H := ((h _ hs2 (gt_alloc _ _ _)).2 x.1 hi).2.1 hin ⟨x, hxm, rfl⟩ x hxm rfl _ hfit
      rw [hd]
      refine wpAny_of_dr hk hn0 hrow hbx hL f _ _ _ _ hs2 (fun p hp => ?_) H
      rcases List.mem_cons.1 hp with rfl | hp
      · simp
      · have := hlt p hp; simp; omega
    · refine wpOp_mono (fun a' w' ⟨hg, hd⟩ => ?_) ((h'.2 i hi).2.2 hin hx)
      exact wpAny_of_dr hk hn0 hrow hbx hL f _ a' bs w' (hk _ _ hs hg) (fun p hp => Nat.lt_of_lt_of_le (hlt p hp) hg.size) hd

/-- The tail waits for the head, but for what is late (lp). -/
def Region.sinkL (ops : Array Oper) (n : Nat) (lp : List Nat) : Bool :=
  (List.range n).all fun i => lp.contains i || (List.range (n + 1)).any fun j => decide (i < j) && (!lp.contains j && Region.waitsFor .any ops j i)
def Region.tailB (ops : Array Oper) (n : Nat) (lp : List Nat) : Bool := (decide (n = ops.size) || (decide (n < ops.size) && (Region.sinkL ops n lp && Region.chainB .any ops n))) && lp.all fun i => decide (i < n)
theorem tail_waits_late {n : Nat} {lp : List Nat} {listed : Array Bool} (hs : Region.sinkL ops n lp = true) (hc : Region.chainB .any ops n = true) (hn : n < ops.size) (inv : HeadInv .any ops n listed) :
    ∀ (d i : Nat), n - i = d → i < n → i ∉ lp → listed.getD i true = false → ∀ t, n ≤ t → t ∉ Region.ready .any ops listed := by
  intro d
  induction d using Nat.strongRecOn with
  | _ d ih =>
    intro i hd hi hlp hun t ht hr
    obtain ⟨_, ot, hot, hall⟩ := mem_ready.1 hr
    have htlt : t < ops.size := (Array.getElem?_eq_some_iff.1 hot).1
    by_cases htn : t = n
    · subst htn
      have h1 := List.all_eq_true.1 hs i (List.mem_range.2 hi)
      simp only [Bool.or_eq_true, List.contains_iff_mem] at h1
      rcases h1 with h1 | h1
      · exact hlp h1
      obtain ⟨j, hj, hj2⟩ := List.any_eq_true.1 h1
      simp only [Bool.and_eq_true, decide_eq_true_eq, Bool.not_eq_true'] at hj2
      obtain ⟨hij, hjlp, hw⟩ := hj2
      have hjlp' : j ∉ lp := fun h => by
        have : lp.contains j = true := List.contains_iff_mem.2 h
        rw [hjlp] at this; cases this
      obtain ⟨oj, hoj, e, he, hb, hon⟩ := Region.waitsFor_spec hw
      have hjle : j ≤ t := by have := List.mem_range.1 hj; omega
      by_cases hjt : j = t
      · subst hjt
        have : oj = ot := Option.some.inj (hoj.symm.trans hot)
        subst this
        have h2 := hall e he hb
        rw [hon, getD_both hun] at h2
        cases h2
      · cases hl : listed.getD j false with
        | true =>
          have h2 := inv.closed j oj hoj hl e he hb
          rw [hon, getD_both hun] at h2
          cases h2
        | false =>
          have hjs : j < listed.size := by rw [inv.size]; omega
          exact ih (t - j) (by omega) j rfl (by omega) hjlp' (getD_in hjs hl) t (Nat.le_refl _) hr
    · have h1 := List.all_eq_true.1 hc t (List.mem_range.2 htlt)
      simp only [Bool.or_eq_true, decide_eq_true_eq] at h1
      rcases h1 with h1 | h1
      · omega
      · obtain ⟨o', ho', e, he, hb, hon⟩ := Region.waitsFor_spec h1
        have : o' = ot := Option.some.inj (ho'.symm.trans hot)
        subst this
        have h2 := hall e he hb
        rw [hon, getD_both (inv.tail (t - 1) (by omega) (by omega))] at h2
        cases h2
theorem tailB_spec {n : Nat} {lp : List Nat} (h : Region.tailB ops n lp = true) {listed : Array Bool} (inv : HeadInv .any ops n listed) {i : Nat} (hi : i < n) (hlp : i ∉ lp) (hun : listed.getD i true = false) :
    ∀ t ∈ Region.ready .any ops listed, t < n := by
  intro t ht
  rcases Nat.lt_or_ge t n with h1 | h1
  · exact h1
  · simp only [Region.tailB, Bool.or_eq_true, Bool.and_eq_true, decide_eq_true_eq] at h
    rcases h.1 with h | ⟨hn, hs, hc⟩
    · obtain ⟨_, ot, hot, _⟩ := mem_ready.1 ht
      have := (Array.getElem?_eq_some_iff.1 hot).1
      omega
    · exact absurd ht (tail_waits_late hs hc hn inv _ i rfl hi hlp hun t h1)

/-- What is known may be taken first. -/
theorem wpDr_first {n n0 g i : Nat} {lp : List Nat} {bx : Boxes} {oi : Oper} {v : Value} {L : Array Bool → Act → List (Nat × Array Value) → World → Prop} (hi : ops[i]? = some oi) (hsel : ∀ (j : Nat) (o : Oper) cs b, ops[j]? = some o → o.op ≠ .select cs b)
    (htl : Region.tailB ops n lp = true) (hin : i < n) (hilp : i ∉ lp) (hibx : ¬∃ x ∈ bx, x.1 = i) (hQ : ∀ c (a : Act) d v w, Q (.panic c) (a.put d v) w → Q (.panic c) a w) (hk : ∀ w w', S w → w.grownBy w' row → S w') (hrow : ∀ r, row = some r → r < n0)
    (hbx : ∀ x ∈ bx, ∃ o, ops[x.1]? = some o ∧ Makes P o x.2.1 x.2.2)
    (hdone : ∀ listed a bs w, L listed a bs w → ∀ j ∈ Region.ready .any ops listed, n ≤ j) :
    ∀ (f : Nat) (listed : Array Bool) (a : Act) (bs : List (Nat × Array Value)) (w : World), HeadInv .any ops n listed →
      (∀ j oj, ops[j]? = some oj → j ≠ i → listed.getD j true = false → (∀ e ∈ oj.after, Region.binds .any e = true → e.on ≠ i) → oi.apart ops oj = true) →
      i ∈ Region.ready .any ops listed → YieldsD P ops S row oi v a →
      wpDr P ops Q S row n n0 g bx L f (listed.setIfInBounds i true) (a.put oi.dst v) bs w → wpDr P ops Q S row n n0 g bx L (f + 1) listed a bs w := by
  intro f
  induction f with
  | zero =>
    intro listed a bs w inv _ hr hy H w1 hs1 ht1
    have hun := (mem_ready.1 hr).1
    refine ⟨fun h => (by rw [h] at hr; cases hr), fun j hj => ?_⟩
    have hjn : j < n := tailB_spec htl inv hin hilp hun j hj
    by_cases hji : j = i
    · subst hji; exact ⟨fun h => absurd h (by omega), fun _ h => absurd h hibx, fun _ _ => hy.wpOp hi hs1 fun w' hg => ⟨hg, wpDr_drift H (gt_trans ht1 hg)⟩⟩
    · have := hdone _ _ _ _ (H w1 hs1 ht1) j (ready_mono hj hji)
      omega
  | succ f ih =>
    intro listed a bs w inv hfree hr hy H w1 hs1 ht1
    have hun := (mem_ready.1 hr).1
    refine ⟨fun h => (by rw [h] at hr; cases hr), fun j hj => ?_⟩
    have hjn : j < n := tailB_spec htl inv hin hilp hun j hj
    by_cases hji : j = i
    · subst hji; exact ⟨fun h => absurd h (by omega), fun _ h => absurd h hibx, fun _ _ => hy.wpOp hi hs1 fun w' hg => ⟨hg, wpDr_drift H (gt_trans ht1 hg)⟩⟩
    · obtain ⟨_, hA, hB⟩ := (H w1 hs1 ht1).2 j (ready_mono hj hji)
      obtain ⟨hjun, oj, hoj, hall⟩ := mem_ready.1 hj
      have hnot : ∀ e ∈ oj.after, Region.binds .any e = true → e.on ≠ i := fun e he hb heq => by
        have h1 := hall e he hb
        rw [heq, getD_both hun] at h1
        cases h1
      have hap := hfree j oj hoj hji hjun hnot
      have hfree' : ∀ k ok, ops[k]? = some ok → k ≠ i → (listed.setIfInBounds j true).getD k true = false →
          (∀ e ∈ ok.after, Region.binds .any e = true → e.on ≠ i) → oi.apart ops ok = true := fun k ok hk hki hun hno => by
        refine hfree k ok hk hki ?_ hno
        by_cases hjk : j = k
        · subst hjk; exact hjun
        · rw [getD_set_ne true hjk] at hun; exact hun
      refine ⟨fun h => absurd h (by omega), fun _ hx x hxm hxj b hfit => ?_, fun _ hx => ?_⟩
      · have h1 := hA hjn hx x hxm hxj b hfit
        obtain ⟨o, ho, hmk⟩ := hbx x hxm
        rw [hxj] at ho
        obtain rfl : oj = o := Option.some.inj (hoj.symm.trans ho)
        obtain ⟨a1, a2, a3⟩ := Oper.apart_spec hap
        have hd := hmk.1
        refine ih (listed.setIfInBounds j true) _ _ w1 (inv.set hj hjn) hfree' (ready_mono hr (Ne.symm hji)) (hy.of_same (execOp_put oi (fun cs b => hsel i oi cs b hi) a _ _ (fun d e => a3 d (by rw [hd]; exact e))) (wanted_put oi a _ _ (fun d e => a3 d (by rw [hd]; exact e)))) ?_
        rw [Array.setIfInBounds_comm _ _ hji, ← Act.put_comm a v _ (fun d e e' => a2 d e (by rw [hd]; exact e'))]
        exact h1
      · have h2 := wpOp_putD hoj hap (fun cs b => hsel i oi cs b hi) (fun cs b => hsel j oj cs b hoj) hQ hy (hB hjn hx)
        refine wpOp_mono (fun a' w' h3 => ⟨h3.2.1, ih (listed.setIfInBounds j true) a' bs w' (inv.set hj hjn) hfree' (ready_mono hr (Ne.symm hji)) h3.1 ?_⟩) h2
        rw [Array.setIfInBounds_comm _ _ hji]
        exact h3.2.2

theorem yields_d {o : Oper} {v : Value} {a : Act} (h : Yields P ops o v a) : YieldsD P ops S row o v a :=
  h.imp (fun ⟨hw, hv⟩ => ⟨hw, fun w _ => by rw [hv w]; exact ⟨rfl, gt_refl _ _⟩⟩) id
/-- What is late may be taken first, too. -/
theorem wpDr_late {n n0 g i : Nat} {bx : Boxes} {oi : Oper} {v : Value} {L : Array Bool → Act → List (Nat × Array Value) → World → Prop} (hi : ops[i]? = some oi) (hsel : ∀ (j : Nat) (o : Oper) cs b, ops[j]? = some o → o.op ≠ .select cs b)
    (hin : i < n) (hibx : ¬∃ x ∈ bx, x.1 = i) (hQ : ∀ c (a : Act) d v w, Q (.panic c) (a.put d v) w → Q (.panic c) a w) (hk : ∀ w w', S w → w.grownBy w' row → S w')
    (hbx : ∀ x ∈ bx, ∃ o, ops[x.1]? = some o ∧ Makes P o x.2.1 x.2.2)
    (hdone : ∀ listed a bs w, L listed a bs w → ∀ j ∈ Region.ready .any ops listed, n ≤ j) (hLA : ∀ listed a bs w, L listed a bs w → wpAny P .any ops Q g listed a w) :
    ∀ (f : Nat) (listed : Array Bool) (a : Act) (bs : List (Nat × Array Value)) (w : World), HeadInv .any ops n listed →
      (∀ j oj, ops[j]? = some oj → j ≠ i → listed.getD j true = false → (∀ e ∈ oj.after, Region.binds .any e = true → e.on ≠ i) → oi.apart ops oj = true) →
      i ∈ Region.ready .any ops listed → Yields P ops oi v a →
      wpDr P ops Q S row n n0 g bx L f (listed.setIfInBounds i true) (a.put oi.dst v) bs w → wpDr P ops Q S row n n0 g bx L (f + 1) listed a bs w := by
  have hQ' : ∀ c (a : Act) w, Q (.panic c) (a.put oi.dst v) w → Q (.panic c) a w := fun c a w h => hQ c a _ _ w h
  intro f
  induction f with
  | zero =>
    intro listed a bs w inv hfree hr hy H w1 hs1 ht1
    have hun := (mem_ready.1 hr).1
    refine ⟨fun h => (by rw [h] at hr; cases hr), fun j hj => ?_⟩
    by_cases hji : j = i
    · subst hji; exact ⟨fun h => absurd h (by omega), fun _ h => absurd h hibx, fun _ _ => (yields_d (S := S) (row := row) hy).wpOp hi hs1 fun w' hg => ⟨hg, wpDr_drift H (gt_trans ht1 hg)⟩⟩
    have hj2 := ready_mono hj hji
    have hnj := hdone _ _ _ _ (H w1 hs1 ht1) j hj2
    refine ⟨fun _ => ?_, fun h => absurd h (by omega), fun h => absurd h (by omega)⟩
    have HA := hLA _ _ _ _ (H w1 hs1 ht1)
    obtain ⟨hjun, oj, hoj, hall⟩ := mem_ready.1 hj
    have hnot : ∀ e ∈ oj.after, Region.binds .any e = true → e.on ≠ i := fun e he hb heq => by
      have h1 := hall e he hb
      rw [heq, getD_both hun] at h1
      cases h1
    have hfree' : ∀ k ok, ops[k]? = some ok → k ≠ i → (listed.setIfInBounds j true).getD k true = false →
        (∀ e ∈ ok.after, Region.binds .any e = true → e.on ≠ i) → oi.apart ops ok = true := fun k ok hk hki hun hno => by
      refine hfree k ok hk hki ?_ hno
      by_cases hjk : j = k
      · subst hjk; exact hjun
      · rw [getD_set_ne true hjk] at hun; exact hun
    cases g with
    | zero => rw [HA.1] at hj2; cases hj2
    | succ g =>
      have h2 := wpOp_put hoj (hfree j oj hoj hji hjun hnot) (fun cs b => hsel i oi cs b hi) (fun cs b => hsel j oj cs b hoj) hQ' hy (HA.2 j hj2)
      rw [Nat.zero_add]
      refine wpOp_mono (fun a' w' h3 => wpAny_first hi hsel hQ' g _ a' w' hfree' (ready_mono hr (Ne.symm hji)) h3.1 ?_) h2
      rw [Array.setIfInBounds_comm _ _ hji]
      exact h3.2
  | succ f ih =>
    intro listed a bs w inv hfree hr hy H w1 hs1 ht1
    have hun := (mem_ready.1 hr).1
    refine ⟨fun h => (by rw [h] at hr; cases hr), fun j hj => ?_⟩
    by_cases hji : j = i
    · subst hji; exact ⟨fun h => absurd h (by omega), fun _ h => absurd h hibx, fun _ _ => (yields_d (S := S) (row := row) hy).wpOp hi hs1 fun w' hg => ⟨hg, wpDr_drift H (gt_trans ht1 hg)⟩⟩
    obtain ⟨hC, hA, hB⟩ := (H w1 hs1 ht1).2 j (ready_mono hj hji)
    obtain ⟨hjun, oj, hoj, hall⟩ := mem_ready.1 hj
    have hnot : ∀ e ∈ oj.after, Region.binds .any e = true → e.on ≠ i := fun e he hb heq => by
      have h1 := hall e he hb
      rw [heq, getD_both hun] at h1
      cases h1
    have hap := hfree j oj hoj hji hjun hnot
    have hfree' : ∀ k ok, ops[k]? = some ok → k ≠ i → (listed.setIfInBounds j true).getD k true = false →
        (∀ e ∈ ok.after, Region.binds .any e = true → e.on ≠ i) → oi.apart ops ok = true := fun k ok hk hki hun hno => by
      refine hfree k ok hk hki ?_ hno
      by_cases hjk : j = k
      · subst hjk; exact hjun
      · rw [getD_set_ne true hjk] at hun; exact hun
    refine ⟨fun hnj => ?_, fun hjn hx x hxm hxj b hfit => ?_, fun hjn hx => ?_⟩
    · have h2 := wpOp_put hoj hap (fun cs b => hsel i oi cs b hi) (fun cs b => hsel j oj cs b hoj) hQ' hy (hC hnj)
      refine wpOp_mono (fun a' w' h3 => ?_) h2
      rw [show f + 1 + g = (f + g) + 1 by omega]
      refine wpAny_first hi hsel hQ' _ _ a' w' hfree' (ready_mono hr (Ne.symm hji)) h3.1 ?_
      rw [Array.setIfInBounds_comm _ _ hji]
      exact h3.2
    · have h1 := hA hjn hx x hxm hxj b hfit
      obtain ⟨o, ho, hmk⟩ := hbx x hxm
      rw [hxj] at ho
      obtain rfl : oj = o := Option.some.inj (hoj.symm.trans ho)
      obtain ⟨a1, a2, a3⟩ := Oper.apart_spec hap
      have hd := hmk.1
      refine ih (listed.setIfInBounds j true) _ _ w1 (inv.set hj hjn) hfree' (ready_mono hr (Ne.symm hji)) (hy.of_same (execOp_put oi (fun cs b => hsel i oi cs b hi) a _ _ (fun d e => a3 d (by rw [hd]; exact e))) (wanted_put oi a _ _ (fun d e => a3 d (by rw [hd]; exact e)))) ?_
      rw [Array.setIfInBounds_comm _ _ hji, ← Act.put_comm a v _ (fun d e e' => a2 d e (by rw [hd]; exact e'))]
      exact h1
    · have h2 := wpOp_put hoj hap (fun cs b => hsel i oi cs b hi) (fun cs b => hsel j oj cs b hoj) hQ' hy (hB hjn hx)
      refine wpOp_mono (fun a' w' h3 => ⟨h3.2.1, ih (listed.setIfInBounds j true) a' bs w' (inv.set hj hjn) hfree' (ready_mono hr (Ne.symm hji)) h3.1 ?_⟩) h2
      rw [Array.setIfInBounds_comm _ _ hji]
      exact h3.2.2

/-! ### A call whose result is not known ahead -/
/-- What is asked behind one operation: the world has grown, and K. -/
def Aft (row : Option Nat) (w : World) (K : Act → World → Prop) : Exit → Act → World → Prop
  | .normal, a, w' => w.grownBy w' row ∧ K a w'
  | _, _, _ => False
theorem not_letsOut_aft {w : World} {K : Act → World → Prop} : ¬LetsOut (Aft row w K) := fun ⟨_, _, h⟩ => h
theorem wpOp_of_aft {i : Nat} {o : Oper} (ho : ops[i]? = some o) (hs : ∀ cs b, o.op ≠ .select cs b) {d : Tmp} {u : Value} (h1 : d ∉ o.looksAt ops) (h2 : o.dst ≠ some d) {K : Act → World → Prop} {a : Act} {w w0 : World} (h : wpList P ops (Aft row w0 K) [o] a w) :
    wpList P ops (Aft row w0 fun a' w' => ∃ a'', a' = a''.put (some d) u ∧ K a'' w') [o] (a.put (some d) u) w := by
  have e1 : execOp (a.put (some d) u).eval o = execOp a.eval o := execOp_put o hs a (some d) u (fun d' e => by cases e; exact h1)
  have e2 : Region.wanted o (yielded ops (a.put (some d) u).tmps) = Region.wanted o (yielded ops a.tmps) := wanted_put o a (some d) u (fun d' e => by cases e; exact h1)
  have e3 : ∀ v, (a.put (some d) u).put o.dst v = (a.put o.dst v).put (some d) u := fun v => Act.put_comm a u v (fun d' e => by cases e; exact h2)
  unfold wpList at *
  rw [e2]
  split
  · rename_i hw
    rw [if_pos hw] at h
    rcases h with h | ⟨_, h⟩
    case inr => exact absurd h not_letsOut_aft
    refine .inl ?_
    unfold Oper.wp at *
    rw [e1]
    generalize (execOp a.eval o).run P w = r at *
    cases r with
    | ok n w' =>
      cases n <;> simp only [Oper.upon] at h ⊢
      case value v => exact ⟨h.1, _, e3 v, h.2⟩
      case skip => exact ⟨h.1, _, e3 _, h.2⟩
      case defer dd => exact ⟨h.1, _, Act.put_comm (x := some d) (y := o.dst) ({ a with defers := dd :: a.defers } : Act) u undef (fun d' e => by cases e; exact h2), h.2⟩
      case enter f args =>
        refine Calls.mono h fun e w'' he => ?_
        cases e with
        | returned v => exact ⟨he.1, _, e3 v, he.2⟩
        | panicked c => exact he
        | outgrown => exact absurd he not_letsOut_aft
      case row rr args => exact Rows.mono h fun v w'' he => ⟨he.1, _, e3 v, he.2⟩
    | halt x w' => cases x <;> simp only [Oper.upon] at h ⊢ <;> exact h
  · rename_i hw
    rw [if_neg hw] at h
    exact ⟨h.1, _, e3 _, h.2⟩
theorem wpOp_aft {i : Nat} {o : Oper} (ho : ops[i]? = some o) {K : Act → World → Prop} {a : Act} {w w0 : World} (h : wpList P ops (Aft row w0 K) [o] a w) : wpOp P ops Q i (fun a' w' => w0.grownBy w' row ∧ K a' w') a w := by
  unfold wpOp
  simp only [ho]
  unfold wpList at h
  split
  · rename_i hw
    rw [if_pos hw] at h
    rcases h with h | ⟨_, h⟩
    case inr => exact absurd h not_letsOut_aft
    refine .inl ?_
    unfold Oper.wp at *
    generalize (execOp a.eval o).run P w = r at *
    cases r with
    | ok n w' =>
      cases n <;> simp only [Oper.upon] at h ⊢ <;> first
        | exact h
        | exact Calls.mono h (fun e w'' he => by cases e <;> first | exact he | exact (he : False).elim | exact absurd he not_letsOut_aft)
        | exact Rows.mono h (fun _ _ he => he)
    | halt x w' => cases x <;> simp only [Oper.upon] at h ⊢ <;> first | exact h | exact (h : False).elim
  · rename_i hw
    rw [if_neg hw] at h
    exact h

/-- More is listed, and what is more are boxes. -/
def MoreBoxes (bx : Boxes) (listed listed' : Array Bool) : Prop := (∀ t, listed.getD t false = true → listed'.getD t false = true) ∧ (∀ t, listed'.getD t false = true → listed.getD t false = true ∨ ∃ x ∈ bx, x.1 = t)

theorem wpList_aft_mono {o : Oper} {K K' : Act → World → Prop} {a : Act} {w w0 : World} (hm : ∀ a w', w0.grownBy w' row → K a w' → K' a w') (h : wpList P ops (Aft row w0 K) [o] a w) : wpList P ops (Aft row w0 K') [o] a w := by
  unfold wpList at *
  split
  · rename_i hw
    rw [if_pos hw] at h
    rcases h with h | ⟨_, h⟩
    case inr => exact absurd h not_letsOut_aft
    refine .inl ?_
    unfold Oper.wp at *
    generalize (execOp a.eval o).run P w = r at *
    cases r with
    | ok n w' =>
      cases n <;> simp only [Oper.upon] at h ⊢ <;> first
        | exact ⟨h.1, hm _ _ h.1 h.2⟩
        | exact Calls.mono h (fun e w'' he => by cases e <;> first | exact ⟨he.1, hm _ _ he.1 he.2⟩ | exact (he : False).elim | exact absurd he not_letsOut_aft)
        | exact Rows.mono h (fun _ _ he => ⟨he.1, hm _ _ he.1 he.2⟩)
    | halt x w' => cases x <;> simp only [Oper.upon] at h ⊢ <;> exact h
  · rename_i hw
    rw [if_neg hw] at h
    exact ⟨h.1, hm _ _ h.1 h.2⟩

theorem wpDr_call {n n0 g i : Nat} {lp : List Nat} {bx : Boxes} {oi : Oper} {L : Array Bool → Act → List (Nat × Array Value) → World → Prop} (hi : ops[i]? = some oi) (hsel : ∀ cs b, oi.op ≠ .select cs b)
    (htl : Region.tailB ops n lp = true) (hin : i < n) (hilp : i ∉ lp) (hibx : ¬∃ x ∈ bx, x.1 = i) (hk : ∀ w w', S w → w.grownBy w' row → S w') (hrow : ∀ r, row = some r → r < n0)
    (hbx : ∀ x ∈ bx, x.2.1 ∉ oi.looksAt ops ∧ oi.dst ≠ some x.2.1) :
    ∀ (f : Nat) (rem : Boxes) (listed : Array Bool) (a : Act) (bs : List (Nat × Array Value)) (w : World), HeadInv .any ops n listed → i ∈ Region.ready .any ops listed →
      (∀ x ∈ bx, listed.getD x.1 true = false → x ∈ rem) → rem.length ≤ f →
      (∀ listed', MoreBoxes bx listed listed' → listed'.size = listed.size → ∀ k ∈ Region.ready .any ops listed', k = i ∨ ∃ x ∈ bx, x.1 = k) →
      (∀ w1, S w1 → w.grownBy w1 row → wpList P ops (Aft row w1 fun a' w' => wpDr P ops Q S row n n0 g bx L f (listed.setIfInBounds i true) a' bs w') [oi] a w1) →
      wpDr P ops Q S row n n0 g bx L (f + 1) listed a bs w := by
  intro f
  induction f with
  | zero =>
    intro rem listed a bs w inv hr hrem hlen hone H w1 hs1 ht1
    have hun := (mem_ready.1 hr).1
    refine ⟨fun h => (by rw [h] at hr; cases hr), fun j hj => ?_⟩
    have hjn : j < n := tailB_spec htl inv hin hilp hun j hj
    refine ⟨fun h => absurd h (by omega), fun _ _ y hym hyj b hfit => ?_, fun _ hx => ?_⟩
    · have h1 := hrem y hym (by rw [hyj]; exact (mem_ready.1 hj).1)
      rw [List.length_eq_zero_iff.1 (Nat.le_zero.1 hlen)] at h1
      cases h1
    · rcases hone listed ⟨fun _ h => h, fun _ h => .inl h⟩ rfl j hj with rfl | h
      · exact wpOp_aft hi (H w1 hs1 ht1)
      · exact absurd h hx
  | succ f ih =>
    intro rem listed a bs w inv hr hrem hlen hone H w1 hs1 ht1
    have hun := (mem_ready.1 hr).1
    refine ⟨fun h => (by rw [h] at hr; cases hr), fun j hj => ?_⟩
    have hjn : j < n := tailB_spec htl inv hin hilp hun j hj
    refine ⟨fun h => absurd h (by omega), fun _ _ y hym hyj b hfit => ?_, fun _ hx => ?_⟩
    · have hjun := (mem_ready.1 hj).1
      have hji : j ≠ i := fun e => hibx ⟨y, hym, hyj.trans e⟩
      have hjs : j < listed.size := by
        rcases Nat.lt_or_ge j listed.size with h | h
        · exact h
        · simp [Array.getElem?_eq_none h] at hjun
      have hmore : ∀ listed', MoreBoxes bx (listed.setIfInBounds j true) listed' → MoreBoxes bx listed listed' := fun listed' ⟨m1, m2⟩ =>
        ⟨fun t ht => m1 t (getD_set_true ht), fun t ht => by
          rcases m2 t ht with h | h
          · by_cases hjt : j = t
            · exact .inr ⟨y, hym, hyj.trans hjt⟩
            · rw [getD_set_ne false hjt] at h; exact .inl h
          · exact .inr h⟩
      refine ih (rem.filter fun z => z.1 != j) _ _ _ w1 (inv.set hj hjn) (ready_mono hr (Ne.symm hji)) (fun x hxm hxl => ?_) ?_ (fun listed' hm hsz => hone listed' (hmore listed' hm) (by rw [hsz]; simp)) ?_
      · have hne : j ≠ x.1 := fun e => by
          subst e; simp [hjs] at hxl
        rw [getD_set_ne true hne] at hxl
        exact List.mem_filter.2 ⟨hrem x hxm hxl, by simpa using fun e => hne e.symm⟩
      · have h1 := hrem y hym (by rw [hyj]; exact hjun)
        have : (rem.filter fun z => z.1 != j).length < rem.length := by
          rcases Nat.lt_or_ge (rem.filter fun z => z.1 != j).length rem.length with h | h
          · exact h
          · have := (List.length_filter_eq_length_iff.1 (Nat.le_antisymm (List.length_filter_le _ _) h)) y h1
            simp [hyj] at this
        omega
      · intro w2 hs2 ht2
        have h1 := wpOp_of_aft (i := i) (d := y.2.1) (u := .pointer (some ⟨b, 0, none⟩)) hi hsel (hbx y hym).1 (hbx y hym).2 (H w2 hs2 (gt_trans ht1 ht2))
        refine wpList_aft_mono (fun a' w' hg ⟨a'', e, hd⟩ => ?_) h1
        subst e
        have hj2 : j ∈ Region.ready .any ops (listed.setIfInBounds i true) := ready_mono hj hji
        have h2 := ((hd w' (hk _ _ hs2 hg) (gt_refl _ _)).2 j hj2).2.1 hjn ⟨y, hym, hyj⟩ y hym hyj b ((hfit.gt ht2 hrow).gt hg hrow)
        rw [Array.setIfInBounds_comm _ _ hji]
        exact h2
    · rcases hone listed ⟨fun _ h => h, fun _ h => .inl h⟩ rfl j hj with rfl | h
      · exact wpOp_aft hi (H w1 hs1 ht1)
      · exact absurd h hx

/-! ### The boxes -/
/-- The boxes that are still to be made, in whatever order: each at a block of its own. -/
def fa (S : World → Prop) (n0 : Nat) (K : Act → World → Prop) : Boxes → List (Nat × Array Value) → Act → Prop
  | [], bs, a => ∀ w, S w → (∀ p ∈ bs, HB w p.1 p.2) → K a w
  | (_, d, zs) :: rem, bs, a => ∀ b, n0 ≤ b → (∀ p ∈ bs, p.1 ≠ b) → fa S n0 K rem ((b, zs) :: bs) (a.put (some d) (.pointer (some ⟨b, 0, none⟩)))

theorem fa_mem {n0 : Nat} {K : Act → World → Prop} : ∀ {rem : Boxes} {bs bs' : List (Nat × Array Value)} {a : Act}, (∀ p, p ∈ bs ↔ p ∈ bs') → fa S n0 K rem bs a → fa S n0 K rem bs' a
  | [], bs, bs', a, he, h => fun w hs hb => h w hs fun p hp => hb p ((he p).1 hp)
  | (_, d, zs) :: rem, bs, bs', a, he, h => fun b hb hne => fa_mem (fun p => by simp [he p]) (h b hb fun p hp => hne p ((he p).1 hp))
theorem fa_swap {n0 : Nat} {K : Act → World → Prop} {x y : Nat × Tmp × Array Value} {rem : Boxes} {bs : List (Nat × Array Value)} {a : Act} (hne : x.2.1 ≠ y.2.1) (h : fa S n0 K (x :: y :: rem) bs a) : fa S n0 K (y :: x :: rem) bs a := by
  obtain ⟨i, d, zs⟩ := x
  obtain ⟨j, e, us⟩ := y
  intro b hb hbs c hc hcs
  have h1 := h c hc (fun p hp => hcs p (List.mem_cons_of_mem _ hp)) b hb (fun p hp => by
    rcases List.mem_cons.1 hp with rfl | hp
    · exact fun e => hcs (b, us) (List.mem_cons_self) e.symm
    · exact hbs p hp)
  rw [Act.put_comm _ _ _ (fun d' h' => by cases h'; exact fun h'' => hne (by cases h''; rfl))] at h1
  exact fa_mem (fun p => by simp only [List.mem_cons]; constructor <;> (rintro (h | h | h) <;> simp [h])) h1
theorem fa_front {n0 : Nat} {K : Act → World → Prop} {x : Nat × Tmp × Array Value} : ∀ {pre post : Boxes} {bs : List (Nat × Array Value)} {a : Act}, (∀ y ∈ pre, y.2.1 ≠ x.2.1) → fa S n0 K (pre ++ x :: post) bs a → fa S n0 K (x :: (pre ++ post)) bs a
  | [], _, _, _, _, h => h
  | y :: pre, post, bs, a, hne, h => by
    refine fa_swap (hne y List.mem_cons_self) ?_
    obtain ⟨j, e, us⟩ := y
    intro b hb hbs
    exact fa_front (fun z hz => hne z (List.mem_cons_of_mem _ hz)) (h b hb hbs)

theorem map_inj_of_nodup {α β : Type} {f : α → β} : ∀ {l : List α}, (l.map f).Nodup → ∀ {x y : α}, x ∈ l → y ∈ l → f x = f y → x = y
  | [], _, _, _, h, _, _ => by cases h
  | z :: l, hn, x, y, hx, hy, e => by
    rw [List.map_cons] at hn
    obtain ⟨h1, h2⟩ := List.nodup_cons.1 hn
    rcases List.mem_cons.1 hx with rfl | hx' <;> rcases List.mem_cons.1 hy with rfl | hy'
    · rfl
    · exact absurd (by rw [e]; exact List.mem_map_of_mem hy') h1
    · exact absurd (by rw [← e]; exact List.mem_map_of_mem hx') h1
    · exact map_inj_of_nodup h2 hx' hy' e

theorem wpDr_boxes {S' : World → Prop} {n n0 g : Nat} {lp : List Nat} {bx : Boxes} {L : Array Bool → Act → List (Nat × Array Value) → World → Prop} {K : Act → World → Prop} (htl : Region.tailB ops n lp = true) (hblp : ∀ x ∈ bx, x.1 ∉ lp) (hrow : ∀ r, row = some r → r < n0)
    (hbd : (bx.map (·.2.1)).Nodup) (hbi : (bx.map (·.1)).Nodup) (hbo : ∀ x ∈ bx, x.1 < n ∧ ∃ o, ops[x.1]? = some o ∧ o.after = #[])
    (hL : ∀ listed a bs w, HeadInv .any ops n listed → (∀ i, i < n → listed.getD i true = true) → K a w → L listed a bs w) :
    ∀ (k : Nat) (rem : Boxes) (listed : Array Bool) (a : Act) (bs : List (Nat × Array Value)) (w : World), rem.length = k → HeadInv .any ops n listed → rem.Sublist bx →
      (∀ x ∈ rem, listed.getD x.1 true = false) → (∀ i, i < n → listed.getD i true = false → ∃ x ∈ rem, x.1 = i) →
      (∀ p ∈ bs, n0 ≤ p.1 ∧ HB w p.1 p.2) → (∀ w1, S w1 → w.grownBy w1 row → S' w1) → fa S' n0 K rem bs a → wpDr P ops Q S row n n0 g bx L k listed a bs w := by
  intro k
  induction k with
  | zero =>
    intro rem listed a bs w hlen inv hsub hrem hall hbs hS' h w1 hs1 ht1
    obtain rfl : rem = [] := List.length_eq_zero_iff.1 hlen
    refine hL _ _ _ _ inv (fun i hi => ?_) (h w1 (hS' w1 hs1 ht1) fun p hp => (hbs p hp).2.gt ht1 (hbs p hp).1 hrow)
    cases e : listed.getD i true with
    | true => rfl
    | false => obtain ⟨x, hx, _⟩ := hall i hi e; cases hx
  | succ k ih =>
    intro rem listed a bs w hlen inv hsub hrem hall hbs hS' h w1 hs1 ht1
    have hready : ∀ x ∈ rem, x.1 ∈ Region.ready .any ops listed := fun x hx => by
      obtain ⟨_, o, ho, h0⟩ := hbo x (hsub.subset hx)
      refine mem_ready.2 ⟨hrem x hx, o, ho, fun e he => ?_⟩
      rw [h0] at he; simp at he
    have hne : ∃ x0, x0 ∈ rem := by
      cases rem with
      | nil => simp at hlen
      | cons x0 _ => exact ⟨x0, List.mem_cons_self⟩
    obtain ⟨x0, hx0⟩ := hne
    refine ⟨fun e => (by have := hready x0 hx0; rw [e] at this; cases this), fun i hi => ?_⟩
    have hun := (mem_ready.1 hi).1
    have hin : i < n := tailB_spec htl inv (hbo x0 (hsub.subset hx0)).1 (hblp x0 (hsub.subset hx0)) (hrem x0 hx0) i hi
    obtain ⟨x, hx, rfl⟩ := hall i hin hun
    refine ⟨fun h => absurd h (by omega), fun _ _ y hym hyj b hfit => ?_, fun _ hno => absurd ⟨x, hsub.subset hx, rfl⟩ hno⟩
    have hyx : y = x := by
      exact map_inj_of_nodup hbi hym (hsub.subset hx) hyj
    subst hyx
    obtain ⟨pre, post, hpp⟩ := List.append_of_mem hx
    have hnd := (hsub.map (·.2.1)).nodup hbd
    have hni := (hsub.map (·.1)).nodup hbi
    have hfr : fa S' n0 K (y :: (pre ++ post)) bs a := by
      refine fa_front (fun z hz => ?_) (by rw [← hpp]; exact h)
      rw [hpp] at hnd
      simp only [List.map_append, List.map_cons] at hnd
      exact (List.nodup_append.1 hnd).2.2 _ (List.mem_map_of_mem hz) _ List.mem_cons_self
    have hyne : ∀ z ∈ pre ++ post, z.1 ≠ y.1 := fun z hz => by
      rw [hpp] at hni
      simp only [List.map_append, List.map_cons] at hni
      have h1 := List.nodup_append.1 hni
      rcases List.mem_append.1 hz with hz | hz
      · exact h1.2.2 _ (List.mem_map_of_mem hz) _ List.mem_cons_self
      · exact fun e => (List.nodup_cons.1 h1.2.1).1 (by rw [← e]; exact List.mem_map_of_mem hz)
    have hperm : ∀ z, z ∈ pre ++ post → z ∈ rem := fun z hz => by
      rw [hpp]
      rcases List.mem_append.1 hz with hz | hz
      · exact List.mem_append_left _ hz
      · exact List.mem_append_right _ (List.mem_cons_of_mem _ hz)
    refine ih (pre ++ post) _ _ _ _ (by have := congrArg List.length hpp; simp at this hlen ⊢; omega) (inv.set hi hin) (((hpp ▸ (List.sublist_cons_self y post).append_left pre : (pre ++ post).Sublist rem)).trans hsub) (fun z hz => ?_) (fun j hj hjl => ?_) (fun p hp => ?_) (fun w2 hs2 ht2 => hS' w2 hs2 (gt_trans ht1 ht2)) ?_
    · rw [getD_set_ne true (Ne.symm (hyne z hz))]; exact hrem z (hperm z hz)
    · have hjne : y.1 ≠ j := fun e => by
        subst e
        have hlt : y.1 < listed.size := by
          rcases Nat.lt_or_ge y.1 listed.size with h | h
          · exact h
          · simp [Array.getElem?_eq_none h] at hun
        simp [hlt] at hjl
      rw [getD_set_ne true hjne] at hjl
      obtain ⟨z, hz, rfl⟩ := hall j hj hjl
      rw [hpp] at hz
      rcases List.mem_append.1 hz with hz | hz
      · exact ⟨z, List.mem_append_left _ hz, rfl⟩
      · rcases List.mem_cons.1 hz with rfl | hz
        · exact absurd rfl hjne
        · exact ⟨z, List.mem_append_right _ hz, rfl⟩
    · rcases List.mem_cons.1 hp with rfl | hp
      · exact ⟨hfit.1, hfit.2.2⟩
      · exact ⟨(hbs p hp).1, (hbs p hp).2.gt ht1 (hbs p hp).1 hrow⟩
    · exact hfr _ hfit.1 hfit.2.1
/-! ### The law -/
/-- The head's operations in the order given: what is known (0), a call whose result is not (1), what is late (2). -/
def dqL (P : Program) (ops : Array Oper) (S : World → Prop) (row : Option Nat) (K : Act → World → Prop) : List (Nat × Nat) → Act → World → Prop
  | [], a, w => K a w
  | (i, 0) :: l, a, w => ∃ o v, ops[i]? = some o ∧ YieldsD P ops S row o v a ∧ dqL P ops S row K l (a.put o.dst v) w
  | (i, 1) :: l, a, w => ∃ o, ops[i]? = some o ∧ ∀ w1, S w1 → w.grownBy w1 row → wpList P ops (Aft row w1 fun a' w' => dqL P ops S row K l a' w') [o] a w1
  | (i, _ + 2) :: l, a, w => ∃ o v, ops[i]? = some o ∧ Yields P ops o v a ∧ dqL P ops S row K l (a.put o.dst v) w

def Region.full : Boxes → Array Bool → Array Bool
  | [], listed => listed
  | x :: bx, listed => (Region.full bx listed).setIfInBounds x.1 true
def Region.dqB (ops : Array Oper) (n : Nat) (lp : List Nat) (bx : Boxes) : List (Nat × Nat) → Array Bool → Bool
  | [], _ => true
  | (i, k) :: l, listed => decide (i < n) && (lp.contains i == decide (2 ≤ k) && (!(bx.map (·.1)).contains i && ((Region.ready .any ops listed).contains i && ((if k ≠ 1 then Region.free .any ops listed i else
      ((Region.ready .any ops (Region.full bx listed)).all fun t => t == i || (bx.map (·.1)).contains t) && (match ops[i]? with | some o => bx.all fun x => !(o.looksAt ops).contains x.2.1 && o.dst != some x.2.1 | none => false)) &&
      Region.dqB ops n lp bx l (listed.setIfInBounds i true)))))
def Region.dqSet : List (Nat × Nat) → Array Bool → Array Bool
  | [], listed => listed
  | (i, _) :: l, listed => Region.dqSet l (listed.setIfInBounds i true)

theorem full_spec {bx : Boxes} {listed : Array Bool} : ∀ t, ((Region.full bx listed).getD t false = true → listed.getD t false = true ∨ ∃ x ∈ bx, x.1 = t) ∧ (listed.getD t false = true → (Region.full bx listed).getD t false = true) ∧ ((∃ x ∈ bx, x.1 = t) → t < listed.size → (Region.full bx listed).getD t false = true) ∧ (Region.full bx listed).size = listed.size := by
  induction bx with
  | nil => intro t; exact ⟨fun h => .inl h, id, (fun ⟨x, hx, _⟩ => by cases hx), rfl⟩
  | cons y bx ih =>
    intro t
    obtain ⟨h1, h2, h3, h4⟩ := ih t
    refine ⟨fun h => ?_, fun h => getD_set_true (h2 h), fun ⟨x, hx, e⟩ hlt => ?_, by simp [Region.full, h4]⟩
    · by_cases hyt : y.1 = t
      · exact .inr ⟨y, List.mem_cons_self, hyt⟩
      · rw [Region.full, getD_set_ne false hyt] at h
        rcases h1 h with h | ⟨x, hx, e⟩
        · exact .inl h
        · exact .inr ⟨x, List.mem_cons_of_mem _ hx, e⟩
    · by_cases hyt : y.1 = t
      · subst hyt; simp [Region.full, h4, hlt]
      · rcases List.mem_cons.1 hx with rfl | hx
        · exact absurd e hyt
        · exact getD_set_true (h3 ⟨x, hx, e⟩ hlt)

theorem dq_one {bx : Boxes} {listed : Array Bool} {i : Nat} (h : ((Region.ready .any ops (Region.full bx listed)).all fun t => t == i || (bx.map (·.1)).contains t) = true) :
    ∀ listed', MoreBoxes bx listed listed' → listed'.size = listed.size → ∀ k ∈ Region.ready .any ops listed', k = i ∨ ∃ x ∈ bx, x.1 = k := by
  intro listed' ⟨m1, m2⟩ hsz k hk
  by_cases hb : ∃ x ∈ bx, x.1 = k
  · exact .inr hb
  · obtain ⟨hkl, o, ho, hall⟩ := mem_ready.1 hk
    have hks : k < listed'.size := by
      rcases Nat.lt_or_ge k listed'.size with h | h
      · exact h
      · simp [Array.getElem?_eq_none h] at hkl
    obtain ⟨f1, f2, f3, f4⟩ := full_spec (bx := bx) (listed := listed) k
    have hkf : (Region.full bx listed).getD k true = false := by
      refine getD_in (by rw [f4, ← hsz]; exact hks) ?_
      cases e : (Region.full bx listed).getD k false with
      | false => rfl
      | true =>
        rcases f1 e with h | h
        · have := m1 k h
          rw [getD_both hkl] at this; cases this
        · exact absurd h hb
    have hr : k ∈ Region.ready .any ops (Region.full bx listed) := mem_ready.2 ⟨hkf, o, ho, fun e he hbnd => by
      have h1 := hall e he hbnd
      obtain ⟨_, g2, g3, _⟩ := full_spec (bx := bx) (listed := listed) e.on
      rcases m2 _ h1 with h | h
      · exact g2 h
      · refine g3 h ?_
        have : e.on < listed'.size := by
          rcases Nat.lt_or_ge e.on listed'.size with h | h
          · exact h
          · simp [Array.getElem?_eq_none h] at h1
        omega⟩
    have := List.all_eq_true.1 h k hr
    simp only [Bool.or_eq_true, beq_iff_eq, List.contains_iff_mem] at this
    rcases this with h | h
    · exact .inl h
    · obtain ⟨x, hx, e⟩ := List.mem_map.1 h
      exact .inr ⟨x, hx, e⟩

theorem wpDr_sched {n n0 g : Nat} {lp : List Nat} {bx : Boxes} {L : Array Bool → Act → List (Nat × Array Value) → World → Prop} {K : Act → World → Prop} (hsel : Region.noSelect ops = true) (htl : Region.tailB ops n lp = true) (hblp : ∀ x ∈ bx, x.1 ∉ lp) (hQ : ∀ c (a : Act) d v w, Q (.panic c) (a.put d v) w → Q (.panic c) a w)
    (hk : ∀ w w', S w → w.grownBy w' row → S w') (hrow : ∀ r, row = some r → r < n0)
    (hbd : (bx.map (·.2.1)).Nodup) (hbi : (bx.map (·.1)).Nodup) (hbo : ∀ x ∈ bx, x.1 < n ∧ ∃ o, ops[x.1]? = some o ∧ Makes P o x.2.1 x.2.2)
    (hdone : ∀ listed a bs w, L listed a bs w → ∀ j ∈ Region.ready .any ops listed, n ≤ j) (hLA : ∀ listed a bs w, L listed a bs w → wpAny P .any ops Q g listed a w)
    (hL : ∀ listed a bs w, HeadInv .any ops n listed → (∀ i, i < n → listed.getD i true = true) → K a w → L listed a bs w) :
    ∀ (sch : List (Nat × Nat)) (listed : Array Bool) (a : Act) (w : World), HeadInv .any ops n listed → Region.dqB ops n lp bx sch listed = true →
      ((∀ x ∈ bx, (Region.dqSet sch listed).getD x.1 true = false) ∧ (∀ i, i < n → (Region.dqSet sch listed).getD i true = false → ∃ x ∈ bx, x.1 = i)) →
      dqL P ops S row (fun a w => fa (fun w1 => S w1 ∧ w.grownBy w1 row) n0 K bx [] a) sch a w → wpDr P ops Q S row n n0 g bx L (sch.length + bx.length) listed a [] w
  | [], listed, a, w, inv, hB, hall, h => by
    rw [List.length_nil, Nat.zero_add]
    refine wpDr_boxes htl hblp hrow hbd hbi (fun x hx => ⟨(hbo x hx).1, ?_⟩) hL bx.length bx listed a [] w rfl inv (List.Sublist.refl _) hall.1 hall.2 (by simp) (fun w1 hs1 ht1 => ⟨hs1, ht1⟩) h
    obtain ⟨_, o, ho, hm⟩ := hbo x hx
    exact ⟨o, ho, hm.2.2.1⟩
  | (i, k) :: l, listed, a, w, inv, hB, hall, h => by
    simp only [Region.dqB, Bool.and_eq_true, decide_eq_true_eq, Bool.not_eq_true', beq_iff_eq] at hB
    obtain ⟨hin, hlpk, hnb, hr, hf, hB⟩ := hB
    have hr' : i ∈ Region.ready .any ops listed := by simpa using hr
    have hnb' : ¬∃ x ∈ bx, x.1 = i := fun ⟨x, hx, e⟩ => by
      have : (bx.map (·.1)).contains i = true := by rw [List.contains_iff_mem]; exact e ▸ List.mem_map_of_mem hx
      rw [hnb] at this; cases this
    have hnlp : k < 2 → i ∉ lp := fun hk2 h => by
      have h1 : lp.contains i = true := List.contains_iff_mem.2 h
      rw [h1] at hlpk
      have := of_decide_eq_true hlpk.symm
      omega
    rw [List.length_cons, show l.length + 1 + bx.length = (l.length + bx.length) + 1 by omega]
    match k, h, hf, hnlp with
    | 0, h, hf, hnlp =>
      obtain ⟨o, v, ho, hy, h⟩ := h
      exact wpDr_first ho (Region.noSelect_spec hsel) htl hin (hnlp (by decide)) hnb' hQ hk hrow (fun x hx => (hbo x hx).2) hdone _ listed a [] w inv (Region.free_spec ho (by simpa using hf)) hr' hy
        (wpDr_sched hsel htl hblp hQ hk hrow hbd hbi hbo hdone hLA hL l _ _ w (inv.set hr' hin) hB hall h)
    | 1, h, hf, hnlp =>
      obtain ⟨o, ho, h⟩ := h
      simp only [ne_eq, not_true_eq_false, if_false, Bool.and_eq_true, ho] at hf
      obtain ⟨hone, hap⟩ := hf
      refine wpDr_call ho (fun cs b => Region.noSelect_spec hsel i o cs b ho) htl hin (hnlp (by decide)) hnb' hk hrow (fun x hx => ?_) (l.length + bx.length) bx listed a [] w inv hr' (fun x hx _ => hx) (by omega) (dq_one hone) (fun w1 hs1 ht1 => ?_)
      · have := List.all_eq_true.1 hap x hx
        simp only [Bool.and_eq_true, Bool.not_eq_true', bne_iff_ne, ne_eq] at this
        refine ⟨fun hc => ?_, this.2⟩
        have h2 : (o.looksAt ops).contains x.2.1 = true := by rw [List.contains_iff_mem]; exact hc
        rw [this.1] at h2; cases h2
      · refine wpList_aft_mono (fun a' w' hg hd => ?_) (h w1 hs1 ht1)
        exact wpDr_sched hsel htl hblp hQ hk hrow hbd hbi hbo hdone hLA hL l _ _ w' (inv.set hr' hin) hB hall hd
    | k + 2, h, hf, hnlp =>
      obtain ⟨o, v, ho, hy, h⟩ := h
      exact wpDr_late ho (Region.noSelect_spec hsel) hin hnb' hQ hk (fun x hx => (hbo x hx).2) hdone hLA _ listed a [] w inv (Region.free_spec ho (by simpa using hf)) hr' hy
        (wpDr_sched hsel htl hblp hQ hk hrow hbd hbi hbo hdone hLA hL l _ _ w (inv.set hr' hin) hB hall h)

/-- All that the law asks of the region's form. -/
def Region.dqOk (ops : Array Oper) (n : Nat) (lp : List Nat) (sch : List (Nat × Nat)) (bx : Boxes) : Bool :=
  Region.noSelect ops && (Region.tailB ops n lp && ((bx.all fun x => !lp.contains x.1) && (decide (n ≤ ops.size) && (Region.dqB ops n lp bx sch (Array.replicate ops.size false) && (decide (sch.length + bx.length = n) &&
    (decide ((bx.map (·.2.1)).Nodup) && (decide ((bx.map (·.1)).Nodup) && ((bx.all fun x => decide (x.1 < n)) && (Region.seqB .any ops (ops.size - n) n (Array.replicate n true ++ Array.replicate (ops.size - n) false) &&
    ((bx.all fun x => !(Region.dqSet sch (Array.replicate ops.size false)).getD x.1 true) &&
    (List.range n).all fun i => (Region.dqSet sch (Array.replicate ops.size false)).getD i true || (bx.map (·.1)).contains i))))))))))

theorem wp_region_dq {id : Nat} {a : Act} {w : World} {l : List Oper} {n0 : Nat} (n : Nat) (lp : List Nat) (sch : List (Nat × Nat)) (bx : Boxes) (hm : P.follows .mixedOrders = true) (hB : Region.dqOk l.toArray n lp sch bx = true)
    (hQ : ∀ c (a : Act) d v w, Q (.panic c) (a.put d v) w → Q (.panic c) a w) (hS : S w.drew) (hk : ∀ w w', S w → w.grownBy w' row → S w') (hn0 : ∀ w, S w → n0 ≤ w.heap.size) (hrow : ∀ r, row = some r → r < n0)
    (hmk : ∀ x ∈ bx, ∃ o, l[x.1]? = some o ∧ Makes P o x.2.1 x.2.2)
    (h : dqL P l.toArray S row (fun a w => fa (fun w1 => S w1 ∧ w.grownBy w1 row) n0 (fun a w => wpList P l.toArray Q (l.drop n) a w) bx [] a) sch a w.drew) : (Code.region id l.toArray true).wp P Q a w := by
  simp only [Region.dqOk, Bool.and_eq_true, decide_eq_true_eq] at hB
  obtain ⟨hsel, htl, hblp, hnl, hdq, hlen, hbd, hbi, hbn, hseq, hb1, hb2⟩ := hB
  have hnl' : n ≤ l.length := by simpa using hnl
  have inv0 : HeadInv .any l.toArray n (Array.replicate l.toArray.size false) :=
    ⟨by simp, fun j oj _ hl => (by rw [getD_replicate_false] at hl; cases hl), fun t _ ht => getD_in (by simpa using ht) (getD_replicate_false _ _)⟩
  have hcanon : ∀ listed : Array Bool, HeadInv .any l.toArray n listed → (∀ i, i < n → listed.getD i true = true) → listed = Array.replicate n true ++ Array.replicate (l.toArray.size - n) false := fun listed inv hl => by
    refine Array.ext (by rw [inv.size]; simp; omega) fun i h1 h2 => ?_
    rw [Array.getElem_append]
    split
    · rename_i h3
      have := hl i (by simpa using h3)
      simp [h1] at this
      simp [this]
    · rename_i h3
      have := inv.tail i (by simpa using h3) (by rw [← inv.size]; exact h1)
      simp [h1] at this
      simp [this]
  have hbo : ∀ x ∈ bx, x.1 < n ∧ ∃ o, l.toArray[x.1]? = some o ∧ Makes P o x.2.1 x.2.2 := fun x hx => by
    obtain ⟨o, ho, hmo⟩ := hmk x hx
    exact ⟨by simpa using List.all_eq_true.1 hbn x hx, o, by simpa using ho, hmo⟩
  refine wp_region_any hm ?_
  have hblp' : ∀ x ∈ bx, x.1 ∉ lp := fun x hx hl => by
    have h1 := List.all_eq_true.1 hblp x hx
    have h2 : lp.contains x.1 = true := List.contains_iff_mem.2 hl
    rw [h2] at h1; cases h1
  have hLA : ∀ (listed : Array Bool) (a : Act) (bs : List (Nat × Array Value)) (w : World), (Region.seqB .any l.toArray (l.toArray.size - n) n listed = true ∧ wpList P l.toArray Q (l.drop n) a w) → wpAny P .any l.toArray Q (l.toArray.size - n) listed a w := fun listed a bs w hL => by
    have := wpAny_of_seq (md := .any) (Q' := Q) (l.drop n) n listed a w (fun j => by simp [List.getElem?_drop]) (by rw [show (l.drop n).length = l.toArray.size - n by simp]; exact hL.1) hL.2
    rwa [show (l.drop n).length = l.toArray.size - n by simp] at this
  have H := wpDr_sched (P := P) (g := l.toArray.size - n) (Q := Q) (S := S) (row := row) (n := n) (n0 := n0) (bx := bx) (K := fun a w => wpList P l.toArray Q (l.drop n) a w) (L := fun listed a bs w => Region.seqB .any l.toArray (l.toArray.size - n) n listed = true ∧ wpList P l.toArray Q (l.drop n) a w)
    hsel htl hblp' hQ hk hrow hbd hbi hbo (fun listed a bs w hL => seqB_ready hL.1) hLA (fun listed a bs w inv hl hK => ⟨by rw [hcanon listed inv hl]; exact hseq, hK⟩) sch _ a w.drew inv0 hdq
    ⟨fun x hx => by simpa using List.all_eq_true.1 hb1 x hx, fun i hi hl => by
      have := List.all_eq_true.1 hb2 i (List.mem_range.2 hi)
      simp only [Bool.or_eq_true, List.contains_iff_mem] at this
      rcases this with h | h
      · rw [hl] at h; cases h
      · obtain ⟨x, hx, e⟩ := List.mem_map.1 h
        exact ⟨x, hx, e⟩⟩ h
  rw [hlen] at H
  have A := wpAny_of_dr (g := l.toArray.size - n) hk hn0 hrow (fun x hx => (hbo x hx).2) hLA n _ a [] w.drew hS (by simp) H
  rw [show n + (l.toArray.size - n) = l.toArray.size by simp; omega] at A
  exact A

/-! ### The steps of a walk -/
theorem dq_pure {K : Act → World → Prop} {i : Nat} {o : Oper} {l : List (Nat × Nat)} {a : Act} {w : World} {v : Value} (hi : ops[i]? = some o) (hw : Region.wanted o (yielded ops a.tmps) = true) (hv : ∀ w, S w → (execOp a.eval o).run P w = .ok (.value v) w) (h : dqL P ops S row K l (a.put o.dst v) w) : dqL P ops S row K ((i, 0) :: l) a w :=
  ⟨o, v, hi, .inl ⟨hw, fun w hs => by rw [hv w hs]; exact ⟨rfl, gt_refl _ _⟩⟩, h⟩
theorem dq_pass {K : Act → World → Prop} {i : Nat} {o : Oper} {l : List (Nat × Nat)} {a : Act} {w : World} (hi : ops[i]? = some o) (hw : Region.wanted o (yielded ops a.tmps) = false) (h : dqL P ops S row K l (a.put o.dst undef) w) : dqL P ops S row K ((i, 0) :: l) a w :=
  ⟨o, undef, hi, .inr ⟨hw, rfl⟩, h⟩
theorem dq_call {K : Act → World → Prop} {i : Nat} {o : Oper} {l : List (Nat × Nat)} {a : Act} {w : World} {v : Value} {f : FuncId} {args : Array Value} (hi : ops[i]? = some o) (hw : Region.wanted o (yielded ops a.tmps) = true) (hv : ∀ w, (execOp a.eval o).run P w = .ok (.enter f args) w)
    (hc : ∀ w, S w → Calls P f args w fun e w' => e = .returned v ∧ w.grownBy w' row) (h : dqL P ops S row K l (a.put o.dst v) w) : dqL P ops S row K ((i, 0) :: l) a w :=
  ⟨o, v, hi, .inl ⟨hw, fun w hs => by rw [hv w]; exact Calls.mono (hc w hs) fun e w' ⟨he, hg⟩ => ⟨v, he, rfl, hg⟩⟩, h⟩
/-- A call whose result is known by R alone. -/
theorem dq_ask {K : Act → World → Prop} {i : Nat} {o : Oper} {l : List (Nat × Nat)} {a : Act} {w : World} {f : FuncId} {args : Array Value} {R : Value → World → Prop} (hi : ops[i]? = some o) (hw : Region.wanted o (yielded ops a.tmps) = true) (hv : ∀ w, (execOp a.eval o).run P w = .ok (.enter f args) w)
    (hc : ∀ w1, S w1 → w.grownBy w1 row → Calls P f args w1 fun e w' => ∃ v, e = .returned v ∧ R v w' ∧ w1.grownBy w' row) (h : ∀ v w', S w' → w.grownBy w' row → R v w' → dqL P ops S row K l (a.put o.dst v) w') (hk : ∀ w w', S w → w.grownBy w' row → S w') : dqL P ops S row K ((i, 1) :: l) a w :=
  ⟨o, hi, fun w1 hs1 ht1 => by
    unfold wpList
    rw [if_pos hw]
    refine .inl ?_
    unfold Oper.wp
    rw [hv w1]
    simp only [Oper.upon]
    refine Calls.mono (hc w1 hs1 ht1) fun e w' ⟨v, he, hr, hg⟩ => ?_
    subst he
    exact ⟨hg, h v w' (hk _ _ hs1 hg) (gt_trans ht1 hg) hr⟩⟩
theorem dq_late {K : Act → World → Prop} {i : Nat} {o : Oper} {l : List (Nat × Nat)} {a : Act} {w : World} {v : Value} (hi : ops[i]? = some o) (hw : Region.wanted o (yielded ops a.tmps) = true) (hv : ∀ w, (execOp a.eval o).run P w = .ok (.value v) w) (h : dqL P ops S row K l (a.put o.dst v) w) : dqL P ops S row K ((i, 2) :: l) a w :=
  ⟨o, v, hi, .inl ⟨hw, hv⟩, h⟩
theorem dq_nil {K : Act → World → Prop} {a : Act} {w : World} (h : K a w) : dqL P ops S row K [] a w := h
theorem calls_gt {f : FuncId} {args : Array Value} {w : World} {v : Value} (h : Calls P f args w fun e w' => e = .returned v ∧ Below w.heap.size w w') : Calls P f args w fun e w' => e = .returned v ∧ w.grownBy w' row :=
  h.mono fun _ _ ⟨he, hb⟩ => ⟨he, gt_below hb _⟩
theorem calls_gs {f : FuncId} {args : Array Value} {w : World} {v : Value} (h : Calls P f args w fun e w' => e = .returned v ∧ w = w') : Calls P f args w fun e w' => e = .returned v ∧ w.grownBy w' row :=
  h.mono fun _ _ ⟨he, hb⟩ => ⟨he, by subst hb; exact gt_refl _ _⟩
end
theorem ret_w {z z' : Value} {x x' : Bool} (h : z = z') (h2 : x = x') : Value.tuple #[z, .bool x] = Value.tuple #[z', .bool x'] := by rw [h, h2]
end Go.Proofs.Ythcboomdkpiflaa
