
/- segment.Divider's All over midrange's step and rest. -/
import Derived.Test.YtenaeaojnebokaaRows
import Derived.Test.YtenaeaojnebokaaMidI
import Derived.Test.YtenaeaojnebokaaMadeB
import Derived.ProofKit
import Derived.Handy
import Derived.Deep.Upon
namespace Go.Proofs.Ytenaeaojnebokaa
open Go.RowKit Go.Shelf
set_option linter.unusedVariables false
set_option linter.unusedSimpArgs false

attribute [local go_sem] Oper.semAt_some

/-! ### Plain: the division of a list -/
def stp (t : Int) (s : Int × Int × Int) (v : Int) : Int × Int × Int := (nC t s.1 s.2.1 s.2.2 v, nMin t s.1 s.2.1 s.2.2 v, nMax t s.1 s.2.1 s.2.2 v)
def acc (t : Int) (a : (Int × Int × Int) × List (Int × Int)) (v : Int) : (Int × Int × Int) × List (Int × Int) := (stp t a.1 v, a.2 ++ (nEnd t a.1.1 a.1.2.1 a.1.2.2 v).toList)
def mfold (t : Int) (zs : List Int) : (Int × Int × Int) × List (Int × Int) := zs.foldl (acc t) ((0, 0, 0), [])
theorem mfold_snoc (t : Int) (zs : List Int) (v : Int) : mfold t (zs ++ [v]) = acc t (mfold t zs) v := by simp [mfold]
/-- All segments. -/
def mall (t : Int) (zs : List Int) : List (Int × Int) := (mfold t zs).2 ++ (fin (mfold t zs).1.1 (mfold t zs).1.2.1 (mfold t zs).1.2.2).toList
def MOk (n : Nat) (a : (Int × Int × Int) × List (Int × Int)) : Prop := 0 ≤ a.1.1 ∧ a.1.1 ≤ n ∧ I64 a.1.2.1 ∧ I64 a.1.2.2 ∧ a.2.length ≤ n
theorem end_len (t c mn mx v : Int) : (nEnd t c mn mx v).toList.length ≤ 1 := by cases nEnd t c mn mx v <;> simp
theorem fin_len (c mn mx : Int) : (fin c mn mx).toList.length ≤ 1 := by cases fin c mn mx <;> simp
theorem MOk.snoc {t : Int} {n : Nat} {a : (Int × Int × Int) × List (Int × Int)} {v : Int} (h : MOk n a) (hv : I64 v) : MOk (n + 1) (acc t a v) := by
  obtain ⟨h1, h2, h3, h4, h5⟩ := h
  have := end_len t a.1.1 a.1.2.1 a.1.2.2 v
  refine ⟨?_, ?_, ?_, ?_, ?_⟩
  · show 0 ≤ nC t a.1.1 a.1.2.1 a.1.2.2 v
    unfold nC; split <;> omega
  · show nC t a.1.1 a.1.2.1 a.1.2.2 v ≤ _
    unfold nC; split <;> omega
  · show I64 (nMin t a.1.1 a.1.2.1 a.1.2.2 v)
    unfold nMin; split
    · exact min_i64 h3 hv
    · exact hv
  · show I64 (nMax t a.1.1 a.1.2.1 a.1.2.2 v)
    unfold nMax; split
    · exact max_i64 h4 hv
    · exact hv
  · show (a.2 ++ _).length ≤ _
    rw [List.length_append]; omega
theorem mok_from (t : Int) : ∀ (zs : List Int) (n : Nat) (a : (Int × Int × Int) × List (Int × Int)), MOk n a → (∀ z ∈ zs, I64 z) → MOk (n + zs.length) (zs.foldl (acc t) a)
  | [], n, a, h, _ => h
  | z :: zs, n, a, h, hz => by
    have := mok_from t zs (n + 1) (acc t a z) (h.snoc (hz z (by simp))) (fun y hy => hz y (by simp [hy]))
    rw [List.length_cons, show n + (zs.length + 1) = n + 1 + zs.length by omega]
    exact this
theorem mok (t : Int) (zs : List Int) (h : ∀ z ∈ zs, I64 z) : MOk zs.length (mfold t zs) := by
  have := mok_from t zs 0 ((0, 0, 0), []) ⟨by decide, by decide, ⟨by decide, by decide⟩, ⟨by decide, by decide⟩, by decide⟩ h
  rwa [Nat.zero_add] at this
abbrev ints (l : List I6) : List Int := l.map Subtype.val
theorem ints_in (l : List I6) : ∀ z ∈ ints l, I64 z := by
  intro z hz
  obtain ⟨x, _, rfl⟩ := List.mem_map.1 hz
  exact x.2

/-! ### Appending -/
section
variable {P : Program}
theorem append_none (w : World) (t ty e : TypeId) (i : TypeInfo) (h1 : P.underlying t = some (.slice e)) (h2 : P.info? e = some i) {base size k : Nat} {v : Value} {xs : List Value} (hown : w.ownsRow base e size v k xs) :
    (Builtin.append_ #[t, t] ty #[v, .slice none 0 0]).run P w = .ok v w := by
  have hsrc : Src P i.size t (.slice none 0 0) 0 [] w := ⟨.inl ⟨e, h1⟩, fun _ => rfl, rfl, rfl, by simp, by simp⟩
  rcases hown.2 with ⟨rfl, _⟩ | ⟨g, cap, cur, rfl, _, _, hcap, _⟩
  · exact run_append_nothing w t t ty e i h1 h2 none 0 0 (Nat.le_refl _) _ hsrc
  · exact run_append_nothing w t t ty e i h1 h2 _ k cap hcap _ hsrc
theorem stepIn_append {F : Fence} {n : Nat} {ops : Array Oper} {o : Oper} {a : Act} {w w' : World} {K : Act → World → Prop} {Q : Exit → Act → World → Prop} {E : Prop} (hgd : o.guard = none) (s x : Operand) (t : TypeId)
    (ho : o.op = .call { callee := .builtin .append, args := #[s, x], argTypes := #[t, t] }) (v xv v' : Value) (hs : a.eval s = v) (hx : a.eval x = xv) (hrun : (Builtin.append_ #[t, t] o.type #[v, xv]).run P w = .ok v' w') (h : K (a.put o.dst v') w') :
    if Region.wanted o (yielded ops a.tmps) = true then Oper.wpIn F n P o a w K Q else E := by
  have hw : Region.wanted o (yielded ops a.tmps) = true := by simp [Region.wanted, hgd]
  rw [if_pos hw]
  unfold Oper.wpIn
  refine ⟨?_, ?_⟩
  · simp [Oper.about, ho, resolve, Target.leads, Sem.run_pure]
  · rw [Oper.semAt_plain F _ _ (by rw [ho]; intro c hc'; cases hc')]
    simp [execOp, ho, resolve, invoke, builtin, hs, hx, hrun, Result.andThen]
    exact h
theorem wpList_append_run {ops : Array Oper} {rest : List Oper} {o : Oper} {a : Act} {w w' : World} {Q : Exit → Act → World → Prop} (hgd : o.guard = none) (s x : Operand) (t : TypeId)
    (ho : o.op = .call { callee := .builtin .append, args := #[s, x], argTypes := #[t, t] }) (v xv v' : Value) (hs : a.eval s = v) (hx : a.eval x = xv) (hrun : (Builtin.append_ #[t, t] o.type #[v, xv]).run P w = .ok v' w') (h : wpList P ops Q rest (a.put o.dst v') w') :
    wpList P ops Q (o :: rest) a w :=
  wpList_plain hgd fun K hK => by
    unfold Oper.wp
    simp [execOp, ho, resolve, invoke, builtin, hs, hx, hrun, Result.andThen]
    exact hK _ _ h
theorem row_slice {w : World} {base size k : Nat} {e : TypeId} {v : Value} {xs : List Value} (hown : w.ownsRow base e size v k xs) : ∃ a l c, v = .slice a l c := by
  rcases hown.2 with ⟨rfl, _⟩ | ⟨g, cap, cur, rfl, _⟩
  · exact ⟨_, _, _, rfl⟩
  · exact ⟨_, _, _, rfl⟩
theorem append_none' {w : World} (W : World) (t ty e : TypeId) (i : TypeInfo) (h1 : P.underlying t = some (.slice e)) (h2 : P.info? e = some i) {base size k : Nat} {v : Value} {xs : List Value} (hown : w.ownsRow base e size v k xs) :
    (Builtin.append_ #[t, t] ty #[v, .slice none 0 0]).run P W = .ok v W := by
  have hsrc : Src P i.size t (.slice none 0 0) 0 [] W := ⟨.inl ⟨e, h1⟩, fun _ => rfl, rfl, rfl, by simp, by simp⟩
  rcases hown.2 with ⟨rfl, _⟩ | ⟨g, cap, cur, rfl, _, _, hcap, _⟩
  · exact run_append_nothing W t t ty e i h1 h2 none 0 0 (Nat.le_refl _) _ hsrc
  · exact run_append_nothing W t t ty e i h1 h2 _ k cap hcap _ hsrc
theorem wpListIn_append_none {F : Fence} {n : Nat} (w : World) {ops : Array Oper} {rest : List Oper} {o : Oper} {a : Act} {Q : Exit → Act → World → Prop} (hg : o.guard = none) (s x : Operand) (t : TypeId) (hop : o.op = Op.call { callee := Callee.builtin Builtin.append, args := #[s, x], argTypes := #[t, t] })
    (base : Nat) (e : TypeId) (i : TypeInfo) (size : Nat) (h1 : P.underlying t = some (.slice e)) (h2 : P.info? e = some i) (v : Value) (k : Nat) (xs : List Value) (hs : a.eval s = v) (hown : w.ownsRow base e size v k xs) (hx : a.eval x = .slice none 0 0)
    (hK : wpListIn F n P ops Q rest (a.put o.dst v) w) : wpListIn F n P ops Q (o :: rest) a w := by
  refine wpListIn_plain hg fun K hK' => ?_
  have hrun := append_none w t o.type e i h1 h2 hown
  unfold Oper.wpIn
  refine ⟨?_, ?_⟩
  · simp [Oper.about, hop, resolve, Target.leads, Sem.run_pure]
  · rw [Oper.semAt_plain F _ _ (by rw [hop]; intro c hc'; cases hc')]
    simp [execOp, hop, resolve, invoke, builtin, hs, hx, hrun, Result.andThen]
    exact hK' _ _ hK
end
theorem app_keeps {X w2 : World} {base size k : Nat} {e : TypeId} {v : Value} {xs : List Value} (hrow : X.ownsRow base e size v k xs) (hgrow : X.grownBy w2 v.ownBlock) : KeepsOthers X w2 :=
  KeepsOthers.of_grownBy hgrow fun j o ej hj => by
    rcases hrow.2 with ⟨rfl, _⟩ | ⟨g, cap, cur, rfl, _, hgb, _⟩
    · simp [Value.ownBlock] at ej
    · obtain rfl : g = j := by simpa [Value.ownBlock] using ej
      rw [hgb] at hj; cases hj; rfl
theorem app_row {X w2 : World} {base size k : Nat} {e : TypeId} {v : Value} {xs : List Value} (hrow : X.ownsRow base e size v k xs) : ∀ j, v.ownBlock = some j → base ≤ j := own_row hrow
theorem HB.app {X w2 : World} {b base size k : Nat} {e : TypeId} {v : Value} {xs : List Value} {cs : Array Value} (h : HB X b cs) (hrow : X.ownsRow base e size v k xs) (hgrow : X.grownBy w2 v.ownBlock) (hb : b < base) : HB w2 b cs := by
  have hl := h.lt
  obtain ⟨T, h⟩ := h
  exact ⟨T, (hgrow.block b hl (fun e => by have := own_row hrow b e.symm; omega)).trans h⟩
theorem HB.other {X w2 : World} {b base size k : Nat} {T e : TypeId} {v : Value} {xs : List Value} {cs : Array Value} (h : X.heap[b]? = some (.cells cs T (0, 0))) (hrow : X.ownsRow base e size v k xs) (hgrow : X.grownBy w2 v.ownBlock) (hT : T ≠ e) : HB w2 b cs := by
  refine ⟨T, (hgrow.block b (Array.getElem?_eq_some_iff.1 h).1 (fun e' => ?_)).trans h⟩
  rcases hrow.2 with ⟨rfl, _⟩ | ⟨g, cap, cur, rfl, _, hgb, _⟩
  · simp [Value.ownBlock] at e'
  · obtain rfl : b = g := by simpa [Value.ownBlock] using e'
    have := h.symm.trans hgb
    simp at this
    exact hT this.2
theorem Boxed.app {X w2 : World} {b base size k : Nat} {t e : TypeId} {u v : Value} {xs : List Value} (h : Boxed X b t u) (hrow : X.ownsRow base e size v k xs) (hgrow : X.grownBy w2 v.ownBlock) (hb : b < base) : Boxed w2 b t u :=
  h.kept hgrow (fun e => by have := own_row hrow b e.symm; omega)
theorem app_below {X w2 : World} {n₀ base size k : Nat} {e : TypeId} {v : Value} {xs : List Value} (hrow : X.ownsRow base e size v k xs) (hgrow : X.grownBy w2 v.ownBlock) (hn : n₀ ≤ base) (hs : n₀ ≤ X.heap.size) : Below n₀ X w2 :=
  (Below.refl n₀ X).grown hgrow hs fun j ej => Nat.le_trans hn (own_row hrow j ej)
theorem own_setc {X : World} {base size k : Nat} {e : TypeId} {u v : Value} {p : Addr} {xs : List Value} (hrow : X.ownsRow base e size v k xs) (hp : p.block < base) : (X.setCell p u).ownsRow base e size v k xs := by
  refine ⟨hrow.1, ?_⟩
  rcases hrow.2 with h | ⟨g, cap, cur, h1, h2, h3, h4⟩
  · exact .inl h
  · exact .inr ⟨g, cap, cur, h1, h2, (Below.heap_setCell X p u g (by omega)).trans h3, h4⟩
theorem two_at {X : World} {b : Nat} {x y : Value} (h : HB X b #[x, y]) : ∀ (j : Nat) (u : Value), [x, y][j]? = some u → X.cell? ((⟨b, 0, none⟩ : Addr).add j) = some u := by
  obtain ⟨_, hc, _, _⟩ := Bx.of h
  intro j u hu
  match j, hu with
  | 0, hu => have := hc 0; simp only [Addr.add, if_true]; rw [this]; simpa using hu
  | 1, hu => have := hc 1; simp [Addr.add]; rw [this]; simpa using hu
  | j + 2, hu => simp at hu
theorem Boxed.drew {X : World} {b : Nat} {t : TypeId} {v : Value} (h : Boxed X b t v) : Boxed X.drew b t v := h
theorem own_drew {X : World} {base size k : Nat} {e : TypeId} {v : Value} {xs : List Value} (h : X.ownsRow base e size v k xs) : X.drew.ownsRow base e size v k xs := h
theorem Boxed.setne {X : World} {b : Nat} {t : TypeId} {u v : Value} {p : Addr} (h : Boxed X b t v) (hp : b ≠ p.block) : Boxed (X.setCell p u) b t v := (Below.heap_setCell X p u b hp).trans h

/-- Without a panic. -/
def noPanic (Q : Exit → Act → World → Prop) : Exit → Act → World → Prop
  | .panic _, _, _ => False
  | .normal, a, w => Q .normal a w
  | .ret, a, w => Q .ret a w
  | .exit i, a, w => Q (.exit i) a w
  | .goto t, a, w => Q (.goto t) a w
  | .outgrown, a, w => Q .outgrown a w
theorem noPanic_le {Q : Exit → Act → World → Prop} : ∀ e a w, noPanic Q e a w → Q e a w
  | .panic _, _, _, h => h.elim
  | .normal, _, _, h => h
  | .ret, _, _, h => h
  | .exit _, _, _, h => h
  | .goto _, _, _, h => h
  | .outgrown, _, _, h => h

/-! ### The walk -/
theorem info_const : (Try.prog.info? 48).map (fun i => (i.zero, i.size, i.bytes)) = some (some (.agg #[.int .i64 0, .int .i64 0]), 2, 16) := by kernel_rfl
abbrev dStep : Value := .func (.func 50) #[] #[]
abbrev dRest : Value := .func (.func 51) #[] #[]
theorem own_hb {β : Type} (b : Nat) (cs : β → Array Value) : Own (fun (s : β) W => HB W b (cs s)) := by
  rintro s X Y row ⟨T, h⟩ hg hr
  refine ⟨T, (hg.block b (Array.getElem?_eq_some_iff.1 h).1 (fun e => ?_)).trans h⟩
  obtain ⟨o, ho, hc⟩ := hr b e.symm
  rw [h] at ho; cases ho; cases hc
/-- What the loop keeps. -/
def MI (t : Int) (w : World) (pre : List I6) (W : World) : Prop :=
  (HB W w.heap.size #[dStep, dRest] ∧ HB W (w.heap.size + 1) #[.int .i64 t, .int .i64 (mfold t (ints pre)).1.1, .int .i64 (mfold t (ints pre)).1.2.1, .int .i64 (mfold t (ints pre)).1.2.2]) ∧
  (∃ v, Boxed W (w.heap.size + 1 + 1) 40 v ∧ W.ownsRow (w.heap.size + 1 + 1 + 1) 48 2 v (mfold t (ints pre)).2.length (scells (mfold t (ints pre)).2) ∧ True) ∧ Below w.heap.size w W

set_option maxRecDepth 100000 in
set_option maxHeartbeats 4000000 in
theorem divide_any {t : Int} (ht : tolb t = true) (Bs len cap : Nat) (a : Option Addr) (f : Nat → I6) (hlen : len ≤ 1073741824) (w : World) (hBs : Bs < w.heap.size) (hc : w.cell? ⟨Bs, 0, none⟩ = some (.slice a len cap))
    (hI : 0 < len → ∃ b off, a = some ⟨b, off, none⟩ ∧ b < w.heap.size ∧ ∀ j, j < len → w.cell? ⟨b, off + j, none⟩ = some (.int .i64 (f j).1)) :
    Calls Try.prog 52 #[.agg #[dStep, dRest], MS t 0 0 0, .func (.func 71) #[] #[.pointer (some ⟨Bs, 0, none⟩)]] w fun e W' =>
      ∃ v, e = .returned v ∧ W'.ownsRow w.heap.size 48 2 v (mall t (ints (upto f len))).length (scells (mall t (ints (upto f len)))) ∧ Below w.heap.size w W' := by
  obtain ⟨i0, hi, hz0, hz1, hz2⟩ := info_parts info_const
  refine (callsIn_wide (n := 6)).1 ?_
  refine callsIn_of_wp_marks Try.func52 rfl trivial ?_ rfl
  simp only [Try.ntmps52, List.size_toArray, List.length_cons, List.length_nil, Nat.reduceAdd, Nat.reduceSub, Array.replicate_succ, Array.replicate_zero, List.push_toArray, List.append_toArray, List.nil_append, List.cons_append]
  gi_wp2
  have hB0 : Below w.heap.size w (((w.alloc (.cells #[dStep, dRest] 73)).alloc (.cells #[.int .i64 t, .int .i64 0, .int .i64 0, .int .i64 0] 55)).alloc (.cells #[.slice none 0 0] 40)) := ((((Below.refl _ w).alloc (Nat.le_refl _) _).alloc (by simp) _).alloc (by simp; omega) _)
  have hb1 : HB (((w.alloc (.cells #[dStep, dRest] 73)).alloc (.cells #[.int .i64 t, .int .i64 0, .int .i64 0, .int .i64 0] 55)).alloc (.cells #[.slice none 0 0] 40)) w.heap.size #[dStep, dRest] :=
    HB.old (by simp; omega) (HB.old (by simp) (HB.new _ _ _ rfl))
  have hb2 : HB (((w.alloc (.cells #[dStep, dRest] 73)).alloc (.cells #[.int .i64 t, .int .i64 0, .int .i64 0, .int .i64 0] 55)).alloc (.cells #[.slice none 0 0] 40)) (w.heap.size + 1) #[.int .i64 t, .int .i64 0, .int .i64 0, .int .i64 0] :=
    HB.old (by simp) (HB.new _ _ _ (by simp))
  refine wpIn_rangeFunc_ownG rfl (by omega) (gf := 71) (lb := #[.pointer (some ⟨Bs, 0, none⟩)]) rfl trivial (enters_of Try.func71 (by kernel_rfl) rfl)
    (values_stops Fence.wide (6 - 1) trivial rfl (by omega) Bs w.heap.size len cap a f (by omega) w hBs (Nat.le_refl _) hc hI) belowK_t (belowK_b (by simp; omega)) hB0 (fun _ => rfl)
    (MI t w) (fun _ _ _ => False)
    (OwnFrom.and (OwnFrom.and (Own.from (own_hb _ _) _) (Own.from (own_hb _ _) _)) (OwnFrom.and (Own.from (holdsRow_own (w.heap.size + 1 + 1 + 1) (w.heap.size + 1 + 1) 40 48 2 (fun pre => (mfold t (ints pre)).2.length) (fun pre => scells (mfold t (ints pre)).2) (fun _ _ => True)) _) (ownFrom_below (Nat.le_refl _) (by simp; omega))))
    (fun _ _ _ _ _ hs _ _ => hs)
    ⟨⟨hb1, hb2⟩, ⟨_, by (first | exact Boxed.new _ _ _ | (have := Boxed.new ((w.alloc (.cells #[dStep, dRest] 73)).alloc (.cells #[.int .i64 t, .int .i64 0, .int .i64 0, .int .i64 0] 55)) 40 (.slice none 0 0); rw [World.size_alloc, World.size_alloc] at this; exact this)), World.ownsRow_nil _ _ _ _, trivial⟩, hB0⟩
    (fun x => { tmps := #[.agg #[dStep, dRest], MS t 0 0 0, .func (.func 71) #[] #[.pointer (some ⟨Bs, 0, none⟩)], .pointer (some ⟨w.heap.size, 0, none⟩), .pointer (some ⟨w.heap.size + 1, 0, none⟩), undef, .slice none 0 0, .pointer (some ⟨w.heap.size + 1 + 1, 0, none⟩), .int .i64 x.1, undef, undef, .func (.func 71) #[] #[.pointer (some ⟨Bs, 0, none⟩)], .int .i64 x.1, undef, undef, undef, undef, undef, undef, undef, undef, undef, undef, undef, undef, undef, undef, undef, undef, undef, undef], defers := [] }) ?assign ?body ?done ?stop
  case assign =>
    intro l x W K hK
    gi_wp2
    exact hK
  case body =>
    rintro l pre x W ⟨⟨hD, hS⟩, ⟨v, hv, hrow, -⟩, hB⟩ hlt
    have M := mok t (ints pre) (ints_in pre)
    have hpl : (ints pre).length = pre.length := by simp
    have hmf : mfold t (ints (pre ++ [x])) = acc t (mfold t (ints pre)) x.1 := by rw [show ints (pre ++ [x]) = ints pre ++ [x.1] by simp [ints]]; exact mfold_snoc _ _ _
    obtain ⟨A, hA⟩ : ∃ A, mfold t (ints pre) = A := ⟨_, rfl⟩
    rw [hA] at hS hrow M hmf
    obtain ⟨⟨c, mn, mx⟩, os⟩ := A
    obtain ⟨m0, m1, m2, m3, m4⟩ := M
    dsimp only at hS hrow m0 m1 m2 m3 m4
    obtain ⟨B1, B1c, B1f, B1l⟩ := Bx.of hD
    obtain ⟨B2, B2c, B2f, B2l⟩ := Bx.of hS
    have hcv := hv.cell
    have hfv := hv.frozen
    have hlv := hv.lt
    have hd : 1 ≤ 6 - 1 - 1 := by omega
    have hmx : Try.prog.follows .mixedOrders = true := by kernel_rfl
    have hx := x.2
    have hcl : c < 1073741824 := by omega
    clear hA hc hI hB0 hb1 hb2
    gi_wp2_with (refine ⟨trivial, ?_⟩; gi_at_call 50; refine (CallsIn.inRound l (callsIn_wide.2 (step_any ht m0 hcl m2 m3 hx _))).mono ?_; rintro e w1 ⟨vv, rfl, hE, hbw⟩)
    have hD1 := HB.below hD hbw
    have hS1 := HB.below hS hbw
    have hv1 : Boxed w1 (w.heap.size + 1 + 1) 40 v := hv.kept (gt_below hbw none) (by simp)
    have hrow1 := hrow.kept (gt_below hbw none) (Classical.em _)
    have hsz1 := hbw.size
    clear B1 B1c B1f B1l B2 B2c B2f B2l hcv hfv hlv
    obtain ⟨B1, B1c, B1f, B1l⟩ := Bx.of hD1
    obtain ⟨B2, B2c, B2f, B2l⟩ := Bx.of hS1
    have hcv := hv1.cell
    have hfv := hv1.frozen
    have hlv := hv1.lt
    have hKO : KeepsOthers W w1 := KeepsOthers.of_grownBy (gt_below hbw none) (fun j o ej => by cases ej)
    have hbW : Below w.heap.size W w1 := hbw.mono hB.size
    obtain ⟨av, lv, cv, rfl⟩ := row_slice hrow1
    rcases hE with ⟨rfl, hn⟩ | ⟨b, cc, mm, rfl, hn, hbb, hHB⟩
    · have hrun : ∀ W', (Builtin.append_ #[40, 40] 40 #[.slice av lv cv, .slice none 0 0]).run Try.prog W' = .ok (.slice av lv cv) W' := fun W' => append_none' W' _ _ _ i0 Try.underlying40 hi hrow1
      have hleaf : (∀ B, KeepsFrom B W ((((((((w1).setCell ⟨w.heap.size + 1, 0, none⟩ (.int .i64 t)).setCell ⟨w.heap.size + 1, 1, none⟩ (.int .i64 (nC t c mn mx x.1))).setCell ⟨w.heap.size + 1, 2, none⟩ (.int .i64 (nMin t c mn mx x.1))).setCell ⟨w.heap.size + 1, 3, none⟩ (.int .i64 (nMax t c mn mx x.1))).setCell ⟨w.heap.size + 1 + 1, 0, none⟩ (.slice av lv cv)).alloc (.cells #[.int .i64 t, .int .i64 (nC t c mn mx x.1), .int .i64 (nMin t c mn mx x.1), .int .i64 (nMax t c mn mx x.1)] 55)).drew)) ∧ Below w.heap.size W ((((((((w1).setCell ⟨w.heap.size + 1, 0, none⟩ (.int .i64 t)).setCell ⟨w.heap.size + 1, 1, none⟩ (.int .i64 (nC t c mn mx x.1))).setCell ⟨w.heap.size + 1, 2, none⟩ (.int .i64 (nMin t c mn mx x.1))).setCell ⟨w.heap.size + 1, 3, none⟩ (.int .i64 (nMax t c mn mx x.1))).setCell ⟨w.heap.size + 1 + 1, 0, none⟩ (.slice av lv cv)).alloc (.cells #[.int .i64 t, .int .i64 (nC t c mn mx x.1), .int .i64 (nMin t c mn mx x.1), .int .i64 (nMax t c mn mx x.1)] 55)).drew) ∧ MI t w (pre ++ [x]) ((((((((w1).setCell ⟨w.heap.size + 1, 0, none⟩ (.int .i64 t)).setCell ⟨w.heap.size + 1, 1, none⟩ (.int .i64 (nC t c mn mx x.1))).setCell ⟨w.heap.size + 1, 2, none⟩ (.int .i64 (nMin t c mn mx x.1))).setCell ⟨w.heap.size + 1, 3, none⟩ (.int .i64 (nMax t c mn mx x.1))).setCell ⟨w.heap.size + 1 + 1, 0, none⟩ (.slice av lv cv)).alloc (.cells #[.int .i64 t, .int .i64 (nC t c mn mx x.1), .int .i64 (nMin t c mn mx x.1), .int .i64 (nMax t c mn mx x.1)] 55)).drew) := by
        have hb9 : Below w.heap.size W ((((((((w1).setCell ⟨w.heap.size + 1, 0, none⟩ (.int .i64 t)).setCell ⟨w.heap.size + 1, 1, none⟩ (.int .i64 (nC t c mn mx x.1))).setCell ⟨w.heap.size + 1, 2, none⟩ (.int .i64 (nMin t c mn mx x.1))).setCell ⟨w.heap.size + 1, 3, none⟩ (.int .i64 (nMax t c mn mx x.1))).setCell ⟨w.heap.size + 1 + 1, 0, none⟩ (.slice av lv cv)).alloc (.cells #[.int .i64 t, .int .i64 (nC t c mn mx x.1), .int .i64 (nMin t c mn mx x.1), .int .i64 (nMax t c mn mx x.1)] 55)).drew) := by (repeat' (first | (with_reducible assumption) | (with_reducible exact Below.refl _ _) | (with_reducible refine Below.alloc ?_ ?_ _) | (with_reducible refine Below.setCell ?_ ?_ _) | (with_reducible refine Below.drew ?_) | (with_reducible refine below_more ?_ (by with_reducible assumption)) | go_size | omega | (with_reducible refine below_drewN ?_)))
        refine ⟨fun B => (((((((hKO.trans (KeepsOthers.setCell _ _ _)).trans (KeepsOthers.setCell _ _ _)).trans (KeepsOthers.setCell _ _ _)).trans (KeepsOthers.setCell _ _ _)).trans (KeepsOthers.setCell _ _ _)).trans (KeepsOthers.alloc _ _)).trans (KeepsOthers.drew _)).from _, hb9, ⟨⟨by (repeat' (first | (with_reducible assumption) | ((with_reducible refine HB.new _ _ _ ?_) <;> (go_size; done)) | (with_reducible refine HB.old (by go_size) ?_) | (with_reducible refine HB.drew ?_) | (with_reducible refine HB.over5 ?_) | (with_reducible refine HB.over4 ?_) | (with_reducible refine HB.setne (by first | go_size | (dsimp only; omega)) ?_) | (with_reducible refine HN.set ?_) | (with_reducible refine HN.setne (by first | go_size | (dsimp only; omega)) ?_) | (with_reducible refine HN.drew ?_) | (with_reducible refine HN.old (by go_size) ?_) | (with_reducible exact HN.of5 (by assumption)) | (with_reducible exact HN.new5 _ _ (by go_size)) | (with_reducible exact HN.of4 (by assumption)) | (with_reducible exact HN.new4 _ _ (by go_size)))), ?_⟩, ⟨.slice av lv cv, by (repeat' (first | (with_reducible assumption) | (with_reducible refine Boxed.set (v := .slice av lv cv) _ ?_) | (with_reducible refine Boxed.setne ?_ (by dsimp only; omega)) | (with_reducible refine Boxed.alloc ?_ _) | (with_reducible refine Boxed.drew ?_))), ?_, trivial⟩, hB.trans hb9⟩⟩
        · rw [hmf]
          show HB _ _ #[.int .i64 t, .int .i64 (nC t c mn mx x.1), .int .i64 (nMin t c mn mx x.1), .int .i64 (nMax t c mn mx x.1)]
          (repeat' (first | (with_reducible assumption) | ((with_reducible refine HB.new _ _ _ ?_) <;> (go_size; done)) | (with_reducible refine HB.old (by go_size) ?_) | (with_reducible refine HB.drew ?_) | (with_reducible refine HB.over5 ?_) | (with_reducible refine HB.over4 ?_) | (with_reducible refine HB.setne (by first | go_size | (dsimp only; omega)) ?_) | (with_reducible refine HN.set ?_) | (with_reducible refine HN.setne (by first | go_size | (dsimp only; omega)) ?_) | (with_reducible refine HN.drew ?_) | (with_reducible refine HN.old (by go_size) ?_) | (with_reducible exact HN.of5 (by assumption)) | (with_reducible exact HN.new5 _ _ (by go_size)) | (with_reducible exact HN.of4 (by assumption)) | (with_reducible exact HN.new4 _ _ (by go_size))))
        · rw [hmf]
          show World.ownsRow _ _ _ _ _ (os ++ (nEnd t c mn mx x.1).toList).length (scells (os ++ (nEnd t c mn mx x.1).toList))
          rw [hn]
          simp only [Option.toList, List.append_nil]
          (repeat' (first | (with_reducible assumption) | (with_reducible refine own_setc ?_ (by dsimp only; omega)) | (with_reducible refine World.ownsRow.alloc ?_ _) | (with_reducible refine own_drew ?_)))
      refine wpIn_region_any (by assumption) ?_
      (try (change wpAnyIn _ _ _ _ _ _ _ _ _ (World.drew _)))
      refine wpAnyIn_ready (rs := [0, 1, 2]) (by kernel_rfl) (by simp) ?_
      refine AllReadyIn.cons rfl (fun K hK => ?_) ?_
      · go_simp; refine hK _ _ ?_; clear hK K
        refine wpAnyIn_ready (rs := [1, 2]) (by kernel_rfl) (by simp) ?_
        refine AllReadyIn.cons rfl (fun K hK => ?_) ?_
        · go_simp; refine hK _ _ ?_; clear hK K
          refine wpAnyIn_ready (rs := [2]) (by kernel_rfl) (by simp) ?_
          refine AllReadyIn.cons rfl (fun K hK => ?_) ?_
          · go_simp; refine hK _ _ ?_; clear hK K
            refine wpAnyIn_ready (rs := [3]) (by kernel_rfl) (by simp) ?_
            refine AllReadyIn.cons rfl (fun K hK => ?_) ?_
            · refine stepIn_append rfl _ _ 40 rfl _ _ _ rfl rfl (hrun _) ?_; simp only [Act.put, List.setIfInBounds_toArray, List.set_cons_zero, List.set_cons_succ]; refine hK _ _ ?_; clear hK K
              refine wpAnyIn_ready (rs := [4]) (by kernel_rfl) (by simp) ?_
              refine AllReadyIn.cons rfl (fun K hK => ?_) ?_
              · go_simp; refine hK _ _ ?_; clear hK K
                refine wpAnyIn_ready (rs := [5]) (by kernel_rfl) (by simp) ?_
                refine AllReadyIn.cons rfl (fun K hK => ?_) ?_
                · go_simp; refine hK _ _ ?_; clear hK K
                  refine wpAnyIn_done (by kernel_rfl) ?_ _
                  gi_wp2
                  exact ⟨hleaf.1 _, hleaf.2⟩
                exact AllReadyIn.nil
              exact AllReadyIn.nil
            exact AllReadyIn.nil
          exact AllReadyIn.nil
        refine AllReadyIn.cons rfl (fun K hK => ?_) ?_
        · go_simp; refine hK _ _ ?_; clear hK K
          refine wpAnyIn_ready (rs := [1]) (by kernel_rfl) (by simp) ?_
          refine AllReadyIn.cons rfl (fun K hK => ?_) ?_
          · go_simp; refine hK _ _ ?_; clear hK K
            refine wpAnyIn_ready (rs := [3]) (by kernel_rfl) (by simp) ?_
            refine AllReadyIn.cons rfl (fun K hK => ?_) ?_
            · refine stepIn_append rfl _ _ 40 rfl _ _ _ rfl rfl (hrun _) ?_; simp only [Act.put, List.setIfInBounds_toArray, List.set_cons_zero, List.set_cons_succ]; refine hK _ _ ?_; clear hK K
              refine wpAnyIn_ready (rs := [4]) (by kernel_rfl) (by simp) ?_
              refine AllReadyIn.cons rfl (fun K hK => ?_) ?_
              · go_simp; refine hK _ _ ?_; clear hK K
                refine wpAnyIn_ready (rs := [5]) (by kernel_rfl) (by simp) ?_
                refine AllReadyIn.cons rfl (fun K hK => ?_) ?_
                · go_simp; refine hK _ _ ?_; clear hK K
                  refine wpAnyIn_done (by kernel_rfl) ?_ _
                  gi_wp2
                  exact ⟨hleaf.1 _, hleaf.2⟩
                exact AllReadyIn.nil
              exact AllReadyIn.nil
            exact AllReadyIn.nil
          exact AllReadyIn.nil
        exact AllReadyIn.nil
      refine AllReadyIn.cons rfl (fun K hK => ?_) ?_
      · go_simp; refine hK _ _ ?_; clear hK K
        refine wpAnyIn_ready (rs := [0, 2]) (by kernel_rfl) (by simp) ?_
        refine AllReadyIn.cons rfl (fun K hK => ?_) ?_
        · go_simp; refine hK _ _ ?_; clear hK K
          refine wpAnyIn_ready (rs := [2]) (by kernel_rfl) (by simp) ?_
          refine AllReadyIn.cons rfl (fun K hK => ?_) ?_
          · go_simp; refine hK _ _ ?_; clear hK K
            refine wpAnyIn_ready (rs := [3]) (by kernel_rfl) (by simp) ?_
            refine AllReadyIn.cons rfl (fun K hK => ?_) ?_
            · refine stepIn_append rfl _ _ 40 rfl _ _ _ rfl rfl (hrun _) ?_; simp only [Act.put, List.setIfInBounds_toArray, List.set_cons_zero, List.set_cons_succ]; refine hK _ _ ?_; clear hK K
              refine wpAnyIn_ready (rs := [4]) (by kernel_rfl) (by simp) ?_
              refine AllReadyIn.cons rfl (fun K hK => ?_) ?_
              · go_simp; refine hK _ _ ?_; clear hK K
                refine wpAnyIn_ready (rs := [5]) (by kernel_rfl) (by simp) ?_
                refine AllReadyIn.cons rfl (fun K hK => ?_) ?_
                · go_simp; refine hK _ _ ?_; clear hK K
                  refine wpAnyIn_done (by kernel_rfl) ?_ _
                  gi_wp2
                  exact ⟨hleaf.1 _, hleaf.2⟩
                exact AllReadyIn.nil
              exact AllReadyIn.nil
            exact AllReadyIn.nil
          exact AllReadyIn.nil
        refine AllReadyIn.cons rfl (fun K hK => ?_) ?_
        · go_simp; refine hK _ _ ?_; clear hK K
          refine wpAnyIn_ready (rs := [0, 3]) (by kernel_rfl) (by simp) ?_
          refine AllReadyIn.cons rfl (fun K hK => ?_) ?_
          · go_simp; refine hK _ _ ?_; clear hK K
            refine wpAnyIn_ready (rs := [3]) (by kernel_rfl) (by simp) ?_
            refine AllReadyIn.cons rfl (fun K hK => ?_) ?_
            · refine stepIn_append rfl _ _ 40 rfl _ _ _ rfl rfl (hrun _) ?_; simp only [Act.put, List.setIfInBounds_toArray, List.set_cons_zero, List.set_cons_succ]; refine hK _ _ ?_; clear hK K
              refine wpAnyIn_ready (rs := [4]) (by kernel_rfl) (by simp) ?_
              refine AllReadyIn.cons rfl (fun K hK => ?_) ?_
              · go_simp; refine hK _ _ ?_; clear hK K
                refine wpAnyIn_ready (rs := [5]) (by kernel_rfl) (by simp) ?_
                refine AllReadyIn.cons rfl (fun K hK => ?_) ?_
                · go_simp; refine hK _ _ ?_; clear hK K
                  refine wpAnyIn_done (by kernel_rfl) ?_ _
                  gi_wp2
                  exact ⟨hleaf.1 _, hleaf.2⟩
                exact AllReadyIn.nil
              exact AllReadyIn.nil
            exact AllReadyIn.nil
          refine AllReadyIn.cons rfl (fun K hK => ?_) ?_
          · refine stepIn_append rfl _ _ 40 rfl _ _ _ rfl rfl (hrun _) ?_; simp only [Act.put, List.setIfInBounds_toArray, List.set_cons_zero, List.set_cons_succ]; refine hK _ _ ?_; clear hK K
            refine wpAnyIn_ready (rs := [0]) (by kernel_rfl) (by simp) ?_
            refine AllReadyIn.cons rfl (fun K hK => ?_) ?_
            · go_simp; refine hK _ _ ?_; clear hK K
              refine wpAnyIn_ready (rs := [4]) (by kernel_rfl) (by simp) ?_
              refine AllReadyIn.cons rfl (fun K hK => ?_) ?_
              · go_simp; refine hK _ _ ?_; clear hK K
                refine wpAnyIn_ready (rs := [5]) (by kernel_rfl) (by simp) ?_
                refine AllReadyIn.cons rfl (fun K hK => ?_) ?_
                · go_simp; refine hK _ _ ?_; clear hK K
                  refine wpAnyIn_done (by kernel_rfl) ?_ _
                  gi_wp2
                  exact ⟨hleaf.1 _, hleaf.2⟩
                exact AllReadyIn.nil
              exact AllReadyIn.nil
            exact AllReadyIn.nil
          exact AllReadyIn.nil
        exact AllReadyIn.nil
      refine AllReadyIn.cons rfl (fun K hK => ?_) ?_
      · go_simp; refine hK _ _ ?_; clear hK K
        refine wpAnyIn_ready (rs := [0, 1]) (by kernel_rfl) (by simp) ?_
        refine AllReadyIn.cons rfl (fun K hK => ?_) ?_
        · go_simp; refine hK _ _ ?_; clear hK K
          refine wpAnyIn_ready (rs := [1]) (by kernel_rfl) (by simp) ?_
          refine AllReadyIn.cons rfl (fun K hK => ?_) ?_
          · go_simp; refine hK _ _ ?_; clear hK K
            refine wpAnyIn_ready (rs := [3]) (by kernel_rfl) (by simp) ?_
            refine AllReadyIn.cons rfl (fun K hK => ?_) ?_
            · refine stepIn_append rfl _ _ 40 rfl _ _ _ rfl rfl (hrun _) ?_; simp only [Act.put, List.setIfInBounds_toArray, List.set_cons_zero, List.set_cons_succ]; refine hK _ _ ?_; clear hK K
              refine wpAnyIn_ready (rs := [4]) (by kernel_rfl) (by simp) ?_
              refine AllReadyIn.cons rfl (fun K hK => ?_) ?_
              · go_simp; refine hK _ _ ?_; clear hK K
                refine wpAnyIn_ready (rs := [5]) (by kernel_rfl) (by simp) ?_
                refine AllReadyIn.cons rfl (fun K hK => ?_) ?_
                · go_simp; refine hK _ _ ?_; clear hK K
                  refine wpAnyIn_done (by kernel_rfl) ?_ _
                  gi_wp2
                  exact ⟨hleaf.1 _, hleaf.2⟩
                exact AllReadyIn.nil
              exact AllReadyIn.nil
            exact AllReadyIn.nil
          exact AllReadyIn.nil
        refine AllReadyIn.cons rfl (fun K hK => ?_) ?_
        · go_simp; refine hK _ _ ?_; clear hK K
          refine wpAnyIn_ready (rs := [0, 3]) (by kernel_rfl) (by simp) ?_
          refine AllReadyIn.cons rfl (fun K hK => ?_) ?_
          · go_simp; refine hK _ _ ?_; clear hK K
            refine wpAnyIn_ready (rs := [3]) (by kernel_rfl) (by simp) ?_
            refine AllReadyIn.cons rfl (fun K hK => ?_) ?_
            · refine stepIn_append rfl _ _ 40 rfl _ _ _ rfl rfl (hrun _) ?_; simp only [Act.put, List.setIfInBounds_toArray, List.set_cons_zero, List.set_cons_succ]; refine hK _ _ ?_; clear hK K
              refine wpAnyIn_ready (rs := [4]) (by kernel_rfl) (by simp) ?_
              refine AllReadyIn.cons rfl (fun K hK => ?_) ?_
              · go_simp; refine hK _ _ ?_; clear hK K
                refine wpAnyIn_ready (rs := [5]) (by kernel_rfl) (by simp) ?_
                refine AllReadyIn.cons rfl (fun K hK => ?_) ?_
                · go_simp; refine hK _ _ ?_; clear hK K
                  refine wpAnyIn_done (by kernel_rfl) ?_ _
                  gi_wp2
                  exact ⟨hleaf.1 _, hleaf.2⟩
                exact AllReadyIn.nil
              exact AllReadyIn.nil
            exact AllReadyIn.nil
          refine AllReadyIn.cons rfl (fun K hK => ?_) ?_
          · refine stepIn_append rfl _ _ 40 rfl _ _ _ rfl rfl (hrun _) ?_; simp only [Act.put, List.setIfInBounds_toArray, List.set_cons_zero, List.set_cons_succ]; refine hK _ _ ?_; clear hK K
            refine wpAnyIn_ready (rs := [0]) (by kernel_rfl) (by simp) ?_
            refine AllReadyIn.cons rfl (fun K hK => ?_) ?_
            · go_simp; refine hK _ _ ?_; clear hK K
              refine wpAnyIn_ready (rs := [4]) (by kernel_rfl) (by simp) ?_
              refine AllReadyIn.cons rfl (fun K hK => ?_) ?_
              · go_simp; refine hK _ _ ?_; clear hK K
                refine wpAnyIn_ready (rs := [5]) (by kernel_rfl) (by simp) ?_
                refine AllReadyIn.cons rfl (fun K hK => ?_) ?_
                · go_simp; refine hK _ _ ?_; clear hK K
                  refine wpAnyIn_done (by kernel_rfl) ?_ _
                  gi_wp2
                  exact ⟨hleaf.1 _, hleaf.2⟩
                exact AllReadyIn.nil
              exact AllReadyIn.nil
            exact AllReadyIn.nil
          exact AllReadyIn.nil
        exact AllReadyIn.nil
      exact AllReadyIn.nil
    · have hHX : HB ((w1.alloc (.cells #[.int .i64 t, .int .i64 (nC t c mn mx x.1), .int .i64 (nMin t c mn mx x.1), .int .i64 (nMax t c mn mx x.1)] 55)).drew) b #[.int .i64 cc, .int .i64 mm] := HB.drew (HB.old hHB.lt hHB)
      have hrowX : World.ownsRow ((w1.alloc (.cells #[.int .i64 t, .int .i64 (nC t c mn mx x.1), .int .i64 (nMin t c mn mx x.1), .int .i64 (nMax t c mn mx x.1)] 55)).drew) (w.heap.size + 1 + 1 + 1) 48 2 (.slice av lv cv) os.length (scells os) := own_drew (hrow1.alloc _)
      have hvX : Boxed ((w1.alloc (.cells #[.int .i64 t, .int .i64 (nC t c mn mx x.1), .int .i64 (nMin t c mn mx x.1), .int .i64 (nMax t c mn mx x.1)] 55)).drew) (w.heap.size + 1 + 1) 40 (.slice av lv cv) := Boxed.drew (hv1.alloc _)
      have hSX : HB ((w1.alloc (.cells #[.int .i64 t, .int .i64 (nC t c mn mx x.1), .int .i64 (nMin t c mn mx x.1), .int .i64 (nMax t c mn mx x.1)] 55)).drew) (w.heap.size + 1) #[.int .i64 t, .int .i64 c, .int .i64 mn, .int .i64 mx] := HB.drew (HB.old hS1.lt hS1)
      have hDX : HB ((w1.alloc (.cells #[.int .i64 t, .int .i64 (nC t c mn mx x.1), .int .i64 (nMin t c mn mx x.1), .int .i64 (nMax t c mn mx x.1)] 55)).drew) w.heap.size #[dStep, dRest] := HB.drew (HB.old hD1.lt hD1)
      have hNX : HB ((w1.alloc (.cells #[.int .i64 t, .int .i64 (nC t c mn mx x.1), .int .i64 (nMin t c mn mx x.1), .int .i64 (nMax t c mn mx x.1)] 55)).drew) w1.heap.size #[.int .i64 t, .int .i64 (nC t c mn mx x.1), .int .i64 (nMin t c mn mx x.1), .int .i64 (nMax t c mn mx x.1)] := HB.drew (HB.new _ _ _ rfl)
      have hsX : w.heap.size + 1 + 1 + 1 ≤ (((w1.alloc (.cells #[.int .i64 t, .int .i64 (nC t c mn mx x.1), .int .i64 (nMin t c mn mx x.1), .int .i64 (nMax t c mn mx x.1)] 55)).drew)).heap.size := by simp; omega
      have hol : os.length ≤ 1073741823 := by omega
      obtain ⟨v', w2, hrun, hown', hgrow, -⟩ := run_append_own (P := Try.prog) ((w1.alloc (.cells #[.int .i64 t, .int .i64 (nC t c mn mx x.1), .int .i64 (nMin t c mn mx x.1), .int .i64 (nMax t c mn mx x.1)] 55)).drew) (w.heap.size + 1 + 1 + 1) 40 40 48 i0 (.agg #[.int .i64 0, .int .i64 0]) 2 16 Try.underlying40 hi hz0 hz1 hz2 rfl (by decide) (.slice av lv cv) os.length (scells os) hrowX ⟨b, 0, none⟩ 1 1 [.int .i64 cc, .int .i64 mm] rfl (two_at hHX) (by intro u hu; simp at hu; rcases hu with rfl | rfl <;> rfl) (by unfold maxLen; omega) (by omega) hsX
      obtain ⟨g', cap', rfl⟩ := ownsRow_succ hown'
      have hv2 := Boxed.app hvX hrowX hgrow (by omega)
      have hS2 := hSX.app hrowX hgrow (by omega)
      have hD2 := hDX.app hrowX hgrow (by omega)
      have hlb : w.heap.size + 1 + 1 + 1 ≤ w1.heap.size := by omega
      have hN2 : HB w2 w1.heap.size #[.int .i64 t, .int .i64 (nC t c mn mx x.1), .int .i64 (nMin t c mn mx x.1), .int .i64 (nMax t c mn mx x.1)] := HB.other (X := ((w1.alloc (.cells #[.int .i64 t, .int .i64 (nC t c mn mx x.1), .int .i64 (nMin t c mn mx x.1), .int .i64 (nMax t c mn mx x.1)] 55)).drew)) (T := 55) (World.alloc_heap_new w1 _) hrowX hgrow (by decide)
      have hK2 : KeepsOthers W w2 := ((hKO.trans (KeepsOthers.alloc _ _)).trans (KeepsOthers.drew _)).trans (app_keeps hrowX hgrow)
      have hb2 : Below w.heap.size W w2 := ((hbW.alloc (by have := hB.size; omega) _).drew).trans (app_below hrowX hgrow (by omega) (by omega))
      obtain ⟨C2, C2c, C2f, C2l⟩ := Bx.of hS2
      obtain ⟨C3, C3c, C3f, C3l⟩ := Bx.of hN2
      have hcv2 := hv2.cell
      have hfv2 := hv2.frozen
      have hlv2 := hv2.lt
      have hleaf : (∀ B, KeepsFrom B W ((((((w2).setCell ⟨w.heap.size + 1, 0, none⟩ (.int .i64 t)).setCell ⟨w.heap.size + 1, 1, none⟩ (.int .i64 (nC t c mn mx x.1))).setCell ⟨w.heap.size + 1, 2, none⟩ (.int .i64 (nMin t c mn mx x.1))).setCell ⟨w.heap.size + 1, 3, none⟩ (.int .i64 (nMax t c mn mx x.1))).setCell ⟨w.heap.size + 1 + 1, 0, none⟩ (.slice (some ⟨g', 0, none⟩) (os.length + 1) cap'))) ∧ Below w.heap.size W ((((((w2).setCell ⟨w.heap.size + 1, 0, none⟩ (.int .i64 t)).setCell ⟨w.heap.size + 1, 1, none⟩ (.int .i64 (nC t c mn mx x.1))).setCell ⟨w.heap.size + 1, 2, none⟩ (.int .i64 (nMin t c mn mx x.1))).setCell ⟨w.heap.size + 1, 3, none⟩ (.int .i64 (nMax t c mn mx x.1))).setCell ⟨w.heap.size + 1 + 1, 0, none⟩ (.slice (some ⟨g', 0, none⟩) (os.length + 1) cap')) ∧ MI t w (pre ++ [x]) ((((((w2).setCell ⟨w.heap.size + 1, 0, none⟩ (.int .i64 t)).setCell ⟨w.heap.size + 1, 1, none⟩ (.int .i64 (nC t c mn mx x.1))).setCell ⟨w.heap.size + 1, 2, none⟩ (.int .i64 (nMin t c mn mx x.1))).setCell ⟨w.heap.size + 1, 3, none⟩ (.int .i64 (nMax t c mn mx x.1))).setCell ⟨w.heap.size + 1 + 1, 0, none⟩ (.slice (some ⟨g', 0, none⟩) (os.length + 1) cap')) := by
        have hb9 : Below w.heap.size W ((((((w2).setCell ⟨w.heap.size + 1, 0, none⟩ (.int .i64 t)).setCell ⟨w.heap.size + 1, 1, none⟩ (.int .i64 (nC t c mn mx x.1))).setCell ⟨w.heap.size + 1, 2, none⟩ (.int .i64 (nMin t c mn mx x.1))).setCell ⟨w.heap.size + 1, 3, none⟩ (.int .i64 (nMax t c mn mx x.1))).setCell ⟨w.heap.size + 1 + 1, 0, none⟩ (.slice (some ⟨g', 0, none⟩) (os.length + 1) cap')) := by (repeat' (first | (with_reducible assumption) | (with_reducible exact Below.refl _ _) | (with_reducible refine Below.alloc ?_ ?_ _) | (with_reducible refine Below.setCell ?_ ?_ _) | (with_reducible refine Below.drew ?_) | (with_reducible refine below_more ?_ (by with_reducible assumption)) | go_size | omega | (with_reducible refine below_drewN ?_)))
        refine ⟨fun B => (((((hK2.trans (KeepsOthers.setCell _ _ _)).trans (KeepsOthers.setCell _ _ _)).trans (KeepsOthers.setCell _ _ _)).trans (KeepsOthers.setCell _ _ _)).trans (KeepsOthers.setCell _ _ _)).from _, hb9, ⟨⟨by (repeat' (first | (with_reducible assumption) | ((with_reducible refine HB.new _ _ _ ?_) <;> (go_size; done)) | (with_reducible refine HB.old (by go_size) ?_) | (with_reducible refine HB.drew ?_) | (with_reducible refine HB.over5 ?_) | (with_reducible refine HB.over4 ?_) | (with_reducible refine HB.setne (by first | go_size | (dsimp only; omega)) ?_) | (with_reducible refine HN.set ?_) | (with_reducible refine HN.setne (by first | go_size | (dsimp only; omega)) ?_) | (with_reducible refine HN.drew ?_) | (with_reducible refine HN.old (by go_size) ?_) | (with_reducible exact HN.of5 (by assumption)) | (with_reducible exact HN.new5 _ _ (by go_size)) | (with_reducible exact HN.of4 (by assumption)) | (with_reducible exact HN.new4 _ _ (by go_size)))), ?_⟩, ⟨.slice (some ⟨g', 0, none⟩) (os.length + 1) cap', Boxed.set (v := .slice av lv cv) _ (Boxed.setne (Boxed.setne (Boxed.setne (Boxed.setne hv2 (by dsimp only; omega)) (by dsimp only; omega)) (by dsimp only; omega)) (by dsimp only; omega)), ?_, trivial⟩, hB.trans hb9⟩⟩
        · rw [hmf]
          show HB _ _ #[.int .i64 t, .int .i64 (nC t c mn mx x.1), .int .i64 (nMin t c mn mx x.1), .int .i64 (nMax t c mn mx x.1)]
          (repeat' (first | (with_reducible assumption) | ((with_reducible refine HB.new _ _ _ ?_) <;> (go_size; done)) | (with_reducible refine HB.old (by go_size) ?_) | (with_reducible refine HB.drew ?_) | (with_reducible refine HB.over5 ?_) | (with_reducible refine HB.over4 ?_) | (with_reducible refine HB.setne (by first | go_size | (dsimp only; omega)) ?_) | (with_reducible refine HN.set ?_) | (with_reducible refine HN.setne (by first | go_size | (dsimp only; omega)) ?_) | (with_reducible refine HN.drew ?_) | (with_reducible refine HN.old (by go_size) ?_) | (with_reducible exact HN.of5 (by assumption)) | (with_reducible exact HN.new5 _ _ (by go_size)) | (with_reducible exact HN.of4 (by assumption)) | (with_reducible exact HN.new4 _ _ (by go_size))))
        · rw [hmf]
          show World.ownsRow _ _ _ _ _ (os ++ (nEnd t c mn mx x.1).toList).length (scells (os ++ (nEnd t c mn mx x.1).toList))
          rw [hn]
          rw [show (os ++ (some (cc, mm)).toList).length = os.length + 1 by simp, show scells (os ++ (some (cc, mm)).toList) = scells os ++ [.int .i64 cc, .int .i64 mm] by simp [scells, scell]]
          exact own_setc (own_setc (own_setc (own_setc (own_setc hown' (by dsimp only; omega)) (by dsimp only; omega)) (by dsimp only; omega)) (by dsimp only; omega)) (by dsimp only; omega)
      refine wpIn_region_any (by assumption) ?_
      (try (change wpAnyIn _ _ _ _ _ _ _ _ _ (World.drew _)))
      refine wpAnyIn_ready (rs := [0, 1, 2]) (by kernel_rfl) (by simp) ?_
      refine AllReadyIn.cons rfl (fun K hK => ?_) ?_
      · go_simp; refine hK _ _ ?_; clear hK K
        refine wpAnyIn_ready (rs := [1, 2]) (by kernel_rfl) (by simp) ?_
        refine AllReadyIn.cons rfl (fun K hK => ?_) ?_
        · go_simp; refine hK _ _ ?_; clear hK K
          refine wpAnyIn_ready (rs := [2]) (by kernel_rfl) (by simp) ?_
          refine AllReadyIn.cons rfl (fun K hK => ?_) ?_
          · go_simp; refine hK _ _ ?_; clear hK K
            refine wpAnyIn_ready (rs := [3]) (by kernel_rfl) (by simp) ?_
            refine AllReadyIn.cons rfl (fun K hK => ?_) ?_
            · refine stepIn_append rfl _ _ 40 rfl _ _ _ rfl rfl hrun ?_; simp only [Act.put, List.setIfInBounds_toArray, List.set_cons_zero, List.set_cons_succ]; refine hK _ _ ?_; clear hK K
              refine wpAnyIn_ready (rs := [4]) (by kernel_rfl) (by simp) ?_
              refine AllReadyIn.cons rfl (fun K hK => ?_) ?_
              · go_simp; refine hK _ _ ?_; clear hK K
                refine wpAnyIn_ready (rs := [5]) (by kernel_rfl) (by simp) ?_
                refine AllReadyIn.cons rfl (fun K hK => ?_) ?_
                · go_simp; refine hK _ _ ?_; clear hK K
                  refine wpAnyIn_done (by kernel_rfl) ?_ _
                  gi_wp2
                  exact ⟨hleaf.1 _, hleaf.2⟩
                exact AllReadyIn.nil
              exact AllReadyIn.nil
            exact AllReadyIn.nil
          exact AllReadyIn.nil
        refine AllReadyIn.cons rfl (fun K hK => ?_) ?_
        · go_simp; refine hK _ _ ?_; clear hK K
          refine wpAnyIn_ready (rs := [1]) (by kernel_rfl) (by simp) ?_
          refine AllReadyIn.cons rfl (fun K hK => ?_) ?_
          · go_simp; refine hK _ _ ?_; clear hK K
            refine wpAnyIn_ready (rs := [3]) (by kernel_rfl) (by simp) ?_
            refine AllReadyIn.cons rfl (fun K hK => ?_) ?_
            · refine stepIn_append rfl _ _ 40 rfl _ _ _ rfl rfl hrun ?_; simp only [Act.put, List.setIfInBounds_toArray, List.set_cons_zero, List.set_cons_succ]; refine hK _ _ ?_; clear hK K
              refine wpAnyIn_ready (rs := [4]) (by kernel_rfl) (by simp) ?_
              refine AllReadyIn.cons rfl (fun K hK => ?_) ?_
              · go_simp; refine hK _ _ ?_; clear hK K
                refine wpAnyIn_ready (rs := [5]) (by kernel_rfl) (by simp) ?_
                refine AllReadyIn.cons rfl (fun K hK => ?_) ?_
                · go_simp; refine hK _ _ ?_; clear hK K
                  refine wpAnyIn_done (by kernel_rfl) ?_ _
                  gi_wp2
                  exact ⟨hleaf.1 _, hleaf.2⟩
                exact AllReadyIn.nil
              exact AllReadyIn.nil
            exact AllReadyIn.nil
          exact AllReadyIn.nil
        exact AllReadyIn.nil
      refine AllReadyIn.cons rfl (fun K hK => ?_) ?_
      · go_simp; refine hK _ _ ?_; clear hK K
        refine wpAnyIn_ready (rs := [0, 2]) (by kernel_rfl) (by simp) ?_
        refine AllReadyIn.cons rfl (fun K hK => ?_) ?_
        · go_simp; refine hK _ _ ?_; clear hK K
          refine wpAnyIn_ready (rs := [2]) (by kernel_rfl) (by simp) ?_
          refine AllReadyIn.cons rfl (fun K hK => ?_) ?_
          · go_simp; refine hK _ _ ?_; clear hK K
            refine wpAnyIn_ready (rs := [3]) (by kernel_rfl) (by simp) ?_
            refine AllReadyIn.cons rfl (fun K hK => ?_) ?_
            · refine stepIn_append rfl _ _ 40 rfl _ _ _ rfl rfl hrun ?_; simp only [Act.put, List.setIfInBounds_toArray, List.set_cons_zero, List.set_cons_succ]; refine hK _ _ ?_; clear hK K
              refine wpAnyIn_ready (rs := [4]) (by kernel_rfl) (by simp) ?_
              refine AllReadyIn.cons rfl (fun K hK => ?_) ?_
              · go_simp; refine hK _ _ ?_; clear hK K
                refine wpAnyIn_ready (rs := [5]) (by kernel_rfl) (by simp) ?_
                refine AllReadyIn.cons rfl (fun K hK => ?_) ?_
                · go_simp; refine hK _ _ ?_; clear hK K
                  refine wpAnyIn_done (by kernel_rfl) ?_ _
                  gi_wp2
                  exact ⟨hleaf.1 _, hleaf.2⟩
                exact AllReadyIn.nil
              exact AllReadyIn.nil
            exact AllReadyIn.nil
          exact AllReadyIn.nil
        refine AllReadyIn.cons rfl (fun K hK => ?_) ?_
        · go_simp; refine hK _ _ ?_; clear hK K
          refine wpAnyIn_ready (rs := [0, 3]) (by kernel_rfl) (by simp) ?_
          refine AllReadyIn.cons rfl (fun K hK => ?_) ?_
          · go_simp; refine hK _ _ ?_; clear hK K
            refine wpAnyIn_ready (rs := [3]) (by kernel_rfl) (by simp) ?_
            refine AllReadyIn.cons rfl (fun K hK => ?_) ?_
            · refine stepIn_append rfl _ _ 40 rfl _ _ _ rfl rfl hrun ?_; simp only [Act.put, List.setIfInBounds_toArray, List.set_cons_zero, List.set_cons_succ]; refine hK _ _ ?_; clear hK K
              refine wpAnyIn_ready (rs := [4]) (by kernel_rfl) (by simp) ?_
              refine AllReadyIn.cons rfl (fun K hK => ?_) ?_
              · go_simp; refine hK _ _ ?_; clear hK K
                refine wpAnyIn_ready (rs := [5]) (by kernel_rfl) (by simp) ?_
                refine AllReadyIn.cons rfl (fun K hK => ?_) ?_
                · go_simp; refine hK _ _ ?_; clear hK K
                  refine wpAnyIn_done (by kernel_rfl) ?_ _
                  gi_wp2
                  exact ⟨hleaf.1 _, hleaf.2⟩
                exact AllReadyIn.nil
              exact AllReadyIn.nil
            exact AllReadyIn.nil
          refine AllReadyIn.cons rfl (fun K hK => ?_) ?_
          · refine stepIn_append rfl _ _ 40 rfl _ _ _ rfl rfl hrun ?_; simp only [Act.put, List.setIfInBounds_toArray, List.set_cons_zero, List.set_cons_succ]; refine hK _ _ ?_; clear hK K
            refine wpAnyIn_ready (rs := [0]) (by kernel_rfl) (by simp) ?_
            refine AllReadyIn.cons rfl (fun K hK => ?_) ?_
            · go_simp; refine hK _ _ ?_; clear hK K
              refine wpAnyIn_ready (rs := [4]) (by kernel_rfl) (by simp) ?_
              refine AllReadyIn.cons rfl (fun K hK => ?_) ?_
              · go_simp; refine hK _ _ ?_; clear hK K
                refine wpAnyIn_ready (rs := [5]) (by kernel_rfl) (by simp) ?_
                refine AllReadyIn.cons rfl (fun K hK => ?_) ?_
                · go_simp; refine hK _ _ ?_; clear hK K
                  refine wpAnyIn_done (by kernel_rfl) ?_ _
                  gi_wp2
                  exact ⟨hleaf.1 _, hleaf.2⟩
                exact AllReadyIn.nil
              exact AllReadyIn.nil
            exact AllReadyIn.nil
          exact AllReadyIn.nil
        exact AllReadyIn.nil
      refine AllReadyIn.cons rfl (fun K hK => ?_) ?_
      · go_simp; refine hK _ _ ?_; clear hK K
        refine wpAnyIn_ready (rs := [0, 1]) (by kernel_rfl) (by simp) ?_
        refine AllReadyIn.cons rfl (fun K hK => ?_) ?_
        · go_simp; refine hK _ _ ?_; clear hK K
          refine wpAnyIn_ready (rs := [1]) (by kernel_rfl) (by simp) ?_
          refine AllReadyIn.cons rfl (fun K hK => ?_) ?_
          · go_simp; refine hK _ _ ?_; clear hK K
            refine wpAnyIn_ready (rs := [3]) (by kernel_rfl) (by simp) ?_
            refine AllReadyIn.cons rfl (fun K hK => ?_) ?_
            · refine stepIn_append rfl _ _ 40 rfl _ _ _ rfl rfl hrun ?_; simp only [Act.put, List.setIfInBounds_toArray, List.set_cons_zero, List.set_cons_succ]; refine hK _ _ ?_; clear hK K
              refine wpAnyIn_ready (rs := [4]) (by kernel_rfl) (by simp) ?_
              refine AllReadyIn.cons rfl (fun K hK => ?_) ?_
              · go_simp; refine hK _ _ ?_; clear hK K
                refine wpAnyIn_ready (rs := [5]) (by kernel_rfl) (by simp) ?_
                refine AllReadyIn.cons rfl (fun K hK => ?_) ?_
                · go_simp; refine hK _ _ ?_; clear hK K
                  refine wpAnyIn_done (by kernel_rfl) ?_ _
                  gi_wp2
                  exact ⟨hleaf.1 _, hleaf.2⟩
                exact AllReadyIn.nil
              exact AllReadyIn.nil
            exact AllReadyIn.nil
          exact AllReadyIn.nil
        refine AllReadyIn.cons rfl (fun K hK => ?_) ?_
        · go_simp; refine hK _ _ ?_; clear hK K
          refine wpAnyIn_ready (rs := [0, 3]) (by kernel_rfl) (by simp) ?_
          refine AllReadyIn.cons rfl (fun K hK => ?_) ?_
          · go_simp; refine hK _ _ ?_; clear hK K
            refine wpAnyIn_ready (rs := [3]) (by kernel_rfl) (by simp) ?_
            refine AllReadyIn.cons rfl (fun K hK => ?_) ?_
            · refine stepIn_append rfl _ _ 40 rfl _ _ _ rfl rfl hrun ?_; simp only [Act.put, List.setIfInBounds_toArray, List.set_cons_zero, List.set_cons_succ]; refine hK _ _ ?_; clear hK K
              refine wpAnyIn_ready (rs := [4]) (by kernel_rfl) (by simp) ?_
              refine AllReadyIn.cons rfl (fun K hK => ?_) ?_
              · go_simp; refine hK _ _ ?_; clear hK K
                refine wpAnyIn_ready (rs := [5]) (by kernel_rfl) (by simp) ?_
                refine AllReadyIn.cons rfl (fun K hK => ?_) ?_
                · go_simp; refine hK _ _ ?_; clear hK K
                  refine wpAnyIn_done (by kernel_rfl) ?_ _
                  gi_wp2
                  exact ⟨hleaf.1 _, hleaf.2⟩
                exact AllReadyIn.nil
              exact AllReadyIn.nil
            exact AllReadyIn.nil
          refine AllReadyIn.cons rfl (fun K hK => ?_) ?_
          · refine stepIn_append rfl _ _ 40 rfl _ _ _ rfl rfl hrun ?_; simp only [Act.put, List.setIfInBounds_toArray, List.set_cons_zero, List.set_cons_succ]; refine hK _ _ ?_; clear hK K
            refine wpAnyIn_ready (rs := [0]) (by kernel_rfl) (by simp) ?_
            refine AllReadyIn.cons rfl (fun K hK => ?_) ?_
            · go_simp; refine hK _ _ ?_; clear hK K
              refine wpAnyIn_ready (rs := [4]) (by kernel_rfl) (by simp) ?_
              refine AllReadyIn.cons rfl (fun K hK => ?_) ?_
              · go_simp; refine hK _ _ ?_; clear hK K
                refine wpAnyIn_ready (rs := [5]) (by kernel_rfl) (by simp) ?_
                refine AllReadyIn.cons rfl (fun K hK => ?_) ?_
                · go_simp; refine hK _ _ ?_; clear hK K
                  refine wpAnyIn_done (by kernel_rfl) ?_ _
                  gi_wp2
                  exact ⟨hleaf.1 _, hleaf.2⟩
                exact AllReadyIn.nil
              exact AllReadyIn.nil
            exact AllReadyIn.nil
          exact AllReadyIn.nil
        exact AllReadyIn.nil
      exact AllReadyIn.nil
  case done =>
    rintro D ys V hDD rfl ⟨⟨hD, hS⟩, ⟨v, hv, hrow, -⟩, hB⟩ hK
    have M := mok t (ints (upto f len)) (ints_in _)
    have hpl : (ints (upto f len)).length = len := by simp [upto]
    have hml : mall t (ints (upto f len)) = (mfold t (ints (upto f len))).2 ++ (fin (mfold t (ints (upto f len))).1.1 (mfold t (ints (upto f len))).1.2.1 (mfold t (ints (upto f len))).1.2.2).toList := rfl
    obtain ⟨A, hA⟩ : ∃ A, mfold t (ints (upto f len)) = A := ⟨_, rfl⟩
    rw [hA] at hS hrow M hml
    obtain ⟨⟨c, mn, mx⟩, os⟩ := A
    obtain ⟨m0, m1, m2, m3, m4⟩ := M
    dsimp only at hS hrow m0 m1 m2 m3 m4 hml
    have HML := hid hml
    clear hml
    obtain ⟨av, lv, cv, rfl⟩ := row_slice hrow
    have hO : HB V (w.heap.size + 1 + 1) #[.slice av lv cv] := ⟨_, hv⟩
    clear hA hc hI hB0 hb1 hb2
    obtain ⟨B1, B1c, B1f, B1l⟩ := Bx.of hD
    obtain ⟨B2, B2c, B2f, B2l⟩ := Bx.of hS
    obtain ⟨B3, B3c, B3f, B3l⟩ := Bx.of hO
    gi_wp2
    refine wpIn_wide.2 (Code.wp_mono noPanic_le ?_)
    
    (refine wp_region_dq (row := none) (S := (fun Wz => Below V.heap.size V Wz ∧ V.heap.size ≤ Wz.heap.size ∧ Bx Wz (w.heap.size) (#[dStep, dRest]) ∧ Bx Wz (w.heap.size + 1) (#[.int .i64 t, .int .i64 c, .int .i64 mn, .int .i64 mx]) ∧ Bx Wz (w.heap.size + 1 + 1) (#[.slice av lv cv]))) (n0 := V.heap.size) 5 [] [(0, 0), (1, 0), (2, 0), (3, 0), (4, 1)] [] (by kernel_rfl) (by kernel_rfl) (fun _ _ d _ _ h => by cases d <;> exact h) ⟨by (repeat' (first | (with_reducible assumption) | (with_reducible exact Below.refl _ _) | (with_reducible refine Below.alloc ?_ ?_ _) | (with_reducible refine Below.setCell ?_ ?_ _) | (with_reducible refine Below.drew ?_) | (with_reducible refine below_more ?_ (by with_reducible assumption)) | go_size | omega | (with_reducible refine below_drewN ?_))), (by first | go_size | omega), Bx.of (by (repeat' (first | (with_reducible assumption) | ((with_reducible refine HB.new _ _ _ ?_) <;> (go_size; done)) | (with_reducible refine HB.old (by go_size) ?_) | (with_reducible refine HB.drew ?_) | (with_reducible refine HB.over5 ?_) | (with_reducible refine HB.over4 ?_) | (with_reducible refine HB.setne (by first | go_size | (dsimp only; omega)) ?_) | (with_reducible refine HN.set ?_) | (with_reducible refine HN.setne (by first | go_size | (dsimp only; omega)) ?_) | (with_reducible refine HN.drew ?_) | (with_reducible refine HN.old (by go_size) ?_) | (with_reducible exact HN.of5 (by assumption)) | (with_reducible exact HN.new5 _ _ (by go_size)) | (with_reducible exact HN.of4 (by assumption)) | (with_reducible exact HN.new4 _ _ (by go_size))))), Bx.of (by (repeat' (first | (with_reducible assumption) | ((with_reducible refine HB.new _ _ _ ?_) <;> (go_size; done)) | (with_reducible refine HB.old (by go_size) ?_) | (with_reducible refine HB.drew ?_) | (with_reducible refine HB.over5 ?_) | (with_reducible refine HB.over4 ?_) | (with_reducible refine HB.setne (by first | go_size | (dsimp only; omega)) ?_) | (with_reducible refine HN.set ?_) | (with_reducible refine HN.setne (by first | go_size | (dsimp only; omega)) ?_) | (with_reducible refine HN.drew ?_) | (with_reducible refine HN.old (by go_size) ?_) | (with_reducible exact HN.of5 (by assumption)) | (with_reducible exact HN.new5 _ _ (by go_size)) | (with_reducible exact HN.of4 (by assumption)) | (with_reducible exact HN.new4 _ _ (by go_size))))), Bx.of (by (repeat' (first | (with_reducible assumption) | ((with_reducible refine HB.new _ _ _ ?_) <;> (go_size; done)) | (with_reducible refine HB.old (by go_size) ?_) | (with_reducible refine HB.drew ?_) | (with_reducible refine HB.over5 ?_) | (with_reducible refine HB.over4 ?_) | (with_reducible refine HB.setne (by first | go_size | (dsimp only; omega)) ?_) | (with_reducible refine HN.set ?_) | (with_reducible refine HN.setne (by first | go_size | (dsimp only; omega)) ?_) | (with_reducible refine HN.drew ?_) | (with_reducible refine HN.old (by go_size) ?_) | (with_reducible exact HN.of5 (by assumption)) | (with_reducible exact HN.new5 _ _ (by go_size)) | (with_reducible exact HN.of4 (by assumption)) | (with_reducible exact HN.new4 _ _ (by go_size)))))⟩ (fun _ _ h g => keep3 h (below_gt g) rfl) (fun _ h => h.2.1) (fun _ h => by cases h) (by simp) ?_)
    refine' dq_pure (by rfl) (by rfl) ?hv1 ?rest1
    case hv1 => (intro w hw; (try dsimp only at hw); go_split_ands; go_simp; try with_reducible rfl)
    case' rest1 => try simp only [Act.put, List.setIfInBounds_toArray, List.set_cons_zero, List.set_cons_succ]
    refine' dq_pure (by rfl) (by rfl) ?hv2 ?rest2
    case hv2 => (intro w hw; (try dsimp only at hw); go_split_ands; go_simp; try with_reducible rfl)
    case' rest2 => try simp only [Act.put, List.setIfInBounds_toArray, List.set_cons_zero, List.set_cons_succ]
    refine' dq_pure (by rfl) (by rfl) ?hv3 ?rest3
    case hv3 => (intro w hw; (try dsimp only at hw); go_split_ands; go_simp; try with_reducible rfl)
    case' rest3 => try simp only [Act.put, List.setIfInBounds_toArray, List.set_cons_zero, List.set_cons_succ]
    refine' dq_pure (by rfl) (by rfl) ?hv4 ?rest4
    case hv4 => (intro w hw; (try dsimp only at hw); go_split_ands; go_simp; try with_reducible rfl)
    case' rest4 => try simp only [Act.put, List.setIfInBounds_toArray, List.set_cons_zero, List.set_cons_succ]
    refine' dq_ask (R := (fun vv Wz => Ended V.heap.size Wz vv (fin c mn mx))) (by rfl) (by rfl) ?hv5 ?hc5 ?rest5 (fun _ _ h g => keep3 h (below_gt g) rfl)
    case hv5 => (intro w; go_simp; exact ⟨rfl, rfl⟩)
    case hc5 => exact (fun wq hsq htq => (rest_any m2 m3 wq).mono fun e w' ⟨vv, he, hE, hb⟩ => ⟨vv, he, hE.mono hsq.2.1, gt_below hb _⟩)
    case' rest5 => try simp only [Act.put, List.setIfInBounds_toArray, List.set_cons_zero, List.set_cons_succ]
    intro vr wr hsr hgr hE
    refine dq_nil ?_
    simp only [fa, List.drop_succ_cons, List.drop_zero]
    rintro W ⟨⟨hb0, hn0, ⟨B1, B1c, B1f, B1l⟩, ⟨B2, B2c, B2f, B2l⟩, ⟨B3, B3c, B3f, B3l⟩⟩, hgl⟩ hbs
    clear hbs
    have hE2 := hE.below (below_gt hgl)
    have hrowW := hrow.kept (gt_below hb0 none) (Classical.em _)
    have hKO : KeepsOthers V W := KeepsOthers.of_grownBy (gt_below hb0 none) (fun j o ej => by cases ej)
    have hKW := hKO.same D _ hK rfl
    have hVs := hB.size
    rcases hE2 with ⟨rfl, hn⟩ | ⟨b, cc, mm, rfl, hn, hbb, hHB⟩
    · refine wpList_append_run rfl _ _ 40 rfl _ _ _ rfl rfl (append_none' W _ _ _ i0 Try.underlying40 hi hrowW) ?_
      (repeat' (first | go_values | go_skip | go_guarded | go_step | go_upon | (simp only [Int.not_lt, Int.not_le] at *; go_simp) | (go_values <;> (try go_simp)) | (go_ite <;> go_prune <;> (try go_simp)) | (split <;> (first | (rename_i hx; exact (hx _ rfl).elim) | go_prune))))
      simp only [noPanic]
      gi_wp2
      refine ⟨by simp, .inl ⟨_, _, rfl, run_takeDeferred hKW, ?_⟩⟩
      refine ⟨_, results_tmp rfl _ _ _, .slice av lv cv, rfl, ?_, (hB.trans (hb0.mono hB.size)).trans (belowK_b (w := w) (Nat.le_refl _) W D _ _ (by simp at hDD; omega) hKW rfl rfl)⟩
      rw [HML.out, hn]
      simp only [Option.toList, List.append_nil]
      exact ownsRow_putObj (own_base hrowW (by omega)) _ hKW rfl
    · have hol : os.length ≤ 1073741824 := by omega
      obtain ⟨v', w2, hrun, hown', hgrow, -⟩ := run_append_own (P := Try.prog) W (w.heap.size + 1 + 1 + 1) 40 40 48 i0 (.agg #[.int .i64 0, .int .i64 0]) 2 16 Try.underlying40 hi hz0 hz1 hz2 rfl (by decide) (.slice av lv cv) os.length (scells os) hrowW ⟨b, 0, none⟩ 1 1 [.int .i64 cc, .int .i64 mm] rfl (two_at hHB) (by intro u hu; simp at hu; rcases hu with rfl | rfl <;> rfl) (by unfold maxLen; omega) (by omega) (by omega)
      obtain ⟨g', cap', rfl⟩ := ownsRow_succ hown'
      have hKW2 : w2.heap[D]? = some (.deferred (some [])) := (app_keeps hrowW hgrow).same D _ hKW rfl
      have hb2 : Below w.heap.size w w2 := (hB.trans (hb0.mono hB.size)).trans (app_below hrowW hgrow (by omega) (by omega))
      refine wpList_append_run rfl _ _ 40 rfl _ _ _ rfl rfl hrun ?_
      (repeat' (first | go_values | go_skip | go_guarded | go_step | go_upon | (simp only [Int.not_lt, Int.not_le] at *; go_simp) | (go_values <;> (try go_simp)) | (go_ite <;> go_prune <;> (try go_simp)) | (split <;> (first | (rename_i hx; exact (hx _ rfl).elim) | go_prune))))
      simp only [noPanic]
      gi_wp2
      refine ⟨by simp, .inl ⟨_, _, rfl, run_takeDeferred hKW2, ?_⟩⟩
      refine ⟨_, results_tmp rfl _ _ _, .slice (some ⟨g', 0, none⟩) (os.length + 1) cap', rfl, ?_, hb2.trans (belowK_b (w := w) (Nat.le_refl _) w2 D _ _ (by simp at hDD; omega) hKW2 rfl rfl)⟩
      rw [HML.out, hn]
      rw [show (os ++ (some (cc, mm)).toList).length = os.length + 1 by simp, show scells (os ++ (some (cc, mm)).toList) = scells os ++ [.int .i64 cc, .int .i64 mm] by simp [scells, scell]]
      exact ownsRow_putObj (own_base hown' (by omega)) _ hKW2 rfl
  case stop =>
    rintro D c pre W _ _ h _
    exact h.elim
end Go.Proofs.Ytenaeaojnebokaa
