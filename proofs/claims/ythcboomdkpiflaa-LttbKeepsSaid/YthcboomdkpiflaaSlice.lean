/- Slices of words: what is read, rows of the call's own, append, store. -/
import Derived.Test.YthcboomdkpiflaaRows
import Derived.Test.YthcboomdkpiflaaRPlain
import Derived.Test.YthcboomdkpiflaaWideB
import Derived.Test.YthcboomdkpiflaaTool
import Derived.Maps.AppendAt
import Derived.OwnWalk
import Derived.WalkKit
import Derived.ProofKit
import Derived.Laws.OwnMore
import Derived.RegionTactic
namespace Go.Proofs.Ythcboomdkpiflaa
open Go.ChangeShapes Go.WideShapes Go.ChangeAt Go.RowKit
set_option linter.unusedVariables false
set_option linter.unusedSimpArgs false

/-- The slice v reads as these words. -/
def SlU (W : World) (v : Value) (ws : List Int) : Prop := ∃ (a : Option Addr) (len cap : Nat), v = .slice a len cap ∧ ws.length = len ∧ len ≤ cap ∧ cap ≤ 9223372036854775807 ∧ Ws ws ∧
  (0 < cap → ∃ b off, a = some ⟨b, off, none⟩ ∧ b < W.heap.size ∧ ∀ i, i < len → W.cell? ⟨b, off + i, none⟩ = some (.int .u64 (ws.getD i 0)))
theorem SlU.below {W W' : World} {v : Value} {ws : List Int} (h : SlU W v ws) (hb : Below W.heap.size W W') : SlU W' v ws := by
  obtain ⟨a, len, cap, e, h1, h2, h3, h4, h5⟩ := h
  refine ⟨a, len, cap, e, h1, h2, h3, h4, fun hc => ?_⟩
  obtain ⟨b, off, ea, hlt, hcell⟩ := h5 hc
  exact ⟨b, off, ea, Nat.lt_of_lt_of_le hlt hb.size, fun i hi => (hb.cell (p := ⟨b, off + i, none⟩) hlt).trans (hcell i hi)⟩
theorem SlU.alloc {W : World} {v : Value} {ws : List Int} (h : SlU W v ws) (o : Obj) : SlU (W.alloc o) v ws := h.below ((Below.refl _ _).alloc (Nat.le_refl _) _)
theorem SlU.drew {W : World} {v : Value} {ws : List Int} (h : SlU W v ws) : SlU W.drew v ws := h
theorem SlU.ws {W : World} {v : Value} {ws : List Int} (h : SlU W v ws) : Ws ws := by obtain ⟨_, _, _, _, _, _, _, h, _⟩ := h; exact h
def slLen : Value → Nat
  | .slice _ k _ => k
  | _ => 0
theorem SlU.canon {W : World} {a : Option Addr} {len cap : Nat} {ws : List Int} (h : SlU W (.slice a len cap) ws) : SlU W (.slice a (wl (VL ws)).length cap) (wl (VL ws)) := by
  obtain ⟨a', len', cap', e, h1, h2, h3, h4, h5⟩ := h
  cases e
  obtain ⟨k, hk, e, hz, hl⟩ := wl_VL h4
  have hlen : (wl (VL ws)).length = k := by rw [e, List.length_take]; omega
  refine ⟨a, _, cap, rfl, rfl, by omega, h3, wl_words _, fun hc => ?_⟩
  obtain ⟨b, off, ea, hlt, hcell⟩ := h5 hc
  refine ⟨b, off, ea, hlt, fun i hi => ?_⟩
  rw [hcell i (by omega), e, List.getD_eq_getElem?_getD, List.getD_eq_getElem?_getD, List.getElem?_take, if_pos (by omega)]

def uw (ws : List Int) : List Value := ws.map (Value.int .u64)
theorem uw_one (ws : List Int) : ∀ u ∈ uw ws, u.oneCell' = true := by
  intro u hu
  obtain ⟨x, _, rfl⟩ := List.mem_map.1 hu
  rfl
theorem uw_len (ws : List Int) : (uw ws).length = ws.length := by simp [uw]
theorem uw_at (ws : List Int) (j : Nat) (u : Value) (h : (uw ws)[j]? = some u) : j < ws.length ∧ u = .int .u64 (ws.getD j 0) := by
  unfold uw at h
  rw [List.getElem?_map] at h
  rcases Nat.lt_or_ge j ws.length with hj | hj
  · rw [List.getElem?_eq_getElem hj] at h
    refine ⟨hj, ?_⟩
    rw [List.getD_eq_getElem?_getD, List.getElem?_eq_getElem hj]
    simpa using h.symm
  · rw [List.getElem?_eq_none hj] at h; simp at h
theorem uw_get (ws : List Int) (j : Nat) (hj : j < ws.length) : (uw ws)[j]? = some (.int .u64 (ws.getD j 0)) := by
  unfold uw
  rw [List.getElem?_map, List.getElem?_eq_getElem hj, List.getD_eq_getElem?_getD, List.getElem?_eq_getElem hj]; rfl

/-- A row of the call's own that reads as these words. -/
def OwnU (w : World) (base : Nat) (v : Value) (ws : List Int) : Prop := w.ownsRow base 24 1 v ws.length (uw ws) ∧ Ws ws
theorem OwnU.form {w : World} {base : Nat} {v : Value} {ws : List Int} (h : OwnU w base v ws) : (v = .slice none 0 0 ∧ ws = []) ∨ ∃ g cap, v = .slice (some ⟨g, 0, none⟩) ws.length cap ∧ base ≤ g ∧ g < w.heap.size ∧ ws.length ≤ cap ∧ cap ≤ maxLen ∧
    (∀ j, j < ws.length → w.cell? ⟨g, j, none⟩ = some (.int .u64 (ws.getD j 0))) ∧ (∀ j, w.frozen? ⟨g, j, none⟩ = false) := by
  obtain ⟨h, hw⟩ := h
  have hlt := h.lt
  have h0 := h
  obtain ⟨h1, h2⟩ := h
  rcases h2 with ⟨rfl, hn⟩ | ⟨g, cap, cur, rfl, h3, h4, h5, h6, h7⟩
  · exact .inl ⟨rfl, List.length_eq_zero_iff.1 hn⟩
  · refine .inr ⟨g, cap, rfl, h3, (hlt g rfl).2, h5, h6, fun j hj => ?_, fun j => h0.frozenAt j⟩
    rw [h0.cellAt j (by omega)]; exact uw_get ws j hj
theorem OwnU.sl {w : World} {base : Nat} {v : Value} {ws : List Int} (h : OwnU w base v ws) : SlU w v ws := by
  rcases h.form with ⟨rfl, rfl⟩ | ⟨g, cap, rfl, h1, h2, h3, h4, h5, h6⟩
  · exact ⟨none, 0, 0, rfl, rfl, Nat.le_refl _, by decide, Ws.nil, fun h => absurd h (by omega)⟩
  · exact ⟨_, _, cap, rfl, rfl, h3, by simpa [maxLen] using h4, h.2, fun _ => ⟨g, 0, rfl, h2, fun i hi => by rw [Nat.zero_add]; exact h5 i hi⟩⟩
theorem OwnU.base {w : World} {b b' : Nat} {v : Value} {ws : List Int} (h : OwnU w b v ws) (hb : b' ≤ b) : OwnU w b' v ws := by
  obtain ⟨⟨h1, h2⟩, h3⟩ := h
  refine ⟨⟨h1, ?_⟩, h3⟩
  rcases h2 with h2 | ⟨g, cap, cur, h2, h4, h5⟩
  · exact .inl h2
  · exact .inr ⟨g, cap, cur, h2, Nat.le_trans hb h4, h5⟩
theorem OwnU.below {w w' : World} {b : Nat} {v : Value} {ws : List Int} (h : OwnU w b v ws) (hb : Below w.heap.size w w') : OwnU w' b v ws :=
  ⟨h.1.kept (row := none) ⟨hb.os, hb.tape, hb.output, hb.size, fun k hk _ => hb.block k hk⟩ (by cases v.ownBlock <;> simp), h.2⟩
theorem OwnU.drew {w : World} {b : Nat} {v : Value} {ws : List Int} (h : OwnU w b v ws) : OwnU w.drew b v ws := h
/-- A store into it. -/
theorem OwnU.stored {w : World} {base g cap : Nat} {ws : List Int} {n : Nat} (h : OwnU w base (.slice (some ⟨g, 0, none⟩) n cap) ws) (hn : n = ws.length) (j : Nat) (hj : j < ws.length) {x : Int} (hx : U64 x) :
    OwnU (w.setCell ⟨g, j, none⟩ (.int .u64 x)) base (.slice (some ⟨g, 0, none⟩) n cap) (ws.set j x) := by
  subst hn
  obtain ⟨h1, h2⟩ := h
  refine ⟨?_, h2.set hx j⟩
  have := h1.stored j (.int .u64 x)
  rw [List.length_set]
  have e : uw (ws.set j x) = (uw ws).set j (.int .u64 x) := by simp [uw, List.map_set]
  rw [e]
  exact this.1
theorem OwnU.lit (w : World) (cs : List Int) (h : Ws cs) (T : TypeId) (hT : T = 24) (hm : cs.length ≤ maxLen) : OwnU (w.alloc (.cells (uw cs).toArray T (0, 0))) w.heap.size (.slice (some ⟨w.heap.size, 0, none⟩) cs.length cs.length) cs := by
  subst hT
  have := World.ownsRow_lit (base := w.heap.size) (e := 24) (size := 1) w (uw cs).toArray cs.length (Nat.le_refl _) hm (by simp [uw])
  exact ⟨by simpa using this, h⟩

theorem OwnU.empty (w : World) (T : TypeId) (hT : T = 24) {b base : Nat} (hb : b = w.heap.size) (hle : base ≤ w.heap.size) : OwnU (w.alloc (.cells #[] T (0, 0))) base (.slice (some ⟨b, 0, none⟩) 0 0) [] := by
  subst hb
  exact (OwnU.lit w [] Ws.nil T hT (by decide)).base hle

section
variable {P : Program} (w : World)
theorem run_append_types {t t2 ty e e2 : TypeId} (ht : P.underlying t = some (.slice e)) (ht2 : P.underlying t2 = some (.slice e2)) (i : TypeInfo) (hi : P.info? e = some i) (A B : Option Addr) (n c m d : Nat) : (Builtin.append_ #[t, t2] ty #[.slice A n c, .slice B m d]).run P w = (Builtin.append_ #[t, t] ty #[.slice A n c, .slice B m d]).run P w := by
  simp [Builtin.append_, run_underlying ht, run_underlying ht2, sizeOf, typeInfo, hi, Builtin.lenOf]
theorem run_append_u (base : Nat) {t t2 ty e2 : TypeId} {i : TypeInfo} (ht : P.underlying t = some (.slice 24)) (ht2 : P.underlying t2 = some (.slice e2)) (hi : P.info? 24 = some i) (hz : i.zero = some (.int .u64 0)) (hsize : i.size = 1) (hby : i.bytes = 8)
    {v src : Value} {ws ms : List Int} (hown : OwnU w base v ws) (hsrc : SlU w src ms) (hsmall : ws.length + ms.length ≤ 4294967296) (hbase : base ≤ w.heap.size) :
    ∃ v' w', (Builtin.append_ #[t, t2] ty #[v, src]).run P w = .ok v' w' ∧ OwnU w' base v' (ws ++ ms) ∧ w.grownBy w' v.ownBlock ∧ (v'.ownBlock = v.ownBlock ∨ v'.ownBlock = some w.heap.size) := by
  obtain ⟨A, m, c, rfl, h1, h2, h3, h4, h5⟩ := hsrc
  obtain ⟨A0, n0, c0, hv⟩ : ∃ A0 n0 c0, v = .slice A0 n0 c0 := by
    rcases hown.form with ⟨rfl, _⟩ | ⟨g, cap, rfl, _⟩ <;> exact ⟨_, _, _, rfl⟩
  have hty : (Builtin.append_ #[t, t2] ty #[v, .slice A m c]).run P w = (Builtin.append_ #[t, t] ty #[v, .slice A m c]).run P w := by subst hv; exact run_append_types w ht ht2 i hi _ _ _ _ _ _
  rw [hty]
  clear hv hty
  have fin : ∀ {v' w'}, w'.ownsRow base 24 1 v' (ws.length + m) (uw ws ++ uw ms) → OwnU w' base v' (ws ++ ms) := fun h => ⟨by rw [List.length_append, h1]; simpa [uw] using h, hown.2.append h4⟩
  rcases Nat.eq_zero_or_pos c with h0 | h0
  · obtain rfl : m = 0 := by omega
    obtain rfl : ms = [] := List.length_eq_zero_iff.1 h1
    refine ⟨v, w, ?_, by simpa using hown, World.grownBy.refl w _, .inl rfl⟩
    rcases hown.1.2 with ⟨rfl, hn⟩ | ⟨g, cap, cur, rfl, _, _, hnc, _⟩
    · cases A <;> simp [Builtin.append_, run_underlying ht, sizeOf, typeInfo, hi, Builtin.lenOf, Builtin.firstCells, storeCells, loadCells, loadCellsFrom]
    · cases A <;> simp [Builtin.append_, run_underlying ht, sizeOf, typeInfo, hi, Builtin.lenOf, Builtin.firstCells, hnc, storeCells, loadCells, loadCellsFrom]
  · obtain ⟨b, off, rfl, hlt, hcell⟩ := h5 h0
    obtain ⟨v', w', hrun, h6, h7, _, h8⟩ := run_append_own_at (P := P) w base t ty 24 i (.int .u64 0) 1 8 ht hi hz hsize hby rfl (by decide) v ws.length (uw ws) hown.1 ⟨b, off, none⟩ m c (uw ms) (by rw [uw_len]; omega)
      (fun j u hu => by
        obtain ⟨hj, rfl⟩ := uw_at ms j u hu
        have e : (⟨b, off, none⟩ : Addr).add j = ⟨b, off + j, none⟩ := by unfold Addr.add; split <;> simp_all
        rw [e]; exact hcell j (by omega)) (uw_one ms) (by simp only [maxLen]; omega) (by omega) hbase
    exact ⟨v', w', hrun, fin h6, h7, h8⟩
theorem wpList_append_u {ops : Array Oper} {rest : List Oper} {o : Oper} {a : Act} {Q : Exit → Act → World → Prop} (hgd : o.guard = none) (s x : Operand) (t t2 : TypeId)
    (ho : o.op = .call { callee := .builtin .append, args := #[s, x], argTypes := #[t, t2] }) (base : Nat) {e2 : TypeId} {i : TypeInfo} (ht : P.underlying t = some (.slice 24)) (ht2 : P.underlying t2 = some (.slice e2)) (hi : P.info? 24 = some i) (hz : i.zero = some (.int .u64 0)) (hsize : i.size = 1) (hby : i.bytes = 8)
    {v src : Value} {ws ms : List Int} (hs : a.eval s = v) (hx : a.eval x = src) (hown : OwnU w base v ws) (hsrc : SlU w src ms) (hsmall : ws.length + ms.length ≤ 4294967296) (hbase : base ≤ w.heap.size)
    (h : ∀ v' w', OwnU w' base v' (ws ++ ms) → w.grownBy w' v.ownBlock → (v'.ownBlock = v.ownBlock ∨ v'.ownBlock = some w.heap.size) → wpList P ops Q rest (a.put o.dst v') w') : wpList P ops Q (o :: rest) a w := by
  refine wpList_plain hgd fun K hK => ?_
  obtain ⟨v', w', hrun, h2, h3, h4⟩ := run_append_u (P := P) (ty := o.type) w base ht ht2 hi hz hsize hby hown hsrc hsmall hbase
  unfold Oper.wp execOp
  simp only [ho, resolve, invoke, builtin, Sem.run_bind, Sem.run_pure, Result.andThen_ok, List.map_toArray, List.map_cons, List.map_nil, hs, hx, hrun]
  exact hK _ _ (h v' w' h2 h3 h4)
end
end Go.Proofs.Ythcboomdkpiflaa
