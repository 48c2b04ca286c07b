/- Plain: what the segments of a list are. No program in sight. -/
import Derived.Test.YtenaeaojnebokaaRows
import Derived.Test.YtenaeaojnebokaaMidO
namespace Go.Proofs.Ytenaeaojnebokaa
open Go.ChangeShapes Go.WideShapes Go.ChangeAt Go.RowKit
set_option linter.unusedVariables false
set_option linter.unusedSimpArgs false

theorem keep0 {w W W' : World} {m n : Nat} (h : Below w.heap.size w W ∧ n ≤ W.heap.size ∧ True) (hb : Below m W W') (hm : m = W.heap.size) : Below w.heap.size w W' ∧ n ≤ W'.heap.size ∧ True := by
  subst hm
  exact ⟨below_more h.1 hb, Nat.le_trans h.2.1 hb.size, trivial⟩
def bmn : List Int → Int
  | [] => 0
  | v :: vs => vs.foldl min v
def bmx : List Int → Int
  | [] => 0
  | v :: vs => vs.foldl max v
theorem bmn_snoc {b : List Int} (h : b ≠ []) (v : Int) : bmn (b ++ [v]) = min (bmn b) v := by
  cases b with
  | nil => exact absurd rfl h
  | cons x xs => simp [bmn, List.foldl_append]
theorem bmx_snoc {b : List Int} (h : b ≠ []) (v : Int) : bmx (b ++ [v]) = max (bmx b) v := by
  cases b with
  | nil => exact absurd rfl h
  | cons x xs => simp [bmx, List.foldl_append]
/-- A list in its segments: a number of values and their middle; narrow; with the next value no more. -/
def Parts (t : Int) : List (Int × Int) → List Int → Prop
  | [], zs => zs = []
  | (c, m) :: os, zs => ∃ blk rest, zs = blk ++ rest ∧ (blk.length : Int) = c ∧ blk ≠ [] ∧ m = (bmn blk + bmx blk) / 2 ∧ narr t (bmn blk) (bmx blk) = true ∧ (∀ v vs, rest = v :: vs → narr t (min (bmn blk) v) (max (bmx blk) v) = false) ∧ Parts t os rest
/-- The segments of what is still to come. -/
def goOn (t : Int) : Int × Int × Int → List Int → List (Int × Int)
  | s, [] => (fin s.1 s.2.1 s.2.2).toList
  | s, v :: vs => (nEnd t s.1 s.2.1 s.2.2 v).toList ++ goOn t (stp t s v) vs
theorem goOn_fold (t : Int) : ∀ (zs : List Int) (a : (Int × Int × Int) × List (Int × Int)), (zs.foldl (acc t) a).2 ++ (fin (zs.foldl (acc t) a).1.1 (zs.foldl (acc t) a).1.2.1 (zs.foldl (acc t) a).1.2.2).toList = a.2 ++ goOn t a.1 zs
  | [], a => rfl
  | z :: zs, a => by
    rw [List.foldl_cons, goOn_fold t zs (acc t a z)]
    show (a.2 ++ _) ++ goOn t (stp t a.1 z) zs = a.2 ++ (_ ++ goOn t (stp t a.1 z) zs)
    rw [List.append_assoc]
theorem mall_goOn (t : Int) (zs : List Int) : mall t zs = goOn t (0, 0, 0) zs := by
  have := goOn_fold t zs ((0, 0, 0), [])
  simpa [mall, mfold] using this
theorem parts_on {t : Int} (ht : tolb t = true) : ∀ (zs blk : List Int), blk ≠ [] → narr t (bmn blk) (bmx blk) = true → Parts t (goOn t ((blk.length : Int), bmn blk, bmx blk) zs) (blk ++ zs)
  | [], blk, hb, hn => by
    have hl : 0 < blk.length := by cases blk with
      | nil => exact absurd rfl hb
      | cons x xs => simp
    have e : goOn t ((blk.length : Int), bmn blk, bmx blk) [] = [((blk.length : Int), (bmn blk + bmx blk) / 2)] := by
      show (fin _ _ _).toList = _
      unfold fin
      rw [if_neg (by show ¬ (blk.length : Int) = 0; omega)]
      rfl
    rw [e]
    exact ⟨blk, [], by simp, rfl, hb, rfl, hn, (fun v vs h => by cases h), rfl⟩
  | v :: vs, blk, hb, hn => by
    have hl : 0 < blk.length := by cases blk with
      | nil => exact absurd rfl hb
      | cons x xs => simp
    by_cases hg : narr t (min (bmn blk) v) (max (bmx blk) v) = true
    · have hgo : goes t (blk.length : Int) (bmn blk) (bmx blk) v = true := by unfold goes; rw [hg]; simp; omega
      have e : goOn t ((blk.length : Int), bmn blk, bmx blk) (v :: vs) = goOn t (((blk ++ [v]).length : Int), bmn (blk ++ [v]), bmx (blk ++ [v])) vs := by
        show (nEnd t _ _ _ v).toList ++ goOn t (stp t _ v) vs = _
        unfold nEnd stp nC nMin nMax
        simp only [hgo, if_true]
        rw [bmn_snoc hb, bmx_snoc hb, List.length_append]
        simp
      rw [e, show blk ++ v :: vs = (blk ++ [v]) ++ vs by simp]
      exact parts_on ht vs (blk ++ [v]) (by simp) (by rw [bmn_snoc hb, bmx_snoc hb]; exact hg)
    · have hg' : narr t (min (bmn blk) v) (max (bmx blk) v) = false := by simpa using hg
      have hgo : goes t (blk.length : Int) (bmn blk) (bmx blk) v = false := by unfold goes; rw [hg']; simp
      have e : goOn t ((blk.length : Int), bmn blk, bmx blk) (v :: vs) = ((blk.length : Int), (bmn blk + bmx blk) / 2) :: goOn t ((([v] : List Int).length : Int), bmn [v], bmx [v]) vs := by
        show (nEnd t _ _ _ v).toList ++ goOn t (stp t _ v) vs = _
        unfold nEnd stp nC nMin nMax fin
        simp only [hgo, Bool.false_eq_true, if_false]
        rw [if_neg (by omega)]
        rfl
      rw [e]
      exact ⟨blk, v :: vs, rfl, rfl, hb, rfl, hn, (fun v' vs' h => by cases h; exact hg'), parts_on ht vs [v] (by simp) (narr_self ht v)⟩
theorem parts_all {t : Int} (ht : tolb t = true) (zs : List Int) : Parts t (mall t zs) zs := by
  rw [mall_goOn]
  cases zs with
  | nil => exact rfl
  | cons v vs =>
    have hgo : goes t 0 0 0 v = false := by unfold goes; simp
    have e : goOn t (0, 0, 0) (v :: vs) = goOn t ((([v] : List Int).length : Int), bmn [v], bmx [v]) vs := by
      show (nEnd t 0 0 0 v).toList ++ goOn t (stp t (0, 0, 0) v) vs = _
      unfold nEnd stp nC nMin nMax fin
      simp only [hgo, Bool.false_eq_true, if_false, if_true]
      rfl
    rw [e]
    exact parts_on ht vs [v] (by simp) (narr_self ht v)
/-- The least of a list, begun with its first. -/
theorem fold_min_self (b : List Int) (x : Int) (h : b.head? = some x) : b.foldl min x = bmn b := by
  cases b with
  | nil => cases h
  | cons y ys =>
    simp at h
    subst h
    simp [bmn]
theorem fold_max_self (b : List Int) (x : Int) (h : b.head? = some x) : b.foldl max x = bmx b := by
  cases b with
  | nil => cases h
  | cons y ys =>
    simp at h
    subst h
    simp [bmx]
theorem fold_min_i64 : ∀ (b : List Int) (x : Int), I64 x → (∀ z ∈ b, I64 z) → I64 (b.foldl min x)
  | [], x, hx, _ => hx
  | y :: ys, x, hx, h => fold_min_i64 ys (min x y) (min_i64 hx (h y (by simp))) (fun z hz => h z (by simp [hz]))
theorem fold_max_i64 : ∀ (b : List Int) (x : Int), I64 x → (∀ z ∈ b, I64 z) → I64 (b.foldl max x)
  | [], x, hx, _ => hx
  | y :: ys, x, hx, h => fold_max_i64 ys (max x y) (max_i64 hx (h y (by simp))) (fun z hz => h z (by simp [hz]))
/-- One segment of many. -/
theorem parts_step {t : Int} {os : List (Int × Int)} {zs : List Int} {k n : Nat} (hk : k < os.length) (hn : n ≤ zs.length) (h : Parts t (os.drop k) (zs.drop n)) :
    ∃ blk : List Int, blk ≠ [] ∧ n + blk.length ≤ zs.length ∧ (os.getD k (0, 0)).1 = (blk.length : Int) ∧ (os.getD k (0, 0)).2 = (bmn blk + bmx blk) / 2 ∧ (∀ j, j < blk.length → blk.getD j 0 = zs.getD (n + j) 0) ∧
      (n + blk.length < zs.length → narr t (min (bmn blk) (zs.getD (n + blk.length) 0)) (max (bmx blk) (zs.getD (n + blk.length) 0)) = false) ∧ Parts t (os.drop (k + 1)) (zs.drop (n + blk.length)) ∧ narr t (bmn blk) (bmx blk) = true := by
  rw [List.drop_eq_getElem_cons hk] at h
  obtain ⟨blk, rest, hz, hc, hb, hm, hnr, hnx, hp⟩ := h
  have hg : os.getD k (0, 0) = os[k] := by rw [List.getD_eq_getElem?_getD, List.getElem?_eq_getElem hk]; rfl
  have hl : blk.length + rest.length = zs.length - n := by rw [← List.length_append, ← hz, List.length_drop]
  have hat : ∀ j, j < blk.length + rest.length → zs.getD (n + j) 0 = (blk ++ rest).getD j 0 := fun j hj => by
    rw [← hz, List.getD_eq_getElem?_getD, List.getD_eq_getElem?_getD, List.getElem?_drop]
  have hr : zs.drop (n + blk.length) = rest := by
    rw [← List.drop_drop, hz]; simp
  refine ⟨blk, hb, by omega, by rw [hg]; exact hc.symm, by rw [hg]; exact hm, fun j hj => ?_, fun hlt => ?_, by rw [hr]; exact hp, hnr⟩
  · rw [hat j (by omega), List.getD_eq_getElem?_getD, List.getD_eq_getElem?_getD, List.getElem?_append_left hj]
  · have e : zs.getD (n + blk.length) 0 = rest.getD 0 0 := by
      rw [hat blk.length (by omega), List.getD_eq_getElem?_getD, List.getD_eq_getElem?_getD, List.getElem?_append_right (Nat.le_refl _), Nat.sub_self]
    rw [e]
    cases rest with
    | nil => simp at hl; omega
    | cons v vs => exact hnx v vs rfl
end Go.Proofs.Ytenaeaojnebokaa
