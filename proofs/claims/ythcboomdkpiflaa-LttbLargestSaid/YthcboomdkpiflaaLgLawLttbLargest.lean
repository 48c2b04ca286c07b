/- Proved: tscodeclaw25.LttbLargest returns true for all arguments. No condition. -/
import Derived.Test.YthcboomdkpiflaaRows
import Derived.Test.YthcboomdkpiflaaLgClLttbLargest
import Derived.OpenShut
import Derived.SizedLaws
import Derived.Laws.IdiomArrays
import Derived.WalkKit
import Derived.ProofKit
import Derived.Outline
import Derived.Test.YthcboomdkpiflaaLg1
import Derived.Test.YthcboomdkpiflaaLg2
import Derived.Test.YthcboomdkpiflaaLg4
import Derived.Test.YthcboomdkpiflaaLg5
namespace Go.Proofs.Ythcboomdkpiflaa.lttbLargest
open Go.ChangeShapes Go.WideShapes Go.ChangeAt Go.RowKit Sx
set_option linter.unusedVariables false
set_option linter.unusedSimpArgs false


theorem one_of {a b : Int} (hle : a ≤ b) : ¬ 0 < cm a b ∧ (cm a b = 0 → a = b) := by
  unfold cm
  constructor
  · split
    · omega
    · split <;> omega
  · intro h
    split at h
    · omega
    · split at h <;> omega
theorem rx_of {x : Int} (h : I64 x) (W : World) : Gives Try.prog 20 [.int .i64 x] W (· = WX x) := gives_known en_r02_Of (rOf_any x h W)
theorem rx_addc {x y : Int} (h : Fits x) (h' : Fits y) (W : World) : Gives Try.prog 24 [WX x, WX y] W (· = .tuple #[WX (cl (x + y)), .bool (fb (x + y))]) := gives_known en_r02_Add (radd_w (IsW.x h) (IsW.x h') W)
theorem rx_cmp {x y : Int} (h : Fits x) (h' : Fits y) (W : World) : Gives Try.prog 33 [WX x, WX y] W (· = .int .i64 (cm x y)) := gives_known en_r02_Compare (rcompare_we h h' W)
theorem rx_area {p q : Int × Int} {T V : Int} (hp : I64 p.1 ∧ I64 p.2) (hq : I64 q.1 ∧ I64 q.2) (hT : Fits T) (hV : Fits V) (m : Int) (W : World) : Gives Try.prog 19 [.agg #[.int .i64 p.1, .int .i64 p.2], .agg #[.int .i64 q.1, .int .i64 q.2], WX T, WX V, .int .i64 m] W (· = WX (area p q T V m)) := gives_known en_r23_Weighted (rarea_any hp hq hT hV m W)
theorem get_in {ss : Smps} (h : ∀ s ∈ ss, I64 s.1 ∧ I64 s.2) {i : Nat} (hi : i < ss.length) : I64 (ss.getD i (0, 0)).1 ∧ I64 (ss.getD i (0, 0)).2 := by
  rw [List.getD_eq_getElem?_getD, List.getElem?_eq_getElem hi]
  exact h _ (List.getElem_mem hi)
theorem fits_zero : Fits 0 := by unfold Fits; decide +kernel
set_option maxHeartbeats 8000000 in
set_option maxRecDepth 100000 in
theorem walk (w : World) (s0 : Option Addr) (l0 c0 : Nat) (z0 : List Int) (h0 : SlZ w .i64 (.slice s0 l0 c0) z0) :
    Calls Try.prog 9 #[.slice s0 l0 c0] w fun e w' => e = .returned (.bool true) ∧ Below w.heap.size w w' := by

  have kn := fun W => gives_known en_w25_known (known25_any W)
  refine known_of (enter Try.func9 w25_LttbLargest.ok (args := [_]) (by simp) ?_)
  repeat' (first | simp (disch := omega) only [sxE, w25_LttbLargest.E, Nat.reduceAdd, Nat.reduceEqDiff, Nat.reduceMul, Nat.reduceSub, Int.reduceAdd, Int.reduceSub, Int.reduceMul, Int.reduceNeg, Int.reduceLT, Int.reduceLE, Int.reduceEq, Int.reduceToNat, ↓reduceIte, Int.reducePow, Nat.reduceLeDiff, Nat.reduceLT, ne_eq, eq_self, List.length_cons, List.length_nil, qxE] | (with_reducible refine cregF ?_))
  refine asks_new (L := []) rfl (kX_nil _) h0 en_m_New fun tb htb => ?_; clear htb
  repeat' (first | simp (disch := omega) only [sxE, w25_LttbLargest.E, Nat.reduceAdd, Nat.reduceEqDiff, Nat.reduceMul, Nat.reduceSub, Int.reduceAdd, Int.reduceSub, Int.reduceMul, Int.reduceNeg, Int.reduceLT, Int.reduceLE, Int.reduceEq, Int.reduceToNat, ↓reduceIte, Int.reducePow, Nat.reduceLeDiff, Nat.reduceLT, ne_eq, eq_self, List.length_cons, List.length_nil, qxE] | (with_reducible refine cregF ?_))
  refine asks_rowT (L := [.g (tK tb)]) (e := 23) (s := 2) (fun ss : Smps => Smp ss ∧ (ss.length : Int) ≤ 40) (fun ss => ss.length) (fun ss => scells ss) (fun ss v => v) (tpk_t _ tb) en_m_Tape__Samples rfl (List.mem_singleton.2 rfl) (List.mem_singleton.2 rfl) rfl (fun j hj => .inl (List.mem_singleton.1 hj)) (fun W hW => by
    refine (samples_any tb 40 (by decide) (by decide) W hW).mono ?_
    rintro e w' ⟨v, ss, h1, h2, h3, h4, h5⟩
    exact ⟨ss, v, h1, h2, h3, h4, h5⟩) ?_
  rintro ss al cl_ ⟨hsm, hs40⟩ hcl - hal hnb
  have htb : tb ∉ (Kn.g (wK 23 2 (.slice al ss.length cl_) ss.length (scells ss))).bs := fun h => hnb tb h (List.mem_singleton.2 rfl)
  clear hnb h0
  have hin := smp_inI hsm
  have hinc := smp_incr hsm
  have hss := scells_at ss
  by_cases h3 : ss.length < 3
  · repeat' (first | simp (disch := omega) only [sxE, w25_LttbLargest.E, Nat.reduceAdd, Nat.reduceEqDiff, Nat.reduceMul, Nat.reduceSub, Int.reduceAdd, Int.reduceSub, Int.reduceMul, Int.reduceNeg, Int.reduceLT, Int.reduceLE, Int.reduceEq, Int.reduceToNat, ↓reduceIte, Int.reducePow, Nat.reduceLeDiff, Nat.reduceLT, ne_eq, eq_self, List.length_cons, List.length_nil, qxE] | (with_reducible refine Sx.call_at (f := 27) (fun W hW => kn W) ?_) | (with_reducible refine cregF ?_))
  obtain ⟨b, rfl⟩ := hal (by omega)
  repeat' (first | simp (disch := omega) only [sxE, w25_LttbLargest.E, Nat.reduceAdd, Nat.reduceEqDiff, Nat.reduceMul, Nat.reduceSub, Int.reduceAdd, Int.reduceSub, Int.reduceMul, Int.reduceNeg, Int.reduceLT, Int.reduceLE, Int.reduceEq, Int.reduceToNat, ↓reduceIte, Int.reducePow, Nat.reduceLeDiff, Nat.reduceLT, ne_eq, eq_self, List.length_cons, List.length_nil, qxE] | (with_reducible refine cregF ?_))
  refine asks_tc rfl (tpk_t _ tb) (t_next tb (n := (ss.length : Int) - 2) (by omega) (by omega)) en_m_Tape__Next rfl (by simp) rfl (fun j hj => ?_) ?_
  · rcases List.mem_cons.1 hj with rfl | hj
    · exact .inr htb
    · exact .inl (List.mem_singleton.1 hj)
  rintro r ⟨r1, r2⟩
  obtain ⟨K, hK⟩ : ∃ K : Nat, 3 + r = K := ⟨(3 + r).toNat, by omega⟩
  repeat' (first | simp (disch := omega) only [sxE, w25_LttbLargest.E, Nat.reduceAdd, Nat.reduceEqDiff, Nat.reduceMul, Nat.reduceSub, Int.reduceAdd, Int.reduceSub, Int.reduceMul, Int.reduceNeg, Int.reduceLT, Int.reduceLE, Int.reduceEq, Int.reduceToNat, ↓reduceIte, Int.reducePow, Nat.reduceLeDiff, Nat.reduceLT, ne_eq, eq_self, List.length_cons, List.length_nil, qxE, hK] | (with_reducible refine cregF ?_))
  have hK3 : 3 ≤ K := by omega
  have hKn : K ≤ ss.length := by omega
  have hl1 : ss.length ≤ 1000 := by omega
  clear hK r1 r2 htb hal hcl hsm
  have hE := ixe_yes hinc hK3 hKn hl1
  have hzl := ixs_lenK hinc hK3 hKn hl1
  have hbl := bks_len ss.length K
  have hbok : bok ss.length (K : Int) = true := by
    rcases bok_cases ss.length (K : Int) with ⟨hb, _⟩ | ⟨_, hb⟩
    · exact hb
    · omega
  refine asks_rowB (L := [.g (wK 23 2 (.slice (some ⟨b, 0, none⟩) ss.length cl_) ss.length (scells ss)), .g (tK tb)]) (e := 3) (s := 1) (ι := Unit) (fun _ => True) (fun _ => K) (fun _ => (ixs ss K).map (Value.int .i64)) (fun _ v => .tuple #[v, .int .i64 0]) en_lttb_Indexes rfl (fun W hW hok => ?_) ?_
  · have hs : SlS W _ ss := sls_own (hok _ List.mem_cons_self) hin
    refine (indexes_any (K : Int) ⟨by omega, by omega⟩ W hs hl1).mono ?_
    rintro e w' ⟨v, rfl, h1, h2⟩
    rw [hE]
    rw [hzl] at h1
    exact ⟨(), v, trivial, rfl, h1, h2⟩
  rintro - ga gc - hgc - hga -
  obtain ⟨g, rfl⟩ := hga (by omega)
  clear hga
  repeat' (first | simp (disch := omega) only [sxE, w25_LttbLargest.E, Nat.reduceAdd, Nat.reduceEqDiff, Nat.reduceMul, Nat.reduceSub, Int.reduceAdd, Int.reduceSub, Int.reduceMul, Int.reduceNeg, Int.reduceLT, Int.reduceLE, Int.reduceEq, Int.reduceToNat, ↓reduceIte, Int.reducePow, Nat.reduceLeDiff, Nat.reduceLT, ne_eq, eq_self, List.length_cons, List.length_nil, qxE] | (with_reducible refine cregF ?_))
  refine asks_rowB (L := [.g (wK 3 1 (.slice (some ⟨g, 0, none⟩) K gc) K ((ixs ss K).map (Value.int .i64))), .g (wK 23 2 (.slice (some ⟨b, 0, none⟩) ss.length cl_) ss.length (scells ss)), .g (tK tb)]) (e := 3) (s := 1) (ι := Unit) (fun _ => True) (fun _ => K - 1) (fun _ => (bks ss.length K).map (Value.int .i64)) (fun _ v => .tuple #[v, .bool true]) en_r24_Bounds rfl (fun W hW hok => ?_) ?_
  · refine (rbounds_any ss.length hl1 (K : Int) ⟨by omega, by omega⟩ W).mono ?_
    rintro e w' ⟨h0, h2⟩
    rw [if_pos hbok] at h0
    obtain ⟨v, rfl, h1⟩ := h0
    rw [Int.toNat_natCast] at h1
    exact ⟨(), v, trivial, rfl, h1, h2⟩
  rintro - ha hc - hhc - hha -
  obtain ⟨h, rfl⟩ := hha (by omega)
  clear hha hgc hhc hE hbok
  repeat' (first | simp (disch := omega) only [sxE, w25_LttbLargest.E, Nat.reduceAdd, Nat.reduceEqDiff, Nat.reduceMul, Nat.reduceSub, Int.reduceAdd, Int.reduceSub, Int.reduceMul, Int.reduceNeg, Int.reduceLT, Int.reduceLE, Int.reduceEq, Int.reduceToNat, ↓reduceIte, Int.reducePow, Nat.reduceLeDiff, Nat.reduceLT, ne_eq, eq_self, List.length_cons, List.length_nil, qxE, beq_self_eq_true] | (with_reducible refine cregF ?_))
  rw [w25_LttbLargest.p2_l]
  refine LX_inv (fun j : Nat => ⟨0, [(4, .v (.slice (some ⟨b, 0, none⟩) ss.length cl_)), (5, .v (.int .i64 K)), (6, .v (.slice (some ⟨g, 0, none⟩) K gc)), (8, .v (.slice (some ⟨h, 0, none⟩) (K - 1) hc)), (10, .v (.int .i64 ((j : Int) + 1)))], [], kX w.heap.size [.g (wK 3 1 (.slice (some ⟨h, 0, none⟩) (K - 1) hc) (K - 1) ((bks ss.length K).map (Value.int .i64))), .g (wK 3 1 (.slice (some ⟨g, 0, none⟩) K gc) K ((ixs ss K).map (Value.int .i64))), .g (wK 23 2 (.slice (some ⟨b, 0, none⟩) ss.length cl_) ss.length (scells ss)), .g (tK tb)]⟩) (fun j => j + 2 ≤ K) (fun j => K - j) ?round 0 (by omega) ?start
  case start =>
    simp (disch := omega) only [sxE, w25_LttbLargest.E, Nat.reduceAdd, Nat.reduceEqDiff, Nat.reduceMul, Nat.reduceSub, Int.reduceAdd, Int.reduceSub, Int.reduceMul, Int.reduceNeg, Int.reduceLT, Int.reduceLE, Int.reduceEq, Int.reduceToNat, ↓reduceIte, Int.reducePow, Nat.reduceLeDiff, Nat.reduceLT, ne_eq, eq_self, List.length_cons, List.length_nil]
  case round =>
    intro j hj
    try dsimp only at hj ⊢
    by_cases hlt : j + 2 < K
    · obtain ⟨fr, tt, en, at_, bi, efr, ett, eat, eam, h3', h4, h5, h6, h7, h8, h9, h10, hlg⟩ := large_plain hK3 hKn hlt
      obtain ⟨am, ham⟩ : ∃ am : Nat, fr + bi = am := ⟨_, rfl⟩
      rw [ham] at hlg eam
      have ham1 : am < ss.length := by omega
      have v0 : (bks ss.length K).getD j 0 = (fr : Int) := by rw [bks_get (by omega), efr]
      have v1 : (bks ss.length K).getD (j + 1) 0 = (tt : Int) := by rw [bks_get (by omega), ett]
      have v2 : j + 2 < K - 1 → (bks ss.length K).getD (j + 2) 0 = (en : Int) := fun e => by rw [bks_get (by omega), h9 e]
      have u0 : (ixs ss K).getD j 0 = (at_ : Int) := by rw [ixs_mid hinc hK3 hKn hl1 (by omega), eat]
      have u1 : (ixs ss K).getD (j + 1) 0 = (am : Int) := by rw [ixs_mid hinc hK3 hKn hl1 (by omega), eam]
      have hbl' : (bks ss.length K).length = K - 1 := hbl
      have hzl' : (ixs ss K).length = K := hzl
      generalize bks ss.length K = bb at *
      generalize ixs ss K = zz at *
      clear efr ett eat eam hbl hzl h9
      have hI := fun i (hi : i < ss.length) => get_in hin hi
      have o0 := fun W => rx_of (x := 0) ⟨by decide, by decide⟩ W
      have hN : ((en : Int) - tt) = ((en - tt : Nat) : Int) := by omega
      clear hss hin hinc
      by_cases hh : j + 2 < K - 1
      case' pos =>
        have v2 := v2 hh
        have hi1 : (ss.length : Int) = ss.length := rfl
        have hi2 : (ss.length : Int) = ss.length := rfl
        clear h10
      case' neg =>
        obtain ⟨h10a, h10b⟩ := h10 hh
        have v2 : bb.getD (j + 1) 0 = (tt : Int) := v1
        have hi1 : (en : Int) - 1 = tt := by omega
        have hi2 : (ss.length : Int) = en := by omega
        clear h10 h10a h10b
      all_goals
        repeat' (first | simp (disch := omega) only [sxE, w25_LttbLargest.E, Nat.reduceAdd, Nat.reduceEqDiff, Nat.reduceMul, Nat.reduceSub, Int.reduceAdd, Int.reduceSub, Int.reduceMul, Int.reduceNeg, Int.reduceLT, Int.reduceLE, Int.reduceEq, Int.reduceToNat, ↓reduceIte, Int.reducePow, Nat.reduceLeDiff, Nat.reduceLT, ne_eq, eq_self, List.length_cons, List.length_nil, qxE, v1, v2, hi2, hi1] | (with_reducible refine ldP_self false 1 h ?_; refine ldP_i (g := h) (j + 1) rfl (by first | exact List.mem_cons_self | exact List.mem_cons_of_mem _ List.mem_cons_self | exact List.mem_cons_of_mem _ (List.mem_cons_of_mem _ List.mem_cons_self) | exact List.mem_cons_of_mem _ (List.mem_cons_of_mem _ (List.mem_cons_of_mem _ List.mem_cons_self)) | exact List.mem_cons_of_mem _ (List.mem_cons_of_mem _ (List.mem_cons_of_mem _ (List.mem_cons_of_mem _ List.mem_cons_self)))) ?_ ?_ ?_; omega; omega) | (with_reducible refine ldP_self false 1 h ?_; refine ldP_i (g := h) (j + 2) rfl (by first | exact List.mem_cons_self | exact List.mem_cons_of_mem _ List.mem_cons_self | exact List.mem_cons_of_mem _ (List.mem_cons_of_mem _ List.mem_cons_self) | exact List.mem_cons_of_mem _ (List.mem_cons_of_mem _ (List.mem_cons_of_mem _ List.mem_cons_self)) | exact List.mem_cons_of_mem _ (List.mem_cons_of_mem _ (List.mem_cons_of_mem _ (List.mem_cons_of_mem _ List.mem_cons_self)))) ?_ ?_ ?_; omega; omega) | (with_reducible refine Sx.call_at (f := 20) (fun W hW => o0 W) ?_) | (with_reducible refine cregF ?_))
        rw [w25_LttbLargest.p17_l]
        refine LX_inv (fun t : Nat => ⟨2, [(4, .v (.slice (some ⟨b, 0, none⟩) ss.length cl_)), (5, .v (.int .i64 K)), (6, .v (.slice (some ⟨g, 0, none⟩) K gc)), (8, .v (.slice (some ⟨h, 0, none⟩) (K - 1) hc)), (10, .v (.int .i64 ((j : Int) + 1))), (11, .v (.int .i64 (tt : Int))), (12, .v (.int .i64 (en : Int))), (13, .p 0 0), (14, .p 1 0), (15, .v (.int .i64 ((tt + t : Nat) : Int)))], [(1, wc (wsum Prod.snd (cut ss tt en) t)), (0, wc (wsum Prod.fst (cut ss tt en) t))], kX w.heap.size [.g (wK 3 1 (.slice (some ⟨h, 0, none⟩) (K - 1) hc) (K - 1) (bb.map (Value.int .i64))), .g (wK 3 1 (.slice (some ⟨g, 0, none⟩) K gc) K (zz.map (Value.int .i64))), .g (wK 23 2 (.slice (some ⟨b, 0, none⟩) ss.length cl_) ss.length (scells ss)), .g (tK tb)]⟩) (fun t => t ≤ en - tt) (fun t => en - tt - t) ?round 0 (by omega) ?start
        case start =>
          have c0 : wsum Prod.fst (cut ss tt en) 0 = 0 := rfl
          have c1 : wsum Prod.snd (cut ss tt en) 0 = 0 := rfl
          have c2 : ((tt + 0 : Nat) : Int) = tt := rfl
          simp (disch := omega) only [sxE, w25_LttbLargest.E, Nat.reduceAdd, Nat.reduceEqDiff, Nat.reduceMul, Nat.reduceSub, Int.reduceAdd, Int.reduceSub, Int.reduceMul, Int.reduceNeg, Int.reduceLT, Int.reduceLE, Int.reduceEq, Int.reduceToNat, ↓reduceIte, Int.reducePow, Nat.reduceLeDiff, Nat.reduceLT, ne_eq, eq_self, List.length_cons, List.length_nil, c0, c1, c2]
        case round =>
          intro t ht
          try dsimp only at ht ⊢
          by_cases hlt2 : t < en - tt
          · obtain ⟨x1, e1⟩ : ∃ x, (ss.getD (tt + t) (0, 0)).1 = x := ⟨_, rfl⟩
            obtain ⟨x2, e2⟩ : ∃ x, (ss.getD (tt + t) (0, 0)).2 = x := ⟨_, rfl⟩
            have hx := hI (tt + t) (by omega)
            rw [e1, e2] at hx
            have q1 : wsum Prod.fst (cut ss tt en) (t + 1) = cl (wsum Prod.fst (cut ss tt en) t + x1) := by
              show cl (_ + Prod.fst ((cut ss tt en).getD t (0, 0))) = _
              rw [cut_get h5 hlt2, e1]
            have q2 : wsum Prod.snd (cut ss tt en) (t + 1) = cl (wsum Prod.snd (cut ss tt en) t + x2) := by
              show cl (_ + Prod.snd ((cut ss tt en).getD t (0, 0))) = _
              rw [cut_get h5 hlt2, e2]
            have f1 := fits_wsum Prod.fst (cut ss tt en) t
            have f2 := fits_wsum Prod.snd (cut ss tt en) t
            have k1 := fun W => rx_of hx.1 W
            have k2 := fun W => rx_of hx.2 W
            have k3 := fun W => rx_addc f1 (fits_i64 hx.1) W
            have k4 := fun W => rx_addc f2 (fits_i64 hx.2) W
            generalize wsum Prod.fst (cut ss tt en) t = T1 at *
            generalize wsum Prod.snd (cut ss tt en) t = V1 at *
            replace q1 := hid q1
            replace q2 := hid q2
            clear hI hlg f1 f2
            repeat' (first | simp (disch := omega) only [sxE, w25_LttbLargest.E, Nat.reduceAdd, Nat.reduceEqDiff, Nat.reduceMul, Nat.reduceSub, Int.reduceAdd, Int.reduceSub, Int.reduceMul, Int.reduceNeg, Int.reduceLT, Int.reduceLE, Int.reduceEq, Int.reduceToNat, ↓reduceIte, Int.reducePow, Nat.reduceLeDiff, Nat.reduceLT, ne_eq, eq_self, List.length_cons, List.length_nil, qxE, e1, e2] | (with_reducible refine ldP_self false 1 b ?_; refine ldP_sT (g := b) (tt + t) rfl (by first | exact List.mem_cons_self | exact List.mem_cons_of_mem _ List.mem_cons_self | exact List.mem_cons_of_mem _ (List.mem_cons_of_mem _ List.mem_cons_self) | exact List.mem_cons_of_mem _ (List.mem_cons_of_mem _ (List.mem_cons_of_mem _ List.mem_cons_self)) | exact List.mem_cons_of_mem _ (List.mem_cons_of_mem _ (List.mem_cons_of_mem _ (List.mem_cons_of_mem _ List.mem_cons_self)))) ?_ ?_ ?_; omega; omega) | (with_reducible refine ldP_self false 1 b ?_; refine ldP_sV (g := b) (tt + t) rfl (by first | exact List.mem_cons_self | exact List.mem_cons_of_mem _ List.mem_cons_self | exact List.mem_cons_of_mem _ (List.mem_cons_of_mem _ List.mem_cons_self) | exact List.mem_cons_of_mem _ (List.mem_cons_of_mem _ (List.mem_cons_of_mem _ List.mem_cons_self)) | exact List.mem_cons_of_mem _ (List.mem_cons_of_mem _ (List.mem_cons_of_mem _ (List.mem_cons_of_mem _ List.mem_cons_self)))) ?_ ?_ ?_; omega; omega) | (with_reducible refine Sx.call_at (f := 20) (fun W hW => k1 W) ?_) | (with_reducible refine Sx.call_at (f := 20) (fun W hW => k2 W) ?_) | (with_reducible refine Sx.call_at (f := 24) (fun W hW => k3 W) ?_) | (with_reducible refine Sx.call_at (f := 24) (fun W hW => k4 W) ?_) | (with_reducible refine cregF ?_))
            have e0 : ((tt + t : Nat) : Int) + 1 = ((tt + (t + 1) : Nat) : Int) := by omega
            rw [e0]
            exact ⟨t + 1, by omega, by omega, rfl, by rw [q2.out], by rw [q1.out]⟩
          · obtain rfl : t = en - tt := by omega
            have fT := fits_wsum Prod.fst (cut ss tt en) (en - tt)
            have fV := fits_wsum Prod.snd (cut ss tt en) (en - tt)
            have hlg := hlg _ _ rfl rfl
            have ct : ((tt + (en - tt) : Nat) : Int) = en := by omega
            generalize wsum Prod.fst (cut ss tt en) (en - tt) = T at *
            generalize wsum Prod.snd (cut ss tt en) (en - tt) = V at *
            have hpI := hI at_ h6
            have hqI := hI am ham1
            have w1 := fun W => rx_area hpI hqI fT fV ((en : Int) - tt) W
            have fO := fits_area (m := (en : Int) - tt) hpI hqI fT fV
            generalize hO : area (ss.getD at_ (0, 0)) (ss.getD am (0, 0)) T V ((en : Int) - tt) = O at *
            repeat' (first | simp (disch := omega) only [sxE, w25_LttbLargest.E, Nat.reduceAdd, Nat.reduceEqDiff, Nat.reduceMul, Nat.reduceSub, Int.reduceAdd, Int.reduceSub, Int.reduceMul, Int.reduceNeg, Int.reduceLT, Int.reduceLE, Int.reduceEq, Int.reduceToNat, ↓reduceIte, Int.reducePow, Nat.reduceLeDiff, Nat.reduceLT, ne_eq, eq_self, List.length_cons, List.length_nil, qxE, ct, u0, u1, v0] | (with_reducible refine ldP_self false 1 g ?_; refine ldP_i (g := g) (j + 1) rfl (by first | exact List.mem_cons_self | exact List.mem_cons_of_mem _ List.mem_cons_self | exact List.mem_cons_of_mem _ (List.mem_cons_of_mem _ List.mem_cons_self) | exact List.mem_cons_of_mem _ (List.mem_cons_of_mem _ (List.mem_cons_of_mem _ List.mem_cons_self)) | exact List.mem_cons_of_mem _ (List.mem_cons_of_mem _ (List.mem_cons_of_mem _ (List.mem_cons_of_mem _ List.mem_cons_self)))) ?_ ?_ ?_; omega; omega) | (with_reducible refine ldP_self false 1 g ?_; refine ldP_i (g := g) (j) rfl (by first | exact List.mem_cons_self | exact List.mem_cons_of_mem _ List.mem_cons_self | exact List.mem_cons_of_mem _ (List.mem_cons_of_mem _ List.mem_cons_self) | exact List.mem_cons_of_mem _ (List.mem_cons_of_mem _ (List.mem_cons_of_mem _ List.mem_cons_self)) | exact List.mem_cons_of_mem _ (List.mem_cons_of_mem _ (List.mem_cons_of_mem _ (List.mem_cons_of_mem _ List.mem_cons_self)))) ?_ ?_ ?_; omega; omega) | (with_reducible refine ldP_self true 2 b ?_; refine ldP_s2 (g := b) (at_) rfl (by first | exact List.mem_cons_self | exact List.mem_cons_of_mem _ List.mem_cons_self | exact List.mem_cons_of_mem _ (List.mem_cons_of_mem _ List.mem_cons_self) | exact List.mem_cons_of_mem _ (List.mem_cons_of_mem _ (List.mem_cons_of_mem _ List.mem_cons_self)) | exact List.mem_cons_of_mem _ (List.mem_cons_of_mem _ (List.mem_cons_of_mem _ (List.mem_cons_of_mem _ List.mem_cons_self)))) ?_ ?_ ?_; omega; omega) | (with_reducible refine ldP_self true 2 b ?_; refine ldP_s2 (g := b) (am) rfl (by first | exact List.mem_cons_self | exact List.mem_cons_of_mem _ List.mem_cons_self | exact List.mem_cons_of_mem _ (List.mem_cons_of_mem _ List.mem_cons_self) | exact List.mem_cons_of_mem _ (List.mem_cons_of_mem _ (List.mem_cons_of_mem _ List.mem_cons_self)) | exact List.mem_cons_of_mem _ (List.mem_cons_of_mem _ (List.mem_cons_of_mem _ (List.mem_cons_of_mem _ List.mem_cons_self)))) ?_ ?_ ?_; omega; omega) | (with_reducible refine ldP_self false 1 h ?_; refine ldP_i (g := h) (j) rfl (by first | exact List.mem_cons_self | exact List.mem_cons_of_mem _ List.mem_cons_self | exact List.mem_cons_of_mem _ (List.mem_cons_of_mem _ List.mem_cons_self) | exact List.mem_cons_of_mem _ (List.mem_cons_of_mem _ (List.mem_cons_of_mem _ List.mem_cons_self)) | exact List.mem_cons_of_mem _ (List.mem_cons_of_mem _ (List.mem_cons_of_mem _ (List.mem_cons_of_mem _ List.mem_cons_self)))) ?_ ?_ ?_; omega; omega) | (with_reducible refine Sx.call_at (f := 19) (fun W hW => w1 W) ?_) | (with_reducible refine cregF ?_))
            rw [w25_LttbLargest.p4_l]
            refine LX_inv (fun t : Nat => ⟨3, [(4, .v (.slice (some ⟨b, 0, none⟩) ss.length cl_)), (5, .v (.int .i64 K)), (6, .v (.slice (some ⟨g, 0, none⟩) K gc)), (8, .v (.slice (some ⟨h, 0, none⟩) (K - 1) hc)), (10, .v (.int .i64 ((j : Int) + 1))), (11, .v (.int .i64 (tt : Int))), (12, .v (.int .i64 (en : Int))), (13, .p 0 0), (14, .p 1 0), (16, .p 2 0), (17, .v (.int .i64 ((fr + t : Nat) : Int)))], [(2, wc O), (1, wc V), (0, wc T)], kX w.heap.size [.g (wK 3 1 (.slice (some ⟨h, 0, none⟩) (K - 1) hc) (K - 1) (bb.map (Value.int .i64))), .g (wK 3 1 (.slice (some ⟨g, 0, none⟩) K gc) K (zz.map (Value.int .i64))), .g (wK 23 2 (.slice (some ⟨b, 0, none⟩) ss.length cl_) ss.length (scells ss)), .g (tK tb)]⟩) (fun t => t ≤ tt - fr) (fun t => tt - fr - t) ?round 0 (by omega) ?start
            case start =>
              have c2 : ((fr + 0 : Nat) : Int) = fr := rfl
              simp (disch := omega) only [sxE, w25_LttbLargest.E, Nat.reduceAdd, Nat.reduceEqDiff, Nat.reduceMul, Nat.reduceSub, Int.reduceAdd, Int.reduceSub, Int.reduceMul, Int.reduceNeg, Int.reduceLT, Int.reduceLE, Int.reduceEq, Int.reduceToNat, ↓reduceIte, Int.reducePow, Nat.reduceLeDiff, Nat.reduceLT, ne_eq, eq_self, List.length_cons, List.length_nil, c2]
            case round =>
              intro t ht
              try dsimp only at ht ⊢
              by_cases hlt2 : t < tt - fr
              · obtain ⟨g1, g2⟩ := hlg t hlt2
                have w2 := fun W => rx_area hpI (hI (fr + t) (by omega)) fT fV ((en : Int) - tt) W
                have fA := fits_area (m := (en : Int) - tt) hpI (hI (fr + t) (by omega)) fT fV
                generalize area (ss.getD at_ (0, 0)) (ss.getD (fr + t) (0, 0)) T V ((en : Int) - tt) = A at *
                have w3 := fun W => rx_cmp fA fO W
                obtain ⟨n1, n2⟩ := one_of g1
                have c1 : cm A O = 0 → ¬ ((fr + t : Nat) : Int) < (am : Int) := fun e hl => by
                  have := g2 (by omega)
                  have := n2 e
                  omega
                generalize cm A O = cc at *
                clear hlg g1 g2 hI hpI hqI fT fV fO fA n2
                by_cases hz : cc = 0
                · have c1 := c1 hz
                  subst hz
                  repeat' (first | simp (disch := omega) only [sxE, w25_LttbLargest.E, Nat.reduceAdd, Nat.reduceEqDiff, Nat.reduceMul, Nat.reduceSub, Int.reduceAdd, Int.reduceSub, Int.reduceMul, Int.reduceNeg, Int.reduceLT, Int.reduceLE, Int.reduceEq, Int.reduceToNat, ↓reduceIte, Int.reducePow, Nat.reduceLeDiff, Nat.reduceLT, ne_eq, eq_self, List.length_cons, List.length_nil, qxE, u0, u1, v0, v1, beq_self_eq_true] | (with_reducible refine ldP_self false 1 g ?_; refine ldP_i (g := g) (j + 1) rfl (by first | exact List.mem_cons_self | exact List.mem_cons_of_mem _ List.mem_cons_self | exact List.mem_cons_of_mem _ (List.mem_cons_of_mem _ List.mem_cons_self) | exact List.mem_cons_of_mem _ (List.mem_cons_of_mem _ (List.mem_cons_of_mem _ List.mem_cons_self)) | exact List.mem_cons_of_mem _ (List.mem_cons_of_mem _ (List.mem_cons_of_mem _ (List.mem_cons_of_mem _ List.mem_cons_self)))) ?_ ?_ ?_; omega; omega) | (with_reducible refine ldP_self false 1 g ?_; refine ldP_i (g := g) (j) rfl (by first | exact List.mem_cons_self | exact List.mem_cons_of_mem _ List.mem_cons_self | exact List.mem_cons_of_mem _ (List.mem_cons_of_mem _ List.mem_cons_self) | exact List.mem_cons_of_mem _ (List.mem_cons_of_mem _ (List.mem_cons_of_mem _ List.mem_cons_self)) | exact List.mem_cons_of_mem _ (List.mem_cons_of_mem _ (List.mem_cons_of_mem _ (List.mem_cons_of_mem _ List.mem_cons_self)))) ?_ ?_ ?_; omega; omega) | (with_reducible refine ldP_self true 2 b ?_; refine ldP_s2 (g := b) (at_) rfl (by first | exact List.mem_cons_self | exact List.mem_cons_of_mem _ List.mem_cons_self | exact List.mem_cons_of_mem _ (List.mem_cons_of_mem _ List.mem_cons_self) | exact List.mem_cons_of_mem _ (List.mem_cons_of_mem _ (List.mem_cons_of_mem _ List.mem_cons_self)) | exact List.mem_cons_of_mem _ (List.mem_cons_of_mem _ (List.mem_cons_of_mem _ (List.mem_cons_of_mem _ List.mem_cons_self)))) ?_ ?_ ?_; omega; omega) | (with_reducible refine ldP_self true 2 b ?_; refine ldP_s2 (g := b) (fr + t) rfl (by first | exact List.mem_cons_self | exact List.mem_cons_of_mem _ List.mem_cons_self | exact List.mem_cons_of_mem _ (List.mem_cons_of_mem _ List.mem_cons_self) | exact List.mem_cons_of_mem _ (List.mem_cons_of_mem _ (List.mem_cons_of_mem _ List.mem_cons_self)) | exact List.mem_cons_of_mem _ (List.mem_cons_of_mem _ (List.mem_cons_of_mem _ (List.mem_cons_of_mem _ List.mem_cons_self)))) ?_ ?_ ?_; omega; omega) | (with_reducible refine ldP_self false 1 h ?_; refine ldP_i (g := h) (j) rfl (by first | exact List.mem_cons_self | exact List.mem_cons_of_mem _ List.mem_cons_self | exact List.mem_cons_of_mem _ (List.mem_cons_of_mem _ List.mem_cons_self) | exact List.mem_cons_of_mem _ (List.mem_cons_of_mem _ (List.mem_cons_of_mem _ List.mem_cons_self)) | exact List.mem_cons_of_mem _ (List.mem_cons_of_mem _ (List.mem_cons_of_mem _ (List.mem_cons_of_mem _ List.mem_cons_self)))) ?_ ?_ ?_; omega; omega) | (with_reducible refine ldP_self false 1 h ?_; refine ldP_i (g := h) (j + 1) rfl (by first | exact List.mem_cons_self | exact List.mem_cons_of_mem _ List.mem_cons_self | exact List.mem_cons_of_mem _ (List.mem_cons_of_mem _ List.mem_cons_self) | exact List.mem_cons_of_mem _ (List.mem_cons_of_mem _ (List.mem_cons_of_mem _ List.mem_cons_self)) | exact List.mem_cons_of_mem _ (List.mem_cons_of_mem _ (List.mem_cons_of_mem _ (List.mem_cons_of_mem _ List.mem_cons_self)))) ?_ ?_ ?_; omega; omega) | (with_reducible refine Sx.call_at (f := 19) (fun W hW => w2 W) ?_) | (with_reducible refine Sx.call_at (f := 33) (fun W hW => w3 W) ?_) | (with_reducible refine cregF ?_))
                  have e0 : ((fr + t : Nat) : Int) + 1 = ((fr + (t + 1) : Nat) : Int) := by omega
                  rw [e0]
                  exact ⟨t + 1, by omega, by omega, rfl⟩
                · have hb := beq_eq_false_iff_ne.2 hz
                  repeat' (first | simp (disch := omega) only [sxE, w25_LttbLargest.E, Nat.reduceAdd, Nat.reduceEqDiff, Nat.reduceMul, Nat.reduceSub, Int.reduceAdd, Int.reduceSub, Int.reduceMul, Int.reduceNeg, Int.reduceLT, Int.reduceLE, Int.reduceEq, Int.reduceToNat, ↓reduceIte, Int.reducePow, Nat.reduceLeDiff, Nat.reduceLT, ne_eq, eq_self, List.length_cons, List.length_nil, qxE, u0, u1, v0, v1, hb] | (with_reducible refine ldP_self false 1 g ?_; refine ldP_i (g := g) (j + 1) rfl (by first | exact List.mem_cons_self | exact List.mem_cons_of_mem _ List.mem_cons_self | exact List.mem_cons_of_mem _ (List.mem_cons_of_mem _ List.mem_cons_self) | exact List.mem_cons_of_mem _ (List.mem_cons_of_mem _ (List.mem_cons_of_mem _ List.mem_cons_self)) | exact List.mem_cons_of_mem _ (List.mem_cons_of_mem _ (List.mem_cons_of_mem _ (List.mem_cons_of_mem _ List.mem_cons_self)))) ?_ ?_ ?_; omega; omega) | (with_reducible refine ldP_self false 1 g ?_; refine ldP_i (g := g) (j) rfl (by first | exact List.mem_cons_self | exact List.mem_cons_of_mem _ List.mem_cons_self | exact List.mem_cons_of_mem _ (List.mem_cons_of_mem _ List.mem_cons_self) | exact List.mem_cons_of_mem _ (List.mem_cons_of_mem _ (List.mem_cons_of_mem _ List.mem_cons_self)) | exact List.mem_cons_of_mem _ (List.mem_cons_of_mem _ (List.mem_cons_of_mem _ (List.mem_cons_of_mem _ List.mem_cons_self)))) ?_ ?_ ?_; omega; omega) | (with_reducible refine ldP_self true 2 b ?_; refine ldP_s2 (g := b) (at_) rfl (by first | exact List.mem_cons_self | exact List.mem_cons_of_mem _ List.mem_cons_self | exact List.mem_cons_of_mem _ (List.mem_cons_of_mem _ List.mem_cons_self) | exact List.mem_cons_of_mem _ (List.mem_cons_of_mem _ (List.mem_cons_of_mem _ List.mem_cons_self)) | exact List.mem_cons_of_mem _ (List.mem_cons_of_mem _ (List.mem_cons_of_mem _ (List.mem_cons_of_mem _ List.mem_cons_self)))) ?_ ?_ ?_; omega; omega) | (with_reducible refine ldP_self true 2 b ?_; refine ldP_s2 (g := b) (fr + t) rfl (by first | exact List.mem_cons_self | exact List.mem_cons_of_mem _ List.mem_cons_self | exact List.mem_cons_of_mem _ (List.mem_cons_of_mem _ List.mem_cons_self) | exact List.mem_cons_of_mem _ (List.mem_cons_of_mem _ (List.mem_cons_of_mem _ List.mem_cons_self)) | exact List.mem_cons_of_mem _ (List.mem_cons_of_mem _ (List.mem_cons_of_mem _ (List.mem_cons_of_mem _ List.mem_cons_self)))) ?_ ?_ ?_; omega; omega) | (with_reducible refine ldP_self false 1 h ?_; refine ldP_i (g := h) (j) rfl (by first | exact List.mem_cons_self | exact List.mem_cons_of_mem _ List.mem_cons_self | exact List.mem_cons_of_mem _ (List.mem_cons_of_mem _ List.mem_cons_self) | exact List.mem_cons_of_mem _ (List.mem_cons_of_mem _ (List.mem_cons_of_mem _ List.mem_cons_self)) | exact List.mem_cons_of_mem _ (List.mem_cons_of_mem _ (List.mem_cons_of_mem _ (List.mem_cons_of_mem _ List.mem_cons_self)))) ?_ ?_ ?_; omega; omega) | (with_reducible refine ldP_self false 1 h ?_; refine ldP_i (g := h) (j + 1) rfl (by first | exact List.mem_cons_self | exact List.mem_cons_of_mem _ List.mem_cons_self | exact List.mem_cons_of_mem _ (List.mem_cons_of_mem _ List.mem_cons_self) | exact List.mem_cons_of_mem _ (List.mem_cons_of_mem _ (List.mem_cons_of_mem _ List.mem_cons_self)) | exact List.mem_cons_of_mem _ (List.mem_cons_of_mem _ (List.mem_cons_of_mem _ (List.mem_cons_of_mem _ List.mem_cons_self)))) ?_ ?_ ?_; omega; omega) | (with_reducible refine Sx.call_at (f := 19) (fun W hW => w2 W) ?_) | (with_reducible refine Sx.call_at (f := 33) (fun W hW => w3 W) ?_) | (with_reducible refine cregF ?_))
                  have e0 : ((fr + t : Nat) : Int) + 1 = ((fr + (t + 1) : Nat) : Int) := by omega
                  rw [e0]
                  exact ⟨t + 1, by omega, by omega, rfl⟩
              · obtain rfl : t = tt - fr := by omega
                have ct : ((fr + (tt - fr) : Nat) : Int) = tt := by omega
                repeat' (first | simp (disch := omega) only [sxE, w25_LttbLargest.E, Nat.reduceAdd, Nat.reduceEqDiff, Nat.reduceMul, Nat.reduceSub, Int.reduceAdd, Int.reduceSub, Int.reduceMul, Int.reduceNeg, Int.reduceLT, Int.reduceLE, Int.reduceEq, Int.reduceToNat, ↓reduceIte, Int.reducePow, Nat.reduceLeDiff, Nat.reduceLT, ne_eq, eq_self, List.length_cons, List.length_nil, qxE, v1, ct] | (with_reducible refine ldP_self false 1 h ?_; refine ldP_i (g := h) (j + 1) rfl (by first | exact List.mem_cons_self | exact List.mem_cons_of_mem _ List.mem_cons_self | exact List.mem_cons_of_mem _ (List.mem_cons_of_mem _ List.mem_cons_self) | exact List.mem_cons_of_mem _ (List.mem_cons_of_mem _ (List.mem_cons_of_mem _ List.mem_cons_self)) | exact List.mem_cons_of_mem _ (List.mem_cons_of_mem _ (List.mem_cons_of_mem _ (List.mem_cons_of_mem _ List.mem_cons_self)))) ?_ ?_ ?_; omega; omega) | (with_reducible refine cregF ?_))
                have e0 : (j : Int) + 1 + 1 = ((j + 1 : Nat) : Int) + 1 := by omega
                rw [e0]
                exact ⟨j + 1, by omega, by omega, rfl⟩
    · obtain rfl : j + 2 = K := by omega
      have e0 : ((j + 2 : Nat) : Int) = (j : Int) + 2 := by omega
      repeat' (first | simp (disch := omega) only [sxE, w25_LttbLargest.E, Nat.reduceAdd, Nat.reduceEqDiff, Nat.reduceMul, Nat.reduceSub, Int.reduceAdd, Int.reduceSub, Int.reduceMul, Int.reduceNeg, Int.reduceLT, Int.reduceLE, Int.reduceEq, Int.reduceToNat, ↓reduceIte, Int.reducePow, Nat.reduceLeDiff, Nat.reduceLT, ne_eq, eq_self, List.length_cons, List.length_nil, qxE, e0] | (with_reducible refine Sx.call_at (f := 27) (fun W hW => kn W) ?_) | (with_reducible refine cregF ?_))

/-! ### The row -/
set_option maxRecDepth 100000 in
theorem lifted (os : Os) (started : os.Started) (H : Type) (enc : TypeId × Value → H) :
    ReturnsInHanded {} Try.checked os 9 .any (Rows.lttbLargestSpec.pre6 enc Try.prog Try.f9 Rows.lttbLargestRow.domain false) (Rows.lttbLargestSpec.post enc Try.prog Try.f9 false true false false) := by
  refine returnsInHanded_of_change_sized (C := Try.checked) own started (by kernel_rfl) Try.func9
    (ChangeSpec.witness6 (enc := enc) (C := Try.checked) false ⟨#[], #[.slice none 0 0], []⟩ 8 (by kernel_rfl) (by kernel_rfl) (by kernel_rfl) (by kernel_rfl)) ?_
  intro W base args ds gs before hval0 hW hcnd hsz _
  have hval : ∀ (j : Nat) t v, Try.f9.params[j]? = some t → args[j]? = some v → Value.okWide Try.prog W .any base t v := hval0
  have hW' := hW
  obtain ⟨p, q, hA0, hV, rfl, hfz, hnd⟩ := hW
  have hA : DataW.TrodAll enc Try.prog W 0 (fun _ => true) true Try.f9.params.toList args.toList ds p := hA0
  rw [Try.params9] at hA hval
  obtain ⟨v0, vs0, d0, ds0, p0, q0, hargs, rfl, rfl, g0, r0⟩ := trodAll_cons hA
  obtain ⟨rfl, rfl, rfl⟩ := trodAll_nil r0
  obtain rfl : args = #[v0] := by cases args; simp_all
  obtain ⟨rfl, rfl⟩ := trodVars_none hV
  have hlt : ∀ x ∈ (p0 ++ []) ++ [], x.block < W.heap.size := fun x hx => hW'.lt x hx
  obtain ⟨z0, hs0⟩ := open_slz Try.underlying28 Try.underlying3 (by kernel_rfl) (hval 0 28 v0 rfl rfl) g0 (fun x hx => hlt x (by simp [hx]))
  have hs0' := hs0
  obtain ⟨s0, l0, c0, rfl, _⟩ := hs0'
  refine (walk W s0 l0 c0 z0 hs0).mono fun e W' ⟨he, hb⟩ => ?_
  subst he
  exact ⟨_, rfl, law_post laidOut (by kernel_rfl) rfl rfl Try.underlying4 hW' rfl rfl rfl hb⟩

theorem over : Rows.lttbLargestRow.holds Try.pinned (OpenSpec.ofChange Rows.lttbLargestSpec) :=
  OpenClaim.holds_of_wide 9 Try.f9 rfl rfl rfl rfl rfl rfl rfl ⟨rfl, rfl, rfl, rfl, rfl⟩ rfl rfl rfl rfl rfl (by kernel_rfl) Try.func9 (by kernel_rfl)
    (of_decide_eq_true (by kernel_rfl)) (by unfold Func.isWrapper; first | (rw [if_pos (by decide +kernel)]; kernel_rfl) | (rw [if_neg (by decide +kernel)]; exact ⟨rfl, rfl⟩))
    (fun os started H enc _ => lifted os started H enc)

/-- The given statement. -/
theorem proved : Rows.LttbLargestSaid :=
  over
#print axioms proved
end Go.Proofs.Ythcboomdkpiflaa.lttbLargest

