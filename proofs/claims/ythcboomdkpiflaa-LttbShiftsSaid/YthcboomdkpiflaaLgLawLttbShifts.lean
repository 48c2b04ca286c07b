/- Proved: tscodeclaw25.LttbShifts returns true for all arguments. No condition. -/
import Derived.Test.YthcboomdkpiflaaRows
import Derived.Test.YthcboomdkpiflaaLgClLttbShifts
import Derived.OpenShut
import Derived.SizedLaws
import Derived.Laws.IdiomArrays
import Derived.WalkKit
import Derived.ProofKit
import Derived.Outline
import Derived.Test.YthcboomdkpiflaaLg1
import Derived.Test.YthcboomdkpiflaaLg2
import Derived.Test.YthcboomdkpiflaaLg4
import Derived.Test.YthcboomdkpiflaaLg5
namespace Go.Proofs.Ythcboomdkpiflaa.lttbShifts
open Go.ChangeShapes Go.WideShapes Go.ChangeAt Go.RowKit Sx
set_option linter.unusedVariables false
set_option linter.unusedSimpArgs false


/-- A row of k elements. -/
def RowV (k : Nat) (v : Value) : Prop := ∃ a c, v = .slice a k c ∧ k ≤ c ∧ (0 < k → ∃ g, a = some ⟨g, 0, none⟩)
structure ShI (N tb : Nat) (ss : Smps) (A : Int) (vl vm : Value) : Prop where
  tg : TG ss A
  le : ss.length ≤ N
  rl : RowV ss.length vl
  rm : RowV ss.length vm
  ap : ∀ g, vl.ownBlock = some g → vm.ownBlock = some g → False
  tl : vl.ownBlock ≠ some tb
  tm : vm.ownBlock ≠ some tb
theorem wk_bs {e : TypeId} {s n g : Nat} {v : Value} {xs : List Value} : g ∈ (Kn.g (wK e s v n xs)).bs ↔ v.ownBlock = some g := by
  show g ∈ v.ownBlock.toList ↔ _
  simp
theorem tk_bs {tb g : Nat} : g ∈ (Kn.g (tK tb)).bs ↔ g = tb := by
  show g ∈ [tb] ↔ _
  simp
set_option maxHeartbeats 8000000 in
set_option maxRecDepth 100000 in
theorem walk (w : World) (s0 : Option Addr) (l0 c0 : Nat) (z0 : List Int) (h0 : SlZ w .i64 (.slice s0 l0 c0) z0) (a1 : Int) (h1 : I32 a1) (a2 : Int) (h2 : I32 a2) :
    Calls Try.prog 10 #[.slice s0 l0 c0, .int .i32 a1, .int .i32 a2] w fun e w' => e = .returned (.bool true) ∧ Below w.heap.size w w' := by

  have kn := fun W => gives_known en_w25_known (known25_any W)
  obtain ⟨dt1, dt2⟩ := h1
  obtain ⟨dv1, dv2⟩ := h2
  have hE : ElT Try.prog 47 23 2 16 := elT Try.underlying47 info_sample rfl (by decide)
  refine known_of (enter Try.func10 w25_LttbShifts.ok (args := [_, _, _]) (by simp) ?_)
  repeat' (first | simp (disch := omega) only [sxE, w25_LttbShifts.E, Nat.reduceAdd, Nat.reduceEqDiff, Nat.reduceMul, Nat.reduceSub, Int.reduceAdd, Int.reduceSub, Int.reduceMul, Int.reduceNeg, Int.reduceLT, Int.reduceLE, Int.reduceEq, Int.reduceToNat, ↓reduceIte, Int.reducePow, Nat.reduceLeDiff, Nat.reduceLT, ne_eq, eq_self, List.length_cons, List.length_nil, qxE] | (with_reducible refine cregF ?_))
  refine asks_new (L := []) rfl (kX_nil _) h0 en_m_New fun tb htb => ?_; clear htb
  repeat' (first | simp (disch := omega) only [sxE, w25_LttbShifts.E, Nat.reduceAdd, Nat.reduceEqDiff, Nat.reduceMul, Nat.reduceSub, Int.reduceAdd, Int.reduceSub, Int.reduceMul, Int.reduceNeg, Int.reduceLT, Int.reduceLE, Int.reduceEq, Int.reduceToNat, ↓reduceIte, Int.reducePow, Nat.reduceLeDiff, Nat.reduceLT, ne_eq, eq_self, List.length_cons, List.length_nil, qxE] | (with_reducible refine cregF ?_))
  refine asks_tc rfl (tpk_t _ tb) (t_next tb (by decide) (by decide)) en_m_Tape__Next rfl (by first | exact List.mem_singleton.2 rfl | simp) rfl (by first | exact fun j hj => .inl (List.mem_singleton.1 hj) | simp) ?_
  rintro r ⟨r1, r2⟩
  obtain ⟨N, hN⟩ : ∃ N : Nat, 3 + r = N := ⟨(3 + r).toNat, by omega⟩
  have hN3 : 3 ≤ N := by omega
  have hN32 : N ≤ 32 := by omega
  repeat' (first | simp (disch := omega) only [sxE, w25_LttbShifts.E, Nat.reduceAdd, Nat.reduceEqDiff, Nat.reduceMul, Nat.reduceSub, Int.reduceAdd, Int.reduceSub, Int.reduceMul, Int.reduceNeg, Int.reduceLT, Int.reduceLE, Int.reduceEq, Int.reduceToNat, ↓reduceIte, Int.reducePow, Nat.reduceLeDiff, Nat.reduceLT, ne_eq, eq_self, List.length_cons, List.length_nil, qxE, hN] | (with_reducible refine cregF ?_))
  clear hN r1 r2 h0
  rw [w25_LttbShifts.p16_l]
  refine LX_inv (fun x : Smps × Int × Value × Value => ⟨0, [(1, .v (.int .i32 a1)), (2, .v (.int .i32 a2)), (7, .v (.pointer (some ⟨tb, 0, none⟩))), (8, .v x.2.2.1), (9, .v x.2.2.2), (10, .v (.int .i64 x.2.1)), (11, .v (.int .i64 ((N : Int) - x.1.length)))], [], kX w.heap.size [.g (wK 23 2 x.2.2.1 x.1.length (scells x.1)), .g (wK 23 2 x.2.2.2 x.1.length (scells (sh a1 a2 x.1))), .g (tK tb)]⟩) (fun x => ShI N tb x.1 x.2.1 x.2.2.1 x.2.2.2) (fun x => N - x.1.length) ?round ([], 0, .slice none 0 0, .slice none 0 0) ⟨tg_nil, Nat.zero_le _, ⟨none, 0, rfl, Nat.le_refl _, fun h => by cases h⟩, ⟨none, 0, rfl, Nat.le_refl _, fun h => by cases h⟩, (fun g h => by cases h), (fun h => by cases h), (fun h => by cases h)⟩ ?start
  case start =>
    have c0 : ((([] : Smps).length : Nat) : Int) = 0 := rfl
    have c1 : (N : Int) - 0 = N := by omega
    simp (disch := omega) only [sxE, w25_LttbShifts.E, Nat.reduceAdd, Nat.reduceEqDiff, Nat.reduceMul, Nat.reduceSub, Int.reduceAdd, Int.reduceSub, Int.reduceMul, Int.reduceNeg, Int.reduceLT, Int.reduceLE, Int.reduceEq, Int.reduceToNat, ↓reduceIte, Int.reducePow, Nat.reduceLeDiff, Nat.reduceLT, ne_eq, eq_self, List.length_cons, List.length_nil, c0, c1]
    refine extS_of fun k hk => ?_
    rcases List.mem_cons.1 hk with rfl | hk
    · exact .inr ⟨rfl, fun W => wK_nil _ _ _ W⟩
    rcases List.mem_cons.1 hk with rfl | hk
    · exact .inr ⟨rfl, fun W => wK_nil _ _ _ W⟩
    · exact .inl hk
  case round =>
    rintro ⟨ss, A, vl, vm⟩ ⟨tg, le, rl, rm, ap, tl, tm⟩
    try dsimp only at tg le rl rm ap tl tm ⊢
    have hA0 : 0 ≤ A := tg.2.2.2.1
    have hA1 : A ≤ 640 := by have := tg.2.2.2.2; omega
    have htb : ∀ j ∈ ([.g (wK 23 2 vl ss.length (scells ss)), .g (wK 23 2 vm ss.length (scells (sh a1 a2 ss))), .g (tK tb)] : List Kn), j = .g (tK tb) ∨ tb ∉ j.bs := fun j hj => by
      rcases List.mem_cons.1 hj with rfl | hj
      · exact .inr fun h => tl (wk_bs.1 h)
      rcases List.mem_cons.1 hj with rfl | hj
      · exact .inr fun h => tm (wk_bs.1 h)
      · exact .inl (List.mem_singleton.1 hj)
    have htg := hid tg
    clear tg
    by_cases hlt : ss.length < N
    · repeat' (first | simp (disch := omega) only [sxE, w25_LttbShifts.E, Nat.reduceAdd, Nat.reduceEqDiff, Nat.reduceMul, Nat.reduceSub, Int.reduceAdd, Int.reduceSub, Int.reduceMul, Int.reduceNeg, Int.reduceLT, Int.reduceLE, Int.reduceEq, Int.reduceToNat, ↓reduceIte, Int.reducePow, Nat.reduceLeDiff, Nat.reduceLT, ne_eq, eq_self, List.length_cons, List.length_nil, qxE] | (with_reducible refine cregF ?_))
      refine asks_tc rfl (tpk_t _ tb) (t_next tb (n := 20) (by decide) (by decide)) en_m_Tape__Next rfl (by simp) rfl htb ?_
      rintro r ⟨r1, r2⟩
      repeat' (first | simp (disch := omega) only [sxE, w25_LttbShifts.E, Nat.reduceAdd, Nat.reduceEqDiff, Nat.reduceMul, Nat.reduceSub, Int.reduceAdd, Int.reduceSub, Int.reduceMul, Int.reduceNeg, Int.reduceLT, Int.reduceLE, Int.reduceEq, Int.reduceToNat, ↓reduceIte, Int.reducePow, Nat.reduceLeDiff, Nat.reduceLT, ne_eq, eq_self, List.length_cons, List.length_nil, qxE] | (with_reducible refine cregF ?_))
      refine asks_tc rfl (tpk_t _ tb) (t_next tb (n := 1000) (by decide) (by decide)) en_m_Tape__Next rfl (by simp) rfl htb ?_
      rintro u ⟨u1, u2⟩
      repeat' (first | simp (disch := omega) only [sxE, w25_LttbShifts.E, Nat.reduceAdd, Nat.reduceEqDiff, Nat.reduceMul, Nat.reduceSub, Int.reduceAdd, Int.reduceSub, Int.reduceMul, Int.reduceNeg, Int.reduceLT, Int.reduceLE, Int.reduceEq, Int.reduceToNat, ↓reduceIte, Int.reducePow, Nat.reduceLeDiff, Nat.reduceLT, ne_eq, eq_self, List.length_cons, List.length_nil, qxE] | (with_reducible refine cregF ?_))
      refine genA_c (L := [.g (wK 23 2 vl ss.length (scells ss)), .g (wK 23 2 vm ss.length (scells (sh a1 a2 ss))), .g (tK tb)]) (cs := [.int .i64 (A + (1 + r)), .int .i64 (u - 500)]) (T := 23) (fun b => .slice (some ⟨b, 0, none⟩) 1 1) rfl (fun W => by kernel_rfl) fun bl hbl => ?_
      repeat' (first | simp (disch := omega) only [sxE, w25_LttbShifts.E, Nat.reduceAdd, Nat.reduceEqDiff, Nat.reduceMul, Nat.reduceSub, Int.reduceAdd, Int.reduceSub, Int.reduceMul, Int.reduceNeg, Int.reduceLT, Int.reduceLE, Int.reduceEq, Int.reduceToNat, ↓reduceIte, Int.reducePow, Nat.reduceLeDiff, Nat.reduceLT, ne_eq, eq_self, List.length_cons, List.length_nil, qxE] | (with_reducible refine cregF ?_))
      refine genA_lit rfl [.g (wK 23 2 vm ss.length (scells (sh a1 a2 ss))), .g (tK tb)] hE rfl (.inr (List.mem_cons_of_mem _ List.mem_cons_self)) (fun _ h => h) List.mem_cons_self rfl (by decide) rfl (by simp only [maxLen]; omega) (by omega) (fun k hk => ?_) fun g1 c1 hc1 hc1' hg1 => ?_
      · rcases List.mem_cons.1 hk with rfl | hk
        · exact ⟨(by first | exact List.mem_cons_self | exact List.mem_cons_of_mem _ List.mem_cons_self | exact List.mem_cons_of_mem _ (List.mem_cons_of_mem _ List.mem_cons_self) | exact List.mem_cons_of_mem _ (List.mem_cons_of_mem _ (List.mem_cons_of_mem _ List.mem_cons_self)) | exact List.mem_cons_of_mem _ (List.mem_cons_of_mem _ (List.mem_cons_of_mem _ (List.mem_cons_of_mem _ List.mem_cons_self)))), fun x hx h => ap x h (wk_bs.1 hx)⟩
        · rw [List.mem_singleton.1 hk]
          exact ⟨(by first | exact List.mem_cons_self | exact List.mem_cons_of_mem _ List.mem_cons_self | exact List.mem_cons_of_mem _ (List.mem_cons_of_mem _ List.mem_cons_self) | exact List.mem_cons_of_mem _ (List.mem_cons_of_mem _ (List.mem_cons_of_mem _ List.mem_cons_self)) | exact List.mem_cons_of_mem _ (List.mem_cons_of_mem _ (List.mem_cons_of_mem _ (List.mem_cons_of_mem _ List.mem_cons_self)))), fun x hx h => tl (by rw [h, tk_bs.1 hx])⟩
      rw [← scells_app2]
      have n1 : vm.ownBlock ≠ some g1 := fun h => hg1 _ List.mem_cons_self (wk_bs.2 h)
      have n2 : g1 ≠ tb := fun h => hg1 _ (List.mem_cons_of_mem _ (List.mem_singleton.2 rfl)) (tk_bs.2 h)
      clear hbl hg1 htb
      repeat' (first | simp (disch := omega) only [sxE, w25_LttbShifts.E, Nat.reduceAdd, Nat.reduceEqDiff, Nat.reduceMul, Nat.reduceSub, Int.reduceAdd, Int.reduceSub, Int.reduceMul, Int.reduceNeg, Int.reduceLT, Int.reduceLE, Int.reduceEq, Int.reduceToNat, ↓reduceIte, Int.reducePow, Nat.reduceLeDiff, Nat.reduceLT, ne_eq, eq_self, List.length_cons, List.length_nil, qxE] | (with_reducible refine cregF ?_))
      refine genA_c (L := [.g (wK 23 2 (.slice (some ⟨g1, 0, none⟩) (ss.length + 1) c1) (ss.length + 1) (scells (ss ++ [(A + (1 + r), u - 500)]))), .g (wK 23 2 vm ss.length (scells (sh a1 a2 ss))), .g (tK tb)]) (cs := [.int .i64 (A + (1 + r) + a1), .int .i64 (u - 500 + a2)]) (T := 23) (fun b => .slice (some ⟨b, 0, none⟩) 1 1) rfl (fun W => by kernel_rfl) fun bl hbl => ?_
      repeat' (first | simp (disch := omega) only [sxE, w25_LttbShifts.E, Nat.reduceAdd, Nat.reduceEqDiff, Nat.reduceMul, Nat.reduceSub, Int.reduceAdd, Int.reduceSub, Int.reduceMul, Int.reduceNeg, Int.reduceLT, Int.reduceLE, Int.reduceEq, Int.reduceToNat, ↓reduceIte, Int.reducePow, Nat.reduceLeDiff, Nat.reduceLT, ne_eq, eq_self, List.length_cons, List.length_nil, qxE] | (with_reducible refine cregF ?_))
      refine genA_lit rfl [.g (wK 23 2 (.slice (some ⟨g1, 0, none⟩) (ss.length + 1) c1) (ss.length + 1) (scells (ss ++ [(A + (1 + r), u - 500)]))), .g (tK tb)] hE rfl (.inr (List.mem_cons_of_mem _ (List.mem_cons_of_mem _ List.mem_cons_self))) (fun _ h => h) List.mem_cons_self rfl (by decide) rfl (by simp only [maxLen]; omega) (by omega) (fun k hk => ?_) fun g2 c2 hc2 hc2' hg2 => ?_
      · rcases List.mem_cons.1 hk with rfl | hk
        · exact ⟨(by first | exact List.mem_cons_self | exact List.mem_cons_of_mem _ List.mem_cons_self | exact List.mem_cons_of_mem _ (List.mem_cons_of_mem _ List.mem_cons_self) | exact List.mem_cons_of_mem _ (List.mem_cons_of_mem _ (List.mem_cons_of_mem _ List.mem_cons_self)) | exact List.mem_cons_of_mem _ (List.mem_cons_of_mem _ (List.mem_cons_of_mem _ (List.mem_cons_of_mem _ List.mem_cons_self)))), fun x hx h => n1 (by rw [h]; exact (wk_bs.1 hx).symm)⟩
        · rw [List.mem_singleton.1 hk]
          exact ⟨(by first | exact List.mem_cons_self | exact List.mem_cons_of_mem _ List.mem_cons_self | exact List.mem_cons_of_mem _ (List.mem_cons_of_mem _ List.mem_cons_self) | exact List.mem_cons_of_mem _ (List.mem_cons_of_mem _ (List.mem_cons_of_mem _ List.mem_cons_self)) | exact List.mem_cons_of_mem _ (List.mem_cons_of_mem _ (List.mem_cons_of_mem _ (List.mem_cons_of_mem _ List.mem_cons_self)))), fun x hx h => tm (by rw [h, tk_bs.1 hx])⟩
      rw [← scells_app2, ← sh_app]
      have n3 : g2 ≠ g1 := fun h => hg2 _ List.mem_cons_self (wk_bs.2 (by rw [h]; rfl))
      have n4 : g2 ≠ tb := fun h => hg2 _ (List.mem_cons_of_mem _ (List.mem_singleton.2 rfl)) (tk_bs.2 h)
      clear hbl hg2
      repeat' (first | simp (disch := omega) only [sxE, w25_LttbShifts.E, Nat.reduceAdd, Nat.reduceEqDiff, Nat.reduceMul, Nat.reduceSub, Int.reduceAdd, Int.reduceSub, Int.reduceMul, Int.reduceNeg, Int.reduceLT, Int.reduceLE, Int.reduceEq, Int.reduceToNat, ↓reduceIte, Int.reducePow, Nat.reduceLeDiff, Nat.reduceLT, ne_eq, eq_self, List.length_cons, List.length_nil, qxE] | (with_reducible refine cregF ?_))
      have e0 : (N : Int) - (ss.length : Int) - 1 = (N : Int) - ((ss ++ [(A + (1 + r), u - 500)]).length : Int) := by rw [List.length_append, List.length_singleton]; omega
      have e1 : (ss ++ [(A + (1 + r), u - 500)]).length = ss.length + 1 := by rw [List.length_append, List.length_singleton]
      refine ⟨(ss ++ [(A + (1 + r), u - 500)], A + (1 + r), .slice (some ⟨g1, 0, none⟩) (ss.length + 1) c1, .slice (some ⟨g2, 0, none⟩) (ss.length + 1) c2), ⟨tg_step htg.out r1 r2 (by omega) (by omega), by rw [e1]; omega, ?_, ?_, fun g h h' => n3 ?_, fun h => n2 (by cases h; rfl), fun h => n4 (by cases h; rfl)⟩, by dsimp only; rw [e1]; omega, ⟨rfl, rfl, rfl, by rw [e0]⟩, ?_⟩
      · dsimp only
        rw [e1]
        exact ⟨_, _, rfl, hc1, fun _ => ⟨_, rfl⟩⟩
      · dsimp only
        rw [e1]
        exact ⟨_, _, rfl, hc2, fun _ => ⟨_, rfl⟩⟩
      · cases h
        cases h'
        rfl
      · dsimp only
        rw [e1]
        refine extS_kn fun k hk => ?_
        rcases List.mem_cons.1 hk with rfl | hk
        · exact (by first | exact List.mem_cons_self | exact List.mem_cons_of_mem _ List.mem_cons_self | exact List.mem_cons_of_mem _ (List.mem_cons_of_mem _ List.mem_cons_self) | exact List.mem_cons_of_mem _ (List.mem_cons_of_mem _ (List.mem_cons_of_mem _ List.mem_cons_self)) | exact List.mem_cons_of_mem _ (List.mem_cons_of_mem _ (List.mem_cons_of_mem _ (List.mem_cons_of_mem _ List.mem_cons_self))))
        rcases List.mem_cons.1 hk with rfl | hk
        · exact (by first | exact List.mem_cons_self | exact List.mem_cons_of_mem _ List.mem_cons_self | exact List.mem_cons_of_mem _ (List.mem_cons_of_mem _ List.mem_cons_self) | exact List.mem_cons_of_mem _ (List.mem_cons_of_mem _ (List.mem_cons_of_mem _ List.mem_cons_self)) | exact List.mem_cons_of_mem _ (List.mem_cons_of_mem _ (List.mem_cons_of_mem _ (List.mem_cons_of_mem _ List.mem_cons_self))))
        · rw [List.mem_singleton.1 hk]
          exact (by first | exact List.mem_cons_self | exact List.mem_cons_of_mem _ List.mem_cons_self | exact List.mem_cons_of_mem _ (List.mem_cons_of_mem _ List.mem_cons_self) | exact List.mem_cons_of_mem _ (List.mem_cons_of_mem _ (List.mem_cons_of_mem _ List.mem_cons_self)) | exact List.mem_cons_of_mem _ (List.mem_cons_of_mem _ (List.mem_cons_of_mem _ (List.mem_cons_of_mem _ List.mem_cons_self))))
    · obtain rfl : N = ss.length := by omega
      have e0 : (ss.length : Int) - (ss.length : Int) = 0 := by omega
      obtain ⟨al, cl, rfl, hcl, hal⟩ := rl
      obtain ⟨gl, rfl⟩ := hal (by omega)
      obtain ⟨am, cm', rfl, hcm, ham⟩ := rm
      obtain ⟨gm, rfl⟩ := ham (by omega)
      have hin := tg_tiny htg.out (by omega) ⟨dt1, dt2⟩ ⟨dv1, dv2⟩
      have hinc := tg_incr htg.out
      clear htg ap hlt
      repeat' (first | simp (disch := omega) only [sxE, w25_LttbShifts.E, Nat.reduceAdd, Nat.reduceEqDiff, Nat.reduceMul, Nat.reduceSub, Int.reduceAdd, Int.reduceSub, Int.reduceMul, Int.reduceNeg, Int.reduceLT, Int.reduceLE, Int.reduceEq, Int.reduceToNat, ↓reduceIte, Int.reducePow, Nat.reduceLeDiff, Nat.reduceLT, ne_eq, eq_self, List.length_cons, List.length_nil, qxE, e0] | (with_reducible refine cregF ?_))
      refine asks_tc rfl (tpk_t _ tb) (t_next tb (n := (ss.length : Int) - 2) (by omega) (by omega)) en_m_Tape__Next rfl (by simp) rfl htb ?_
      rintro r ⟨r1, r2⟩
      obtain ⟨K, hK⟩ : ∃ K : Nat, 3 + r = K := ⟨(3 + r).toNat, by omega⟩
      have hK3 : 3 ≤ K := by omega
      have hKn : K ≤ ss.length := by omega
      have hl1 : ss.length ≤ 1000 := by omega
      repeat' (first | simp (disch := omega) only [sxE, w25_LttbShifts.E, Nat.reduceAdd, Nat.reduceEqDiff, Nat.reduceMul, Nat.reduceSub, Int.reduceAdd, Int.reduceSub, Int.reduceMul, Int.reduceNeg, Int.reduceLT, Int.reduceLE, Int.reduceEq, Int.reduceToNat, ↓reduceIte, Int.reducePow, Nat.reduceLeDiff, Nat.reduceLT, ne_eq, eq_self, List.length_cons, List.length_nil, qxE, hK] | (with_reducible refine cregF ?_))
      clear hK r1 r2 htb
      have hE1 := ixe_yes hinc hK3 hKn hl1
      have hzl := ixs_lenK hinc hK3 hKn hl1
      have hlm := sh_len a1 a2 ss
      have hincm := incr_sh a1 a2 ss hinc
      have hE2 := ixe_yes (ss := sh a1 a2 ss) hincm hK3 (by rw [hlm]; exact hKn) (by rw [hlm]; exact hl1)
      have hix := ixs_sh hinc hin.1 hin.2 hK3 hKn hl1
      refine asks_rowB (L := [.g (wK 23 2 (.slice (some ⟨gl, 0, none⟩) ss.length cl) ss.length (scells ss)), .g (wK 23 2 (.slice (some ⟨gm, 0, none⟩) ss.length cm') ss.length (scells (sh a1 a2 ss))), .g (tK tb)]) (e := 3) (s := 1) (ι := Unit) (fun _ => True) (fun _ => K) (fun _ => (ixs ss K).map (Value.int .i64)) (fun _ v => .tuple #[v, .int .i64 0]) en_lttb_Indexes rfl (fun W hW hok => ?_) ?_
      · have hs : SlS W _ ss := sls_own (hok _ List.mem_cons_self) (tiny_i64 hin.1)
        refine (indexes_any (K : Int) ⟨by omega, by omega⟩ W hs hl1).mono ?_
        rintro e w' ⟨v, rfl, h1, h2⟩
        rw [hE1]
        rw [hzl] at h1
        exact ⟨(), v, trivial, rfl, h1, h2⟩
      rintro - ga gc - hgc - hga -
      obtain ⟨g, rfl⟩ := hga (by omega)
      repeat' (first | simp (disch := omega) only [sxE, w25_LttbShifts.E, Nat.reduceAdd, Nat.reduceEqDiff, Nat.reduceMul, Nat.reduceSub, Int.reduceAdd, Int.reduceSub, Int.reduceMul, Int.reduceNeg, Int.reduceLT, Int.reduceLE, Int.reduceEq, Int.reduceToNat, ↓reduceIte, Int.reducePow, Nat.reduceLeDiff, Nat.reduceLT, ne_eq, eq_self, List.length_cons, List.length_nil, qxE] | (with_reducible refine cregF ?_))
      refine asks_rowB (L := [.g (wK 3 1 (.slice (some ⟨g, 0, none⟩) K gc) K ((ixs ss K).map (Value.int .i64))), .g (wK 23 2 (.slice (some ⟨gl, 0, none⟩) ss.length cl) ss.length (scells ss)), .g (wK 23 2 (.slice (some ⟨gm, 0, none⟩) ss.length cm') ss.length (scells (sh a1 a2 ss))), .g (tK tb)]) (e := 3) (s := 1) (ι := Unit) (fun _ => True) (fun _ => K) (fun _ => (ixs ss K).map (Value.int .i64)) (fun _ v => .tuple #[v, .int .i64 0]) en_lttb_Indexes rfl (fun W hW hok => ?_) ?_
      · have hs0 : SlS W (.slice (some ⟨gm, 0, none⟩) (sh a1 a2 ss).length cm') (sh a1 a2 ss) := sls_own (by rw [hlm]; exact hok _ (List.mem_cons_of_mem _ (List.mem_cons_of_mem _ List.mem_cons_self))) (tiny_i64 hin.2)
        rw [hlm] at hs0
        refine (indexes_any (K : Int) ⟨by omega, by omega⟩ W hs0 (by rw [hlm]; exact hl1)).mono ?_
        rintro e w' ⟨v, rfl, h1, h2⟩
        rw [hE2]
        rw [hix, hzl] at h1
        exact ⟨(), v, trivial, rfl, h1, h2⟩
      rintro - ha hc - hhc - hha -
      obtain ⟨h, rfl⟩ := hha (by omega)
      clear hha hgc hhc hE1 hE2 hix hlm hincm hinc hin hga tl tm hal ham
      repeat' (first | simp (disch := omega) only [sxE, w25_LttbShifts.E, Nat.reduceAdd, Nat.reduceEqDiff, Nat.reduceMul, Nat.reduceSub, Int.reduceAdd, Int.reduceSub, Int.reduceMul, Int.reduceNeg, Int.reduceLT, Int.reduceLE, Int.reduceEq, Int.reduceToNat, ↓reduceIte, Int.reducePow, Nat.reduceLeDiff, Nat.reduceLT, ne_eq, eq_self, List.length_cons, List.length_nil, qxE, beq_self_eq_true] | (with_reducible refine cregF ?_))
      rw [w25_LttbShifts.p2_l]
      generalize ixs ss K = zz at *
      refine LX_inv (fun j : Nat => ⟨0, [(13, .v (.int .i64 K)), (14, .v (.slice (some ⟨g, 0, none⟩) K gc)), (16, .v (.slice (some ⟨h, 0, none⟩) K hc)), (18, .v (.int .i64 (j : Int)))], [], kX w.heap.size [.g (wK 3 1 (.slice (some ⟨h, 0, none⟩) K hc) K (zz.map (Value.int .i64))), .g (wK 3 1 (.slice (some ⟨g, 0, none⟩) K gc) K (zz.map (Value.int .i64)))]⟩) (fun j => j ≤ K) (fun j => K - j) ?round 0 (by omega) ?start
      case start =>
        have c2 : ((0 : Nat) : Int) = 0 := rfl
        simp (disch := omega) only [sxE, w25_LttbShifts.E, Nat.reduceAdd, Nat.reduceEqDiff, Nat.reduceMul, Nat.reduceSub, Int.reduceAdd, Int.reduceSub, Int.reduceMul, Int.reduceNeg, Int.reduceLT, Int.reduceLE, Int.reduceEq, Int.reduceToNat, ↓reduceIte, Int.reducePow, Nat.reduceLeDiff, Nat.reduceLT, ne_eq, eq_self, List.length_cons, List.length_nil, c2]
        refine extS_kn fun k hk => ?_
        rcases List.mem_cons.1 hk with rfl | hk
        · exact (by first | exact List.mem_cons_self | exact List.mem_cons_of_mem _ List.mem_cons_self | exact List.mem_cons_of_mem _ (List.mem_cons_of_mem _ List.mem_cons_self) | exact List.mem_cons_of_mem _ (List.mem_cons_of_mem _ (List.mem_cons_of_mem _ List.mem_cons_self)) | exact List.mem_cons_of_mem _ (List.mem_cons_of_mem _ (List.mem_cons_of_mem _ (List.mem_cons_of_mem _ List.mem_cons_self))))
        · rw [List.mem_singleton.1 hk]
          exact (by first | exact List.mem_cons_self | exact List.mem_cons_of_mem _ List.mem_cons_self | exact List.mem_cons_of_mem _ (List.mem_cons_of_mem _ List.mem_cons_self) | exact List.mem_cons_of_mem _ (List.mem_cons_of_mem _ (List.mem_cons_of_mem _ List.mem_cons_self)) | exact List.mem_cons_of_mem _ (List.mem_cons_of_mem _ (List.mem_cons_of_mem _ (List.mem_cons_of_mem _ List.mem_cons_self))))
      case round =>
        intro j hj
        try dsimp only at hj ⊢
        by_cases hlt : j < K
        · repeat' (first | simp (disch := omega) only [sxE, w25_LttbShifts.E, Nat.reduceAdd, Nat.reduceEqDiff, Nat.reduceMul, Nat.reduceSub, Int.reduceAdd, Int.reduceSub, Int.reduceMul, Int.reduceNeg, Int.reduceLT, Int.reduceLE, Int.reduceEq, Int.reduceToNat, ↓reduceIte, Int.reducePow, Nat.reduceLeDiff, Nat.reduceLT, ne_eq, eq_self, List.length_cons, List.length_nil, qxE, beq_self_eq_true] | (with_reducible refine ldP_self false 1 g ?_; refine ldP_i (g := g) (j) rfl (by first | exact List.mem_cons_self | exact List.mem_cons_of_mem _ List.mem_cons_self | exact List.mem_cons_of_mem _ (List.mem_cons_of_mem _ List.mem_cons_self) | exact List.mem_cons_of_mem _ (List.mem_cons_of_mem _ (List.mem_cons_of_mem _ List.mem_cons_self)) | exact List.mem_cons_of_mem _ (List.mem_cons_of_mem _ (List.mem_cons_of_mem _ (List.mem_cons_of_mem _ List.mem_cons_self)))) ?_ ?_ ?_; omega; omega) | (with_reducible refine ldP_self false 1 h ?_; refine ldP_i (g := h) (j) rfl (by first | exact List.mem_cons_self | exact List.mem_cons_of_mem _ List.mem_cons_self | exact List.mem_cons_of_mem _ (List.mem_cons_of_mem _ List.mem_cons_self) | exact List.mem_cons_of_mem _ (List.mem_cons_of_mem _ (List.mem_cons_of_mem _ List.mem_cons_self)) | exact List.mem_cons_of_mem _ (List.mem_cons_of_mem _ (List.mem_cons_of_mem _ (List.mem_cons_of_mem _ List.mem_cons_self)))) ?_ ?_ ?_; omega; omega) | (with_reducible refine cregF ?_))
          have e0 : (j : Int) + 1 = ((j + 1 : Nat) : Int) := by omega
          rw [e0]
          exact ⟨j + 1, by omega, by omega, rfl⟩
        · obtain rfl : j = K := by omega
          repeat' (first | simp (disch := omega) only [sxE, w25_LttbShifts.E, Nat.reduceAdd, Nat.reduceEqDiff, Nat.reduceMul, Nat.reduceSub, Int.reduceAdd, Int.reduceSub, Int.reduceMul, Int.reduceNeg, Int.reduceLT, Int.reduceLE, Int.reduceEq, Int.reduceToNat, ↓reduceIte, Int.reducePow, Nat.reduceLeDiff, Nat.reduceLT, ne_eq, eq_self, List.length_cons, List.length_nil, qxE] | (with_reducible refine Sx.call_at (f := 27) (fun W hW => kn W) ?_) | (with_reducible refine cregF ?_))

/-! ### The row -/
set_option maxRecDepth 100000 in
theorem lifted (os : Os) (started : os.Started) (H : Type) (enc : TypeId × Value → H) :
    ReturnsInHanded {} Try.checked os 10 .any (Rows.lttbShiftsSpec.pre6 enc Try.prog Try.f10 Rows.lttbShiftsRow.domain false) (Rows.lttbShiftsSpec.post enc Try.prog Try.f10 false true false false) := by
  refine returnsInHanded_of_change_sized (C := Try.checked) own started (by kernel_rfl) Try.func10
    (ChangeSpec.witness6 (enc := enc) (C := Try.checked) false ⟨#[], #[.slice none 0 0, .int .i32 0, .int .i32 0], []⟩ 8 (by kernel_rfl) (by kernel_rfl) (by kernel_rfl) (by kernel_rfl)) ?_
  intro W base args ds gs before hval0 hW hcnd hsz _
  have hval : ∀ (j : Nat) t v, Try.f10.params[j]? = some t → args[j]? = some v → Value.okWide Try.prog W .any base t v := hval0
  have hW' := hW
  obtain ⟨p, q, hA0, hV, rfl, hfz, hnd⟩ := hW
  have hA : DataW.TrodAll enc Try.prog W 0 (fun _ => true) true Try.f10.params.toList args.toList ds p := hA0
  rw [Try.params10] at hA hval
  obtain ⟨v0, vs0, d0, ds0, p0, q0, hargs, rfl, rfl, g0, r0⟩ := trodAll_cons hA
  obtain ⟨v1, vs1, d1, ds1, p1, q1, rfl, rfl, rfl, g1, r1⟩ := trodAll_cons r0
  obtain ⟨v2, vs2, d2, ds2, p2, q2, rfl, rfl, rfl, g2, r2⟩ := trodAll_cons r1
  obtain ⟨rfl, rfl, rfl⟩ := trodAll_nil r2
  obtain rfl : args = #[v0, v1, v2] := by cases args; simp_all
  obtain ⟨rfl, rfl⟩ := trodVars_none hV
  have hlt : ∀ x ∈ (p0 ++ (p1 ++ (p2 ++ []))) ++ [], x.block < W.heap.size := fun x hx => hW'.lt x hx
  obtain ⟨z0, hs0⟩ := open_slz Try.underlying28 Try.underlying3 (by kernel_rfl) (hval 0 28 v0 rfl rfl) g0 (fun x hx => hlt x (by simp [hx]))
  have hs0' := hs0
  obtain ⟨s0, l0, c0, rfl, _⟩ := hs0'
  obtain ⟨a1, rfl, rfl, rfl, w1⟩ := open_int Try.underlying21 (hval 1 21 v1 rfl rfl) g1
  obtain ⟨a2, rfl, rfl, rfl, w2⟩ := open_int Try.underlying21 (hval 2 21 v2 rfl rfl) g2
  refine (walk W s0 l0 c0 z0 hs0 a1 (I32.of_wf w1) a2 (I32.of_wf w2)).mono fun e W' ⟨he, hb⟩ => ?_
  subst he
  exact ⟨_, rfl, law_post laidOut (by kernel_rfl) rfl rfl Try.underlying4 hW' rfl rfl rfl hb⟩

theorem over : Rows.lttbShiftsRow.holds Try.pinned (OpenSpec.ofChange Rows.lttbShiftsSpec) :=
  OpenClaim.holds_of_wide 10 Try.f10 rfl rfl rfl rfl rfl rfl rfl ⟨rfl, rfl, rfl, rfl, rfl⟩ rfl rfl rfl rfl rfl (by kernel_rfl) Try.func10 (by kernel_rfl)
    (of_decide_eq_true (by kernel_rfl)) (by unfold Func.isWrapper; first | (rw [if_pos (by decide +kernel)]; kernel_rfl) | (rw [if_neg (by decide +kernel)]; exact ⟨rfl, rfl⟩))
    (fun os started H enc _ => lifted os started H enc)

/-- The given statement. -/
theorem proved : Rows.LttbShiftsSaid :=
  over
#print axioms proved
end Go.Proofs.Ythcboomdkpiflaa.lttbShifts

