/- Proved: tscodeclaw23.TriangleForms returns true for all arguments. No condition. -/
import Derived.Test.YthcboomdkpiflaaRows
import Derived.Test.YthcboomdkpiflaaTriL
import Derived.Test.YthcboomdkpiflaaDriftO
import Derived.Test.YthcboomdkpiflaaOpen
import Derived.Test.YthcboomdkpiflaaLawT
import Derived.WalkKit
import Derived.ProofKit
import Derived.OpenShut
import Derived.SizedLaws
import Derived.Outline
import Derived.WalkLawsBesides
import Derived.WalkSpells
import Derived.RegionTactic
import Derived.ChangeAlike
import Derived.BigRegion
import Derived.Handy
namespace Go.Proofs.Ythcboomdkpiflaa.triangleForms
open Go.ChangeShapes Go.WideShapes Go.ChangeAt Go.RowKit
set_option linter.unusedVariables false
set_option linter.unusedSimpArgs false


set_option maxHeartbeats 8000000 in
set_option maxRecDepth 100000 in
theorem walk (w : World) (t0 v0 : Int) (hs0 : I64 t0 ∧ I64 v0) (t1 v1 : Int) (hs1 : I64 t1 ∧ I64 v1) (t2 v2 : Int) (hs2 : I64 t2 ∧ I64 v2) (n3 : Bool) (a3 b3 c3 d3 : Int) (hu3 : U64 a3 ∧ U64 b3 ∧ U64 c3 ∧ U64 d3) (n4 : Bool) (a4 b4 c4 d4 : Int) (hu4 : U64 a4 ∧ U64 b4 ∧ U64 c4 ∧ U64 d4) (a5 : Int) (h5 : I64 a5) (s6 : Option Addr) (l6 c6 : Nat) (z6 : List Int) (h6 : SlZ w .i64 (.slice s6 l6 c6) z6) :
    Calls Try.prog 3 #[.agg #[.int .i64 t0, .int .i64 v0], .agg #[.int .i64 t1, .int .i64 v1], .agg #[.int .i64 t2, .int .i64 v2], WV n3 a3 b3 c3 d3, WV n4 a4 b4 c4 d4, .int .i64 a5, .slice s6 l6 c6] w fun e w' => e = .returned (.bool true) ∧ Below w.heap.size w w' := by
  obtain ⟨s0, s0'⟩ := hs0
  obtain ⟨s1, s1'⟩ := hs1
  obtain ⟨s2, s2'⟩ := hs2
  obtain ⟨u3, u3a, u3b, u3c⟩ := hu3
  obtain ⟨u4, u4a, u4b, u4c⟩ := hu4
  have hG := grown_refl w (some (w.heap.size + 1 + 1 + 1 + 1 + 1))
  have E := eq_self
  go_enter Try.func3, Try.ntmps3
  (repeat' (first | (go_big_may; (first | (go_at_call 11; refine (new_tape (SlZ.below h6 (by (repeat' (first | (with_reducible assumption) | (with_reducible exact Below.refl _ _) | (with_reducible refine Below.alloc ?_ ?_ _) | (with_reducible refine Below.setCell ?_ ?_ _) | (with_reducible refine Below.drew ?_) | (with_reducible refine below_more ?_ (by with_reducible assumption)) | go_size | omega | (with_reducible refine below_drewN ?_)))))).mono ?_; rintro e w' ⟨rfl, ht, hbw⟩; have hle := ht.leB; have N1 := Bx.of (HB.below (b := w.heap.size) (cs := #[.int .i64 t0, .int .i64 v0]) (by (repeat' (first | (with_reducible assumption) | ((with_reducible refine HB.new _ _ _ ?_) <;> (go_size; done)) | (with_reducible refine HB.old (by go_size) ?_) | (with_reducible refine HB.drew ?_) | (with_reducible refine HB.over5 ?_) | (with_reducible refine HB.over4 ?_) | (with_reducible refine HB.setne (by first | go_size | (dsimp only; omega)) ?_) | (with_reducible refine HN.set ?_) | (with_reducible refine HN.setne (by first | go_size | (dsimp only; omega)) ?_) | (with_reducible refine HN.drew ?_) | (with_reducible refine HN.old (by go_size) ?_) | (with_reducible exact HN.of5 (by assumption)) | (with_reducible exact HN.new5 _ _ (by go_size)) | (with_reducible exact HN.of4 (by assumption)) | (with_reducible exact HN.new4 _ _ (by go_size))))) hbw); have N2 := Bx.of (HB.below (b := w.heap.size + 1) (cs := #[.int .i64 t1, .int .i64 v1]) (by (repeat' (first | (with_reducible assumption) | ((with_reducible refine HB.new _ _ _ ?_) <;> (go_size; done)) | (with_reducible refine HB.old (by go_size) ?_) | (with_reducible refine HB.drew ?_) | (with_reducible refine HB.over5 ?_) | (with_reducible refine HB.over4 ?_) | (with_reducible refine HB.setne (by first | go_size | (dsimp only; omega)) ?_) | (with_reducible refine HN.set ?_) | (with_reducible refine HN.setne (by first | go_size | (dsimp only; omega)) ?_) | (with_reducible refine HN.drew ?_) | (with_reducible refine HN.old (by go_size) ?_) | (with_reducible exact HN.of5 (by assumption)) | (with_reducible exact HN.new5 _ _ (by go_size)) | (with_reducible exact HN.of4 (by assumption)) | (with_reducible exact HN.new4 _ _ (by go_size))))) hbw); have N3 := Bx.of (HB.below (b := w.heap.size + 1 + 1) (cs := #[.int .i64 t2, .int .i64 v2]) (by (repeat' (first | (with_reducible assumption) | ((with_reducible refine HB.new _ _ _ ?_) <;> (go_size; done)) | (with_reducible refine HB.old (by go_size) ?_) | (with_reducible refine HB.drew ?_) | (with_reducible refine HB.over5 ?_) | (with_reducible refine HB.over4 ?_) | (with_reducible refine HB.setne (by first | go_size | (dsimp only; omega)) ?_) | (with_reducible refine HN.set ?_) | (with_reducible refine HN.setne (by first | go_size | (dsimp only; omega)) ?_) | (with_reducible refine HN.drew ?_) | (with_reducible refine HN.old (by go_size) ?_) | (with_reducible exact HN.of5 (by assumption)) | (with_reducible exact HN.new5 _ _ (by go_size)) | (with_reducible exact HN.of4 (by assumption)) | (with_reducible exact HN.new4 _ _ (by go_size))))) hbw); have N4 := Bx.of (HB.below (b := w.heap.size + 1 + 1 + 1) (cs := #[.bool n3, .int .u64 a3, .int .u64 b3, .int .u64 c3, .int .u64 d3]) (by (repeat' (first | (with_reducible assumption) | ((with_reducible refine HB.new _ _ _ ?_) <;> (go_size; done)) | (with_reducible refine HB.old (by go_size) ?_) | (with_reducible refine HB.drew ?_) | (with_reducible refine HB.over5 ?_) | (with_reducible refine HB.over4 ?_) | (with_reducible refine HB.setne (by first | go_size | (dsimp only; omega)) ?_) | (with_reducible refine HN.set ?_) | (with_reducible refine HN.setne (by first | go_size | (dsimp only; omega)) ?_) | (with_reducible refine HN.drew ?_) | (with_reducible refine HN.old (by go_size) ?_) | (with_reducible exact HN.of5 (by assumption)) | (with_reducible exact HN.new5 _ _ (by go_size)) | (with_reducible exact HN.of4 (by assumption)) | (with_reducible exact HN.new4 _ _ (by go_size))))) hbw); have N5 := Bx.of (HB.below (b := w.heap.size + 1 + 1 + 1 + 1) (cs := #[.bool n4, .int .u64 a4, .int .u64 b4, .int .u64 c4, .int .u64 d4]) (by (repeat' (first | (with_reducible assumption) | ((with_reducible refine HB.new _ _ _ ?_) <;> (go_size; done)) | (with_reducible refine HB.old (by go_size) ?_) | (with_reducible refine HB.drew ?_) | (with_reducible refine HB.over5 ?_) | (with_reducible refine HB.over4 ?_) | (with_reducible refine HB.setne (by first | go_size | (dsimp only; omega)) ?_) | (with_reducible refine HN.set ?_) | (with_reducible refine HN.setne (by first | go_size | (dsimp only; omega)) ?_) | (with_reducible refine HN.drew ?_) | (with_reducible refine HN.old (by go_size) ?_) | (with_reducible exact HN.of5 (by assumption)) | (with_reducible exact HN.new5 _ _ (by go_size)) | (with_reducible exact HN.of4 (by assumption)) | (with_reducible exact HN.new4 _ _ (by go_size))))) hbw); have hG' : w.grownBy w' (some (w.heap.size + 1 + 1 + 1 + 1 + 1)) := grown_bel (by (repeat' (first | (with_reducible exact hG) | (with_reducible refine grown_alloc ?_ _) | (with_reducible refine grown_drew ?_) | (with_reducible refine grown_setCell ?_ (.inr (by first | go_size | (dsimp only; omega))) _)))) hbw; clear hG; have hG := hG'; clear hG' hbw; (try simp only [World.size_alloc, World.size_setCell, World.size_drew] at ht hle); obtain ⟨B1, B1c, B1f, B1l⟩ := N1; obtain ⟨B2, B2c, B2f, B2l⟩ := N2; obtain ⟨B3, B3c, B3f, B3l⟩ := N3; obtain ⟨B4, B4c, B4f, B4l⟩ := N4; obtain ⟨B5, B5c, B5f, B5l⟩ := N5) | (go_at_call 12; refine (point_any (B := w.heap.size + 1 + 1 + 1 + 1 + 1 + 1) _ _ (by (repeat' (first | (with_reducible exact ht) | (with_reducible refine TapeOk.alloc ?_ _) | (with_reducible refine TapeOk.drew ?_) | (with_reducible refine TapeOk.setc (by first | go_size | (dsimp only; omega)) ?_))))).mono ?_; (first | (have t_ := mk1_4; clear t_; rintro e w' ⟨x5, y5, hx5, hy5, rfl, ht', hg⟩; have mk1_5 := True.intro) | (have t_ := mk1_3; clear t_; rintro e w' ⟨x4, y4, hx4, hy4, rfl, ht', hg⟩; have mk1_4 := True.intro) | (have t_ := mk1_2; clear t_; rintro e w' ⟨x3, y3, hx3, hy3, rfl, ht', hg⟩; have mk1_3 := True.intro) | (have t_ := mk1_1; clear t_; rintro e w' ⟨x2, y2, hx2, hy2, rfl, ht', hg⟩; have mk1_2 := True.intro) | (rintro e w' ⟨x1, y1, hx1, hy1, rfl, ht', hg⟩; have mk1_1 := True.intro)); have N1 := Bx.of (HB.gne (b := w.heap.size) (cs := #[.int .i64 t0, .int .i64 v0]) (by (repeat' (first | (with_reducible assumption) | ((with_reducible refine HB.new _ _ _ ?_) <;> (go_size; done)) | (with_reducible refine HB.old (by go_size) ?_) | (with_reducible refine HB.drew ?_) | (with_reducible refine HB.over5 ?_) | (with_reducible refine HB.over4 ?_) | (with_reducible refine HB.setne (by first | go_size | (dsimp only; omega)) ?_) | (with_reducible refine HN.set ?_) | (with_reducible refine HN.setne (by first | go_size | (dsimp only; omega)) ?_) | (with_reducible refine HN.drew ?_) | (with_reducible refine HN.old (by go_size) ?_) | (with_reducible exact HN.of5 (by assumption)) | (with_reducible exact HN.new5 _ _ (by go_size)) | (with_reducible exact HN.of4 (by assumption)) | (with_reducible exact HN.new4 _ _ (by go_size))))) hg (by first | omega | (go_size; done))); have N2 := Bx.of (HB.gne (b := w.heap.size + 1) (cs := #[.int .i64 t1, .int .i64 v1]) (by (repeat' (first | (with_reducible assumption) | ((with_reducible refine HB.new _ _ _ ?_) <;> (go_size; done)) | (with_reducible refine HB.old (by go_size) ?_) | (with_reducible refine HB.drew ?_) | (with_reducible refine HB.over5 ?_) | (with_reducible refine HB.over4 ?_) | (with_reducible refine HB.setne (by first | go_size | (dsimp only; omega)) ?_) | (with_reducible refine HN.set ?_) | (with_reducible refine HN.setne (by first | go_size | (dsimp only; omega)) ?_) | (with_reducible refine HN.drew ?_) | (with_reducible refine HN.old (by go_size) ?_) | (with_reducible exact HN.of5 (by assumption)) | (with_reducible exact HN.new5 _ _ (by go_size)) | (with_reducible exact HN.of4 (by assumption)) | (with_reducible exact HN.new4 _ _ (by go_size))))) hg (by first | omega | (go_size; done))); have N3 := Bx.of (HB.gne (b := w.heap.size + 1 + 1) (cs := #[.int .i64 t2, .int .i64 v2]) (by (repeat' (first | (with_reducible assumption) | ((with_reducible refine HB.new _ _ _ ?_) <;> (go_size; done)) | (with_reducible refine HB.old (by go_size) ?_) | (with_reducible refine HB.drew ?_) | (with_reducible refine HB.over5 ?_) | (with_reducible refine HB.over4 ?_) | (with_reducible refine HB.setne (by first | go_size | (dsimp only; omega)) ?_) | (with_reducible refine HN.set ?_) | (with_reducible refine HN.setne (by first | go_size | (dsimp only; omega)) ?_) | (with_reducible refine HN.drew ?_) | (with_reducible refine HN.old (by go_size) ?_) | (with_reducible exact HN.of5 (by assumption)) | (with_reducible exact HN.new5 _ _ (by go_size)) | (with_reducible exact HN.of4 (by assumption)) | (with_reducible exact HN.new4 _ _ (by go_size))))) hg (by first | omega | (go_size; done))); have N4 := Bx.of (HB.gne (b := w.heap.size + 1 + 1 + 1) (cs := #[.bool n3, .int .u64 a3, .int .u64 b3, .int .u64 c3, .int .u64 d3]) (by (repeat' (first | (with_reducible assumption) | ((with_reducible refine HB.new _ _ _ ?_) <;> (go_size; done)) | (with_reducible refine HB.old (by go_size) ?_) | (with_reducible refine HB.drew ?_) | (with_reducible refine HB.over5 ?_) | (with_reducible refine HB.over4 ?_) | (with_reducible refine HB.setne (by first | go_size | (dsimp only; omega)) ?_) | (with_reducible refine HN.set ?_) | (with_reducible refine HN.setne (by first | go_size | (dsimp only; omega)) ?_) | (with_reducible refine HN.drew ?_) | (with_reducible refine HN.old (by go_size) ?_) | (with_reducible exact HN.of5 (by assumption)) | (with_reducible exact HN.new5 _ _ (by go_size)) | (with_reducible exact HN.of4 (by assumption)) | (with_reducible exact HN.new4 _ _ (by go_size))))) hg (by first | omega | (go_size; done))); have N5 := Bx.of (HB.gne (b := w.heap.size + 1 + 1 + 1 + 1) (cs := #[.bool n4, .int .u64 a4, .int .u64 b4, .int .u64 c4, .int .u64 d4]) (by (repeat' (first | (with_reducible assumption) | ((with_reducible refine HB.new _ _ _ ?_) <;> (go_size; done)) | (with_reducible refine HB.old (by go_size) ?_) | (with_reducible refine HB.drew ?_) | (with_reducible refine HB.over5 ?_) | (with_reducible refine HB.over4 ?_) | (with_reducible refine HB.setne (by first | go_size | (dsimp only; omega)) ?_) | (with_reducible refine HN.set ?_) | (with_reducible refine HN.setne (by first | go_size | (dsimp only; omega)) ?_) | (with_reducible refine HN.drew ?_) | (with_reducible refine HN.old (by go_size) ?_) | (with_reducible exact HN.of5 (by assumption)) | (with_reducible exact HN.new5 _ _ (by go_size)) | (with_reducible exact HN.of4 (by assumption)) | (with_reducible exact HN.new4 _ _ (by go_size))))) hg (by first | omega | (go_size; done))); have hG' : w.grownBy w' (some (w.heap.size + 1 + 1 + 1 + 1 + 1)) := grown_trans (by (repeat' (first | (with_reducible exact hG) | (with_reducible refine grown_alloc ?_ _) | (with_reducible refine grown_drew ?_) | (with_reducible refine grown_setCell ?_ (.inr (by first | go_size | (dsimp only; omega))) _)))) hg; have hsz := hg.size; clear ht hG; have ht := ht'; have hG := hG'; clear ht' hG'; (try simp only [World.size_alloc, World.size_setCell, World.size_drew] at hsz); clear hg; (try clear B1 B1c B1f B1l); obtain ⟨B1, B1c, B1f, B1l⟩ := N1; (try clear B2 B2c B2f B2l); obtain ⟨B2, B2c, B2f, B2l⟩ := N2; (try clear B3 B3c B3f B3l); obtain ⟨B3, B3c, B3f, B3l⟩ := N3; (try clear B4 B4c B4f B4l); obtain ⟨B4, B4c, B4f, B4l⟩ := N4; (try clear B5 B5c B5f B5l); obtain ⟨B5, B5c, B5f, B5l⟩ := N5))) | go_values | go_skip | go_guarded | go_step | go_upon | (simp only [Int.not_lt, Int.not_le] at *; go_simp) | (go_values <;> (try go_simp)) | (go_ite <;> go_prune <;> (try go_simp)) | (split <;> (first | (rename_i hx; exact (hx _ rfl).elim) | go_prune))))
  rename World => wp
  
  (repeat' (first | (go_big_may; (first | (go_at_call 13; refine (twide_any (B := w.heap.size + 1 + 1 + 1 + 1 + 1 + 1) _ _ (by (repeat' (first | (with_reducible exact ht) | (with_reducible refine TapeOk.alloc ?_ _) | (with_reducible refine TapeOk.drew ?_) | (with_reducible refine TapeOk.setc (by first | go_size | (dsimp only; omega)) ?_))))).mono ?_; (first | (have t_ := mk2_4; clear t_; rintro e w' ⟨nw5, aw5, bw5, cw5, dw5, ua5, ub5, uc5, ud5, rfl, ht', hg⟩; have mk2_5 := True.intro) | (have t_ := mk2_3; clear t_; rintro e w' ⟨nw4, aw4, bw4, cw4, dw4, ua4, ub4, uc4, ud4, rfl, ht', hg⟩; have mk2_4 := True.intro) | (have t_ := mk2_2; clear t_; rintro e w' ⟨nw3, aw3, bw3, cw3, dw3, ua3, ub3, uc3, ud3, rfl, ht', hg⟩; have mk2_3 := True.intro) | (have t_ := mk2_1; clear t_; rintro e w' ⟨nw2, aw2, bw2, cw2, dw2, ua2, ub2, uc2, ud2, rfl, ht', hg⟩; have mk2_2 := True.intro) | (rintro e w' ⟨nw1, aw1, bw1, cw1, dw1, ua1, ub1, uc1, ud1, rfl, ht', hg⟩; have mk2_1 := True.intro)); have N1 := Bx.of (HB.gne (b := w.heap.size) (cs := #[.int .i64 t0, .int .i64 v0]) (by (repeat' (first | (with_reducible assumption) | ((with_reducible refine HB.new _ _ _ ?_) <;> (go_size; done)) | (with_reducible refine HB.old (by go_size) ?_) | (with_reducible refine HB.drew ?_) | (with_reducible refine HB.over5 ?_) | (with_reducible refine HB.over4 ?_) | (with_reducible refine HB.setne (by first | go_size | (dsimp only; omega)) ?_) | (with_reducible refine HN.set ?_) | (with_reducible refine HN.setne (by first | go_size | (dsimp only; omega)) ?_) | (with_reducible refine HN.drew ?_) | (with_reducible refine HN.old (by go_size) ?_) | (with_reducible exact HN.of5 (by assumption)) | (with_reducible exact HN.new5 _ _ (by go_size)) | (with_reducible exact HN.of4 (by assumption)) | (with_reducible exact HN.new4 _ _ (by go_size))))) hg (by first | omega | (go_size; done))); have N2 := Bx.of (HB.gne (b := w.heap.size + 1) (cs := #[.int .i64 t1, .int .i64 v1]) (by (repeat' (first | (with_reducible assumption) | ((with_reducible refine HB.new _ _ _ ?_) <;> (go_size; done)) | (with_reducible refine HB.old (by go_size) ?_) | (with_reducible refine HB.drew ?_) | (with_reducible refine HB.over5 ?_) | (with_reducible refine HB.over4 ?_) | (with_reducible refine HB.setne (by first | go_size | (dsimp only; omega)) ?_) | (with_reducible refine HN.set ?_) | (with_reducible refine HN.setne (by first | go_size | (dsimp only; omega)) ?_) | (with_reducible refine HN.drew ?_) | (with_reducible refine HN.old (by go_size) ?_) | (with_reducible exact HN.of5 (by assumption)) | (with_reducible exact HN.new5 _ _ (by go_size)) | (with_reducible exact HN.of4 (by assumption)) | (with_reducible exact HN.new4 _ _ (by go_size))))) hg (by first | omega | (go_size; done))); have N3 := Bx.of (HB.gne (b := w.heap.size + 1 + 1) (cs := #[.int .i64 t2, .int .i64 v2]) (by (repeat' (first | (with_reducible assumption) | ((with_reducible refine HB.new _ _ _ ?_) <;> (go_size; done)) | (with_reducible refine HB.old (by go_size) ?_) | (with_reducible refine HB.drew ?_) | (with_reducible refine HB.over5 ?_) | (with_reducible refine HB.over4 ?_) | (with_reducible refine HB.setne (by first | go_size | (dsimp only; omega)) ?_) | (with_reducible refine HN.set ?_) | (with_reducible refine HN.setne (by first | go_size | (dsimp only; omega)) ?_) | (with_reducible refine HN.drew ?_) | (with_reducible refine HN.old (by go_size) ?_) | (with_reducible exact HN.of5 (by assumption)) | (with_reducible exact HN.new5 _ _ (by go_size)) | (with_reducible exact HN.of4 (by assumption)) | (with_reducible exact HN.new4 _ _ (by go_size))))) hg (by first | omega | (go_size; done))); have N4 := Bx.of (HB.gne (b := w.heap.size + 1 + 1 + 1) (cs := #[.bool n3, .int .u64 a3, .int .u64 b3, .int .u64 c3, .int .u64 d3]) (by (repeat' (first | (with_reducible assumption) | ((with_reducible refine HB.new _ _ _ ?_) <;> (go_size; done)) | (with_reducible refine HB.old (by go_size) ?_) | (with_reducible refine HB.drew ?_) | (with_reducible refine HB.over5 ?_) | (with_reducible refine HB.over4 ?_) | (with_reducible refine HB.setne (by first | go_size | (dsimp only; omega)) ?_) | (with_reducible refine HN.set ?_) | (with_reducible refine HN.setne (by first | go_size | (dsimp only; omega)) ?_) | (with_reducible refine HN.drew ?_) | (with_reducible refine HN.old (by go_size) ?_) | (with_reducible exact HN.of5 (by assumption)) | (with_reducible exact HN.new5 _ _ (by go_size)) | (with_reducible exact HN.of4 (by assumption)) | (with_reducible exact HN.new4 _ _ (by go_size))))) hg (by first | omega | (go_size; done))); have N5 := Bx.of (HB.gne (b := w.heap.size + 1 + 1 + 1 + 1) (cs := #[.bool n4, .int .u64 a4, .int .u64 b4, .int .u64 c4, .int .u64 d4]) (by (repeat' (first | (with_reducible assumption) | ((with_reducible refine HB.new _ _ _ ?_) <;> (go_size; done)) | (with_reducible refine HB.old (by go_size) ?_) | (with_reducible refine HB.drew ?_) | (with_reducible refine HB.over5 ?_) | (with_reducible refine HB.over4 ?_) | (with_reducible refine HB.setne (by first | go_size | (dsimp only; omega)) ?_) | (with_reducible refine HN.set ?_) | (with_reducible refine HN.setne (by first | go_size | (dsimp only; omega)) ?_) | (with_reducible refine HN.drew ?_) | (with_reducible refine HN.old (by go_size) ?_) | (with_reducible exact HN.of5 (by assumption)) | (with_reducible exact HN.new5 _ _ (by go_size)) | (with_reducible exact HN.of4 (by assumption)) | (with_reducible exact HN.new4 _ _ (by go_size))))) hg (by first | omega | (go_size; done))); have N6 := Bx.of (HB.gne (b := wp.heap.size) (cs := #[.int .i64 x1, .int .i64 y1]) (by (repeat' (first | (with_reducible assumption) | ((with_reducible refine HB.new _ _ _ ?_) <;> (go_size; done)) | (with_reducible refine HB.old (by go_size) ?_) | (with_reducible refine HB.drew ?_) | (with_reducible refine HB.over5 ?_) | (with_reducible refine HB.over4 ?_) | (with_reducible refine HB.setne (by first | go_size | (dsimp only; omega)) ?_) | (with_reducible refine HN.set ?_) | (with_reducible refine HN.setne (by first | go_size | (dsimp only; omega)) ?_) | (with_reducible refine HN.drew ?_) | (with_reducible refine HN.old (by go_size) ?_) | (with_reducible exact HN.of5 (by assumption)) | (with_reducible exact HN.new5 _ _ (by go_size)) | (with_reducible exact HN.of4 (by assumption)) | (with_reducible exact HN.new4 _ _ (by go_size))))) hg (by first | omega | (go_size; done))); have N7 := Bx.of (HB.gne (b := wp.heap.size + 1) (cs := #[.int .i64 x2, .int .i64 y2]) (by (repeat' (first | (with_reducible assumption) | ((with_reducible refine HB.new _ _ _ ?_) <;> (go_size; done)) | (with_reducible refine HB.old (by go_size) ?_) | (with_reducible refine HB.drew ?_) | (with_reducible refine HB.over5 ?_) | (with_reducible refine HB.over4 ?_) | (with_reducible refine HB.setne (by first | go_size | (dsimp only; omega)) ?_) | (with_reducible refine HN.set ?_) | (with_reducible refine HN.setne (by first | go_size | (dsimp only; omega)) ?_) | (with_reducible refine HN.drew ?_) | (with_reducible refine HN.old (by go_size) ?_) | (with_reducible exact HN.of5 (by assumption)) | (with_reducible exact HN.new5 _ _ (by go_size)) | (with_reducible exact HN.of4 (by assumption)) | (with_reducible exact HN.new4 _ _ (by go_size))))) hg (by first | omega | (go_size; done))); have N8 := Bx.of (HB.gne (b := wp.heap.size + 1 + 1) (cs := #[.int .i64 x3, .int .i64 y3]) (by (repeat' (first | (with_reducible assumption) | ((with_reducible refine HB.new _ _ _ ?_) <;> (go_size; done)) | (with_reducible refine HB.old (by go_size) ?_) | (with_reducible refine HB.drew ?_) | (with_reducible refine HB.over5 ?_) | (with_reducible refine HB.over4 ?_) | (with_reducible refine HB.setne (by first | go_size | (dsimp only; omega)) ?_) | (with_reducible refine HN.set ?_) | (with_reducible refine HN.setne (by first | go_size | (dsimp only; omega)) ?_) | (with_reducible refine HN.drew ?_) | (with_reducible refine HN.old (by go_size) ?_) | (with_reducible exact HN.of5 (by assumption)) | (with_reducible exact HN.new5 _ _ (by go_size)) | (with_reducible exact HN.of4 (by assumption)) | (with_reducible exact HN.new4 _ _ (by go_size))))) hg (by first | omega | (go_size; done))); have hG' : w.grownBy w' (some (w.heap.size + 1 + 1 + 1 + 1 + 1)) := grown_trans (by (repeat' (first | (with_reducible exact hG) | (with_reducible refine grown_alloc ?_ _) | (with_reducible refine grown_drew ?_) | (with_reducible refine grown_setCell ?_ (.inr (by first | go_size | (dsimp only; omega))) _)))) hg; have hsz := hg.size; clear ht hG; have ht := ht'; have hG := hG'; clear ht' hG'; (try simp only [World.size_alloc, World.size_setCell, World.size_drew] at hsz); clear hg; (try clear B1 B1c B1f B1l); obtain ⟨B1, B1c, B1f, B1l⟩ := N1; (try clear B2 B2c B2f B2l); obtain ⟨B2, B2c, B2f, B2l⟩ := N2; (try clear B3 B3c B3f B3l); obtain ⟨B3, B3c, B3f, B3l⟩ := N3; (try clear B4 B4c B4f B4l); obtain ⟨B4, B4c, B4f, B4l⟩ := N4; (try clear B5 B5c B5f B5l); obtain ⟨B5, B5c, B5f, B5l⟩ := N5; (try clear B6 B6c B6f B6l); obtain ⟨B6, B6c, B6f, B6l⟩ := N6; (try clear B7 B7c B7f B7l); obtain ⟨B7, B7c, B7f, B7l⟩ := N7; (try clear B8 B8c B8f B8l); obtain ⟨B8, B8c, B8f, B8l⟩ := N8) | (go_at_call 14; refine (next_in (B := w.heap.size + 1 + 1 + 1 + 1 + 1 + 1) _ 50 (by decide) (by decide) _ (by (repeat' (first | (with_reducible exact ht) | (with_reducible refine TapeOk.alloc ?_ _) | (with_reducible refine TapeOk.drew ?_) | (with_reducible refine TapeOk.setc (by first | go_size | (dsimp only; omega)) ?_))))).mono ?_; rintro e w' ⟨r, ⟨r1, r2⟩, rfl, ht', hg⟩; have N1 := Bx.of (HB.gne (b := w.heap.size) (cs := #[.int .i64 t0, .int .i64 v0]) (by (repeat' (first | (with_reducible assumption) | ((with_reducible refine HB.new _ _ _ ?_) <;> (go_size; done)) | (with_reducible refine HB.old (by go_size) ?_) | (with_reducible refine HB.drew ?_) | (with_reducible refine HB.over5 ?_) | (with_reducible refine HB.over4 ?_) | (with_reducible refine HB.setne (by first | go_size | (dsimp only; omega)) ?_) | (with_reducible refine HN.set ?_) | (with_reducible refine HN.setne (by first | go_size | (dsimp only; omega)) ?_) | (with_reducible refine HN.drew ?_) | (with_reducible refine HN.old (by go_size) ?_) | (with_reducible exact HN.of5 (by assumption)) | (with_reducible exact HN.new5 _ _ (by go_size)) | (with_reducible exact HN.of4 (by assumption)) | (with_reducible exact HN.new4 _ _ (by go_size))))) hg (by first | omega | (go_size; done))); have N2 := Bx.of (HB.gne (b := w.heap.size + 1) (cs := #[.int .i64 t1, .int .i64 v1]) (by (repeat' (first | (with_reducible assumption) | ((with_reducible refine HB.new _ _ _ ?_) <;> (go_size; done)) | (with_reducible refine HB.old (by go_size) ?_) | (with_reducible refine HB.drew ?_) | (with_reducible refine HB.over5 ?_) | (with_reducible refine HB.over4 ?_) | (with_reducible refine HB.setne (by first | go_size | (dsimp only; omega)) ?_) | (with_reducible refine HN.set ?_) | (with_reducible refine HN.setne (by first | go_size | (dsimp only; omega)) ?_) | (with_reducible refine HN.drew ?_) | (with_reducible refine HN.old (by go_size) ?_) | (with_reducible exact HN.of5 (by assumption)) | (with_reducible exact HN.new5 _ _ (by go_size)) | (with_reducible exact HN.of4 (by assumption)) | (with_reducible exact HN.new4 _ _ (by go_size))))) hg (by first | omega | (go_size; done))); have N3 := Bx.of (HB.gne (b := w.heap.size + 1 + 1) (cs := #[.int .i64 t2, .int .i64 v2]) (by (repeat' (first | (with_reducible assumption) | ((with_reducible refine HB.new _ _ _ ?_) <;> (go_size; done)) | (with_reducible refine HB.old (by go_size) ?_) | (with_reducible refine HB.drew ?_) | (with_reducible refine HB.over5 ?_) | (with_reducible refine HB.over4 ?_) | (with_reducible refine HB.setne (by first | go_size | (dsimp only; omega)) ?_) | (with_reducible refine HN.set ?_) | (with_reducible refine HN.setne (by first | go_size | (dsimp only; omega)) ?_) | (with_reducible refine HN.drew ?_) | (with_reducible refine HN.old (by go_size) ?_) | (with_reducible exact HN.of5 (by assumption)) | (with_reducible exact HN.new5 _ _ (by go_size)) | (with_reducible exact HN.of4 (by assumption)) | (with_reducible exact HN.new4 _ _ (by go_size))))) hg (by first | omega | (go_size; done))); have N4 := Bx.of (HB.gne (b := w.heap.size + 1 + 1 + 1) (cs := #[.bool n3, .int .u64 a3, .int .u64 b3, .int .u64 c3, .int .u64 d3]) (by (repeat' (first | (with_reducible assumption) | ((with_reducible refine HB.new _ _ _ ?_) <;> (go_size; done)) | (with_reducible refine HB.old (by go_size) ?_) | (with_reducible refine HB.drew ?_) | (with_reducible refine HB.over5 ?_) | (with_reducible refine HB.over4 ?_) | (with_reducible refine HB.setne (by first | go_size | (dsimp only; omega)) ?_) | (with_reducible refine HN.set ?_) | (with_reducible refine HN.setne (by first | go_size | (dsimp only; omega)) ?_) | (with_reducible refine HN.drew ?_) | (with_reducible refine HN.old (by go_size) ?_) | (with_reducible exact HN.of5 (by assumption)) | (with_reducible exact HN.new5 _ _ (by go_size)) | (with_reducible exact HN.of4 (by assumption)) | (with_reducible exact HN.new4 _ _ (by go_size))))) hg (by first | omega | (go_size; done))); have N5 := Bx.of (HB.gne (b := w.heap.size + 1 + 1 + 1 + 1) (cs := #[.bool n4, .int .u64 a4, .int .u64 b4, .int .u64 c4, .int .u64 d4]) (by (repeat' (first | (with_reducible assumption) | ((with_reducible refine HB.new _ _ _ ?_) <;> (go_size; done)) | (with_reducible refine HB.old (by go_size) ?_) | (with_reducible refine HB.drew ?_) | (with_reducible refine HB.over5 ?_) | (with_reducible refine HB.over4 ?_) | (with_reducible refine HB.setne (by first | go_size | (dsimp only; omega)) ?_) | (with_reducible refine HN.set ?_) | (with_reducible refine HN.setne (by first | go_size | (dsimp only; omega)) ?_) | (with_reducible refine HN.drew ?_) | (with_reducible refine HN.old (by go_size) ?_) | (with_reducible exact HN.of5 (by assumption)) | (with_reducible exact HN.new5 _ _ (by go_size)) | (with_reducible exact HN.of4 (by assumption)) | (with_reducible exact HN.new4 _ _ (by go_size))))) hg (by first | omega | (go_size; done))); have N6 := Bx.of (HB.gne (b := wp.heap.size) (cs := #[.int .i64 x1, .int .i64 y1]) (by (repeat' (first | (with_reducible assumption) | ((with_reducible refine HB.new _ _ _ ?_) <;> (go_size; done)) | (with_reducible refine HB.old (by go_size) ?_) | (with_reducible refine HB.drew ?_) | (with_reducible refine HB.over5 ?_) | (with_reducible refine HB.over4 ?_) | (with_reducible refine HB.setne (by first | go_size | (dsimp only; omega)) ?_) | (with_reducible refine HN.set ?_) | (with_reducible refine HN.setne (by first | go_size | (dsimp only; omega)) ?_) | (with_reducible refine HN.drew ?_) | (with_reducible refine HN.old (by go_size) ?_) | (with_reducible exact HN.of5 (by assumption)) | (with_reducible exact HN.new5 _ _ (by go_size)) | (with_reducible exact HN.of4 (by assumption)) | (with_reducible exact HN.new4 _ _ (by go_size))))) hg (by first | omega | (go_size; done))); have N7 := Bx.of (HB.gne (b := wp.heap.size + 1) (cs := #[.int .i64 x2, .int .i64 y2]) (by (repeat' (first | (with_reducible assumption) | ((with_reducible refine HB.new _ _ _ ?_) <;> (go_size; done)) | (with_reducible refine HB.old (by go_size) ?_) | (with_reducible refine HB.drew ?_) | (with_reducible refine HB.over5 ?_) | (with_reducible refine HB.over4 ?_) | (with_reducible refine HB.setne (by first | go_size | (dsimp only; omega)) ?_) | (with_reducible refine HN.set ?_) | (with_reducible refine HN.setne (by first | go_size | (dsimp only; omega)) ?_) | (with_reducible refine HN.drew ?_) | (with_reducible refine HN.old (by go_size) ?_) | (with_reducible exact HN.of5 (by assumption)) | (with_reducible exact HN.new5 _ _ (by go_size)) | (with_reducible exact HN.of4 (by assumption)) | (with_reducible exact HN.new4 _ _ (by go_size))))) hg (by first | omega | (go_size; done))); have N8 := Bx.of (HB.gne (b := wp.heap.size + 1 + 1) (cs := #[.int .i64 x3, .int .i64 y3]) (by (repeat' (first | (with_reducible assumption) | ((with_reducible refine HB.new _ _ _ ?_) <;> (go_size; done)) | (with_reducible refine HB.old (by go_size) ?_) | (with_reducible refine HB.drew ?_) | (with_reducible refine HB.over5 ?_) | (with_reducible refine HB.over4 ?_) | (with_reducible refine HB.setne (by first | go_size | (dsimp only; omega)) ?_) | (with_reducible refine HN.set ?_) | (with_reducible refine HN.setne (by first | go_size | (dsimp only; omega)) ?_) | (with_reducible refine HN.drew ?_) | (with_reducible refine HN.old (by go_size) ?_) | (with_reducible exact HN.of5 (by assumption)) | (with_reducible exact HN.new5 _ _ (by go_size)) | (with_reducible exact HN.of4 (by assumption)) | (with_reducible exact HN.new4 _ _ (by go_size))))) hg (by first | omega | (go_size; done))); have hG' : w.grownBy w' (some (w.heap.size + 1 + 1 + 1 + 1 + 1)) := grown_trans (by (repeat' (first | (with_reducible exact hG) | (with_reducible refine grown_alloc ?_ _) | (with_reducible refine grown_drew ?_) | (with_reducible refine grown_setCell ?_ (.inr (by first | go_size | (dsimp only; omega))) _)))) hg; have hsz := hg.size; clear ht hG; have ht := ht'; have hG := hG'; clear ht' hG'; (try simp only [World.size_alloc, World.size_setCell, World.size_drew] at hsz); clear hg; (try clear B1 B1c B1f B1l); obtain ⟨B1, B1c, B1f, B1l⟩ := N1; (try clear B2 B2c B2f B2l); obtain ⟨B2, B2c, B2f, B2l⟩ := N2; (try clear B3 B3c B3f B3l); obtain ⟨B3, B3c, B3f, B3l⟩ := N3; (try clear B4 B4c B4f B4l); obtain ⟨B4, B4c, B4f, B4l⟩ := N4; (try clear B5 B5c B5f B5l); obtain ⟨B5, B5c, B5f, B5l⟩ := N5; (try clear B6 B6c B6f B6l); obtain ⟨B6, B6c, B6f, B6l⟩ := N6; (try clear B7 B7c B7f B7l); obtain ⟨B7, B7c, B7f, B7l⟩ := N7; (try clear B8 B8c B8f B8l); obtain ⟨B8, B8c, B8f, B8l⟩ := N8))) | go_values | go_skip | go_guarded | go_step | go_upon | (simp only [Int.not_lt, Int.not_le] at *; go_simp) | (go_values <;> (try go_simp)) | (go_ite <;> go_prune <;> (try go_simp)) | (split <;> (first | (rename_i hx; exact (hx _ rfl).elim) | go_prune))))
  have hb0 := below_tape hG (by omega)
  
  
  
  
  
  
  (refine wp_region_dq (row := none) (S := (fun Wz => Below w.heap.size w Wz ∧ w.heap.size ≤ Wz.heap.size ∧ Bx Wz (w.heap.size) (#[.int .i64 t0, .int .i64 v0]) ∧ Bx Wz (w.heap.size + 1) (#[.int .i64 t1, .int .i64 v1]) ∧ Bx Wz (w.heap.size + 1 + 1) (#[.int .i64 t2, .int .i64 v2]) ∧ Bx Wz (w.heap.size + 1 + 1 + 1) (#[.bool n3, .int .u64 a3, .int .u64 b3, .int .u64 c3, .int .u64 d3]) ∧ Bx Wz (w.heap.size + 1 + 1 + 1 + 1) (#[.bool n4, .int .u64 a4, .int .u64 b4, .int .u64 c4, .int .u64 d4]) ∧ Bx Wz (wp.heap.size) (#[.int .i64 x1, .int .i64 y1]) ∧ Bx Wz (wp.heap.size + 1) (#[.int .i64 x2, .int .i64 y2]) ∧ Bx Wz (wp.heap.size + 1 + 1) (#[.int .i64 x3, .int .i64 y3]) ∧ Bx Wz (w'.heap.size) (#[.bool nw1, .int .u64 aw1, .int .u64 bw1, .int .u64 cw1, .int .u64 dw1]) ∧ Bx Wz (w'.heap.size + 1) (#[.bool nw2, .int .u64 aw2, .int .u64 bw2, .int .u64 cw2, .int .u64 dw2]))) (n0 := w.heap.size) 76 [] [(0, 0), (1, 0), (2, 0), (3, 0), (4, 0), (5, 0), (6, 0), (7, 0), (8, 0), (9, 0), (10, 0), (11, 0), (12, 0), (13, 0), (14, 0), (15, 0), (16, 0), (17, 0), (18, 0), (19, 0), (20, 0), (21, 0), (22, 0), (23, 0), (24, 0), (25, 0), (26, 0), (27, 0), (28, 0), (29, 0), (30, 0), (31, 0), (32, 0), (33, 0), (34, 0), (35, 0), (36, 0), (37, 0), (38, 0), (39, 0), (40, 0), (41, 0), (42, 0), (43, 0), (44, 0), (45, 0), (46, 0), (47, 0), (48, 0), (49, 0), (50, 0), (51, 0), (52, 0), (53, 0), (54, 0), (55, 0), (56, 0), (57, 0), (58, 0), (59, 0), (60, 0), (61, 0), (62, 0), (63, 0), (64, 0), (65, 0), (66, 0), (67, 0), (68, 0), (69, 0), (70, 0), (71, 0), (72, 0), (73, 0), (74, 0), (75, 0)] [] (by kernel_rfl) (by kernel_rfl) (fun _ _ d _ _ h => by cases d <;> exact h) ⟨by (repeat' (first | (with_reducible assumption) | (with_reducible exact Below.refl _ _) | (with_reducible refine Below.alloc ?_ ?_ _) | (with_reducible refine Below.setCell ?_ ?_ _) | (with_reducible refine Below.drew ?_) | (with_reducible refine below_more ?_ (by with_reducible assumption)) | go_size | omega | (with_reducible refine below_drewN ?_))), (by first | go_size | omega), Bx.of (by (repeat' (first | (with_reducible assumption) | ((with_reducible refine HB.new _ _ _ ?_) <;> (go_size; done)) | (with_reducible refine HB.old (by go_size) ?_) | (with_reducible refine HB.drew ?_) | (with_reducible refine HB.over5 ?_) | (with_reducible refine HB.over4 ?_) | (with_reducible refine HB.setne (by first | go_size | (dsimp only; omega)) ?_) | (with_reducible refine HN.set ?_) | (with_reducible refine HN.setne (by first | go_size | (dsimp only; omega)) ?_) | (with_reducible refine HN.drew ?_) | (with_reducible refine HN.old (by go_size) ?_) | (with_reducible exact HN.of5 (by assumption)) | (with_reducible exact HN.new5 _ _ (by go_size)) | (with_reducible exact HN.of4 (by assumption)) | (with_reducible exact HN.new4 _ _ (by go_size))))), Bx.of (by (repeat' (first | (with_reducible assumption) | ((with_reducible refine HB.new _ _ _ ?_) <;> (go_size; done)) | (with_reducible refine HB.old (by go_size) ?_) | (with_reducible refine HB.drew ?_) | (with_reducible refine HB.over5 ?_) | (with_reducible refine HB.over4 ?_) | (with_reducible refine HB.setne (by first | go_size | (dsimp only; omega)) ?_) | (with_reducible refine HN.set ?_) | (with_reducible refine HN.setne (by first | go_size | (dsimp only; omega)) ?_) | (with_reducible refine HN.drew ?_) | (with_reducible refine HN.old (by go_size) ?_) | (with_reducible exact HN.of5 (by assumption)) | (with_reducible exact HN.new5 _ _ (by go_size)) | (with_reducible exact HN.of4 (by assumption)) | (with_reducible exact HN.new4 _ _ (by go_size))))), Bx.of (by (repeat' (first | (with_reducible assumption) | ((with_reducible refine HB.new _ _ _ ?_) <;> (go_size; done)) | (with_reducible refine HB.old (by go_size) ?_) | (with_reducible refine HB.drew ?_) | (with_reducible refine HB.over5 ?_) | (with_reducible refine HB.over4 ?_) | (with_reducible refine HB.setne (by first | go_size | (dsimp only; omega)) ?_) | (with_reducible refine HN.set ?_) | (with_reducible refine HN.setne (by first | go_size | (dsimp only; omega)) ?_) | (with_reducible refine HN.drew ?_) | (with_reducible refine HN.old (by go_size) ?_) | (with_reducible exact HN.of5 (by assumption)) | (with_reducible exact HN.new5 _ _ (by go_size)) | (with_reducible exact HN.of4 (by assumption)) | (with_reducible exact HN.new4 _ _ (by go_size))))), Bx.of (by (repeat' (first | (with_reducible assumption) | ((with_reducible refine HB.new _ _ _ ?_) <;> (go_size; done)) | (with_reducible refine HB.old (by go_size) ?_) | (with_reducible refine HB.drew ?_) | (with_reducible refine HB.over5 ?_) | (with_reducible refine HB.over4 ?_) | (with_reducible refine HB.setne (by first | go_size | (dsimp only; omega)) ?_) | (with_reducible refine HN.set ?_) | (with_reducible refine HN.setne (by first | go_size | (dsimp only; omega)) ?_) | (with_reducible refine HN.drew ?_) | (with_reducible refine HN.old (by go_size) ?_) | (with_reducible exact HN.of5 (by assumption)) | (with_reducible exact HN.new5 _ _ (by go_size)) | (with_reducible exact HN.of4 (by assumption)) | (with_reducible exact HN.new4 _ _ (by go_size))))), Bx.of (by (repeat' (first | (with_reducible assumption) | ((with_reducible refine HB.new _ _ _ ?_) <;> (go_size; done)) | (with_reducible refine HB.old (by go_size) ?_) | (with_reducible refine HB.drew ?_) | (with_reducible refine HB.over5 ?_) | (with_reducible refine HB.over4 ?_) | (with_reducible refine HB.setne (by first | go_size | (dsimp only; omega)) ?_) | (with_reducible refine HN.set ?_) | (with_reducible refine HN.setne (by first | go_size | (dsimp only; omega)) ?_) | (with_reducible refine HN.drew ?_) | (with_reducible refine HN.old (by go_size) ?_) | (with_reducible exact HN.of5 (by assumption)) | (with_reducible exact HN.new5 _ _ (by go_size)) | (with_reducible exact HN.of4 (by assumption)) | (with_reducible exact HN.new4 _ _ (by go_size))))), Bx.of (by (repeat' (first | (with_reducible assumption) | ((with_reducible refine HB.new _ _ _ ?_) <;> (go_size; done)) | (with_reducible refine HB.old (by go_size) ?_) | (with_reducible refine HB.drew ?_) | (with_reducible refine HB.over5 ?_) | (with_reducible refine HB.over4 ?_) | (with_reducible refine HB.setne (by first | go_size | (dsimp only; omega)) ?_) | (with_reducible refine HN.set ?_) | (with_reducible refine HN.setne (by first | go_size | (dsimp only; omega)) ?_) | (with_reducible refine HN.drew ?_) | (with_reducible refine HN.old (by go_size) ?_) | (with_reducible exact HN.of5 (by assumption)) | (with_reducible exact HN.new5 _ _ (by go_size)) | (with_reducible exact HN.of4 (by assumption)) | (with_reducible exact HN.new4 _ _ (by go_size))))), Bx.of (by (repeat' (first | (with_reducible assumption) | ((with_reducible refine HB.new _ _ _ ?_) <;> (go_size; done)) | (with_reducible refine HB.old (by go_size) ?_) | (with_reducible refine HB.drew ?_) | (with_reducible refine HB.over5 ?_) | (with_reducible refine HB.over4 ?_) | (with_reducible refine HB.setne (by first | go_size | (dsimp only; omega)) ?_) | (with_reducible refine HN.set ?_) | (with_reducible refine HN.setne (by first | go_size | (dsimp only; omega)) ?_) | (with_reducible refine HN.drew ?_) | (with_reducible refine HN.old (by go_size) ?_) | (with_reducible exact HN.of5 (by assumption)) | (with_reducible exact HN.new5 _ _ (by go_size)) | (with_reducible exact HN.of4 (by assumption)) | (with_reducible exact HN.new4 _ _ (by go_size))))), Bx.of (by (repeat' (first | (with_reducible assumption) | ((with_reducible refine HB.new _ _ _ ?_) <;> (go_size; done)) | (with_reducible refine HB.old (by go_size) ?_) | (with_reducible refine HB.drew ?_) | (with_reducible refine HB.over5 ?_) | (with_reducible refine HB.over4 ?_) | (with_reducible refine HB.setne (by first | go_size | (dsimp only; omega)) ?_) | (with_reducible refine HN.set ?_) | (with_reducible refine HN.setne (by first | go_size | (dsimp only; omega)) ?_) | (with_reducible refine HN.drew ?_) | (with_reducible refine HN.old (by go_size) ?_) | (with_reducible exact HN.of5 (by assumption)) | (with_reducible exact HN.new5 _ _ (by go_size)) | (with_reducible exact HN.of4 (by assumption)) | (with_reducible exact HN.new4 _ _ (by go_size))))), Bx.of (by (repeat' (first | (with_reducible assumption) | ((with_reducible refine HB.new _ _ _ ?_) <;> (go_size; done)) | (with_reducible refine HB.old (by go_size) ?_) | (with_reducible refine HB.drew ?_) | (with_reducible refine HB.over5 ?_) | (with_reducible refine HB.over4 ?_) | (with_reducible refine HB.setne (by first | go_size | (dsimp only; omega)) ?_) | (with_reducible refine HN.set ?_) | (with_reducible refine HN.setne (by first | go_size | (dsimp only; omega)) ?_) | (with_reducible refine HN.drew ?_) | (with_reducible refine HN.old (by go_size) ?_) | (with_reducible exact HN.of5 (by assumption)) | (with_reducible exact HN.new5 _ _ (by go_size)) | (with_reducible exact HN.of4 (by assumption)) | (with_reducible exact HN.new4 _ _ (by go_size))))), Bx.of (by (repeat' (first | (with_reducible assumption) | ((with_reducible refine HB.new _ _ _ ?_) <;> (go_size; done)) | (with_reducible refine HB.old (by go_size) ?_) | (with_reducible refine HB.drew ?_) | (with_reducible refine HB.over5 ?_) | (with_reducible refine HB.over4 ?_) | (with_reducible refine HB.setne (by first | go_size | (dsimp only; omega)) ?_) | (with_reducible refine HN.set ?_) | (with_reducible refine HN.setne (by first | go_size | (dsimp only; omega)) ?_) | (with_reducible refine HN.drew ?_) | (with_reducible refine HN.old (by go_size) ?_) | (with_reducible exact HN.of5 (by assumption)) | (with_reducible exact HN.new5 _ _ (by go_size)) | (with_reducible exact HN.of4 (by assumption)) | (with_reducible exact HN.new4 _ _ (by go_size)))))⟩ (fun _ _ h g => keep10 h (below_gt g) rfl) (fun _ h => h.2.1) (fun _ h => by cases h) (by simp) ?_)
  refine dqo_start ?_
  intro af0 hA
  have Z := size_lit (n := 113) hA (by rfl)
  have D := defers_lit hA
  have F5 := ev_lit (t := 5) hA (by rfl)
  have F7 := ev_lit (t := 7) hA (by rfl)
  have F8 := ev_lit (t := 8) hA (by rfl)
  have F9 := ev_lit (t := 9) hA (by rfl)
  have F10 := ev_lit (t := 10) hA (by rfl)
  have F11 := ev_lit (t := 11) hA (by rfl)
  have F14 := ev_lit (t := 14) hA (by rfl)
  have F16 := ev_lit (t := 16) hA (by rfl)
  have F17 := ev_lit (t := 17) hA (by rfl)
  have F18 := ev_lit (t := 18) hA (by rfl)
  have F19 := ev_lit (t := 19) hA (by rfl)
  have F20 := ev_lit (t := 20) hA (by rfl)
  have F21 := ev_lit (t := 21) hA (by rfl)
  clear hA
  refine' dqo_call (d := 37) (by rfl) (by rfl) Z (by rfl) (wanted_not (by rfl)) ?hv3 ?hc3 ?rest3
  case hv3 => (intro ρ hρ; have Ec := hρ.2.1; have Ef := hρ.2.2.1; clear hρ; intro w; go_simp; exact ⟨rfl, rfl⟩)
  case hc3 => exact (fun w hw => calls_gt (known23_any _))
  case' rest3 => intro af1 Zn Nx
  replace F5 := (Nx.2.2.1 5 rfl).trans F5
  replace F7 := (Nx.2.2.1 7 rfl).trans F7
  replace F8 := (Nx.2.2.1 8 rfl).trans F8
  replace F9 := (Nx.2.2.1 9 rfl).trans F9
  replace F10 := (Nx.2.2.1 10 rfl).trans F10
  replace F11 := (Nx.2.2.1 11 rfl).trans F11
  replace F14 := (Nx.2.2.1 14 rfl).trans F14
  replace F16 := (Nx.2.2.1 16 rfl).trans F16
  replace F17 := (Nx.2.2.1 17 rfl).trans F17
  replace F18 := (Nx.2.2.1 18 rfl).trans F18
  replace F19 := (Nx.2.2.1 19 rfl).trans F19
  replace F20 := (Nx.2.2.1 20 rfl).trans F20
  replace F21 := (Nx.2.2.1 21 rfl).trans F21
  have F37 := Nx.2.1
  replace D := Nx.2.2.2.trans D
  clear Z Nx
  have Z := Zn
  clear Zn af0
  refine' dqo_pure (d := 38) (by rfl) (by rfl) Z (by rfl) (wanted_not (by rfl)) ?hv4 ?rest4
  case hv4 => (intro ρ hρ; have E37 := (hρ.1 37).trans F37; have Ec := hρ.2.1; have Ef := hρ.2.2.1; clear hρ; intro w hw; (try dsimp only at hw); go_split_ands; go_simp; try with_reducible rfl)
  case' rest4 => intro af2 Zn Nx
  replace F5 := (Nx.2.2.1 5 rfl).trans F5
  replace F7 := (Nx.2.2.1 7 rfl).trans F7
  replace F8 := (Nx.2.2.1 8 rfl).trans F8
  replace F9 := (Nx.2.2.1 9 rfl).trans F9
  replace F10 := (Nx.2.2.1 10 rfl).trans F10
  replace F11 := (Nx.2.2.1 11 rfl).trans F11
  replace F14 := (Nx.2.2.1 14 rfl).trans F14
  replace F16 := (Nx.2.2.1 16 rfl).trans F16
  replace F17 := (Nx.2.2.1 17 rfl).trans F17
  replace F18 := (Nx.2.2.1 18 rfl).trans F18
  replace F19 := (Nx.2.2.1 19 rfl).trans F19
  replace F20 := (Nx.2.2.1 20 rfl).trans F20
  replace F21 := (Nx.2.2.1 21 rfl).trans F21
  clear F37
  have F38 := Nx.2.1
  replace D := Nx.2.2.2.trans D
  clear Z Nx
  have Z := Zn
  clear Zn af1
  refine' dqo_pure (d := 39) (by rfl) (by rfl) Z (by rfl) (wanted_yes (by rfl) (by rfl) F38) ?hv5 ?rest5
  case hv5 => (intro ρ hρ; have E7 := (hρ.1 7).trans F7; have Ec := hρ.2.1; have Ef := hρ.2.2.1; clear hρ; intro w hw; (try dsimp only at hw); go_split_ands; go_simp; try with_reducible rfl)
  case' rest5 => intro af3 Zn Nx
  replace F5 := (Nx.2.2.1 5 rfl).trans F5
  replace F7 := (Nx.2.2.1 7 rfl).trans F7
  replace F8 := (Nx.2.2.1 8 rfl).trans F8
  replace F9 := (Nx.2.2.1 9 rfl).trans F9
  replace F10 := (Nx.2.2.1 10 rfl).trans F10
  replace F11 := (Nx.2.2.1 11 rfl).trans F11
  replace F14 := (Nx.2.2.1 14 rfl).trans F14
  replace F16 := (Nx.2.2.1 16 rfl).trans F16
  replace F17 := (Nx.2.2.1 17 rfl).trans F17
  replace F18 := (Nx.2.2.1 18 rfl).trans F18
  replace F19 := (Nx.2.2.1 19 rfl).trans F19
  replace F20 := (Nx.2.2.1 20 rfl).trans F20
  replace F21 := (Nx.2.2.1 21 rfl).trans F21
  replace F38 := (Nx.2.2.1 38 rfl).trans F38
  have F39 := Nx.2.1
  replace D := Nx.2.2.2.trans D
  clear Z Nx
  have Z := Zn
  clear Zn af2
  refine' dqo_pure (d := 40) (by rfl) (by rfl) Z (by rfl) (wanted_yes (by rfl) (by rfl) F38) ?hv6 ?rest6
  case hv6 => (intro ρ hρ; have E8 := (hρ.1 8).trans F8; have Ec := hρ.2.1; have Ef := hρ.2.2.1; clear hρ; intro w hw; (try dsimp only at hw); go_split_ands; go_simp; try with_reducible rfl)
  case' rest6 => intro af4 Zn Nx
  replace F5 := (Nx.2.2.1 5 rfl).trans F5
  replace F7 := (Nx.2.2.1 7 rfl).trans F7
  replace F8 := (Nx.2.2.1 8 rfl).trans F8
  replace F9 := (Nx.2.2.1 9 rfl).trans F9
  replace F10 := (Nx.2.2.1 10 rfl).trans F10
  replace F11 := (Nx.2.2.1 11 rfl).trans F11
  replace F14 := (Nx.2.2.1 14 rfl).trans F14
  replace F16 := (Nx.2.2.1 16 rfl).trans F16
  replace F17 := (Nx.2.2.1 17 rfl).trans F17
  replace F18 := (Nx.2.2.1 18 rfl).trans F18
  replace F19 := (Nx.2.2.1 19 rfl).trans F19
  replace F20 := (Nx.2.2.1 20 rfl).trans F20
  replace F21 := (Nx.2.2.1 21 rfl).trans F21
  replace F38 := (Nx.2.2.1 38 rfl).trans F38
  replace F39 := (Nx.2.2.1 39 rfl).trans F39
  have F40 := Nx.2.1
  replace D := Nx.2.2.2.trans D
  clear Z Nx
  have Z := Zn
  clear Zn af3
  refine' dqo_pure (d := 41) (by rfl) (by rfl) Z (by rfl) (wanted_yes (by rfl) (by rfl) F38) ?hv7 ?rest7
  case hv7 => (intro ρ hρ; have E9 := (hρ.1 9).trans F9; have Ec := hρ.2.1; have Ef := hρ.2.2.1; clear hρ; intro w hw; (try dsimp only at hw); go_split_ands; go_simp; try with_reducible rfl)
  case' rest7 => intro af5 Zn Nx
  replace F5 := (Nx.2.2.1 5 rfl).trans F5
  replace F7 := (Nx.2.2.1 7 rfl).trans F7
  replace F8 := (Nx.2.2.1 8 rfl).trans F8
  replace F9 := (Nx.2.2.1 9 rfl).trans F9
  replace F10 := (Nx.2.2.1 10 rfl).trans F10
  replace F11 := (Nx.2.2.1 11 rfl).trans F11
  replace F14 := (Nx.2.2.1 14 rfl).trans F14
  replace F16 := (Nx.2.2.1 16 rfl).trans F16
  replace F17 := (Nx.2.2.1 17 rfl).trans F17
  replace F18 := (Nx.2.2.1 18 rfl).trans F18
  replace F19 := (Nx.2.2.1 19 rfl).trans F19
  replace F20 := (Nx.2.2.1 20 rfl).trans F20
  replace F21 := (Nx.2.2.1 21 rfl).trans F21
  replace F38 := (Nx.2.2.1 38 rfl).trans F38
  replace F39 := (Nx.2.2.1 39 rfl).trans F39
  replace F40 := (Nx.2.2.1 40 rfl).trans F40
  have F41 := Nx.2.1
  replace D := Nx.2.2.2.trans D
  clear Z Nx
  have Z := Zn
  clear Zn af4
  refine' dqo_call (d := 42) (by rfl) (by rfl) Z (by rfl) (wanted_yes (by rfl) (by rfl) F38) ?hv8 ?hc8 ?rest8
  case hv8 => (intro ρ hρ; have E39 := (hρ.1 39).trans F39; have E40 := (hρ.1 40).trans F40; have E41 := (hρ.1 41).trans F41; have Ec := hρ.2.1; have Ef := hρ.2.2.1; clear hρ; intro w; go_simp; exact ⟨rfl, rfl⟩)
  case hc8 => exact (fun w hw => calls_gt (doubled_any (by assumption) (by assumption) (by assumption) (by assumption) (by assumption) (by assumption) _))
  case' rest8 => intro af6 Zn Nx
  replace F5 := (Nx.2.2.1 5 rfl).trans F5
  replace F7 := (Nx.2.2.1 7 rfl).trans F7
  replace F8 := (Nx.2.2.1 8 rfl).trans F8
  replace F9 := (Nx.2.2.1 9 rfl).trans F9
  replace F10 := (Nx.2.2.1 10 rfl).trans F10
  replace F11 := (Nx.2.2.1 11 rfl).trans F11
  replace F14 := (Nx.2.2.1 14 rfl).trans F14
  replace F16 := (Nx.2.2.1 16 rfl).trans F16
  replace F17 := (Nx.2.2.1 17 rfl).trans F17
  replace F18 := (Nx.2.2.1 18 rfl).trans F18
  replace F19 := (Nx.2.2.1 19 rfl).trans F19
  replace F20 := (Nx.2.2.1 20 rfl).trans F20
  replace F21 := (Nx.2.2.1 21 rfl).trans F21
  replace F38 := (Nx.2.2.1 38 rfl).trans F38
  clear F39
  clear F40
  clear F41
  have F42 := Nx.2.1
  replace D := Nx.2.2.2.trans D
  clear Z Nx
  have Z := Zn
  clear Zn af5
  refine' dqo_pure (d := 43) (by rfl) (by rfl) Z (by rfl) (wanted_yes (by rfl) (by rfl) F38) ?hv9 ?rest9
  case hv9 => (intro ρ hρ; have E7 := (hρ.1 7).trans F7; have Ec := hρ.2.1; have Ef := hρ.2.2.1; clear hρ; intro w hw; (try dsimp only at hw); go_split_ands; go_simp; try with_reducible rfl)
  case' rest9 => intro af7 Zn Nx
  replace F5 := (Nx.2.2.1 5 rfl).trans F5
  replace F7 := (Nx.2.2.1 7 rfl).trans F7
  replace F8 := (Nx.2.2.1 8 rfl).trans F8
  replace F9 := (Nx.2.2.1 9 rfl).trans F9
  replace F10 := (Nx.2.2.1 10 rfl).trans F10
  replace F11 := (Nx.2.2.1 11 rfl).trans F11
  replace F14 := (Nx.2.2.1 14 rfl).trans F14
  replace F16 := (Nx.2.2.1 16 rfl).trans F16
  replace F17 := (Nx.2.2.1 17 rfl).trans F17
  replace F18 := (Nx.2.2.1 18 rfl).trans F18
  replace F19 := (Nx.2.2.1 19 rfl).trans F19
  replace F20 := (Nx.2.2.1 20 rfl).trans F20
  replace F21 := (Nx.2.2.1 21 rfl).trans F21
  replace F38 := (Nx.2.2.1 38 rfl).trans F38
  replace F42 := (Nx.2.2.1 42 rfl).trans F42
  have F43 := Nx.2.1
  replace D := Nx.2.2.2.trans D
  clear Z Nx
  have Z := Zn
  clear Zn af6
  refine' dqo_pure (d := 44) (by rfl) (by rfl) Z (by rfl) (wanted_yes (by rfl) (by rfl) F38) ?hv10 ?rest10
  case hv10 => (intro ρ hρ; have E8 := (hρ.1 8).trans F8; have Ec := hρ.2.1; have Ef := hρ.2.2.1; clear hρ; intro w hw; (try dsimp only at hw); go_split_ands; go_simp; try with_reducible rfl)
  case' rest10 => intro af8 Zn Nx
  replace F5 := (Nx.2.2.1 5 rfl).trans F5
  replace F7 := (Nx.2.2.1 7 rfl).trans F7
  replace F8 := (Nx.2.2.1 8 rfl).trans F8
  replace F9 := (Nx.2.2.1 9 rfl).trans F9
  replace F10 := (Nx.2.2.1 10 rfl).trans F10
  replace F11 := (Nx.2.2.1 11 rfl).trans F11
  replace F14 := (Nx.2.2.1 14 rfl).trans F14
  replace F16 := (Nx.2.2.1 16 rfl).trans F16
  replace F17 := (Nx.2.2.1 17 rfl).trans F17
  replace F18 := (Nx.2.2.1 18 rfl).trans F18
  replace F19 := (Nx.2.2.1 19 rfl).trans F19
  replace F20 := (Nx.2.2.1 20 rfl).trans F20
  replace F21 := (Nx.2.2.1 21 rfl).trans F21
  replace F38 := (Nx.2.2.1 38 rfl).trans F38
  replace F42 := (Nx.2.2.1 42 rfl).trans F42
  replace F43 := (Nx.2.2.1 43 rfl).trans F43
  have F44 := Nx.2.1
  replace D := Nx.2.2.2.trans D
  clear Z Nx
  have Z := Zn
  clear Zn af7
  refine' dqo_pure (d := 45) (by rfl) (by rfl) Z (by rfl) (wanted_yes (by rfl) (by rfl) F38) ?hv11 ?rest11
  case hv11 => (intro ρ hρ; have E9 := (hρ.1 9).trans F9; have Ec := hρ.2.1; have Ef := hρ.2.2.1; clear hρ; intro w hw; (try dsimp only at hw); go_split_ands; go_simp; try with_reducible rfl)
  case' rest11 => intro af9 Zn Nx
  replace F5 := (Nx.2.2.1 5 rfl).trans F5
  replace F7 := (Nx.2.2.1 7 rfl).trans F7
  replace F8 := (Nx.2.2.1 8 rfl).trans F8
  clear F9
  replace F10 := (Nx.2.2.1 10 rfl).trans F10
  replace F11 := (Nx.2.2.1 11 rfl).trans F11
  replace F14 := (Nx.2.2.1 14 rfl).trans F14
  replace F16 := (Nx.2.2.1 16 rfl).trans F16
  replace F17 := (Nx.2.2.1 17 rfl).trans F17
  replace F18 := (Nx.2.2.1 18 rfl).trans F18
  replace F19 := (Nx.2.2.1 19 rfl).trans F19
  replace F20 := (Nx.2.2.1 20 rfl).trans F20
  replace F21 := (Nx.2.2.1 21 rfl).trans F21
  replace F38 := (Nx.2.2.1 38 rfl).trans F38
  replace F42 := (Nx.2.2.1 42 rfl).trans F42
  replace F43 := (Nx.2.2.1 43 rfl).trans F43
  replace F44 := (Nx.2.2.1 44 rfl).trans F44
  have F45 := Nx.2.1
  replace D := Nx.2.2.2.trans D
  clear Z Nx
  have Z := Zn
  clear Zn af8
  refine' dqo_call (d := 46) (by rfl) (by rfl) Z (by rfl) (wanted_yes (by rfl) (by rfl) F38) ?hv12 ?hc12 ?rest12
  case hv12 => (intro ρ hρ; have E43 := (hρ.1 43).trans F43; have E44 := (hρ.1 44).trans F44; have E45 := (hρ.1 45).trans F45; have Ec := hρ.2.1; have Ef := hρ.2.2.1; clear hρ; intro w; go_simp; exact ⟨rfl, rfl⟩)
  case hc12 => exact (fun w hw => calls_gt (rdoubled_any (by assumption) (by assumption) (by assumption) (by assumption) (by assumption) (by assumption) _))
  case' rest12 => intro af10 Zn Nx
  replace F5 := (Nx.2.2.1 5 rfl).trans F5
  replace F7 := (Nx.2.2.1 7 rfl).trans F7
  replace F8 := (Nx.2.2.1 8 rfl).trans F8
  replace F10 := (Nx.2.2.1 10 rfl).trans F10
  replace F11 := (Nx.2.2.1 11 rfl).trans F11
  replace F14 := (Nx.2.2.1 14 rfl).trans F14
  replace F16 := (Nx.2.2.1 16 rfl).trans F16
  replace F17 := (Nx.2.2.1 17 rfl).trans F17
  replace F18 := (Nx.2.2.1 18 rfl).trans F18
  replace F19 := (Nx.2.2.1 19 rfl).trans F19
  replace F20 := (Nx.2.2.1 20 rfl).trans F20
  replace F21 := (Nx.2.2.1 21 rfl).trans F21
  replace F38 := (Nx.2.2.1 38 rfl).trans F38
  replace F42 := (Nx.2.2.1 42 rfl).trans F42
  clear F43
  clear F44
  clear F45
  have F46 := Nx.2.1
  replace D := Nx.2.2.2.trans D
  clear Z Nx
  have Z := Zn
  clear Zn af9
  refine' dqo_pure (d := 47) (by rfl) (by rfl) Z (by rfl) (wanted_yes (by rfl) (by rfl) F38) ?hv13 ?rest13
  case hv13 => (intro ρ hρ; have E42 := (hρ.1 42).trans F42; have E46 := (hρ.1 46).trans F46; have Ec := hρ.2.1; have Ef := hρ.2.2.1; clear hρ; intro w hw; (try dsimp only at hw); go_split_ands; go_simp; try with_reducible rfl)
  case' rest13 => intro af11 Zn Nx
  replace F5 := (Nx.2.2.1 5 rfl).trans F5
  replace F7 := (Nx.2.2.1 7 rfl).trans F7
  replace F8 := (Nx.2.2.1 8 rfl).trans F8
  replace F10 := (Nx.2.2.1 10 rfl).trans F10
  replace F11 := (Nx.2.2.1 11 rfl).trans F11
  replace F14 := (Nx.2.2.1 14 rfl).trans F14
  replace F16 := (Nx.2.2.1 16 rfl).trans F16
  replace F17 := (Nx.2.2.1 17 rfl).trans F17
  replace F18 := (Nx.2.2.1 18 rfl).trans F18
  replace F19 := (Nx.2.2.1 19 rfl).trans F19
  replace F20 := (Nx.2.2.1 20 rfl).trans F20
  replace F21 := (Nx.2.2.1 21 rfl).trans F21
  replace F38 := (Nx.2.2.1 38 rfl).trans F38
  clear F42
  clear F46
  have F47 := Nx.2.1
  replace D := Nx.2.2.2.trans D
  clear Z Nx
  have Z := Zn
  clear Zn af10
  refine' dqo_pure (d := 48) (by rfl) (by rfl) Z (by rfl) (wanted_not (by rfl)) ?hv14 ?rest14
  case hv14 => (intro ρ hρ; have E38 := (hρ.1 38).trans F38; have E47 := (hρ.1 47).trans F47; have Ec := hρ.2.1; have Ef := hρ.2.2.1; clear hρ; intro w hw; (try dsimp only at hw); go_split_ands; go_simp; try with_reducible rfl)
  case' rest14 => intro af12 Zn Nx
  replace F5 := (Nx.2.2.1 5 rfl).trans F5
  replace F7 := (Nx.2.2.1 7 rfl).trans F7
  replace F8 := (Nx.2.2.1 8 rfl).trans F8
  replace F10 := (Nx.2.2.1 10 rfl).trans F10
  replace F11 := (Nx.2.2.1 11 rfl).trans F11
  replace F14 := (Nx.2.2.1 14 rfl).trans F14
  replace F16 := (Nx.2.2.1 16 rfl).trans F16
  replace F17 := (Nx.2.2.1 17 rfl).trans F17
  replace F18 := (Nx.2.2.1 18 rfl).trans F18
  replace F19 := (Nx.2.2.1 19 rfl).trans F19
  replace F20 := (Nx.2.2.1 20 rfl).trans F20
  replace F21 := (Nx.2.2.1 21 rfl).trans F21
  clear F38
  clear F47
  have F48 := Nx.2.1
  replace D := Nx.2.2.2.trans D
  clear Z Nx
  have Z := Zn
  clear Zn af11
  refine' dqo_pure (d := 49) (by rfl) (by rfl) Z (by rfl) (wanted_not (by rfl)) ?hv15 ?rest15
  case hv15 => (intro ρ hρ; have E48 := (hρ.1 48).trans F48; have Ec := hρ.2.1; have Ef := hρ.2.2.1; clear hρ; intro w hw; (try dsimp only at hw); go_split_ands; go_simp; try with_reducible rfl)
  case' rest15 => intro af13 Zn Nx
  replace F5 := (Nx.2.2.1 5 rfl).trans F5
  replace F7 := (Nx.2.2.1 7 rfl).trans F7
  replace F8 := (Nx.2.2.1 8 rfl).trans F8
  replace F10 := (Nx.2.2.1 10 rfl).trans F10
  replace F11 := (Nx.2.2.1 11 rfl).trans F11
  replace F14 := (Nx.2.2.1 14 rfl).trans F14
  replace F16 := (Nx.2.2.1 16 rfl).trans F16
  replace F17 := (Nx.2.2.1 17 rfl).trans F17
  replace F18 := (Nx.2.2.1 18 rfl).trans F18
  replace F19 := (Nx.2.2.1 19 rfl).trans F19
  replace F20 := (Nx.2.2.1 20 rfl).trans F20
  replace F21 := (Nx.2.2.1 21 rfl).trans F21
  clear F48
  have F49 := Nx.2.1
  replace D := Nx.2.2.2.trans D
  clear Z Nx
  have Z := Zn
  clear Zn af12
  refine' dqo_pure (d := 50) (by rfl) (by rfl) Z (by rfl) (wanted_yes (by rfl) (by rfl) F49) ?hv16 ?rest16
  case hv16 => (intro ρ hρ; have E16 := (hρ.1 16).trans F16; have Ec := hρ.2.1; have Ef := hρ.2.2.1; clear hρ; intro w hw; (try dsimp only at hw); go_split_ands; go_simp; try with_reducible rfl)
  case' rest16 => intro af14 Zn Nx
  replace F5 := (Nx.2.2.1 5 rfl).trans F5
  replace F7 := (Nx.2.2.1 7 rfl).trans F7
  replace F8 := (Nx.2.2.1 8 rfl).trans F8
  replace F10 := (Nx.2.2.1 10 rfl).trans F10
  replace F11 := (Nx.2.2.1 11 rfl).trans F11
  replace F14 := (Nx.2.2.1 14 rfl).trans F14
  replace F16 := (Nx.2.2.1 16 rfl).trans F16
  replace F17 := (Nx.2.2.1 17 rfl).trans F17
  replace F18 := (Nx.2.2.1 18 rfl).trans F18
  replace F19 := (Nx.2.2.1 19 rfl).trans F19
  replace F20 := (Nx.2.2.1 20 rfl).trans F20
  replace F21 := (Nx.2.2.1 21 rfl).trans F21
  replace F49 := (Nx.2.2.1 49 rfl).trans F49
  have F50 := Nx.2.1
  replace D := Nx.2.2.2.trans D
  clear Z Nx
  have Z := Zn
  clear Zn af13
  refine' dqo_pure (d := 51) (by rfl) (by rfl) Z (by rfl) (wanted_yes (by rfl) (by rfl) F49) ?hv17 ?rest17
  case hv17 => (intro ρ hρ; have E17 := (hρ.1 17).trans F17; have Ec := hρ.2.1; have Ef := hρ.2.2.1; clear hρ; intro w hw; (try dsimp only at hw); go_split_ands; go_simp; try with_reducible rfl)
  case' rest17 => intro af15 Zn Nx
  replace F5 := (Nx.2.2.1 5 rfl).trans F5
  replace F7 := (Nx.2.2.1 7 rfl).trans F7
  replace F8 := (Nx.2.2.1 8 rfl).trans F8
  replace F10 := (Nx.2.2.1 10 rfl).trans F10
  replace F11 := (Nx.2.2.1 11 rfl).trans F11
  replace F14 := (Nx.2.2.1 14 rfl).trans F14
  replace F16 := (Nx.2.2.1 16 rfl).trans F16
  replace F17 := (Nx.2.2.1 17 rfl).trans F17
  replace F18 := (Nx.2.2.1 18 rfl).trans F18
  replace F19 := (Nx.2.2.1 19 rfl).trans F19
  replace F20 := (Nx.2.2.1 20 rfl).trans F20
  replace F21 := (Nx.2.2.1 21 rfl).trans F21
  replace F49 := (Nx.2.2.1 49 rfl).trans F49
  replace F50 := (Nx.2.2.1 50 rfl).trans F50
  have F51 := Nx.2.1
  replace D := Nx.2.2.2.trans D
  clear Z Nx
  have Z := Zn
  clear Zn af14
  refine' dqo_pure (d := 52) (by rfl) (by rfl) Z (by rfl) (wanted_yes (by rfl) (by rfl) F49) ?hv18 ?rest18
  case hv18 => (intro ρ hρ; have E18 := (hρ.1 18).trans F18; have Ec := hρ.2.1; have Ef := hρ.2.2.1; clear hρ; intro w hw; (try dsimp only at hw); go_split_ands; go_simp; try with_reducible rfl)
  case' rest18 => intro af16 Zn Nx
  replace F5 := (Nx.2.2.1 5 rfl).trans F5
  replace F7 := (Nx.2.2.1 7 rfl).trans F7
  replace F8 := (Nx.2.2.1 8 rfl).trans F8
  replace F10 := (Nx.2.2.1 10 rfl).trans F10
  replace F11 := (Nx.2.2.1 11 rfl).trans F11
  replace F14 := (Nx.2.2.1 14 rfl).trans F14
  replace F16 := (Nx.2.2.1 16 rfl).trans F16
  replace F17 := (Nx.2.2.1 17 rfl).trans F17
  replace F18 := (Nx.2.2.1 18 rfl).trans F18
  replace F19 := (Nx.2.2.1 19 rfl).trans F19
  replace F20 := (Nx.2.2.1 20 rfl).trans F20
  replace F21 := (Nx.2.2.1 21 rfl).trans F21
  replace F49 := (Nx.2.2.1 49 rfl).trans F49
  replace F50 := (Nx.2.2.1 50 rfl).trans F50
  replace F51 := (Nx.2.2.1 51 rfl).trans F51
  have F52 := Nx.2.1
  replace D := Nx.2.2.2.trans D
  clear Z Nx
  have Z := Zn
  clear Zn af15
  refine' dqo_call (d := 53) (by rfl) (by rfl) Z (by rfl) (wanted_yes (by rfl) (by rfl) F49) ?hv19 ?hc19 ?rest19
  case hv19 => (intro ρ hρ; have E50 := (hρ.1 50).trans F50; have E51 := (hρ.1 51).trans F51; have E52 := (hρ.1 52).trans F52; have Ec := hρ.2.1; have Ef := hρ.2.2.1; clear hρ; intro w; go_simp; exact ⟨rfl, rfl⟩)
  case hc19 => exact (fun w hw => calls_gt (doubled_any (by assumption) (by assumption) (by assumption) (by assumption) (by assumption) (by assumption) _))
  case' rest19 => intro af17 Zn Nx
  replace F5 := (Nx.2.2.1 5 rfl).trans F5
  replace F7 := (Nx.2.2.1 7 rfl).trans F7
  replace F8 := (Nx.2.2.1 8 rfl).trans F8
  replace F10 := (Nx.2.2.1 10 rfl).trans F10
  replace F11 := (Nx.2.2.1 11 rfl).trans F11
  replace F14 := (Nx.2.2.1 14 rfl).trans F14
  replace F16 := (Nx.2.2.1 16 rfl).trans F16
  replace F17 := (Nx.2.2.1 17 rfl).trans F17
  replace F18 := (Nx.2.2.1 18 rfl).trans F18
  replace F19 := (Nx.2.2.1 19 rfl).trans F19
  replace F20 := (Nx.2.2.1 20 rfl).trans F20
  replace F21 := (Nx.2.2.1 21 rfl).trans F21
  replace F49 := (Nx.2.2.1 49 rfl).trans F49
  clear F50
  clear F51
  clear F52
  have F53 := Nx.2.1
  replace D := Nx.2.2.2.trans D
  clear Z Nx
  have Z := Zn
  clear Zn af16
  refine' dqo_pure (d := 54) (by rfl) (by rfl) Z (by rfl) (wanted_yes (by rfl) (by rfl) F49) ?hv20 ?rest20
  case hv20 => (intro ρ hρ; have E16 := (hρ.1 16).trans F16; have Ec := hρ.2.1; have Ef := hρ.2.2.1; clear hρ; intro w hw; (try dsimp only at hw); go_split_ands; go_simp; try with_reducible rfl)
  case' rest20 => intro af18 Zn Nx
  replace F5 := (Nx.2.2.1 5 rfl).trans F5
  replace F7 := (Nx.2.2.1 7 rfl).trans F7
  replace F8 := (Nx.2.2.1 8 rfl).trans F8
  replace F10 := (Nx.2.2.1 10 rfl).trans F10
  replace F11 := (Nx.2.2.1 11 rfl).trans F11
  replace F14 := (Nx.2.2.1 14 rfl).trans F14
  replace F16 := (Nx.2.2.1 16 rfl).trans F16
  replace F17 := (Nx.2.2.1 17 rfl).trans F17
  replace F18 := (Nx.2.2.1 18 rfl).trans F18
  replace F19 := (Nx.2.2.1 19 rfl).trans F19
  replace F20 := (Nx.2.2.1 20 rfl).trans F20
  replace F21 := (Nx.2.2.1 21 rfl).trans F21
  replace F49 := (Nx.2.2.1 49 rfl).trans F49
  replace F53 := (Nx.2.2.1 53 rfl).trans F53
  have F54 := Nx.2.1
  replace D := Nx.2.2.2.trans D
  clear Z Nx
  have Z := Zn
  clear Zn af17
  refine' dqo_pure (d := 55) (by rfl) (by rfl) Z (by rfl) (wanted_yes (by rfl) (by rfl) F49) ?hv21 ?rest21
  case hv21 => (intro ρ hρ; have E17 := (hρ.1 17).trans F17; have Ec := hρ.2.1; have Ef := hρ.2.2.1; clear hρ; intro w hw; (try dsimp only at hw); go_split_ands; go_simp; try with_reducible rfl)
  case' rest21 => intro af19 Zn Nx
  replace F5 := (Nx.2.2.1 5 rfl).trans F5
  replace F7 := (Nx.2.2.1 7 rfl).trans F7
  replace F8 := (Nx.2.2.1 8 rfl).trans F8
  replace F10 := (Nx.2.2.1 10 rfl).trans F10
  replace F11 := (Nx.2.2.1 11 rfl).trans F11
  replace F14 := (Nx.2.2.1 14 rfl).trans F14
  replace F16 := (Nx.2.2.1 16 rfl).trans F16
  replace F17 := (Nx.2.2.1 17 rfl).trans F17
  replace F18 := (Nx.2.2.1 18 rfl).trans F18
  replace F19 := (Nx.2.2.1 19 rfl).trans F19
  replace F20 := (Nx.2.2.1 20 rfl).trans F20
  replace F21 := (Nx.2.2.1 21 rfl).trans F21
  replace F49 := (Nx.2.2.1 49 rfl).trans F49
  replace F53 := (Nx.2.2.1 53 rfl).trans F53
  replace F54 := (Nx.2.2.1 54 rfl).trans F54
  have F55 := Nx.2.1
  replace D := Nx.2.2.2.trans D
  clear Z Nx
  have Z := Zn
  clear Zn af18
  refine' dqo_pure (d := 56) (by rfl) (by rfl) Z (by rfl) (wanted_yes (by rfl) (by rfl) F49) ?hv22 ?rest22
  case hv22 => (intro ρ hρ; have E18 := (hρ.1 18).trans F18; have Ec := hρ.2.1; have Ef := hρ.2.2.1; clear hρ; intro w hw; (try dsimp only at hw); go_split_ands; go_simp; try with_reducible rfl)
  case' rest22 => intro af20 Zn Nx
  replace F5 := (Nx.2.2.1 5 rfl).trans F5
  replace F7 := (Nx.2.2.1 7 rfl).trans F7
  replace F8 := (Nx.2.2.1 8 rfl).trans F8
  replace F10 := (Nx.2.2.1 10 rfl).trans F10
  replace F11 := (Nx.2.2.1 11 rfl).trans F11
  replace F14 := (Nx.2.2.1 14 rfl).trans F14
  replace F16 := (Nx.2.2.1 16 rfl).trans F16
  replace F17 := (Nx.2.2.1 17 rfl).trans F17
  clear F18
  replace F19 := (Nx.2.2.1 19 rfl).trans F19
  replace F20 := (Nx.2.2.1 20 rfl).trans F20
  replace F21 := (Nx.2.2.1 21 rfl).trans F21
  replace F49 := (Nx.2.2.1 49 rfl).trans F49
  replace F53 := (Nx.2.2.1 53 rfl).trans F53
  replace F54 := (Nx.2.2.1 54 rfl).trans F54
  replace F55 := (Nx.2.2.1 55 rfl).trans F55
  have F56 := Nx.2.1
  replace D := Nx.2.2.2.trans D
  clear Z Nx
  have Z := Zn
  clear Zn af19
  refine' dqo_call (d := 57) (by rfl) (by rfl) Z (by rfl) (wanted_yes (by rfl) (by rfl) F49) ?hv23 ?hc23 ?rest23
  case hv23 => (intro ρ hρ; have E54 := (hρ.1 54).trans F54; have E55 := (hρ.1 55).trans F55; have E56 := (hρ.1 56).trans F56; have Ec := hρ.2.1; have Ef := hρ.2.2.1; clear hρ; intro w; go_simp; exact ⟨rfl, rfl⟩)
  case hc23 => exact (fun w hw => calls_gt (rdoubled_any (by assumption) (by assumption) (by assumption) (by assumption) (by assumption) (by assumption) _))
  case' rest23 => intro af21 Zn Nx
  replace F5 := (Nx.2.2.1 5 rfl).trans F5
  replace F7 := (Nx.2.2.1 7 rfl).trans F7
  replace F8 := (Nx.2.2.1 8 rfl).trans F8
  replace F10 := (Nx.2.2.1 10 rfl).trans F10
  replace F11 := (Nx.2.2.1 11 rfl).trans F11
  replace F14 := (Nx.2.2.1 14 rfl).trans F14
  replace F16 := (Nx.2.2.1 16 rfl).trans F16
  replace F17 := (Nx.2.2.1 17 rfl).trans F17
  replace F19 := (Nx.2.2.1 19 rfl).trans F19
  replace F20 := (Nx.2.2.1 20 rfl).trans F20
  replace F21 := (Nx.2.2.1 21 rfl).trans F21
  replace F49 := (Nx.2.2.1 49 rfl).trans F49
  replace F53 := (Nx.2.2.1 53 rfl).trans F53
  clear F54
  clear F55
  clear F56
  have F57 := Nx.2.1
  replace D := Nx.2.2.2.trans D
  clear Z Nx
  have Z := Zn
  clear Zn af20
  refine' dqo_pure (d := 58) (by rfl) (by rfl) Z (by rfl) (wanted_yes (by rfl) (by rfl) F49) ?hv24 ?rest24
  case hv24 => (intro ρ hρ; have E53 := (hρ.1 53).trans F53; have E57 := (hρ.1 57).trans F57; have Ec := hρ.2.1; have Ef := hρ.2.2.1; clear hρ; intro w hw; (try dsimp only at hw); go_split_ands; go_simp; try with_reducible rfl)
  case' rest24 => intro af22 Zn Nx
  replace F5 := (Nx.2.2.1 5 rfl).trans F5
  replace F7 := (Nx.2.2.1 7 rfl).trans F7
  replace F8 := (Nx.2.2.1 8 rfl).trans F8
  replace F10 := (Nx.2.2.1 10 rfl).trans F10
  replace F11 := (Nx.2.2.1 11 rfl).trans F11
  replace F14 := (Nx.2.2.1 14 rfl).trans F14
  replace F16 := (Nx.2.2.1 16 rfl).trans F16
  replace F17 := (Nx.2.2.1 17 rfl).trans F17
  replace F19 := (Nx.2.2.1 19 rfl).trans F19
  replace F20 := (Nx.2.2.1 20 rfl).trans F20
  replace F21 := (Nx.2.2.1 21 rfl).trans F21
  replace F49 := (Nx.2.2.1 49 rfl).trans F49
  clear F53
  clear F57
  have F58 := Nx.2.1
  replace D := Nx.2.2.2.trans D
  clear Z Nx
  have Z := Zn
  clear Zn af21
  refine' dqo_pure (d := 59) (by rfl) (by rfl) Z (by rfl) (wanted_not (by rfl)) ?hv25 ?rest25
  case hv25 => (intro ρ hρ; have E49 := (hρ.1 49).trans F49; have E58 := (hρ.1 58).trans F58; have Ec := hρ.2.1; have Ef := hρ.2.2.1; clear hρ; intro w hw; (try dsimp only at hw); go_split_ands; go_simp; try with_reducible rfl)
  case' rest25 => intro af23 Zn Nx
  replace F5 := (Nx.2.2.1 5 rfl).trans F5
  replace F7 := (Nx.2.2.1 7 rfl).trans F7
  replace F8 := (Nx.2.2.1 8 rfl).trans F8
  replace F10 := (Nx.2.2.1 10 rfl).trans F10
  replace F11 := (Nx.2.2.1 11 rfl).trans F11
  replace F14 := (Nx.2.2.1 14 rfl).trans F14
  replace F16 := (Nx.2.2.1 16 rfl).trans F16
  replace F17 := (Nx.2.2.1 17 rfl).trans F17
  replace F19 := (Nx.2.2.1 19 rfl).trans F19
  replace F20 := (Nx.2.2.1 20 rfl).trans F20
  replace F21 := (Nx.2.2.1 21 rfl).trans F21
  clear F49
  clear F58
  have F59 := Nx.2.1
  replace D := Nx.2.2.2.trans D
  clear Z Nx
  have Z := Zn
  clear Zn af22
  refine' dqo_pure (d := 60) (by rfl) (by rfl) Z (by rfl) (wanted_not (by rfl)) ?hv26 ?rest26
  case hv26 => (intro ρ hρ; have E59 := (hρ.1 59).trans F59; have Ec := hρ.2.1; have Ef := hρ.2.2.1; clear hρ; intro w hw; (try dsimp only at hw); go_split_ands; go_simp; try with_reducible rfl)
  case' rest26 => intro af24 Zn Nx
  replace F5 := (Nx.2.2.1 5 rfl).trans F5
  replace F7 := (Nx.2.2.1 7 rfl).trans F7
  replace F8 := (Nx.2.2.1 8 rfl).trans F8
  replace F10 := (Nx.2.2.1 10 rfl).trans F10
  replace F11 := (Nx.2.2.1 11 rfl).trans F11
  replace F14 := (Nx.2.2.1 14 rfl).trans F14
  replace F16 := (Nx.2.2.1 16 rfl).trans F16
  replace F17 := (Nx.2.2.1 17 rfl).trans F17
  replace F19 := (Nx.2.2.1 19 rfl).trans F19
  replace F20 := (Nx.2.2.1 20 rfl).trans F20
  replace F21 := (Nx.2.2.1 21 rfl).trans F21
  clear F59
  have F60 := Nx.2.1
  replace D := Nx.2.2.2.trans D
  clear Z Nx
  have Z := Zn
  clear Zn af23
  refine' dqo_pure (d := 61) (by rfl) (by rfl) Z (by rfl) (wanted_yes (by rfl) (by rfl) F60) ?hv27 ?rest27
  case hv27 => (intro ρ hρ; have E7 := (hρ.1 7).trans F7; have Ec := hρ.2.1; have Ef := hρ.2.2.1; clear hρ; intro w hw; (try dsimp only at hw); go_split_ands; go_simp; try with_reducible rfl)
  case' rest27 => intro af25 Zn Nx
  replace F5 := (Nx.2.2.1 5 rfl).trans F5
  replace F7 := (Nx.2.2.1 7 rfl).trans F7
  replace F8 := (Nx.2.2.1 8 rfl).trans F8
  replace F10 := (Nx.2.2.1 10 rfl).trans F10
  replace F11 := (Nx.2.2.1 11 rfl).trans F11
  replace F14 := (Nx.2.2.1 14 rfl).trans F14
  replace F16 := (Nx.2.2.1 16 rfl).trans F16
  replace F17 := (Nx.2.2.1 17 rfl).trans F17
  replace F19 := (Nx.2.2.1 19 rfl).trans F19
  replace F20 := (Nx.2.2.1 20 rfl).trans F20
  replace F21 := (Nx.2.2.1 21 rfl).trans F21
  replace F60 := (Nx.2.2.1 60 rfl).trans F60
  have F61 := Nx.2.1
  replace D := Nx.2.2.2.trans D
  clear Z Nx
  have Z := Zn
  clear Zn af24
  refine' dqo_pure (d := 62) (by rfl) (by rfl) Z (by rfl) (wanted_yes (by rfl) (by rfl) F60) ?hv28 ?rest28
  case hv28 => (intro ρ hρ; have E8 := (hρ.1 8).trans F8; have Ec := hρ.2.1; have Ef := hρ.2.2.1; clear hρ; intro w hw; (try dsimp only at hw); go_split_ands; go_simp; try with_reducible rfl)
  case' rest28 => intro af26 Zn Nx
  replace F5 := (Nx.2.2.1 5 rfl).trans F5
  replace F7 := (Nx.2.2.1 7 rfl).trans F7
  replace F8 := (Nx.2.2.1 8 rfl).trans F8
  replace F10 := (Nx.2.2.1 10 rfl).trans F10
  replace F11 := (Nx.2.2.1 11 rfl).trans F11
  replace F14 := (Nx.2.2.1 14 rfl).trans F14
  replace F16 := (Nx.2.2.1 16 rfl).trans F16
  replace F17 := (Nx.2.2.1 17 rfl).trans F17
  replace F19 := (Nx.2.2.1 19 rfl).trans F19
  replace F20 := (Nx.2.2.1 20 rfl).trans F20
  replace F21 := (Nx.2.2.1 21 rfl).trans F21
  replace F60 := (Nx.2.2.1 60 rfl).trans F60
  replace F61 := (Nx.2.2.1 61 rfl).trans F61
  have F62 := Nx.2.1
  replace D := Nx.2.2.2.trans D
  clear Z Nx
  have Z := Zn
  clear Zn af25
  refine' dqo_pure (d := 63) (by rfl) (by rfl) Z (by rfl) (wanted_yes (by rfl) (by rfl) F60) ?hv29 ?rest29
  case hv29 => (intro ρ hρ; have E10 := (hρ.1 10).trans F10; have Ec := hρ.2.1; have Ef := hρ.2.2.1; clear hρ; intro w hw; (try dsimp only at hw); go_split_ands; go_simp; try with_reducible rfl)
  case' rest29 => intro af27 Zn Nx
  replace F5 := (Nx.2.2.1 5 rfl).trans F5
  replace F7 := (Nx.2.2.1 7 rfl).trans F7
  replace F8 := (Nx.2.2.1 8 rfl).trans F8
  replace F10 := (Nx.2.2.1 10 rfl).trans F10
  replace F11 := (Nx.2.2.1 11 rfl).trans F11
  replace F14 := (Nx.2.2.1 14 rfl).trans F14
  replace F16 := (Nx.2.2.1 16 rfl).trans F16
  replace F17 := (Nx.2.2.1 17 rfl).trans F17
  replace F19 := (Nx.2.2.1 19 rfl).trans F19
  replace F20 := (Nx.2.2.1 20 rfl).trans F20
  replace F21 := (Nx.2.2.1 21 rfl).trans F21
  replace F60 := (Nx.2.2.1 60 rfl).trans F60
  replace F61 := (Nx.2.2.1 61 rfl).trans F61
  replace F62 := (Nx.2.2.1 62 rfl).trans F62
  have F63 := Nx.2.1
  replace D := Nx.2.2.2.trans D
  clear Z Nx
  have Z := Zn
  clear Zn af26
  refine' dqo_pure (d := 64) (by rfl) (by rfl) Z (by rfl) (wanted_yes (by rfl) (by rfl) F60) ?hv30 ?rest30
  case hv30 => (intro ρ hρ; have E11 := (hρ.1 11).trans F11; have Ec := hρ.2.1; have Ef := hρ.2.2.1; clear hρ; intro w hw; (try dsimp only at hw); go_split_ands; go_simp; try with_reducible rfl)
  case' rest30 => intro af28 Zn Nx
  replace F5 := (Nx.2.2.1 5 rfl).trans F5
  replace F7 := (Nx.2.2.1 7 rfl).trans F7
  replace F8 := (Nx.2.2.1 8 rfl).trans F8
  replace F10 := (Nx.2.2.1 10 rfl).trans F10
  replace F11 := (Nx.2.2.1 11 rfl).trans F11
  replace F14 := (Nx.2.2.1 14 rfl).trans F14
  replace F16 := (Nx.2.2.1 16 rfl).trans F16
  replace F17 := (Nx.2.2.1 17 rfl).trans F17
  replace F19 := (Nx.2.2.1 19 rfl).trans F19
  replace F20 := (Nx.2.2.1 20 rfl).trans F20
  replace F21 := (Nx.2.2.1 21 rfl).trans F21
  replace F60 := (Nx.2.2.1 60 rfl).trans F60
  replace F61 := (Nx.2.2.1 61 rfl).trans F61
  replace F62 := (Nx.2.2.1 62 rfl).trans F62
  replace F63 := (Nx.2.2.1 63 rfl).trans F63
  have F64 := Nx.2.1
  replace D := Nx.2.2.2.trans D
  clear Z Nx
  have Z := Zn
  clear Zn af27
  refine' dqo_pure (d := 65) (by rfl) (by rfl) Z (by rfl) (wanted_yes (by rfl) (by rfl) F60) ?hv31 ?rest31
  case hv31 => (intro ρ hρ; have E5 := (hρ.1 5).trans F5; have Ec := hρ.2.1; have Ef := hρ.2.2.1; clear hρ; intro w hw; (try dsimp only at hw); go_split_ands; go_simp; try with_reducible rfl)
  case' rest31 => intro af29 Zn Nx
  replace F5 := (Nx.2.2.1 5 rfl).trans F5
  replace F7 := (Nx.2.2.1 7 rfl).trans F7
  replace F8 := (Nx.2.2.1 8 rfl).trans F8
  replace F10 := (Nx.2.2.1 10 rfl).trans F10
  replace F11 := (Nx.2.2.1 11 rfl).trans F11
  replace F14 := (Nx.2.2.1 14 rfl).trans F14
  replace F16 := (Nx.2.2.1 16 rfl).trans F16
  replace F17 := (Nx.2.2.1 17 rfl).trans F17
  replace F19 := (Nx.2.2.1 19 rfl).trans F19
  replace F20 := (Nx.2.2.1 20 rfl).trans F20
  replace F21 := (Nx.2.2.1 21 rfl).trans F21
  replace F60 := (Nx.2.2.1 60 rfl).trans F60
  replace F61 := (Nx.2.2.1 61 rfl).trans F61
  replace F62 := (Nx.2.2.1 62 rfl).trans F62
  replace F63 := (Nx.2.2.1 63 rfl).trans F63
  replace F64 := (Nx.2.2.1 64 rfl).trans F64
  have F65 := Nx.2.1
  replace D := Nx.2.2.2.trans D
  clear Z Nx
  have Z := Zn
  clear Zn af28
  refine' dqo_call (d := 66) (by rfl) (by rfl) Z (by rfl) (wanted_yes (by rfl) (by rfl) F60) ?hv32 ?hc32 ?rest32
  case hv32 => (intro ρ hρ; have E61 := (hρ.1 61).trans F61; have E62 := (hρ.1 62).trans F62; have E63 := (hρ.1 63).trans F63; have E64 := (hρ.1 64).trans F64; have E65 := (hρ.1 65).trans F65; have Ec := hρ.2.1; have Ef := hρ.2.2.1; clear hρ; intro w; go_simp; exact ⟨rfl, rfl⟩)
  case hc32 => exact (fun w hw => calls_gt (weighted_any _ _ _ _ (by assumption) (by assumption) (by assumption) (by assumption) _ _ _ _ _ _ _ _ _ _ (by first | assumption | exact lb0_in _ | exact lb1_in _ | exact lb2_in _ | exact lb3_in _) (by first | assumption | exact lb0_in _ | exact lb1_in _ | exact lb2_in _ | exact lb3_in _) (by first | assumption | exact lb0_in _ | exact lb1_in _ | exact lb2_in _ | exact lb3_in _) (by first | assumption | exact lb0_in _ | exact lb1_in _ | exact lb2_in _ | exact lb3_in _) (by first | assumption | exact lb0_in _ | exact lb1_in _ | exact lb2_in _ | exact lb3_in _) (by first | assumption | exact lb0_in _ | exact lb1_in _ | exact lb2_in _ | exact lb3_in _) (by first | assumption | exact lb0_in _ | exact lb1_in _ | exact lb2_in _ | exact lb3_in _) (by first | assumption | exact lb0_in _ | exact lb1_in _ | exact lb2_in _ | exact lb3_in _) _ _))
  case' rest32 => intro af30 Zn Nx
  replace F5 := (Nx.2.2.1 5 rfl).trans F5
  replace F7 := (Nx.2.2.1 7 rfl).trans F7
  replace F8 := (Nx.2.2.1 8 rfl).trans F8
  replace F10 := (Nx.2.2.1 10 rfl).trans F10
  replace F11 := (Nx.2.2.1 11 rfl).trans F11
  replace F14 := (Nx.2.2.1 14 rfl).trans F14
  replace F16 := (Nx.2.2.1 16 rfl).trans F16
  replace F17 := (Nx.2.2.1 17 rfl).trans F17
  replace F19 := (Nx.2.2.1 19 rfl).trans F19
  replace F20 := (Nx.2.2.1 20 rfl).trans F20
  replace F21 := (Nx.2.2.1 21 rfl).trans F21
  replace F60 := (Nx.2.2.1 60 rfl).trans F60
  clear F61
  clear F62
  clear F63
  clear F64
  clear F65
  have F66 := Nx.2.1
  replace D := Nx.2.2.2.trans D
  clear Z Nx
  have Z := Zn
  clear Zn af29
  refine' dqo_pure (d := 67) (by rfl) (by rfl) Z (by rfl) (wanted_yes (by rfl) (by rfl) F60) ?hv33 ?rest33
  case hv33 => (intro ρ hρ; have E7 := (hρ.1 7).trans F7; have Ec := hρ.2.1; have Ef := hρ.2.2.1; clear hρ; intro w hw; (try dsimp only at hw); go_split_ands; go_simp; try with_reducible rfl)
  case' rest33 => intro af31 Zn Nx
  replace F5 := (Nx.2.2.1 5 rfl).trans F5
  replace F7 := (Nx.2.2.1 7 rfl).trans F7
  replace F8 := (Nx.2.2.1 8 rfl).trans F8
  replace F10 := (Nx.2.2.1 10 rfl).trans F10
  replace F11 := (Nx.2.2.1 11 rfl).trans F11
  replace F14 := (Nx.2.2.1 14 rfl).trans F14
  replace F16 := (Nx.2.2.1 16 rfl).trans F16
  replace F17 := (Nx.2.2.1 17 rfl).trans F17
  replace F19 := (Nx.2.2.1 19 rfl).trans F19
  replace F20 := (Nx.2.2.1 20 rfl).trans F20
  replace F21 := (Nx.2.2.1 21 rfl).trans F21
  replace F60 := (Nx.2.2.1 60 rfl).trans F60
  replace F66 := (Nx.2.2.1 66 rfl).trans F66
  have F67 := Nx.2.1
  replace D := Nx.2.2.2.trans D
  clear Z Nx
  have Z := Zn
  clear Zn af30
  refine' dqo_pure (d := 68) (by rfl) (by rfl) Z (by rfl) (wanted_yes (by rfl) (by rfl) F60) ?hv34 ?rest34
  case hv34 => (intro ρ hρ; have E8 := (hρ.1 8).trans F8; have Ec := hρ.2.1; have Ef := hρ.2.2.1; clear hρ; intro w hw; (try dsimp only at hw); go_split_ands; go_simp; try with_reducible rfl)
  case' rest34 => intro af32 Zn Nx
  replace F5 := (Nx.2.2.1 5 rfl).trans F5
  replace F7 := (Nx.2.2.1 7 rfl).trans F7
  clear F8
  replace F10 := (Nx.2.2.1 10 rfl).trans F10
  replace F11 := (Nx.2.2.1 11 rfl).trans F11
  replace F14 := (Nx.2.2.1 14 rfl).trans F14
  replace F16 := (Nx.2.2.1 16 rfl).trans F16
  replace F17 := (Nx.2.2.1 17 rfl).trans F17
  replace F19 := (Nx.2.2.1 19 rfl).trans F19
  replace F20 := (Nx.2.2.1 20 rfl).trans F20
  replace F21 := (Nx.2.2.1 21 rfl).trans F21
  replace F60 := (Nx.2.2.1 60 rfl).trans F60
  replace F66 := (Nx.2.2.1 66 rfl).trans F66
  replace F67 := (Nx.2.2.1 67 rfl).trans F67
  have F68 := Nx.2.1
  replace D := Nx.2.2.2.trans D
  clear Z Nx
  have Z := Zn
  clear Zn af31
  refine' dqo_pure (d := 69) (by rfl) (by rfl) Z (by rfl) (wanted_yes (by rfl) (by rfl) F60) ?hv35 ?rest35
  case hv35 => (intro ρ hρ; have E10 := (hρ.1 10).trans F10; have Ec := hρ.2.1; have Ef := hρ.2.2.1; clear hρ; intro w hw; (try dsimp only at hw); go_split_ands; go_simp; try with_reducible rfl)
  case' rest35 => intro af33 Zn Nx
  replace F5 := (Nx.2.2.1 5 rfl).trans F5
  replace F7 := (Nx.2.2.1 7 rfl).trans F7
  clear F10
  replace F11 := (Nx.2.2.1 11 rfl).trans F11
  replace F14 := (Nx.2.2.1 14 rfl).trans F14
  replace F16 := (Nx.2.2.1 16 rfl).trans F16
  replace F17 := (Nx.2.2.1 17 rfl).trans F17
  replace F19 := (Nx.2.2.1 19 rfl).trans F19
  replace F20 := (Nx.2.2.1 20 rfl).trans F20
  replace F21 := (Nx.2.2.1 21 rfl).trans F21
  replace F60 := (Nx.2.2.1 60 rfl).trans F60
  replace F66 := (Nx.2.2.1 66 rfl).trans F66
  replace F67 := (Nx.2.2.1 67 rfl).trans F67
  replace F68 := (Nx.2.2.1 68 rfl).trans F68
  have F69 := Nx.2.1
  replace D := Nx.2.2.2.trans D
  clear Z Nx
  have Z := Zn
  clear Zn af32
  refine' dqo_pure (d := 70) (by rfl) (by rfl) Z (by rfl) (wanted_yes (by rfl) (by rfl) F60) ?hv36 ?rest36
  case hv36 => (intro ρ hρ; have E11 := (hρ.1 11).trans F11; have Ec := hρ.2.1; have Ef := hρ.2.2.1; clear hρ; intro w hw; (try dsimp only at hw); go_split_ands; go_simp; try with_reducible rfl)
  case' rest36 => intro af34 Zn Nx
  replace F5 := (Nx.2.2.1 5 rfl).trans F5
  replace F7 := (Nx.2.2.1 7 rfl).trans F7
  clear F11
  replace F14 := (Nx.2.2.1 14 rfl).trans F14
  replace F16 := (Nx.2.2.1 16 rfl).trans F16
  replace F17 := (Nx.2.2.1 17 rfl).trans F17
  replace F19 := (Nx.2.2.1 19 rfl).trans F19
  replace F20 := (Nx.2.2.1 20 rfl).trans F20
  replace F21 := (Nx.2.2.1 21 rfl).trans F21
  replace F60 := (Nx.2.2.1 60 rfl).trans F60
  replace F66 := (Nx.2.2.1 66 rfl).trans F66
  replace F67 := (Nx.2.2.1 67 rfl).trans F67
  replace F68 := (Nx.2.2.1 68 rfl).trans F68
  replace F69 := (Nx.2.2.1 69 rfl).trans F69
  have F70 := Nx.2.1
  replace D := Nx.2.2.2.trans D
  clear Z Nx
  have Z := Zn
  clear Zn af33
  refine' dqo_pure (d := 71) (by rfl) (by rfl) Z (by rfl) (wanted_yes (by rfl) (by rfl) F60) ?hv37 ?rest37
  case hv37 => (intro ρ hρ; have E5 := (hρ.1 5).trans F5; have Ec := hρ.2.1; have Ef := hρ.2.2.1; clear hρ; intro w hw; (try dsimp only at hw); go_split_ands; go_simp; try with_reducible rfl)
  case' rest37 => intro af35 Zn Nx
  replace F5 := (Nx.2.2.1 5 rfl).trans F5
  replace F7 := (Nx.2.2.1 7 rfl).trans F7
  replace F14 := (Nx.2.2.1 14 rfl).trans F14
  replace F16 := (Nx.2.2.1 16 rfl).trans F16
  replace F17 := (Nx.2.2.1 17 rfl).trans F17
  replace F19 := (Nx.2.2.1 19 rfl).trans F19
  replace F20 := (Nx.2.2.1 20 rfl).trans F20
  replace F21 := (Nx.2.2.1 21 rfl).trans F21
  replace F60 := (Nx.2.2.1 60 rfl).trans F60
  replace F66 := (Nx.2.2.1 66 rfl).trans F66
  replace F67 := (Nx.2.2.1 67 rfl).trans F67
  replace F68 := (Nx.2.2.1 68 rfl).trans F68
  replace F69 := (Nx.2.2.1 69 rfl).trans F69
  replace F70 := (Nx.2.2.1 70 rfl).trans F70
  have F71 := Nx.2.1
  replace D := Nx.2.2.2.trans D
  clear Z Nx
  have Z := Zn
  clear Zn af34
  refine' dqo_call (d := 72) (by rfl) (by rfl) Z (by rfl) (wanted_yes (by rfl) (by rfl) F60) ?hv38 ?hc38 ?rest38
  case hv38 => (intro ρ hρ; have E67 := (hρ.1 67).trans F67; have E68 := (hρ.1 68).trans F68; have E69 := (hρ.1 69).trans F69; have E70 := (hρ.1 70).trans F70; have E71 := (hρ.1 71).trans F71; have Ec := hρ.2.1; have Ef := hρ.2.2.1; clear hρ; intro w; go_simp; exact ⟨rfl, rfl⟩)
  case hc38 => exact (fun w hw => calls_gt (rweighted_any _ _ _ _ (by assumption) (by assumption) (by assumption) (by assumption) _ _ _ _ _ _ _ _ _ _ (by first | assumption | exact lb0_in _ | exact lb1_in _ | exact lb2_in _ | exact lb3_in _) (by first | assumption | exact lb0_in _ | exact lb1_in _ | exact lb2_in _ | exact lb3_in _) (by first | assumption | exact lb0_in _ | exact lb1_in _ | exact lb2_in _ | exact lb3_in _) (by first | assumption | exact lb0_in _ | exact lb1_in _ | exact lb2_in _ | exact lb3_in _) (by first | assumption | exact lb0_in _ | exact lb1_in _ | exact lb2_in _ | exact lb3_in _) (by first | assumption | exact lb0_in _ | exact lb1_in _ | exact lb2_in _ | exact lb3_in _) (by first | assumption | exact lb0_in _ | exact lb1_in _ | exact lb2_in _ | exact lb3_in _) (by first | assumption | exact lb0_in _ | exact lb1_in _ | exact lb2_in _ | exact lb3_in _) _ _))
  case' rest38 => intro af36 Zn Nx
  replace F5 := (Nx.2.2.1 5 rfl).trans F5
  replace F7 := (Nx.2.2.1 7 rfl).trans F7
  replace F14 := (Nx.2.2.1 14 rfl).trans F14
  replace F16 := (Nx.2.2.1 16 rfl).trans F16
  replace F17 := (Nx.2.2.1 17 rfl).trans F17
  replace F19 := (Nx.2.2.1 19 rfl).trans F19
  replace F20 := (Nx.2.2.1 20 rfl).trans F20
  replace F21 := (Nx.2.2.1 21 rfl).trans F21
  replace F60 := (Nx.2.2.1 60 rfl).trans F60
  replace F66 := (Nx.2.2.1 66 rfl).trans F66
  clear F67
  clear F68
  clear F69
  clear F70
  clear F71
  have F72 := Nx.2.1
  replace D := Nx.2.2.2.trans D
  clear Z Nx
  have Z := Zn
  clear Zn af35
  refine' dqo_pure (d := 73) (by rfl) (by rfl) Z (by rfl) (wanted_yes (by rfl) (by rfl) F60) ?hv39 ?rest39
  case hv39 => (intro ρ hρ; have E66 := (hρ.1 66).trans F66; have E72 := (hρ.1 72).trans F72; have Ec := hρ.2.1; have Ef := hρ.2.2.1; clear hρ; intro w hw; (try dsimp only at hw); go_split_ands; go_simp; try with_reducible rfl)
  case' rest39 => intro af37 Zn Nx
  replace F5 := (Nx.2.2.1 5 rfl).trans F5
  replace F7 := (Nx.2.2.1 7 rfl).trans F7
  replace F14 := (Nx.2.2.1 14 rfl).trans F14
  replace F16 := (Nx.2.2.1 16 rfl).trans F16
  replace F17 := (Nx.2.2.1 17 rfl).trans F17
  replace F19 := (Nx.2.2.1 19 rfl).trans F19
  replace F20 := (Nx.2.2.1 20 rfl).trans F20
  replace F21 := (Nx.2.2.1 21 rfl).trans F21
  replace F60 := (Nx.2.2.1 60 rfl).trans F60
  clear F66
  clear F72
  have F73 := Nx.2.1
  replace D := Nx.2.2.2.trans D
  clear Z Nx
  have Z := Zn
  clear Zn af36
  refine' dqo_pure (d := 74) (by rfl) (by rfl) Z (by rfl) (wanted_not (by rfl)) ?hv40 ?rest40
  case hv40 => (intro ρ hρ; have E60 := (hρ.1 60).trans F60; have E73 := (hρ.1 73).trans F73; have Ec := hρ.2.1; have Ef := hρ.2.2.1; clear hρ; intro w hw; (try dsimp only at hw); go_split_ands; go_simp; try with_reducible rfl)
  case' rest40 => intro af38 Zn Nx
  replace F5 := (Nx.2.2.1 5 rfl).trans F5
  replace F7 := (Nx.2.2.1 7 rfl).trans F7
  replace F14 := (Nx.2.2.1 14 rfl).trans F14
  replace F16 := (Nx.2.2.1 16 rfl).trans F16
  replace F17 := (Nx.2.2.1 17 rfl).trans F17
  replace F19 := (Nx.2.2.1 19 rfl).trans F19
  replace F20 := (Nx.2.2.1 20 rfl).trans F20
  replace F21 := (Nx.2.2.1 21 rfl).trans F21
  clear F60
  clear F73
  have F74 := Nx.2.1
  replace D := Nx.2.2.2.trans D
  clear Z Nx
  have Z := Zn
  clear Zn af37
  refine' dqo_pure (d := 75) (by rfl) (by rfl) Z (by rfl) (wanted_not (by rfl)) ?hv41 ?rest41
  case hv41 => (intro ρ hρ; have E74 := (hρ.1 74).trans F74; have Ec := hρ.2.1; have Ef := hρ.2.2.1; clear hρ; intro w hw; (try dsimp only at hw); go_split_ands; go_simp; try with_reducible rfl)
  case' rest41 => intro af39 Zn Nx
  replace F5 := (Nx.2.2.1 5 rfl).trans F5
  replace F7 := (Nx.2.2.1 7 rfl).trans F7
  replace F14 := (Nx.2.2.1 14 rfl).trans F14
  replace F16 := (Nx.2.2.1 16 rfl).trans F16
  replace F17 := (Nx.2.2.1 17 rfl).trans F17
  replace F19 := (Nx.2.2.1 19 rfl).trans F19
  replace F20 := (Nx.2.2.1 20 rfl).trans F20
  replace F21 := (Nx.2.2.1 21 rfl).trans F21
  clear F74
  have F75 := Nx.2.1
  replace D := Nx.2.2.2.trans D
  clear Z Nx
  have Z := Zn
  clear Zn af38
  refine' dqo_pure (d := 76) (by rfl) (by rfl) Z (by rfl) (wanted_yes (by rfl) (by rfl) F75) ?hv42 ?rest42
  case hv42 => (intro ρ hρ; have E16 := (hρ.1 16).trans F16; have Ec := hρ.2.1; have Ef := hρ.2.2.1; clear hρ; intro w hw; (try dsimp only at hw); go_split_ands; go_simp; try with_reducible rfl)
  case' rest42 => intro af40 Zn Nx
  replace F5 := (Nx.2.2.1 5 rfl).trans F5
  replace F7 := (Nx.2.2.1 7 rfl).trans F7
  replace F14 := (Nx.2.2.1 14 rfl).trans F14
  replace F16 := (Nx.2.2.1 16 rfl).trans F16
  replace F17 := (Nx.2.2.1 17 rfl).trans F17
  replace F19 := (Nx.2.2.1 19 rfl).trans F19
  replace F20 := (Nx.2.2.1 20 rfl).trans F20
  replace F21 := (Nx.2.2.1 21 rfl).trans F21
  replace F75 := (Nx.2.2.1 75 rfl).trans F75
  have F76 := Nx.2.1
  replace D := Nx.2.2.2.trans D
  clear Z Nx
  have Z := Zn
  clear Zn af39
  refine' dqo_pure (d := 77) (by rfl) (by rfl) Z (by rfl) (wanted_yes (by rfl) (by rfl) F75) ?hv43 ?rest43
  case hv43 => (intro ρ hρ; have E17 := (hρ.1 17).trans F17; have Ec := hρ.2.1; have Ef := hρ.2.2.1; clear hρ; intro w hw; (try dsimp only at hw); go_split_ands; go_simp; try with_reducible rfl)
  case' rest43 => intro af41 Zn Nx
  replace F5 := (Nx.2.2.1 5 rfl).trans F5
  replace F7 := (Nx.2.2.1 7 rfl).trans F7
  replace F14 := (Nx.2.2.1 14 rfl).trans F14
  replace F16 := (Nx.2.2.1 16 rfl).trans F16
  replace F17 := (Nx.2.2.1 17 rfl).trans F17
  replace F19 := (Nx.2.2.1 19 rfl).trans F19
  replace F20 := (Nx.2.2.1 20 rfl).trans F20
  replace F21 := (Nx.2.2.1 21 rfl).trans F21
  replace F75 := (Nx.2.2.1 75 rfl).trans F75
  replace F76 := (Nx.2.2.1 76 rfl).trans F76
  have F77 := Nx.2.1
  replace D := Nx.2.2.2.trans D
  clear Z Nx
  have Z := Zn
  clear Zn af40
  refine' dqo_pure (d := 78) (by rfl) (by rfl) Z (by rfl) (wanted_yes (by rfl) (by rfl) F75) ?hv44 ?rest44
  case hv44 => (intro ρ hρ; have E19 := (hρ.1 19).trans F19; have Ec := hρ.2.1; have Ef := hρ.2.2.1; clear hρ; intro w hw; (try dsimp only at hw); go_split_ands; go_simp; try with_reducible rfl)
  case' rest44 => intro af42 Zn Nx
  replace F5 := (Nx.2.2.1 5 rfl).trans F5
  replace F7 := (Nx.2.2.1 7 rfl).trans F7
  replace F14 := (Nx.2.2.1 14 rfl).trans F14
  replace F16 := (Nx.2.2.1 16 rfl).trans F16
  replace F17 := (Nx.2.2.1 17 rfl).trans F17
  replace F19 := (Nx.2.2.1 19 rfl).trans F19
  replace F20 := (Nx.2.2.1 20 rfl).trans F20
  replace F21 := (Nx.2.2.1 21 rfl).trans F21
  replace F75 := (Nx.2.2.1 75 rfl).trans F75
  replace F76 := (Nx.2.2.1 76 rfl).trans F76
  replace F77 := (Nx.2.2.1 77 rfl).trans F77
  have F78 := Nx.2.1
  replace D := Nx.2.2.2.trans D
  clear Z Nx
  have Z := Zn
  clear Zn af41
  refine' dqo_pure (d := 79) (by rfl) (by rfl) Z (by rfl) (wanted_yes (by rfl) (by rfl) F75) ?hv45 ?rest45
  case hv45 => (intro ρ hρ; have E20 := (hρ.1 20).trans F20; have Ec := hρ.2.1; have Ef := hρ.2.2.1; clear hρ; intro w hw; (try dsimp only at hw); go_split_ands; go_simp; try with_reducible rfl)
  case' rest45 => intro af43 Zn Nx
  replace F5 := (Nx.2.2.1 5 rfl).trans F5
  replace F7 := (Nx.2.2.1 7 rfl).trans F7
  replace F14 := (Nx.2.2.1 14 rfl).trans F14
  replace F16 := (Nx.2.2.1 16 rfl).trans F16
  replace F17 := (Nx.2.2.1 17 rfl).trans F17
  replace F19 := (Nx.2.2.1 19 rfl).trans F19
  replace F20 := (Nx.2.2.1 20 rfl).trans F20
  replace F21 := (Nx.2.2.1 21 rfl).trans F21
  replace F75 := (Nx.2.2.1 75 rfl).trans F75
  replace F76 := (Nx.2.2.1 76 rfl).trans F76
  replace F77 := (Nx.2.2.1 77 rfl).trans F77
  replace F78 := (Nx.2.2.1 78 rfl).trans F78
  have F79 := Nx.2.1
  replace D := Nx.2.2.2.trans D
  clear Z Nx
  have Z := Zn
  clear Zn af42
  refine' dqo_pure (d := 80) (by rfl) (by rfl) Z (by rfl) (wanted_yes (by rfl) (by rfl) F75) ?hv46 ?rest46
  case hv46 => (intro ρ hρ; have E21 := (hρ.1 21).trans F21; have Ec := hρ.2.1; have Ef := hρ.2.2.1; clear hρ; intro w hw; (try dsimp only at hw); go_split_ands; go_simp; try with_reducible rfl)
  case' rest46 => intro af44 Zn Nx
  replace F5 := (Nx.2.2.1 5 rfl).trans F5
  replace F7 := (Nx.2.2.1 7 rfl).trans F7
  replace F14 := (Nx.2.2.1 14 rfl).trans F14
  replace F16 := (Nx.2.2.1 16 rfl).trans F16
  replace F17 := (Nx.2.2.1 17 rfl).trans F17
  replace F19 := (Nx.2.2.1 19 rfl).trans F19
  replace F20 := (Nx.2.2.1 20 rfl).trans F20
  replace F21 := (Nx.2.2.1 21 rfl).trans F21
  replace F75 := (Nx.2.2.1 75 rfl).trans F75
  replace F76 := (Nx.2.2.1 76 rfl).trans F76
  replace F77 := (Nx.2.2.1 77 rfl).trans F77
  replace F78 := (Nx.2.2.1 78 rfl).trans F78
  replace F79 := (Nx.2.2.1 79 rfl).trans F79
  have F80 := Nx.2.1
  replace D := Nx.2.2.2.trans D
  clear Z Nx
  have Z := Zn
  clear Zn af43
  refine' dqo_call (d := 81) (by rfl) (by rfl) Z (by rfl) (wanted_yes (by rfl) (by rfl) F75) ?hv47 ?hc47 ?rest47
  case hv47 => (intro ρ hρ; have E76 := (hρ.1 76).trans F76; have E77 := (hρ.1 77).trans F77; have E78 := (hρ.1 78).trans F78; have E79 := (hρ.1 79).trans F79; have E80 := (hρ.1 80).trans F80; have Ec := hρ.2.1; have Ef := hρ.2.2.1; clear hρ; intro w; go_simp; exact ⟨rfl, rfl⟩)
  case hc47 => exact (fun w hw => calls_gt (weighted_any _ _ _ _ (by assumption) (by assumption) (by assumption) (by assumption) _ _ _ _ _ _ _ _ _ _ (by first | assumption | exact lb0_in _ | exact lb1_in _ | exact lb2_in _ | exact lb3_in _) (by first | assumption | exact lb0_in _ | exact lb1_in _ | exact lb2_in _ | exact lb3_in _) (by first | assumption | exact lb0_in _ | exact lb1_in _ | exact lb2_in _ | exact lb3_in _) (by first | assumption | exact lb0_in _ | exact lb1_in _ | exact lb2_in _ | exact lb3_in _) (by first | assumption | exact lb0_in _ | exact lb1_in _ | exact lb2_in _ | exact lb3_in _) (by first | assumption | exact lb0_in _ | exact lb1_in _ | exact lb2_in _ | exact lb3_in _) (by first | assumption | exact lb0_in _ | exact lb1_in _ | exact lb2_in _ | exact lb3_in _) (by first | assumption | exact lb0_in _ | exact lb1_in _ | exact lb2_in _ | exact lb3_in _) _ _))
  case' rest47 => intro af45 Zn Nx
  replace F5 := (Nx.2.2.1 5 rfl).trans F5
  replace F7 := (Nx.2.2.1 7 rfl).trans F7
  replace F14 := (Nx.2.2.1 14 rfl).trans F14
  replace F16 := (Nx.2.2.1 16 rfl).trans F16
  replace F17 := (Nx.2.2.1 17 rfl).trans F17
  replace F19 := (Nx.2.2.1 19 rfl).trans F19
  replace F20 := (Nx.2.2.1 20 rfl).trans F20
  replace F21 := (Nx.2.2.1 21 rfl).trans F21
  replace F75 := (Nx.2.2.1 75 rfl).trans F75
  clear F76
  clear F77
  clear F78
  clear F79
  clear F80
  have F81 := Nx.2.1
  replace D := Nx.2.2.2.trans D
  clear Z Nx
  have Z := Zn
  clear Zn af44
  refine' dqo_pure (d := 82) (by rfl) (by rfl) Z (by rfl) (wanted_yes (by rfl) (by rfl) F75) ?hv48 ?rest48
  case hv48 => (intro ρ hρ; have E16 := (hρ.1 16).trans F16; have Ec := hρ.2.1; have Ef := hρ.2.2.1; clear hρ; intro w hw; (try dsimp only at hw); go_split_ands; go_simp; try with_reducible rfl)
  case' rest48 => intro af46 Zn Nx
  replace F5 := (Nx.2.2.1 5 rfl).trans F5
  replace F7 := (Nx.2.2.1 7 rfl).trans F7
  replace F14 := (Nx.2.2.1 14 rfl).trans F14
  replace F16 := (Nx.2.2.1 16 rfl).trans F16
  replace F17 := (Nx.2.2.1 17 rfl).trans F17
  replace F19 := (Nx.2.2.1 19 rfl).trans F19
  replace F20 := (Nx.2.2.1 20 rfl).trans F20
  replace F21 := (Nx.2.2.1 21 rfl).trans F21
  replace F75 := (Nx.2.2.1 75 rfl).trans F75
  replace F81 := (Nx.2.2.1 81 rfl).trans F81
  have F82 := Nx.2.1
  replace D := Nx.2.2.2.trans D
  clear Z Nx
  have Z := Zn
  clear Zn af45
  refine' dqo_pure (d := 83) (by rfl) (by rfl) Z (by rfl) (wanted_yes (by rfl) (by rfl) F75) ?hv49 ?rest49
  case hv49 => (intro ρ hρ; have E17 := (hρ.1 17).trans F17; have Ec := hρ.2.1; have Ef := hρ.2.2.1; clear hρ; intro w hw; (try dsimp only at hw); go_split_ands; go_simp; try with_reducible rfl)
  case' rest49 => intro af47 Zn Nx
  replace F5 := (Nx.2.2.1 5 rfl).trans F5
  replace F7 := (Nx.2.2.1 7 rfl).trans F7
  replace F14 := (Nx.2.2.1 14 rfl).trans F14
  replace F16 := (Nx.2.2.1 16 rfl).trans F16
  replace F17 := (Nx.2.2.1 17 rfl).trans F17
  replace F19 := (Nx.2.2.1 19 rfl).trans F19
  replace F20 := (Nx.2.2.1 20 rfl).trans F20
  replace F21 := (Nx.2.2.1 21 rfl).trans F21
  replace F75 := (Nx.2.2.1 75 rfl).trans F75
  replace F81 := (Nx.2.2.1 81 rfl).trans F81
  replace F82 := (Nx.2.2.1 82 rfl).trans F82
  have F83 := Nx.2.1
  replace D := Nx.2.2.2.trans D
  clear Z Nx
  have Z := Zn
  clear Zn af46
  refine' dqo_pure (d := 84) (by rfl) (by rfl) Z (by rfl) (wanted_yes (by rfl) (by rfl) F75) ?hv50 ?rest50
  case hv50 => (intro ρ hρ; have E19 := (hρ.1 19).trans F19; have Ec := hρ.2.1; have Ef := hρ.2.2.1; clear hρ; intro w hw; (try dsimp only at hw); go_split_ands; go_simp; try with_reducible rfl)
  case' rest50 => intro af48 Zn Nx
  replace F5 := (Nx.2.2.1 5 rfl).trans F5
  replace F7 := (Nx.2.2.1 7 rfl).trans F7
  replace F14 := (Nx.2.2.1 14 rfl).trans F14
  replace F16 := (Nx.2.2.1 16 rfl).trans F16
  replace F17 := (Nx.2.2.1 17 rfl).trans F17
  clear F19
  replace F20 := (Nx.2.2.1 20 rfl).trans F20
  replace F21 := (Nx.2.2.1 21 rfl).trans F21
  replace F75 := (Nx.2.2.1 75 rfl).trans F75
  replace F81 := (Nx.2.2.1 81 rfl).trans F81
  replace F82 := (Nx.2.2.1 82 rfl).trans F82
  replace F83 := (Nx.2.2.1 83 rfl).trans F83
  have F84 := Nx.2.1
  replace D := Nx.2.2.2.trans D
  clear Z Nx
  have Z := Zn
  clear Zn af47
  refine' dqo_pure (d := 85) (by rfl) (by rfl) Z (by rfl) (wanted_yes (by rfl) (by rfl) F75) ?hv51 ?rest51
  case hv51 => (intro ρ hρ; have E20 := (hρ.1 20).trans F20; have Ec := hρ.2.1; have Ef := hρ.2.2.1; clear hρ; intro w hw; (try dsimp only at hw); go_split_ands; go_simp; try with_reducible rfl)
  case' rest51 => intro af49 Zn Nx
  replace F5 := (Nx.2.2.1 5 rfl).trans F5
  replace F7 := (Nx.2.2.1 7 rfl).trans F7
  replace F14 := (Nx.2.2.1 14 rfl).trans F14
  replace F16 := (Nx.2.2.1 16 rfl).trans F16
  replace F17 := (Nx.2.2.1 17 rfl).trans F17
  clear F20
  replace F21 := (Nx.2.2.1 21 rfl).trans F21
  replace F75 := (Nx.2.2.1 75 rfl).trans F75
  replace F81 := (Nx.2.2.1 81 rfl).trans F81
  replace F82 := (Nx.2.2.1 82 rfl).trans F82
  replace F83 := (Nx.2.2.1 83 rfl).trans F83
  replace F84 := (Nx.2.2.1 84 rfl).trans F84
  have F85 := Nx.2.1
  replace D := Nx.2.2.2.trans D
  clear Z Nx
  have Z := Zn
  clear Zn af48
  refine' dqo_pure (d := 86) (by rfl) (by rfl) Z (by rfl) (wanted_yes (by rfl) (by rfl) F75) ?hv52 ?rest52
  case hv52 => (intro ρ hρ; have E21 := (hρ.1 21).trans F21; have Ec := hρ.2.1; have Ef := hρ.2.2.1; clear hρ; intro w hw; (try dsimp only at hw); go_split_ands; go_simp; try with_reducible rfl)
  case' rest52 => intro af50 Zn Nx
  replace F5 := (Nx.2.2.1 5 rfl).trans F5
  replace F7 := (Nx.2.2.1 7 rfl).trans F7
  replace F14 := (Nx.2.2.1 14 rfl).trans F14
  replace F16 := (Nx.2.2.1 16 rfl).trans F16
  replace F17 := (Nx.2.2.1 17 rfl).trans F17
  clear F21
  replace F75 := (Nx.2.2.1 75 rfl).trans F75
  replace F81 := (Nx.2.2.1 81 rfl).trans F81
  replace F82 := (Nx.2.2.1 82 rfl).trans F82
  replace F83 := (Nx.2.2.1 83 rfl).trans F83
  replace F84 := (Nx.2.2.1 84 rfl).trans F84
  replace F85 := (Nx.2.2.1 85 rfl).trans F85
  have F86 := Nx.2.1
  replace D := Nx.2.2.2.trans D
  clear Z Nx
  have Z := Zn
  clear Zn af49
  refine' dqo_call (d := 87) (by rfl) (by rfl) Z (by rfl) (wanted_yes (by rfl) (by rfl) F75) ?hv53 ?hc53 ?rest53
  case hv53 => (intro ρ hρ; have E82 := (hρ.1 82).trans F82; have E83 := (hρ.1 83).trans F83; have E84 := (hρ.1 84).trans F84; have E85 := (hρ.1 85).trans F85; have E86 := (hρ.1 86).trans F86; have Ec := hρ.2.1; have Ef := hρ.2.2.1; clear hρ; intro w; go_simp; exact ⟨rfl, rfl⟩)
  case hc53 => exact (fun w hw => calls_gt (rweighted_any _ _ _ _ (by assumption) (by assumption) (by assumption) (by assumption) _ _ _ _ _ _ _ _ _ _ (by first | assumption | exact lb0_in _ | exact lb1_in _ | exact lb2_in _ | exact lb3_in _) (by first | assumption | exact lb0_in _ | exact lb1_in _ | exact lb2_in _ | exact lb3_in _) (by first | assumption | exact lb0_in _ | exact lb1_in _ | exact lb2_in _ | exact lb3_in _) (by first | assumption | exact lb0_in _ | exact lb1_in _ | exact lb2_in _ | exact lb3_in _) (by first | assumption | exact lb0_in _ | exact lb1_in _ | exact lb2_in _ | exact lb3_in _) (by first | assumption | exact lb0_in _ | exact lb1_in _ | exact lb2_in _ | exact lb3_in _) (by first | assumption | exact lb0_in _ | exact lb1_in _ | exact lb2_in _ | exact lb3_in _) (by first | assumption | exact lb0_in _ | exact lb1_in _ | exact lb2_in _ | exact lb3_in _) _ _))
  case' rest53 => intro af51 Zn Nx
  replace F5 := (Nx.2.2.1 5 rfl).trans F5
  replace F7 := (Nx.2.2.1 7 rfl).trans F7
  replace F14 := (Nx.2.2.1 14 rfl).trans F14
  replace F16 := (Nx.2.2.1 16 rfl).trans F16
  replace F17 := (Nx.2.2.1 17 rfl).trans F17
  replace F75 := (Nx.2.2.1 75 rfl).trans F75
  replace F81 := (Nx.2.2.1 81 rfl).trans F81
  clear F82
  clear F83
  clear F84
  clear F85
  clear F86
  have F87 := Nx.2.1
  replace D := Nx.2.2.2.trans D
  clear Z Nx
  have Z := Zn
  clear Zn af50
  refine' dqo_pure (d := 88) (by rfl) (by rfl) Z (by rfl) (wanted_yes (by rfl) (by rfl) F75) ?hv54 ?rest54
  case hv54 => (intro ρ hρ; have E81 := (hρ.1 81).trans F81; have E87 := (hρ.1 87).trans F87; have Ec := hρ.2.1; have Ef := hρ.2.2.1; clear hρ; intro w hw; (try dsimp only at hw); go_split_ands; go_simp; try with_reducible rfl)
  case' rest54 => intro af52 Zn Nx
  replace F5 := (Nx.2.2.1 5 rfl).trans F5
  replace F7 := (Nx.2.2.1 7 rfl).trans F7
  replace F14 := (Nx.2.2.1 14 rfl).trans F14
  replace F16 := (Nx.2.2.1 16 rfl).trans F16
  replace F17 := (Nx.2.2.1 17 rfl).trans F17
  replace F75 := (Nx.2.2.1 75 rfl).trans F75
  clear F81
  clear F87
  have F88 := Nx.2.1
  replace D := Nx.2.2.2.trans D
  clear Z Nx
  have Z := Zn
  clear Zn af51
  refine' dqo_pure (d := 89) (by rfl) (by rfl) Z (by rfl) (wanted_not (by rfl)) ?hv55 ?rest55
  case hv55 => (intro ρ hρ; have E75 := (hρ.1 75).trans F75; have E88 := (hρ.1 88).trans F88; have Ec := hρ.2.1; have Ef := hρ.2.2.1; clear hρ; intro w hw; (try dsimp only at hw); go_split_ands; go_simp; try with_reducible rfl)
  case' rest55 => intro af53 Zn Nx
  replace F5 := (Nx.2.2.1 5 rfl).trans F5
  replace F7 := (Nx.2.2.1 7 rfl).trans F7
  replace F14 := (Nx.2.2.1 14 rfl).trans F14
  replace F16 := (Nx.2.2.1 16 rfl).trans F16
  replace F17 := (Nx.2.2.1 17 rfl).trans F17
  clear F75
  clear F88
  have F89 := Nx.2.1
  replace D := Nx.2.2.2.trans D
  clear Z Nx
  have Z := Zn
  clear Zn af52
  refine' dqo_pure (d := 90) (by rfl) (by rfl) Z (by rfl) (wanted_not (by rfl)) ?hv56 ?rest56
  case hv56 => (intro ρ hρ; have E89 := (hρ.1 89).trans F89; have Ec := hρ.2.1; have Ef := hρ.2.2.1; clear hρ; intro w hw; (try dsimp only at hw); go_split_ands; go_simp; try with_reducible rfl)
  case' rest56 => intro af54 Zn Nx
  replace F5 := (Nx.2.2.1 5 rfl).trans F5
  replace F7 := (Nx.2.2.1 7 rfl).trans F7
  replace F14 := (Nx.2.2.1 14 rfl).trans F14
  replace F16 := (Nx.2.2.1 16 rfl).trans F16
  replace F17 := (Nx.2.2.1 17 rfl).trans F17
  clear F89
  have F90 := Nx.2.1
  replace D := Nx.2.2.2.trans D
  clear Z Nx
  have Z := Zn
  clear Zn af53
  refine' dqo_pure (d := 91) (by rfl) (by rfl) Z (by rfl) (wanted_yes (by rfl) (by rfl) F90) ?hv57 ?rest57
  case hv57 => (intro ρ hρ; have E16 := (hρ.1 16).trans F16; have Ec := hρ.2.1; have Ef := hρ.2.2.1; clear hρ; intro w hw; (try dsimp only at hw); go_split_ands; go_simp; try with_reducible rfl)
  case' rest57 => intro af55 Zn Nx
  replace F5 := (Nx.2.2.1 5 rfl).trans F5
  replace F7 := (Nx.2.2.1 7 rfl).trans F7
  replace F14 := (Nx.2.2.1 14 rfl).trans F14
  replace F16 := (Nx.2.2.1 16 rfl).trans F16
  replace F17 := (Nx.2.2.1 17 rfl).trans F17
  replace F90 := (Nx.2.2.1 90 rfl).trans F90
  have F91 := Nx.2.1
  replace D := Nx.2.2.2.trans D
  clear Z Nx
  have Z := Zn
  clear Zn af54
  refine' dqo_pure (d := 92) (by rfl) (by rfl) Z (by rfl) (wanted_yes (by rfl) (by rfl) F90) ?hv58 ?rest58
  case hv58 => (intro ρ hρ; have E17 := (hρ.1 17).trans F17; have Ec := hρ.2.1; have Ef := hρ.2.2.1; clear hρ; intro w hw; (try dsimp only at hw); go_split_ands; go_simp; try with_reducible rfl)
  case' rest58 => intro af56 Zn Nx
  replace F5 := (Nx.2.2.1 5 rfl).trans F5
  replace F7 := (Nx.2.2.1 7 rfl).trans F7
  replace F14 := (Nx.2.2.1 14 rfl).trans F14
  replace F16 := (Nx.2.2.1 16 rfl).trans F16
  replace F17 := (Nx.2.2.1 17 rfl).trans F17
  replace F90 := (Nx.2.2.1 90 rfl).trans F90
  replace F91 := (Nx.2.2.1 91 rfl).trans F91
  have F92 := Nx.2.1
  replace D := Nx.2.2.2.trans D
  clear Z Nx
  have Z := Zn
  clear Zn af55
  refine' dqo_pure (d := 93) (by rfl) (by rfl) Z (by rfl) (wanted_yes (by rfl) (by rfl) F90) ?hv59 ?rest59
  case hv59 => (intro ρ hρ; have E7 := (hρ.1 7).trans F7; have Ec := hρ.2.1; have Ef := hρ.2.2.1; clear hρ; intro w hw; (try dsimp only at hw); go_split_ands; go_simp; try with_reducible rfl)
  case' rest59 => intro af57 Zn Nx
  replace F5 := (Nx.2.2.1 5 rfl).trans F5
  replace F7 := (Nx.2.2.1 7 rfl).trans F7
  replace F14 := (Nx.2.2.1 14 rfl).trans F14
  replace F16 := (Nx.2.2.1 16 rfl).trans F16
  replace F17 := (Nx.2.2.1 17 rfl).trans F17
  replace F90 := (Nx.2.2.1 90 rfl).trans F90
  replace F91 := (Nx.2.2.1 91 rfl).trans F91
  replace F92 := (Nx.2.2.1 92 rfl).trans F92
  have F93 := Nx.2.1
  replace D := Nx.2.2.2.trans D
  clear Z Nx
  have Z := Zn
  clear Zn af56
  refine' dqo_pure (d := 94) (by rfl) (by rfl) Z (by rfl) (wanted_yes (by rfl) (by rfl) F90) ?hv60 ?rest60
  case hv60 => (intro ρ hρ; have E93 := (hρ.1 93).trans F93; have Ec := hρ.2.1; have Ef := hρ.2.2.1; clear hρ; intro w hw; (try dsimp only at hw); go_split_ands; go_simp; try with_reducible rfl)
  case' rest60 => intro af58 Zn Nx
  replace F5 := (Nx.2.2.1 5 rfl).trans F5
  replace F7 := (Nx.2.2.1 7 rfl).trans F7
  replace F14 := (Nx.2.2.1 14 rfl).trans F14
  replace F16 := (Nx.2.2.1 16 rfl).trans F16
  replace F17 := (Nx.2.2.1 17 rfl).trans F17
  replace F90 := (Nx.2.2.1 90 rfl).trans F90
  replace F91 := (Nx.2.2.1 91 rfl).trans F91
  replace F92 := (Nx.2.2.1 92 rfl).trans F92
  clear F93
  have F94 := Nx.2.1
  replace D := Nx.2.2.2.trans D
  clear Z Nx
  have Z := Zn
  clear Zn af57
  refine' dqo_call (d := 95) (by rfl) (by rfl) Z (by rfl) (wanted_yes (by rfl) (by rfl) F90) ?hv61 ?hc61 ?rest61
  case hv61 => (intro ρ hρ; have E94 := (hρ.1 94).trans F94; have Ec := hρ.2.1; have Ef := hρ.2.2.1; clear hρ; intro w; go_simp; exact ⟨rfl, rfl⟩)
  case hc61 => exact (fun w hw => calls_gt (rOf_any _ (by assumption) _))
  case' rest61 => intro af59 Zn Nx
  replace F5 := (Nx.2.2.1 5 rfl).trans F5
  replace F7 := (Nx.2.2.1 7 rfl).trans F7
  replace F14 := (Nx.2.2.1 14 rfl).trans F14
  replace F16 := (Nx.2.2.1 16 rfl).trans F16
  replace F17 := (Nx.2.2.1 17 rfl).trans F17
  replace F90 := (Nx.2.2.1 90 rfl).trans F90
  replace F91 := (Nx.2.2.1 91 rfl).trans F91
  replace F92 := (Nx.2.2.1 92 rfl).trans F92
  clear F94
  have F95 := Nx.2.1
  replace D := Nx.2.2.2.trans D
  clear Z Nx
  have Z := Zn
  clear Zn af58
  refine' dqo_pure (d := 96) (by rfl) (by rfl) Z (by rfl) (wanted_yes (by rfl) (by rfl) F90) ?hv62 ?rest62
  case hv62 => (intro ρ hρ; have E7 := (hρ.1 7).trans F7; have Ec := hρ.2.1; have Ef := hρ.2.2.1; clear hρ; intro w hw; (try dsimp only at hw); go_split_ands; go_simp; try with_reducible rfl)
  case' rest62 => intro af60 Zn Nx
  replace F5 := (Nx.2.2.1 5 rfl).trans F5
  replace F7 := (Nx.2.2.1 7 rfl).trans F7
  replace F14 := (Nx.2.2.1 14 rfl).trans F14
  replace F16 := (Nx.2.2.1 16 rfl).trans F16
  replace F17 := (Nx.2.2.1 17 rfl).trans F17
  replace F90 := (Nx.2.2.1 90 rfl).trans F90
  replace F91 := (Nx.2.2.1 91 rfl).trans F91
  replace F92 := (Nx.2.2.1 92 rfl).trans F92
  replace F95 := (Nx.2.2.1 95 rfl).trans F95
  have F96 := Nx.2.1
  replace D := Nx.2.2.2.trans D
  clear Z Nx
  have Z := Zn
  clear Zn af59
  refine' dqo_pure (d := 97) (by rfl) (by rfl) Z (by rfl) (wanted_yes (by rfl) (by rfl) F90) ?hv63 ?rest63
  case hv63 => (intro ρ hρ; have E96 := (hρ.1 96).trans F96; have Ec := hρ.2.1; have Ef := hρ.2.2.1; clear hρ; intro w hw; (try dsimp only at hw); go_split_ands; go_simp; try with_reducible rfl)
  case' rest63 => intro af61 Zn Nx
  replace F5 := (Nx.2.2.1 5 rfl).trans F5
  replace F7 := (Nx.2.2.1 7 rfl).trans F7
  replace F14 := (Nx.2.2.1 14 rfl).trans F14
  replace F16 := (Nx.2.2.1 16 rfl).trans F16
  replace F17 := (Nx.2.2.1 17 rfl).trans F17
  replace F90 := (Nx.2.2.1 90 rfl).trans F90
  replace F91 := (Nx.2.2.1 91 rfl).trans F91
  replace F92 := (Nx.2.2.1 92 rfl).trans F92
  replace F95 := (Nx.2.2.1 95 rfl).trans F95
  clear F96
  have F97 := Nx.2.1
  replace D := Nx.2.2.2.trans D
  clear Z Nx
  have Z := Zn
  clear Zn af60
  refine' dqo_call (d := 98) (by rfl) (by rfl) Z (by rfl) (wanted_yes (by rfl) (by rfl) F90) ?hv64 ?hc64 ?rest64
  case hv64 => (intro ρ hρ; have E97 := (hρ.1 97).trans F97; have Ec := hρ.2.1; have Ef := hρ.2.2.1; clear hρ; intro w; go_simp; exact ⟨rfl, rfl⟩)
  case hc64 => exact (fun w hw => calls_gt (rOf_any _ (by assumption) _))
  case' rest64 => intro af62 Zn Nx
  replace F5 := (Nx.2.2.1 5 rfl).trans F5
  replace F7 := (Nx.2.2.1 7 rfl).trans F7
  replace F14 := (Nx.2.2.1 14 rfl).trans F14
  replace F16 := (Nx.2.2.1 16 rfl).trans F16
  replace F17 := (Nx.2.2.1 17 rfl).trans F17
  replace F90 := (Nx.2.2.1 90 rfl).trans F90
  replace F91 := (Nx.2.2.1 91 rfl).trans F91
  replace F92 := (Nx.2.2.1 92 rfl).trans F92
  replace F95 := (Nx.2.2.1 95 rfl).trans F95
  clear F97
  have F98 := Nx.2.1
  replace D := Nx.2.2.2.trans D
  clear Z Nx
  have Z := Zn
  clear Zn af61
  refine' dqo_pure (d := 99) (by rfl) (by rfl) Z (by rfl) (wanted_yes (by rfl) (by rfl) F90) ?hv65 ?rest65
  case hv65 => (intro ρ hρ; have E5 := (hρ.1 5).trans F5; have Ec := hρ.2.1; have Ef := hρ.2.2.1; clear hρ; intro w hw; (try dsimp only at hw); go_split_ands; go_simp; try with_reducible rfl)
  case' rest65 => intro af63 Zn Nx
  replace F5 := (Nx.2.2.1 5 rfl).trans F5
  replace F7 := (Nx.2.2.1 7 rfl).trans F7
  replace F14 := (Nx.2.2.1 14 rfl).trans F14
  replace F16 := (Nx.2.2.1 16 rfl).trans F16
  replace F17 := (Nx.2.2.1 17 rfl).trans F17
  replace F90 := (Nx.2.2.1 90 rfl).trans F90
  replace F91 := (Nx.2.2.1 91 rfl).trans F91
  replace F92 := (Nx.2.2.1 92 rfl).trans F92
  replace F95 := (Nx.2.2.1 95 rfl).trans F95
  replace F98 := (Nx.2.2.1 98 rfl).trans F98
  have F99 := Nx.2.1
  replace D := Nx.2.2.2.trans D
  clear Z Nx
  have Z := Zn
  clear Zn af62
  refine' dqo_call (d := 100) (by rfl) (by rfl) Z (by rfl) (wanted_yes (by rfl) (by rfl) F90) ?hv66 ?hc66 ?rest66
  case hv66 => (intro ρ hρ; have E91 := (hρ.1 91).trans F91; have E92 := (hρ.1 92).trans F92; have E95 := (hρ.1 95).trans F95; have E98 := (hρ.1 98).trans F98; have E99 := (hρ.1 99).trans F99; have Ec := hρ.2.1; have Ef := hρ.2.2.1; clear hρ; intro w; go_simp; exact ⟨rfl, rfl⟩)
  case hc66 => exact (fun w hw => calls_gt (weighted_any _ _ _ _ (by assumption) (by assumption) (by assumption) (by assumption) _ _ _ _ _ _ _ _ _ _ (by first | assumption | exact lb0_in _ | exact lb1_in _ | exact lb2_in _ | exact lb3_in _) (by first | assumption | exact lb0_in _ | exact lb1_in _ | exact lb2_in _ | exact lb3_in _) (by first | assumption | exact lb0_in _ | exact lb1_in _ | exact lb2_in _ | exact lb3_in _) (by first | assumption | exact lb0_in _ | exact lb1_in _ | exact lb2_in _ | exact lb3_in _) (by first | assumption | exact lb0_in _ | exact lb1_in _ | exact lb2_in _ | exact lb3_in _) (by first | assumption | exact lb0_in _ | exact lb1_in _ | exact lb2_in _ | exact lb3_in _) (by first | assumption | exact lb0_in _ | exact lb1_in _ | exact lb2_in _ | exact lb3_in _) (by first | assumption | exact lb0_in _ | exact lb1_in _ | exact lb2_in _ | exact lb3_in _) _ _))
  case' rest66 => intro af64 Zn Nx
  replace F5 := (Nx.2.2.1 5 rfl).trans F5
  replace F7 := (Nx.2.2.1 7 rfl).trans F7
  replace F14 := (Nx.2.2.1 14 rfl).trans F14
  replace F16 := (Nx.2.2.1 16 rfl).trans F16
  replace F17 := (Nx.2.2.1 17 rfl).trans F17
  replace F90 := (Nx.2.2.1 90 rfl).trans F90
  clear F91
  clear F92
  clear F95
  clear F98
  clear F99
  have F100 := Nx.2.1
  replace D := Nx.2.2.2.trans D
  clear Z Nx
  have Z := Zn
  clear Zn af63
  refine' dqo_pure (d := 101) (by rfl) (by rfl) Z (by rfl) (wanted_yes (by rfl) (by rfl) F90) ?hv67 ?rest67
  case hv67 => (intro ρ hρ; have E16 := (hρ.1 16).trans F16; have Ec := hρ.2.1; have Ef := hρ.2.2.1; clear hρ; intro w hw; (try dsimp only at hw); go_split_ands; go_simp; try with_reducible rfl)
  case' rest67 => intro af65 Zn Nx
  replace F5 := (Nx.2.2.1 5 rfl).trans F5
  replace F7 := (Nx.2.2.1 7 rfl).trans F7
  replace F14 := (Nx.2.2.1 14 rfl).trans F14
  clear F16
  replace F17 := (Nx.2.2.1 17 rfl).trans F17
  replace F90 := (Nx.2.2.1 90 rfl).trans F90
  replace F100 := (Nx.2.2.1 100 rfl).trans F100
  have F101 := Nx.2.1
  replace D := Nx.2.2.2.trans D
  clear Z Nx
  have Z := Zn
  clear Zn af64
  refine' dqo_pure (d := 102) (by rfl) (by rfl) Z (by rfl) (wanted_yes (by rfl) (by rfl) F90) ?hv68 ?rest68
  case hv68 => (intro ρ hρ; have E17 := (hρ.1 17).trans F17; have Ec := hρ.2.1; have Ef := hρ.2.2.1; clear hρ; intro w hw; (try dsimp only at hw); go_split_ands; go_simp; try with_reducible rfl)
  case' rest68 => intro af66 Zn Nx
  replace F5 := (Nx.2.2.1 5 rfl).trans F5
  replace F7 := (Nx.2.2.1 7 rfl).trans F7
  replace F14 := (Nx.2.2.1 14 rfl).trans F14
  clear F17
  replace F90 := (Nx.2.2.1 90 rfl).trans F90
  replace F100 := (Nx.2.2.1 100 rfl).trans F100
  replace F101 := (Nx.2.2.1 101 rfl).trans F101
  have F102 := Nx.2.1
  replace D := Nx.2.2.2.trans D
  clear Z Nx
  have Z := Zn
  clear Zn af65
  refine' dqo_pure (d := 103) (by rfl) (by rfl) Z (by rfl) (wanted_yes (by rfl) (by rfl) F90) ?hv69 ?rest69
  case hv69 => (intro ρ hρ; have E7 := (hρ.1 7).trans F7; have Ec := hρ.2.1; have Ef := hρ.2.2.1; clear hρ; intro w hw; (try dsimp only at hw); go_split_ands; go_simp; try with_reducible rfl)
  case' rest69 => intro af67 Zn Nx
  replace F5 := (Nx.2.2.1 5 rfl).trans F5
  replace F7 := (Nx.2.2.1 7 rfl).trans F7
  replace F14 := (Nx.2.2.1 14 rfl).trans F14
  replace F90 := (Nx.2.2.1 90 rfl).trans F90
  replace F100 := (Nx.2.2.1 100 rfl).trans F100
  replace F101 := (Nx.2.2.1 101 rfl).trans F101
  replace F102 := (Nx.2.2.1 102 rfl).trans F102
  have F103 := Nx.2.1
  replace D := Nx.2.2.2.trans D
  clear Z Nx
  have Z := Zn
  clear Zn af66
  refine' dqo_pure (d := 104) (by rfl) (by rfl) Z (by rfl) (wanted_yes (by rfl) (by rfl) F90) ?hv70 ?rest70
  case hv70 => (intro ρ hρ; have E103 := (hρ.1 103).trans F103; have Ec := hρ.2.1; have Ef := hρ.2.2.1; clear hρ; intro w hw; (try dsimp only at hw); go_split_ands; go_simp; try with_reducible rfl)
  case' rest70 => intro af68 Zn Nx
  replace F5 := (Nx.2.2.1 5 rfl).trans F5
  replace F7 := (Nx.2.2.1 7 rfl).trans F7
  replace F14 := (Nx.2.2.1 14 rfl).trans F14
  replace F90 := (Nx.2.2.1 90 rfl).trans F90
  replace F100 := (Nx.2.2.1 100 rfl).trans F100
  replace F101 := (Nx.2.2.1 101 rfl).trans F101
  replace F102 := (Nx.2.2.1 102 rfl).trans F102
  clear F103
  have F104 := Nx.2.1
  replace D := Nx.2.2.2.trans D
  clear Z Nx
  have Z := Zn
  clear Zn af67
  refine' dqo_call (d := 105) (by rfl) (by rfl) Z (by rfl) (wanted_yes (by rfl) (by rfl) F90) ?hv71 ?hc71 ?rest71
  case hv71 => (intro ρ hρ; have E104 := (hρ.1 104).trans F104; have Ec := hρ.2.1; have Ef := hρ.2.2.1; clear hρ; intro w; go_simp; exact ⟨rfl, rfl⟩)
  case hc71 => exact (fun w hw => calls_gt (rOf_any _ (by assumption) _))
  case' rest71 => intro af69 Zn Nx
  replace F5 := (Nx.2.2.1 5 rfl).trans F5
  replace F7 := (Nx.2.2.1 7 rfl).trans F7
  replace F14 := (Nx.2.2.1 14 rfl).trans F14
  replace F90 := (Nx.2.2.1 90 rfl).trans F90
  replace F100 := (Nx.2.2.1 100 rfl).trans F100
  replace F101 := (Nx.2.2.1 101 rfl).trans F101
  replace F102 := (Nx.2.2.1 102 rfl).trans F102
  clear F104
  have F105 := Nx.2.1
  replace D := Nx.2.2.2.trans D
  clear Z Nx
  have Z := Zn
  clear Zn af68
  refine' dqo_pure (d := 106) (by rfl) (by rfl) Z (by rfl) (wanted_yes (by rfl) (by rfl) F90) ?hv72 ?rest72
  case hv72 => (intro ρ hρ; have E7 := (hρ.1 7).trans F7; have Ec := hρ.2.1; have Ef := hρ.2.2.1; clear hρ; intro w hw; (try dsimp only at hw); go_split_ands; go_simp; try with_reducible rfl)
  case' rest72 => intro af70 Zn Nx
  replace F5 := (Nx.2.2.1 5 rfl).trans F5
  clear F7
  replace F14 := (Nx.2.2.1 14 rfl).trans F14
  replace F90 := (Nx.2.2.1 90 rfl).trans F90
  replace F100 := (Nx.2.2.1 100 rfl).trans F100
  replace F101 := (Nx.2.2.1 101 rfl).trans F101
  replace F102 := (Nx.2.2.1 102 rfl).trans F102
  replace F105 := (Nx.2.2.1 105 rfl).trans F105
  have F106 := Nx.2.1
  replace D := Nx.2.2.2.trans D
  clear Z Nx
  have Z := Zn
  clear Zn af69
  refine' dqo_pure (d := 107) (by rfl) (by rfl) Z (by rfl) (wanted_yes (by rfl) (by rfl) F90) ?hv73 ?rest73
  case hv73 => (intro ρ hρ; have E106 := (hρ.1 106).trans F106; have Ec := hρ.2.1; have Ef := hρ.2.2.1; clear hρ; intro w hw; (try dsimp only at hw); go_split_ands; go_simp; try with_reducible rfl)
  case' rest73 => intro af71 Zn Nx
  replace F5 := (Nx.2.2.1 5 rfl).trans F5
  replace F14 := (Nx.2.2.1 14 rfl).trans F14
  replace F90 := (Nx.2.2.1 90 rfl).trans F90
  replace F100 := (Nx.2.2.1 100 rfl).trans F100
  replace F101 := (Nx.2.2.1 101 rfl).trans F101
  replace F102 := (Nx.2.2.1 102 rfl).trans F102
  replace F105 := (Nx.2.2.1 105 rfl).trans F105
  clear F106
  have F107 := Nx.2.1
  replace D := Nx.2.2.2.trans D
  clear Z Nx
  have Z := Zn
  clear Zn af70
  refine' dqo_call (d := 108) (by rfl) (by rfl) Z (by rfl) (wanted_yes (by rfl) (by rfl) F90) ?hv74 ?hc74 ?rest74
  case hv74 => (intro ρ hρ; have E107 := (hρ.1 107).trans F107; have Ec := hρ.2.1; have Ef := hρ.2.2.1; clear hρ; intro w; go_simp; exact ⟨rfl, rfl⟩)
  case hc74 => exact (fun w hw => calls_gt (rOf_any _ (by assumption) _))
  case' rest74 => intro af72 Zn Nx
  replace F5 := (Nx.2.2.1 5 rfl).trans F5
  replace F14 := (Nx.2.2.1 14 rfl).trans F14
  replace F90 := (Nx.2.2.1 90 rfl).trans F90
  replace F100 := (Nx.2.2.1 100 rfl).trans F100
  replace F101 := (Nx.2.2.1 101 rfl).trans F101
  replace F102 := (Nx.2.2.1 102 rfl).trans F102
  replace F105 := (Nx.2.2.1 105 rfl).trans F105
  clear F107
  have F108 := Nx.2.1
  replace D := Nx.2.2.2.trans D
  clear Z Nx
  have Z := Zn
  clear Zn af71
  refine' dqo_pure (d := 109) (by rfl) (by rfl) Z (by rfl) (wanted_yes (by rfl) (by rfl) F90) ?hv75 ?rest75
  case hv75 => (intro ρ hρ; have E5 := (hρ.1 5).trans F5; have Ec := hρ.2.1; have Ef := hρ.2.2.1; clear hρ; intro w hw; (try dsimp only at hw); go_split_ands; go_simp; try with_reducible rfl)
  case' rest75 => intro af73 Zn Nx
  clear F5
  replace F14 := (Nx.2.2.1 14 rfl).trans F14
  replace F90 := (Nx.2.2.1 90 rfl).trans F90
  replace F100 := (Nx.2.2.1 100 rfl).trans F100
  replace F101 := (Nx.2.2.1 101 rfl).trans F101
  replace F102 := (Nx.2.2.1 102 rfl).trans F102
  replace F105 := (Nx.2.2.1 105 rfl).trans F105
  replace F108 := (Nx.2.2.1 108 rfl).trans F108
  have F109 := Nx.2.1
  replace D := Nx.2.2.2.trans D
  clear Z Nx
  have Z := Zn
  clear Zn af72
  refine' dqo_call (d := 110) (by rfl) (by rfl) Z (by rfl) (wanted_yes (by rfl) (by rfl) F90) ?hv76 ?hc76 ?rest76
  case hv76 => (intro ρ hρ; have E101 := (hρ.1 101).trans F101; have E102 := (hρ.1 102).trans F102; have E105 := (hρ.1 105).trans F105; have E108 := (hρ.1 108).trans F108; have E109 := (hρ.1 109).trans F109; have Ec := hρ.2.1; have Ef := hρ.2.2.1; clear hρ; intro w; go_simp; exact ⟨rfl, rfl⟩)
  case hc76 => exact (fun w hw => calls_gt (rweighted_any _ _ _ _ (by assumption) (by assumption) (by assumption) (by assumption) _ _ _ _ _ _ _ _ _ _ (by first | assumption | exact lb0_in _ | exact lb1_in _ | exact lb2_in _ | exact lb3_in _) (by first | assumption | exact lb0_in _ | exact lb1_in _ | exact lb2_in _ | exact lb3_in _) (by first | assumption | exact lb0_in _ | exact lb1_in _ | exact lb2_in _ | exact lb3_in _) (by first | assumption | exact lb0_in _ | exact lb1_in _ | exact lb2_in _ | exact lb3_in _) (by first | assumption | exact lb0_in _ | exact lb1_in _ | exact lb2_in _ | exact lb3_in _) (by first | assumption | exact lb0_in _ | exact lb1_in _ | exact lb2_in _ | exact lb3_in _) (by first | assumption | exact lb0_in _ | exact lb1_in _ | exact lb2_in _ | exact lb3_in _) (by first | assumption | exact lb0_in _ | exact lb1_in _ | exact lb2_in _ | exact lb3_in _) _ _))
  case' rest76 => intro af74 Zn Nx
  replace F14 := (Nx.2.2.1 14 rfl).trans F14
  replace F90 := (Nx.2.2.1 90 rfl).trans F90
  replace F100 := (Nx.2.2.1 100 rfl).trans F100
  clear F101
  clear F102
  clear F105
  clear F108
  clear F109
  have F110 := Nx.2.1
  replace D := Nx.2.2.2.trans D
  clear Z Nx
  have Z := Zn
  clear Zn af73
  refine' dqo_pure (d := 111) (by rfl) (by rfl) Z (by rfl) (wanted_yes (by rfl) (by rfl) F90) ?hv77 ?rest77
  case hv77 => (intro ρ hρ; have E100 := (hρ.1 100).trans F100; have E110 := (hρ.1 110).trans F110; have Ec := hρ.2.1; have Ef := hρ.2.2.1; clear hρ; intro w hw; (try dsimp only at hw); go_split_ands; go_simp; try with_reducible rfl)
  case' rest77 => intro af75 Zn Nx
  replace F14 := (Nx.2.2.1 14 rfl).trans F14
  replace F90 := (Nx.2.2.1 90 rfl).trans F90
  clear F100
  clear F110
  have F111 := Nx.2.1
  replace D := Nx.2.2.2.trans D
  clear Z Nx
  have Z := Zn
  clear Zn af74
  refine' dqo_pure (d := 112) (by rfl) (by rfl) Z (by rfl) (wanted_not (by rfl)) ?hv78 ?rest78
  case hv78 => (intro ρ hρ; have E90 := (hρ.1 90).trans F90; have E111 := (hρ.1 111).trans F111; have Ec := hρ.2.1; have Ef := hρ.2.2.1; clear hρ; intro w hw; (try dsimp only at hw); go_split_ands; go_simp; try with_reducible rfl)
  case' rest78 => intro af76 Zn Nx
  replace F14 := (Nx.2.2.1 14 rfl).trans F14
  clear F90
  clear F111
  have F112 := Nx.2.1
  replace D := Nx.2.2.2.trans D
  clear Z Nx
  have Z := Zn
  clear Zn af75
  refine dq_nil ?_
  refine fa_nil ?_
  rintro W ⟨⟨hb0, hn0, ⟨B1, B1c, B1f, B1l⟩, ⟨B2, B2c, B2f, B2l⟩, ⟨B3, B3c, B3f, B3l⟩, ⟨B4, B4c, B4f, B4l⟩, ⟨B5, B5c, B5f, B5l⟩, ⟨B6, B6c, B6f, B6l⟩, ⟨B7, B7c, B7f, B7l⟩, ⟨B8, B8c, B8f, B8l⟩, ⟨B9, B9c, B9f, B9l⟩, ⟨B10, B10c, B10f, B10l⟩⟩, hgl⟩ hbs
  clear hbs hgl
  obtain ⟨ρ, hρ⟩ := rho_of af76
  have hL := act_lit (l := [ρ (.tmp 0), ρ (.tmp 1), ρ (.tmp 2), ρ (.tmp 3), ρ (.tmp 4), ρ (.tmp 5), ρ (.tmp 6), ρ (.tmp 7), ρ (.tmp 8), ρ (.tmp 9), ρ (.tmp 10), ρ (.tmp 11), ρ (.tmp 12), ρ (.tmp 13), _, ρ (.tmp 15), ρ (.tmp 16), ρ (.tmp 17), ρ (.tmp 18), ρ (.tmp 19), ρ (.tmp 20), ρ (.tmp 21), ρ (.tmp 22), ρ (.tmp 23), ρ (.tmp 24), ρ (.tmp 25), ρ (.tmp 26), ρ (.tmp 27), ρ (.tmp 28), ρ (.tmp 29), ρ (.tmp 30), ρ (.tmp 31), ρ (.tmp 32), ρ (.tmp 33), ρ (.tmp 34), ρ (.tmp 35), ρ (.tmp 36), ρ (.tmp 37), ρ (.tmp 38), ρ (.tmp 39), ρ (.tmp 40), ρ (.tmp 41), ρ (.tmp 42), ρ (.tmp 43), ρ (.tmp 44), ρ (.tmp 45), ρ (.tmp 46), ρ (.tmp 47), ρ (.tmp 48), ρ (.tmp 49), ρ (.tmp 50), ρ (.tmp 51), ρ (.tmp 52), ρ (.tmp 53), ρ (.tmp 54), ρ (.tmp 55), ρ (.tmp 56), ρ (.tmp 57), ρ (.tmp 58), ρ (.tmp 59), ρ (.tmp 60), ρ (.tmp 61), ρ (.tmp 62), ρ (.tmp 63), ρ (.tmp 64), ρ (.tmp 65), ρ (.tmp 66), ρ (.tmp 67), ρ (.tmp 68), ρ (.tmp 69), ρ (.tmp 70), ρ (.tmp 71), ρ (.tmp 72), ρ (.tmp 73), ρ (.tmp 74), ρ (.tmp 75), ρ (.tmp 76), ρ (.tmp 77), ρ (.tmp 78), ρ (.tmp 79), ρ (.tmp 80), ρ (.tmp 81), ρ (.tmp 82), ρ (.tmp 83), ρ (.tmp 84), ρ (.tmp 85), ρ (.tmp 86), ρ (.tmp 87), ρ (.tmp 88), ρ (.tmp 89), ρ (.tmp 90), ρ (.tmp 91), ρ (.tmp 92), ρ (.tmp 93), ρ (.tmp 94), ρ (.tmp 95), ρ (.tmp 96), ρ (.tmp 97), ρ (.tmp 98), ρ (.tmp 99), ρ (.tmp 100), ρ (.tmp 101), ρ (.tmp 102), ρ (.tmp 103), ρ (.tmp 104), ρ (.tmp 105), ρ (.tmp 106), ρ (.tmp 107), ρ (.tmp 108), ρ (.tmp 109), ρ (.tmp 110), ρ (.tmp 111), _]) Z D (by rfl) ⟨hρ 0, hρ 1, hρ 2, hρ 3, hρ 4, hρ 5, hρ 6, hρ 7, hρ 8, hρ 9, hρ 10, hρ 11, hρ 12, hρ 13, F14, hρ 15, hρ 16, hρ 17, hρ 18, hρ 19, hρ 20, hρ 21, hρ 22, hρ 23, hρ 24, hρ 25, hρ 26, hρ 27, hρ 28, hρ 29, hρ 30, hρ 31, hρ 32, hρ 33, hρ 34, hρ 35, hρ 36, hρ 37, hρ 38, hρ 39, hρ 40, hρ 41, hρ 42, hρ 43, hρ 44, hρ 45, hρ 46, hρ 47, hρ 48, hρ 49, hρ 50, hρ 51, hρ 52, hρ 53, hρ 54, hρ 55, hρ 56, hρ 57, hρ 58, hρ 59, hρ 60, hρ 61, hρ 62, hρ 63, hρ 64, hρ 65, hρ 66, hρ 67, hρ 68, hρ 69, hρ 70, hρ 71, hρ 72, hρ 73, hρ 74, hρ 75, hρ 76, hρ 77, hρ 78, hρ 79, hρ 80, hρ 81, hρ 82, hρ 83, hρ 84, hρ 85, hρ 86, hρ 87, hρ 88, hρ 89, hρ 90, hρ 91, hρ 92, hρ 93, hρ 94, hρ 95, hρ 96, hρ 97, hρ 98, hρ 99, hρ 100, hρ 101, hρ 102, hρ 103, hρ 104, hρ 105, hρ 106, hρ 107, hρ 108, hρ 109, hρ 110, hρ 111, F112, trivial⟩
  clear hρ Z D F14 F112
  subst hL
  simp only [List.drop_succ_cons, List.drop_zero]
  (repeat' (first | go_values | go_skip | go_guarded | go_step | go_upon | (simp only [Int.not_lt, Int.not_le] at *; go_simp) | (go_values <;> (try go_simp)) | (go_ite <;> go_prune <;> (try go_simp)) | (split <;> (first | (rename_i hx; exact (hx _ rfl).elim) | go_prune))))
  refine bodyPost_ret (v := .bool true) ?_ rfl ⟨rfl, by (repeat' (first | (with_reducible assumption) | (with_reducible exact Below.refl _ _) | (with_reducible refine Below.alloc ?_ ?_ _) | (with_reducible refine Below.setCell ?_ ?_ _) | (with_reducible refine Below.drew ?_) | (with_reducible refine below_more ?_ (by with_reducible assumption)) | go_size | omega | (with_reducible refine below_drewN ?_)))⟩
  simp [results, Try.results3, go_sem]

/-! ### The row -/
set_option maxRecDepth 100000 in
theorem lifted (os : Os) (started : os.Started) (H : Type) (enc : TypeId × Value → H) :
    ReturnsInHanded {} Try.checked os 3 .any (Rows.triangleFormsSpec.pre6 enc Try.prog Try.f3 Rows.triangleFormsRow.domain false) (Rows.triangleFormsSpec.post enc Try.prog Try.f3 false true false false) := by
  refine returnsInHanded_of_change_sized (C := Try.checked) own started (by kernel_rfl) Try.func3
    (ChangeSpec.witness6 (enc := enc) (C := Try.checked) false ⟨#[], #[.agg #[.int .i64 0, .int .i64 0], .agg #[.int .i64 0, .int .i64 0], .agg #[.int .i64 0, .int .i64 0], .agg #[.bool false, .int .u64 0, .int .u64 0, .int .u64 0, .int .u64 0], .agg #[.bool false, .int .u64 0, .int .u64 0, .int .u64 0, .int .u64 0], .int .i64 0, .slice none 0 0], []⟩ 8 (by kernel_rfl) (by kernel_rfl) (by kernel_rfl) (by kernel_rfl)) ?_
  intro W base args ds gs before hval0 hW hcnd hsz _
  have hval : ∀ (j : Nat) t v, Try.f3.params[j]? = some t → args[j]? = some v → Value.okWide Try.prog W .any base t v := hval0
  have hW' := hW
  obtain ⟨p, q, hA0, hV, rfl, hfz, hnd⟩ := hW
  have hA : DataW.TrodAll enc Try.prog W 0 (fun _ => true) true Try.f3.params.toList args.toList ds p := hA0
  rw [Try.params3] at hA hval
  obtain ⟨v0, vs0, d0, ds0, p0, q0, hargs, rfl, rfl, g0, r0⟩ := trodAll_cons hA
  obtain ⟨v1, vs1, d1, ds1, p1, q1, rfl, rfl, rfl, g1, r1⟩ := trodAll_cons r0
  obtain ⟨v2, vs2, d2, ds2, p2, q2, rfl, rfl, rfl, g2, r2⟩ := trodAll_cons r1
  obtain ⟨v3, vs3, d3, ds3, p3, q3, rfl, rfl, rfl, g3, r3⟩ := trodAll_cons r2
  obtain ⟨v4, vs4, d4, ds4, p4, q4, rfl, rfl, rfl, g4, r4⟩ := trodAll_cons r3
  obtain ⟨v5, vs5, d5, ds5, p5, q5, rfl, rfl, rfl, g5, r5⟩ := trodAll_cons r4
  obtain ⟨v6, vs6, d6, ds6, p6, q6, rfl, rfl, rfl, g6, r6⟩ := trodAll_cons r5
  obtain ⟨rfl, rfl, rfl⟩ := trodAll_nil r6
  obtain rfl : args = #[v0, v1, v2, v3, v4, v5, v6] := by cases args; simp_all
  obtain ⟨rfl, rfl⟩ := trodVars_none hV
  have hlt : ∀ x ∈ (p0 ++ (p1 ++ (p2 ++ (p3 ++ (p4 ++ (p5 ++ (p6 ++ []))))))) ++ [], x.block < W.heap.size := fun x hx => hW'.lt x hx
  obtain ⟨ta0, va0, rfl, wa0, wb0⟩ := open_sample (hval 0 23 v0 rfl rfl) g0
  obtain ⟨ta1, va1, rfl, wa1, wb1⟩ := open_sample (hval 1 23 v1 rfl rfl) g1
  obtain ⟨ta2, va2, rfl, wa2, wb2⟩ := open_sample (hval 2 23 v2 rfl rfl) g2
  obtain ⟨nb3, xa3, xb3, xc3, xd3, rfl, ua3, ub3, uc3, ud3⟩ := open_wide (hval 3 27 v3 rfl rfl) g3
  obtain ⟨nb4, xa4, xb4, xc4, xd4, rfl, ua4, ub4, uc4, ud4⟩ := open_wide (hval 4 27 v4 rfl rfl) g4
  obtain ⟨a5, rfl, rfl, rfl, w5⟩ := open_int Try.underlying3 (hval 5 3 v5 rfl rfl) g5
  obtain ⟨z6, hs6⟩ := open_slz Try.underlying28 Try.underlying3 (by kernel_rfl) (hval 6 28 v6 rfl rfl) g6 (fun x hx => hlt x (by simp [hx]))
  have hs6' := hs6
  obtain ⟨s6, l6, c6, rfl, _⟩ := hs6'
  refine (walk W ta0 va0 ⟨wa0, wb0⟩ ta1 va1 ⟨wa1, wb1⟩ ta2 va2 ⟨wa2, wb2⟩ nb3 xa3 xb3 xc3 xd3 ⟨ua3, ub3, uc3, ud3⟩ nb4 xa4 xb4 xc4 xd4 ⟨ua4, ub4, uc4, ud4⟩ a5 (I64.of_wf w5) s6 l6 c6 z6 hs6).mono fun e W' ⟨he, hb⟩ => ?_
  subst he
  exact ⟨_, rfl, law_post laidOut (by kernel_rfl) rfl rfl Try.underlying4 hW' rfl rfl rfl hb⟩

theorem over : Rows.triangleFormsRow.holds Try.pinned (OpenSpec.ofChange Rows.triangleFormsSpec) :=
  OpenClaim.holds_of_wide 3 Try.f3 rfl rfl rfl rfl rfl rfl rfl ⟨rfl, rfl, rfl, rfl, rfl⟩ rfl rfl rfl rfl rfl (by kernel_rfl) Try.func3 (by kernel_rfl)
    (of_decide_eq_true (by kernel_rfl)) (by unfold Func.isWrapper; first | (rw [if_pos (by decide +kernel)]; kernel_rfl) | (rw [if_neg (by decide +kernel)]; exact ⟨rfl, rfl⟩))
    (fun os started H enc _ => lifted os started H enc)

/-- The given statement. -/
theorem proved : Rows.TriangleFormsSaid :=
  over
#print axioms proved
end Go.Proofs.Ythcboomdkpiflaa.triangleForms
