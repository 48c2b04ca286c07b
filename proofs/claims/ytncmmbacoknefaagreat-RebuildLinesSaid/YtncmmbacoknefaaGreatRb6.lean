/- Several texts in one: Re, L20, Rq, Open, OpK, OpL. -/
import Derived.Laws.CopyRow
import Derived.Test.YtncmmbacoknefaaGreatRows
import Derived.OpenShut
import Derived.SizedLaws
import Derived.Laws.IdiomArrays
import Derived.Deep.Strs
import Derived.Test.YtncmmbacoknefaaGreatRb2
import Derived.Test.YtncmmbacoknefaaGreatRb4
import Derived.Test.YtncmmbacoknefaaGreatRb5
set_option linter.defProp false

/- Re: slices.Repeat of one number, twice; Constants of the sanity check. -/
namespace Go.Proofs.YtncmmbacoknefaaGreat
open Go Go.RowKit Sx
set_option linter.unusedVariables false
set_option linter.unusedSimpArgs false
theorem en_bmul (l:Array Value) (W:World):(callFunc 144 l).run Tryz.prog W = .ok (.enter 144 l) W:=Sx.en_of Tryz.func144 (by kernel_rfl) (by kernel_rfl) l W
theorem en_rept (l:Array Value) (W:World):(callFunc 88 l).run Tryz.prog W = .ok (.enter 88 l) W:=Sx.en_of Tryz.func88 (by kernel_rfl) (by kernel_rfl) l W
theorem g_bmul12 (W:World):Gives Tryz.prog 144 [.int .u64 1,.int .u64 2] W (· = .tuple #[.int .u64 0,.int .u64 2]) :=
 gives_known en_bmul ((Tryz.bits_Mul 1 2 (by decide) (by decide) W).mono fun e w' ⟨h1,h2⟩=>⟨h1,by rw [h2]; exact Below.refl _ _⟩)
namespace Sx
variable {C:Cx} {S:St} {K:St→Prop} {d:Option Nat}
theorem genA_cp {P:Program} (hP:C.P = P) {L:List Kn} (L':List Kn) {dT sT ty e:TypeId} {g o dLen dCap sb so sLen sCap:Nat} {cs us:List Value} {bb:List Bool}
  (hu:P.underlying dT = some (.slice e)) (hs:(P.info? e).map (·.size) = some 1) (hT:S.T = kX C.w0.heap.size L) (hm:.g (cK g cs)∈L) (hmv:g∈S.T.bs∧g∈C.mv S)
  (hsrc:∀ W,(∀ k∈L,k.ok C.w0.heap.size W)→∀ (j:Nat) v,us[j]? = some v→W.cell? ⟨sb,so + j,none⟩ = some v) (hn:us.length = Nat.min sLen dLen) (hfit:o + us.length≤cs.length) (h1:∀ v∈us,v.oneCell' = true)
  (hL:∀ k∈L',k = .g (cK g (cs.take o ++ us ++ cs.drop (o + us.length)))∨(k∈L∧g ∉ k.bs))
  (hk:K (St.put ⟨S.n,S.E,S.H,kX C.w0.heap.size L'⟩ d (.v (.int .i64 us.length)))):genA C (.bi .copy [dT,sT] ty bb) [.slice (some ⟨g,o,none⟩) dLen dCap,.slice (some ⟨sb,so,none⟩) sLen sCap] d K S:=by
 subst hP
 refine genA_T (ι:=Unit) (fun _=>.int .i64 us.length) (fun _=>kX C.w0.heap.size L') (fun W hW hok hbs=>⟨?_⟩) (fun _=>hk)
 rw [hT] at hok
 obtain ⟨hge,T,hg⟩:(cK g cs).ok C.w0.heap.size W:=hok _ hm
 have hr:=run_copy_row (P:=C.P) W dT sT ty e g o dLen dCap ⟨sb,so,none⟩ sLen sCap cs.toArray T us hu hs hg hn (fun j v hj=>by rw [Addr.add_lit]; exact hsrc W hok j v hj) (by simpa using hfit) h1
 have hr':(genRun (.bi .copy [dT,sT] ty bb) [.slice (some ⟨g,o,none⟩) dLen dCap,.slice (some ⟨sb,so,none⟩) sLen sCap]).run C.P W = .ok (.value (.int .i64 us.length)) (W.setRow g (cs.take o ++ us ++ cs.drop (o + us.length)).toArray):=by
  show (do let x ← Builtin.copy_ #[dT,sT] ty #[.slice (some ⟨g,o,none⟩) dLen dCap,.slice (some ⟨sb,so,none⟩) sLen sCap]; pure (Next.value x)).run C.P W = _
  rw [run_bind_ok hr]
  rfl
 rw [hr']
 have hsz:(W.setRow g (cs.take o ++ us ++ cs.drop (o + us.length)).toArray).heap.size = W.heap.size:=by simp [World.setRow]
 have hne:∀ j,j≠g→(W.setRow g (cs.take o ++ us ++ cs.drop (o + us.length)).toArray).heap[j]? = W.heap[j]? := fun j hj=>setRow_other W g j _ hj
 refine ⟨(),rfl,⟨rfl,rfl,rfl,by rw [hsz]; exact Nat.le_refl _,fun j hj hn=>hne j fun e=>hn (by rw [e]; exact hmv.2)⟩,?_,kX_stab C _,?_⟩
 ·intro k hk
  rcases hL k hk with rfl | ⟨hk,hb⟩
  ·exact ⟨hge,T,setRow_heap W g _ _ T _ hg⟩
  ·exact (hok k hk).keep (by rw [hsz]; exact Nat.le_refl _) (fun b hbb=>hne b fun e=>hb (by rw [← e]; exact hbb)) fun b hbn hbl=>hne b fun e=>by omega
 ·intro x hx
  rw [hsz]
  obtain ⟨k,hk,hx⟩:=kX_bs.1 hx
  rcases hL k hk with rfl | ⟨hk,hb⟩
  ·rw [show x = g from List.mem_singleton.1 hx]
   exact ⟨.inl hmv.1,(Array.getElem?_eq_some_iff.1 hg).1⟩
  ·exact ⟨.inl (by rw [hT]; exact kX_bs.2 ⟨k,hk,hx⟩),((hok k hk).lt x hx).2⟩
def hC (w:World) (b:Nat):KnG where
 bs:=List.range' b (w.heap.size - b)
 ok n W:=n = b∧w.heap.size≤W.heap.size∧∀ i,i < w.heap.size→W.heap[i]? = w.heap[i]?
 lt:=fun {n W} h c hc=>by
  obtain ⟨h0,h1,-⟩:=h
  rw [List.mem_range'] at hc
  obtain ⟨i,hi,rfl⟩:=hc
  omega
 keep:=fun {n W W'} h hs hb ho=>by
  obtain ⟨h0,hsz,hg⟩:=h
  refine ⟨h0,Nat.le_trans hsz hs,fun i hi=>?_⟩
  rcases Nat.lt_or_ge i b with h | h
  ·exact (ho i (by omega) (by omega)).trans (hg i hi)
  ·exact (hb i (List.mem_range'.2 ⟨i - b,by omega,by omega⟩)).trans (hg i hi)
end Sx
set_option maxRecDepth 100000 in
theorem repeat_two {w:World} {b:Nat} (hb:HB w b #[.int .i64 9]):Calls Tryz.prog 88 #[.slice (some ⟨b,0,none⟩) 1 1,.int .i64 2] w fun e w'=>∃ g,e = .returned (.slice (some ⟨g,0,none⟩) 2 2)∧Below w.heap.size w w'∧w.heap.size≤g∧HB w' g #[.int .i64 9,.int .i64 9]:=by
 have hlt:b < w.heap.size:=hb.lt
 have hcs:=cut_size (Nat.le_of_lt hlt)
 have hcell:w.cell? ⟨b,0,none⟩ = some (.int .i64 9):=(Bx.of hb).2.1 0
 have h0:(kX (cut w b).heap.size [.g (hC w b)]).ok w:=fun k hk=>by
  rw [List.mem_singleton.1 hk]
  exact ⟨hcs,Nat.le_refl _,fun _ _=>rfl⟩
 refine Calls.mono (enterG Tryz.func88 slices_Repeat___int64_int64.ok (args:=[.slice (some ⟨b,0,none⟩) 1 1,.int .i64 2]) (w0:=cut w b) (T:=kX (cut w b).heap.size [.g (hC w b)]) (R:=fun v X=>∃ g,v = .slice (some ⟨g,0,none⟩) 2 2∧g ∉ (kX (cut w b).heap.size [.g (hC w b)]).bs∧X = kX (cut w b).heap.size [.g (cK g [.int .i64 9,.int .i64 9]),.g (hC w b)]) (by simp) (below_cut (Nat.le_of_lt hlt)) h0 (kX_stab (Sx.cx _ (cut w b) _) _) (fun c hc=>by
  obtain ⟨k,hk,hc⟩:=kX_bs.1 hc
  rw [List.mem_singleton.1 hk] at hc
  exact (KnG.lt (hC w b) (h0 _ (List.mem_singleton.2 rfl)) c hc)) ?run) ?fin
 case fin =>
  rintro e w' ⟨v,X,rfl,⟨g,rfl,hg,rfl⟩,hX,hbl,-⟩
  have k1:(cK g [.int .i64 9,.int .i64 9]).ok (cut w b).heap.size w':=hX _ List.mem_cons_self
  have k2:(hC w b).ok (cut w b).heap.size w':=hX _ (List.mem_cons_of_mem _ (List.mem_singleton.2 rfl))
  refine ⟨g,rfl,⟨hbl.os,hbl.tape,hbl.output,k2.2.1,fun i hi=>k2.2.2 i hi⟩,?_,k1.2⟩
  rcases Nat.lt_or_ge g w.heap.size with h | h
  ·exact absurd (kX_bs.2 ⟨_,List.mem_singleton.2 rfl,List.mem_range'.2 ⟨g - b,by have:=k1.1; omega,by have:=k1.1; omega⟩⟩) hg
  ·exact h
 case run =>
  try dsimp only
  repeat' (first | simp (disch:=omega) only [sxE,slices_Repeat___int64_int64.E,Nat.reduceAdd,Nat.reduceEqDiff,Nat.reduceMul,Nat.reduceSub,Int.reduceAdd,Int.reduceSub,Int.reduceMul,Int.reduceNeg,Int.reduceLT,Int.reduceLE,Int.reduceEq,Int.reduceToNat,↓reduceIte,Int.reducePow,Nat.reduceLeDiff,Nat.reduceLT,ne_eq,eq_self,List.length_cons,List.length_nil] | (with_reducible refine Sx.call_at (f:=144) (fun W hW=>g_bmul12 W) ?_) | (rw [slices_Repeat___int64_int64.p2_l]) | (with_reducible apply LX_round) | (with_reducible refine cregF ?_))
  refine genA_c (L:=[.g (hC w b)]) (cs:=[.int .i64 0,.int .i64 0]) (T:=2) (fun g=>.slice (some ⟨g,0,none⟩) 2 2) rfl (fun W=>by kernel_rfl) fun g hg=>?_
  have hgb:g≠b:=fun e=>hg (kX_bs.2 ⟨_,List.mem_singleton.2 rfl,List.mem_range'.2 ⟨0,by omega,by omega⟩⟩)
  repeat' (first | simp (disch:=omega) only [sxE,slices_Repeat___int64_int64.E,Nat.reduceAdd,Nat.reduceEqDiff,Nat.reduceMul,Nat.reduceSub,Int.reduceAdd,Int.reduceSub,Int.reduceMul,Int.reduceNeg,Int.reduceLT,Int.reduceLE,Int.reduceEq,Int.reduceToNat,↓reduceIte,Int.reducePow,Nat.reduceLeDiff,Nat.reduceLT,ne_eq,eq_self,List.length_cons,List.length_nil] | (with_reducible refine Sx.call_at (f:=144) (fun W hW=>g_bmul12 W) ?_) | (rw [slices_Repeat___int64_int64.p2_l]) | (with_reducible apply LX_round) | (with_reducible refine cregF ?_))
  have hm1:g∈(kX (cut w b).heap.size [.g (cK g [.int .i64 0,.int .i64 0]),.g (hC w b)]).bs:=kX_bs.2 ⟨_,List.mem_cons_self,List.mem_singleton.2 rfl⟩
  have hgC:g ∉ (Kn.g (hC w b)).bs:=fun h=>hg (kX_bs.2 ⟨_,List.mem_singleton.2 rfl,h⟩)
  have hu:=Tryz.underlying23
  have hs:(Tryz.prog.info? 2).map (·.size) = some 1:=by kernel_rfl
  refine genA_cp (P:=Tryz.prog) rfl (L:=[.g (cK g [.int .i64 0,.int .i64 0]),.g (hC w b)]) [.g (cK g [.int .i64 9,.int .i64 0]),.g (hC w b)] (us:=[.int .i64 9]) hu hs rfl List.mem_cons_self ⟨hm1,hm1⟩ (fun W hok j v hj=>by
   rcases j with _ | j
   ·have k2:(hC w b).ok (cut w b).heap.size W:=hok (.g (hC w b)) (List.mem_cons_of_mem _ (List.mem_singleton.2 rfl))
    cases hj
    exact (World.cell?_of_block (a:=⟨b,0,none⟩) (k2.2.2 b hlt)).trans hcell
   ·cases hj) rfl (by decide) (fun v hv=>by rw [List.mem_singleton.1 hv]; rfl) (fun k hk=>by
   rcases List.mem_cons.1 hk with rfl | hk
   ·exact .inl rfl
   ·rw [List.mem_singleton.1 hk]
    exact .inr ⟨List.mem_cons_of_mem _ (List.mem_singleton.2 rfl),hgC⟩) ?_
  repeat' (first | simp (disch:=omega) only [sxE,slices_Repeat___int64_int64.E,Nat.reduceAdd,Nat.reduceEqDiff,Nat.reduceMul,Nat.reduceSub,Int.reduceAdd,Int.reduceSub,Int.reduceMul,Int.reduceNeg,Int.reduceLT,Int.reduceLE,Int.reduceEq,Int.reduceToNat,↓reduceIte,Int.reducePow,Nat.reduceLeDiff,Nat.reduceLT,ne_eq,eq_self,List.length_cons,List.length_nil] | (with_reducible refine Sx.call_at (f:=144) (fun W hW=>g_bmul12 W) ?_) | (rw [slices_Repeat___int64_int64.p2_l]) | (with_reducible apply LX_round) | (with_reducible refine cregF ?_))
  refine ⟨.slice (some ⟨g,1,none⟩) 1 1,fun W=>by kernel_rfl,?_⟩
  repeat' (first | simp (disch:=omega) only [sxE,slices_Repeat___int64_int64.E,Nat.reduceAdd,Nat.reduceEqDiff,Nat.reduceMul,Nat.reduceSub,Int.reduceAdd,Int.reduceSub,Int.reduceMul,Int.reduceNeg,Int.reduceLT,Int.reduceLE,Int.reduceEq,Int.reduceToNat,↓reduceIte,Int.reducePow,Nat.reduceLeDiff,Nat.reduceLT,ne_eq,eq_self,List.length_cons,List.length_nil] | (with_reducible refine Sx.call_at (f:=144) (fun W hW=>g_bmul12 W) ?_) | (rw [slices_Repeat___int64_int64.p2_l]) | (with_reducible apply LX_round) | (with_reducible refine cregF ?_))
  refine ⟨.slice (some ⟨g,0,none⟩) 1 2,fun W=>by kernel_rfl,?_⟩
  repeat' (first | simp (disch:=omega) only [sxE,slices_Repeat___int64_int64.E,Nat.reduceAdd,Nat.reduceEqDiff,Nat.reduceMul,Nat.reduceSub,Int.reduceAdd,Int.reduceSub,Int.reduceMul,Int.reduceNeg,Int.reduceLT,Int.reduceLE,Int.reduceEq,Int.reduceToNat,↓reduceIte,Int.reducePow,Nat.reduceLeDiff,Nat.reduceLT,ne_eq,eq_self,List.length_cons,List.length_nil] | (with_reducible refine Sx.call_at (f:=144) (fun W hW=>g_bmul12 W) ?_) | (rw [slices_Repeat___int64_int64.p2_l]) | (with_reducible apply LX_round) | (with_reducible refine cregF ?_))
  have hm2:g∈(kX (cut w b).heap.size [.g (cK g [.int .i64 9,.int .i64 0]),.g (hC w b)]).bs:=kX_bs.2 ⟨_,List.mem_cons_self,List.mem_singleton.2 rfl⟩
  refine genA_cp (P:=Tryz.prog) rfl (L:=[.g (cK g [.int .i64 9,.int .i64 0]),.g (hC w b)]) [.g (cK g [.int .i64 9,.int .i64 9]),.g (hC w b)] (us:=[.int .i64 9]) hu hs rfl List.mem_cons_self ⟨hm2,?mv⟩ (fun W hok j v hj=>by
   rcases j with _ | j
   ·have k2:(cK g [.int .i64 9,.int .i64 0]).ok (cut w b).heap.size W:=hok (.g (cK g [.int .i64 9,.int .i64 0])) List.mem_cons_self
    cases hj
    exact cK_cell k2 rfl
   ·cases hj) rfl (by decide) (fun v hv=>by rw [List.mem_singleton.1 hv]; rfl) (fun k hk=>by
   rcases List.mem_cons.1 hk with rfl | hk
   ·exact .inl rfl
   ·rw [List.mem_singleton.1 hk]
    exact .inr ⟨List.mem_cons_of_mem _ (List.mem_singleton.2 rfl),hgC⟩) ?_
  case mv=>exact hm2
  repeat' (first | simp (disch:=omega) only [sxE,slices_Repeat___int64_int64.E,Nat.reduceAdd,Nat.reduceEqDiff,Nat.reduceMul,Nat.reduceSub,Int.reduceAdd,Int.reduceSub,Int.reduceMul,Int.reduceNeg,Int.reduceLT,Int.reduceLE,Int.reduceEq,Int.reduceToNat,↓reduceIte,Int.reducePow,Nat.reduceLeDiff,Nat.reduceLT,ne_eq,eq_self,List.length_cons,List.length_nil] | (with_reducible refine Sx.call_at (f:=144) (fun W hW=>g_bmul12 W) ?_) | (rw [slices_Repeat___int64_int64.p2_l]) | (with_reducible apply LX_round) | (with_reducible refine cregF ?_))
  exact ⟨g,rfl,hg,rfl⟩
namespace Sx
variable {C:Cx} {S:St} {K:St→Prop} {d:Option Nat}
theorem ldP_hC {L:List Kn} {w:World} {b o m:Nat} {g:Bool} {cs l:List Value} (hT:(C.kn S).T = kX C.w0.heap.size L) (hm:.g (hC w b)∈L) (hB:HB w b cs.toArray) (hl:l.length = m) (hs:∀ j v,l[j]? = some v→cs[o + j]? = some v) (hk:K (S.put d (.v (mk g l)))):ldP C g m ⟨b,o,none⟩ d K S :=
 ldP_ext l hl (fun W hW hok j v hj=>by
  rw [hT] at hok
  have ho:(hC w b).ok C.w0.heap.size W:=hok _ hm
  rw [Addr.add_lit]
  have h1:w.cell? ⟨b,o + j,none⟩ = some v:=by
   rw [(Bx.of hB).2.1 (o + j)]
   simpa using hs j v hj
  exact (World.cell?_of_block (a:=⟨b,o + j,none⟩) (ho.2.2 b hB.lt)).trans h1) hk
end Sx
theorem info_i64e:(Tryz.prog.info? 2).map (fun i=>(i.zero,i.size,i.bytes)) = some (some (.int .i64 0),1,8):=by kernel_rfl
set_option maxRecDepth 100000 in
theorem const_two {w:World} {b:Nat} (hb:HB w b #[.int .i64 2,.int .i64 9]):Calls Tryz.prog 29 #[.slice (some ⟨b,0,none⟩) 1 1] w fun e w'=>∃ x:Nat × Nat,e = .returned (.slice (some ⟨x.1,0,none⟩) 2 x.2)∧Below w.heap.size w w':=by
 have hlt:b < w.heap.size:=hb.lt
 have hcs:=cut_size (Nat.le_of_lt hlt)
 have h0:(kX (cut w b).heap.size [.g (hC w b)]).ok w:=fun k hk=>by
  rw [List.mem_singleton.1 hk]
  exact ⟨hcs,Nat.le_refl _,fun _ _=>rfl⟩
 refine Calls.mono (enterG Tryz.func29 rebuild_Constants.ok (args:=[.slice (some ⟨b,0,none⟩) 1 1]) (w0:=cut w b) (T:=kX (cut w b).heap.size [.g (hC w b)]) (R:=fun v X=>∃ g cap,v = .slice (some ⟨g,0,none⟩) 2 cap∧X = kX (cut w b).heap.size [.g (wK 2 1 (.slice (some ⟨g,0,none⟩) 2 cap) 2 [.int .i64 9,.int .i64 9]),.g (hC w b)]) (by simp) (below_cut (Nat.le_of_lt hlt)) h0 (kX_stab (Sx.cx _ (cut w b) _) _) (fun c hc=>by
  obtain ⟨k,hk,hc⟩:=kX_bs.1 hc
  rw [List.mem_singleton.1 hk] at hc
  exact (KnG.lt (hC w b) (h0 _ (List.mem_singleton.2 rfl)) c hc)) ?run) ?fin
 case fin =>
  rintro e w' ⟨v,X,rfl,⟨g,cap,rfl,rfl⟩,hX,hbl,-⟩
  have k2:(hC w b).ok (cut w b).heap.size w':=hX _ (List.mem_cons_of_mem _ (List.mem_singleton.2 rfl))
  exact ⟨(g,cap),rfl,hbl.os,hbl.tape,hbl.output,k2.2.1,fun i hi=>k2.2.2 i hi⟩
 case run =>
  try dsimp only
  repeat' (first | simp (disch:=omega) only [sxE,rebuild_Constants.E,Nat.reduceAdd,Nat.reduceEqDiff,Nat.reduceMul,Nat.reduceSub,Int.reduceAdd,Int.reduceSub,Int.reduceMul,Int.reduceNeg,Int.reduceLT,Int.reduceLE,Int.reduceEq,Int.reduceToNat,↓reduceIte,Int.reducePow,Nat.reduceLeDiff,Nat.reduceLT,ne_eq,eq_self,List.length_cons,List.length_nil] | (refine ldP_hC (cs:=[.int .i64 2,.int .i64 9]) (l:=[.int .i64 2,.int .i64 9]) rfl (List.mem_singleton.2 rfl) hb rfl (fun j v h=>by rw [Nat.zero_add]; exact h) ?_) | (rw [rebuild_Constants.p2_l]) | (with_reducible apply LX_round) | (with_reducible refine cregF ?_))
  refine genA_c (L:=[.g (hC w b)]) (cs:=[.int .i64 9]) (T:=2) (fun g=>.slice (some ⟨g,0,none⟩) 1 1) rfl (fun W=>by kernel_rfl) fun b2 hb2=>?_
  clear hb2
  repeat' (first | simp (disch:=omega) only [sxE,rebuild_Constants.E,Nat.reduceAdd,Nat.reduceEqDiff,Nat.reduceMul,Nat.reduceSub,Int.reduceAdd,Int.reduceSub,Int.reduceMul,Int.reduceNeg,Int.reduceLT,Int.reduceLE,Int.reduceEq,Int.reduceToNat,↓reduceIte,Int.reducePow,Nat.reduceLeDiff,Nat.reduceLT,ne_eq,eq_self,List.length_cons,List.length_nil] | (rw [rebuild_Constants.p2_l]) | (with_reducible apply LX_round) | (with_reducible refine cregF ?_))
  refine asks_kn (ι:=Nat) (L:=[.g (cK b2 [.int .i64 9]),.g (hC w b)]) (gs:=[]) (fun g=>.slice (some ⟨g,0,none⟩) 2 2) (fun g=>[.g (cK g [.int .i64 9,.int .i64 9]),.g (hC w b)]) en_rept rfl (fun x hx=>by cases hx) (fun W hok x hx=>by cases hx) (fun W hW hok=>?rep) fun g=>?_
  case rep =>
   have k1:(cK b2 [.int .i64 9]).ok (cut w b).heap.size W:=hok _ List.mem_cons_self
   refine (repeat_two (w:=W) (b:=b2) k1.2).mono fun e w' ⟨g,h1,h2,h3,h4⟩=>⟨g,h1,moves_below h2,fun k hk=>?_⟩
   rcases List.mem_cons.1 hk with rfl | hk
   ·refine .inr ⟨⟨Nat.le_trans hW.size h3,h4⟩,fun c hc=>.inr ?_⟩
    rw [List.mem_singleton.1 hc]
    exact h3
   ·rw [List.mem_singleton.1 hk]
    exact .inl ⟨List.mem_cons_of_mem _ (List.mem_singleton.2 rfl),fun _ _ h=>by cases h⟩
  repeat' (first | simp (disch:=omega) only [sxE,rebuild_Constants.E,Nat.reduceAdd,Nat.reduceEqDiff,Nat.reduceMul,Nat.reduceSub,Int.reduceAdd,Int.reduceSub,Int.reduceMul,Int.reduceNeg,Int.reduceLT,Int.reduceLE,Int.reduceEq,Int.reduceToNat,↓reduceIte,Int.reducePow,Nat.reduceLeDiff,Nat.reduceLT,ne_eq,eq_self,List.length_cons,List.length_nil] | (rw [rebuild_Constants.p2_l]) | (with_reducible apply LX_round) | (with_reducible refine cregF ?_))
  obtain ⟨i0,hi,hz0,hz1,hz2⟩:=info_parts info_i64e
  refine genA_grow (P:=Tryz.prog) rfl (L:=[.g (cK g [.int .i64 9,.int .i64 9]),.g (hC w b)]) (fun g cap=>[.g (wK 2 1 (.slice (some ⟨g,0,none⟩) (0 + 2) cap) (0 + 2) ([] ++ [.int .i64 9,.int .i64 9])),.g (hC w b)]) Tryz.underlying23 hi hz0 hz1 hz2 rfl (by decide) rfl (fun W _=>World.ownsRow_nil _ _ _ _) (fun g h=>by cases h) List.mem_cons_self rfl (by decide) (fun u hu=>by
   rcases List.mem_cons.1 hu with rfl | hu
   ·rfl
   ·rw [List.mem_singleton.1 hu]; rfl) (by decide) (by decide) (fun g cap k hk=>by
   rcases List.mem_cons.1 hk with rfl | hk
   ·exact .inl rfl
   ·rw [List.mem_singleton.1 hk]
    exact .inr ⟨List.mem_cons_of_mem _ (List.mem_singleton.2 rfl),fun _ _ h=>by cases h⟩) fun g3 cap=>?_
  simp only [Nat.zero_add,List.nil_append]
  repeat' (first | simp (disch:=omega) only [sxE,rebuild_Constants.E,Nat.reduceAdd,Nat.reduceEqDiff,Nat.reduceMul,Nat.reduceSub,Int.reduceAdd,Int.reduceSub,Int.reduceMul,Int.reduceNeg,Int.reduceLT,Int.reduceLE,Int.reduceEq,Int.reduceToNat,↓reduceIte,Int.reducePow,Nat.reduceLeDiff,Nat.reduceLT,ne_eq,eq_self,List.length_cons,List.length_nil] | (rw [rebuild_Constants.p2_l]) | (with_reducible apply LX_round) | (with_reducible refine cregF ?_))
  exact ⟨g3,cap,rfl,rfl⟩
end Go.Proofs.YtncmmbacoknefaaGreat

/- L20: known of the statements about rebuild. -/
namespace Go.Proofs.YtncmmbacoknefaaGreat
open Go Go.RowKit Sx
set_option linter.unusedVariables false
set_option linter.unusedSimpArgs false
theorem fq_of20 {p q:Int} (h:rok true p q = true):Fq p q:=(rok_iff.1 h).2
set_option maxRecDepth 100000 in
set_option maxHeartbeats 1000000 in
theorem g_known20 (W:World):Gives Tryz.prog 26 [] W (· = .bool true):=by
 have i0:I64 0:=⟨by decide,by decide⟩
 have i1:I64 1:=⟨by decide,by decide⟩
 have i2:I64 2:=⟨by decide,by decide⟩
 have im:I64 9223372036854775807:=⟨by decide,by decide⟩
 have o0:=fun W=>rx_of i0 W
 have o1:=fun W=>rx_of i1 W
 have o2:=fun W=>rx_of i2 W
 have om:=fun W=>rx_of im W
 have f0:=(bd_i64 i0).fits
 have fm:=(bd_i64 im).fits
 have mk:=fun W=>rx_make (z:=1) (y:=2) (bd_i64 i1).fits (bd_i64 i2).fits W
 rw [mkV_yes (by decide +kernel),show mn 1 2 = 1 by decide +kernel,show mD 1 2 = 2 by decide +kernel] at mk
 have fh:Fq 1 2:=fq_of20 (by decide +kernel)
 have f1:Fq 1 1:=fq_of20 (by decide +kernel)
 have r1:=fun W=>rx_rof i1 W
 have v1:=fun W=>gx_value f0.rw fh.cq (dt:=3) ⟨by decide,by decide⟩ W
 have v2:=fun W=>gx_value fm.rw f1.cq (dt:=5) ⟨by decide,by decide⟩ W
 rw [show vl (vz 0 + atq 1 2 3) = 2 by decide +kernel] at v1
 rw [show vl (vz 9223372036854775807 + atq 1 1 5) = 9223372036854775807 by decide +kernel] at v2
 refine gives_known en_w20_known ?_
 refine known_of (enter Tryz.func26 w20_known.ok (args:=[]) (by simp) ?_)
 repeat' (first | simp (disch:=omega) only [sxE,w20_known.E,Nat.reduceAdd,Nat.reduceEqDiff,Nat.reduceMul,Nat.reduceSub,Int.reduceAdd,Int.reduceSub,Int.reduceMul,Int.reduceNeg,Int.reduceLT,Int.reduceLE,Int.reduceEq,Int.reduceToNat,↓reduceIte,Int.reducePow,Nat.reduceLeDiff,Nat.reduceLT,ne_eq,eq_self,List.length_cons,List.length_nil,qxE,beq_self_eq_true] | (with_reducible refine Sx.call_at (f:=50) (fun W hW=>o0 W) ?_) | (with_reducible refine Sx.call_at (f:=50) (fun W hW=>o1 W) ?_) | (with_reducible refine Sx.call_at (f:=50) (fun W hW=>o2 W) ?_) | (with_reducible refine Sx.call_at (f:=50) (fun W hW=>om W) ?_) | (with_reducible refine Sx.call_at (f:=77) (fun W hW=>mk W) ?_) | (with_reducible refine Sx.call_at (f:=78) (fun W hW=>r1 W) ?_) | (with_reducible refine Sx.call_at (f:=84) (fun W hW=>v1 W) ?_) | (with_reducible refine Sx.call_at (f:=84) (fun W hW=>v2 W) ?_) | (with_reducible refine cregF ?_))
 refine genA_c (L:=[]) (cs:=[.int .i64 2,.int .i64 9]) (T:=129) (fun b=>.slice (some ⟨b,0,none⟩) 1 1) (kX_nil _) (fun W=>by kernel_rfl) fun b hb=>?_
 clear hb
 repeat' (first | simp (disch:=omega) only [sxE,w20_known.E,Nat.reduceAdd,Nat.reduceEqDiff,Nat.reduceMul,Nat.reduceSub,Int.reduceAdd,Int.reduceSub,Int.reduceMul,Int.reduceNeg,Int.reduceLT,Int.reduceLE,Int.reduceEq,Int.reduceToNat,↓reduceIte,Int.reducePow,Nat.reduceLeDiff,Nat.reduceLT,ne_eq,eq_self,List.length_cons,List.length_nil,qxE] | (with_reducible refine cregF ?_))
 refine asks_kn (ι:=Nat × Nat) (L:=[.g (cK b [.int .i64 2,.int .i64 9])]) (gs:=[]) (fun x=>.slice (some ⟨x.1,0,none⟩) 2 x.2) (fun _=>[.g (cK b [.int .i64 2,.int .i64 9])]) en_rebuild_Constants rfl (fun x hx=>by cases hx) (fun W hok x hx=>by cases hx) (fun W' hW hok=>?con) fun x=>?_
 case con =>
  have k1:(cK b [.int .i64 2,.int .i64 9]).ok W.heap.size W':=hok _ (List.mem_singleton.2 rfl)
  exact (const_two (w:=W') (b:=b) k1.2).mono fun e w' ⟨x,h1,h2⟩=>⟨x,h1,moves_below h2,fun k hk=>.inl ⟨hk,fun _ _ h=>by cases h⟩⟩
 repeat' (first | simp (disch:=omega) only [sxE,w20_known.E,Nat.reduceAdd,Nat.reduceEqDiff,Nat.reduceMul,Nat.reduceSub,Int.reduceAdd,Int.reduceSub,Int.reduceMul,Int.reduceNeg,Int.reduceLT,Int.reduceLE,Int.reduceEq,Int.reduceToNat,↓reduceIte,Int.reducePow,Nat.reduceLeDiff,Nat.reduceLT,ne_eq,eq_self,List.length_cons,List.length_nil,qxE,beq_self_eq_true] | (with_reducible refine cregF ?_))
end Go.Proofs.YtncmmbacoknefaaGreat

/- Rq: Lines of swing as lines cell by cell; several cells of an own row overwritten. -/
namespace Go.Proofs.YtncmmbacoknefaaGreat
open Go Go.RowKit Sx
set_option linter.unusedVariables false
set_option linter.unusedSimpArgs false
theorem run_storeW {P:Program} {base s n cap g o0:Nat} {e:TypeId}:∀ {vs xs xs':List Value} {i:Nat} {W:World},W.ownsRow base e s (.slice (some ⟨g,0,none⟩) n cap) n xs→ovrO xs (o0 + i) vs = some xs'→all1 vs = true →
  ∃ W',(storeCells ⟨g,o0,none⟩ vs i).run P W = .ok () W'∧Moves [g] W W'∧W'.heap.size = W.heap.size∧W'.ownsRow base e s (.slice (some ⟨g,0,none⟩) n cap) n xs'
 | [],xs,xs',i,W,h,ho,h1=>⟨W,by unfold storeCells; rfl,⟨rfl,rfl,rfl,Nat.le_refl _,fun _ _ _=>rfl⟩,rfl,by rw [ovrO_nil ho]; exact h⟩
 | v :: vs,xs,xs',i,W,h,ho,h1=>by
  unfold all1 at h1
  rw [Bool.and_eq_true] at h1
  obtain ⟨o1,o2⟩:=ovrO_cons ho
  have hc:W.cell? ⟨g,o0 + i,none⟩ = some xs[o0 + i]:=by
   have:=h.cells (g:=g) rfl (o0 + i) xs[o0 + i] (List.getElem?_eq_getElem o1)
   rwa [Addr.add_lit,Nat.zero_add] at this
  obtain ⟨W',e,⟨m1,m2,m3,m4,m5⟩,hz,hB'⟩:=run_storeW (P:=P) (o0:=o0) (i:=i + 1) (World.ownsRow.stored h (o0 + i) v).1 o2 h1.2
  have hsz:(W.setCell ⟨g,o0 + i,none⟩ v).heap.size = W.heap.size:=World.size_setCell _ _ _
  refine ⟨W',?_,⟨m1,m2,m3,by rw [hz,hsz]; exact Nat.le_refl _,fun j hj hn=>?_⟩,by rw [hz,hsz],hB'⟩
  ·unfold storeCells
   rw [Addr.add_lit]
   exact (run_bind_ok (run_store1 h1.1 hc (World.ownsRow.frozenAt h _))).trans e
  ·exact (m5 j (by rw [hsz]; exact hj) hn).trans (Below.heap_setCell W _ _ j fun e=>hn (by rw [show j = g from e]; exact List.mem_singleton.2 rfl))
namespace Sx
variable {C:Cx} {S:St} {K:St→Prop} {d:Option Nat}
theorem stL_w {L R:List Kn} {e:TypeId} {s n g cap o:Nat} {xs xs' vs:List Value} (hT:S.T = kX C.w0.heap.size L) (hm:.g (wK e s (.slice (some ⟨g,0,none⟩) n cap) n xs)∈L) (hR:∀ k∈R,k∈L∧g ∉ k.bs) (ho:ovrO xs o vs = some xs') (h1:all1 vs = true)
  (hk:K ⟨S.n,S.E,S.H,kX C.w0.heap.size (.g (wK e s (.slice (some ⟨g,0,none⟩) n cap) n xs') :: R)⟩):stL C ⟨g,o,none⟩ vs K S:=by
 refine ⟨kX C.w0.heap.size (.g (wK e s (.slice (some ⟨g,0,none⟩) n cap) n xs') :: R),fun A W hW=>?_,kX_stab C _,fun c hc=>?_,hk⟩
 ·have hok:=hW.tk
  rw [hT] at hok
  have hr:W.ownsRow C.w0.heap.size e s (.slice (some ⟨g,0,none⟩) n cap) n xs:=hok _ hm
  obtain ⟨W',e',hmv,hz,hB⟩:=run_storeW (P:=C.P) (i:=0) hr ho h1
  refine ⟨by rw [hT]; exact kX_bs.2 ⟨_,hm,wK_bs.2 rfl⟩,W',e',hmv,fun k hk=>?_⟩
  rcases List.mem_cons.1 hk with rfl | hk
  ·exact hB
  ·obtain ⟨hkL,hkb⟩:=hR k hk
   exact (hok k hkL).keep hmv.2.2.2.1 (fun c hcc=>hmv.2.2.2.2 c ((hok k hkL).lt c hcc).2 fun e=>hkb (by rw [← List.mem_singleton.1 e]; exact hcc)) fun c hcn hcl=>hmv.2.2.2.2 c hcl fun e=>by
    have h0:=(hr.lt g rfl).1
    rw [List.mem_singleton.1 e] at hcn
    omega
 ·rw [hT]
  obtain ⟨k,hk,hc⟩:=kX_bs.1 hc
  rcases List.mem_cons.1 hk with rfl | hk
  ·rw [show c = g by have:=wK_bs.1 hc; cases this; rfl]
   exact kX_bs.2 ⟨_,hm,wK_bs.2 rfl⟩
  ·exact kX_bs.2 ⟨k,(hR k hk).1,hc⟩
end Sx
theorem i64_wrapl (x:Int):I64 (IntKind.i64.wrap x):=by
 rw [IntKind.wrap_i64]
 constructor <;> omega
theorem rlcs_1 (ls:List RlN):all1 (rlcs ls) = true:=by
 induction ls with
 | nil=>rfl
 | cons x l ih =>
  show all1 (rlc x ++ rlcs l) = true
  rw [all1_app,ih]
  rfl
def toR (x:LnV):RlN:=⟨x.n,x.V,sg x.p,lb0 (ab x.p),lb1 (ab x.p),lb2 (ab x.p),lb3 (ab x.p),sg x.q,lb0 (ab x.q),lb1 (ab x.q),lb2 (ab x.q),lb3 (ab x.q),x.p,x.q⟩
theorem rlcs_toR (l:List LnV):rlcs (l.map toR) = lcells l:=by
 induction l with
 | nil=>rfl
 | cons x l ih =>
  show rlc (toR x) ++ rlcs (l.map toR) = lcell x ++ lcells l
  rw [ih]
  rfl
theorem toR_ok {x:LnV} (hn:I64 x.n) (hv:I64 x.V) (hf:Fq x.p x.q):RlOk (toR x):=⟨hn,hv,hf.cq⟩
theorem LOk.rl {t:Int} {ss:Smps} (ht:tolz t = true) (hin:∀ s∈ss,I64 s.1∧I64 s.2) (hinc:incr ss = true) (hl:ss.length≤1073741824):∀ {l:List LnV} {a e:Nat},e≤ss.length→LOk t ss a l e→∀ x∈l.map toR,RlOk x
 | [],a,e,_,h,x,hx=>by cases hx
 | y :: l,a,e,he,⟨m,h1,h2,h3,h4,h⟩,x,hx=>by
  rw [List.map_cons] at hx
  rcases List.mem_cons.1 hx with rfl | hx
  ·have hck:=sgk_ok ht hin hinc (a:=a) (j:=m) h3 (by omega)
   rw [h1]
   refine toR_ok ?_ ?_ ?_
   ·show I64 ((m:Int) + 1)
    exact ⟨by omega,by omega⟩
   ·exact (smp_i64 hin a).2
   ·exact cho_fq hck
  ·exact h.rl ht hin hinc hl he x hx
theorem rl_set {L:List RlN} (h:∀ x∈L,RlOk x) {i:Nat} {y:RlN} (hy:RlOk y):∀ x∈L.set i y,RlOk x:=fun x hx=>by
 rcases List.mem_or_eq_of_mem_set hx with hx | rfl
 ·exact h x hx
 ·exact hy
theorem ovr_app:∀ {xs ys zs vs:List Value} {o:Nat},ovrO ys o vs = some zs→ovrO (xs ++ ys) (xs.length + o) vs = some (xs ++ zs)
 | [],ys,zs,vs,o,h=>by
  rw [show ([]:List Value).length + o = o from Nat.zero_add o]
  exact h
 | x :: xs,ys,zs,vs,o,h=>by
  rw [show (x :: xs).length + o = (xs.length + o) + 1 by rw [List.length_cons]; omega]
  show ovrO (x :: (xs ++ ys)) ((xs.length + o) + 1) vs = _
  unfold ovrO
  rw [ovr_app h]
  rfl
theorem rl_len (x:RlN):(rlc x).length = 12:=rfl
theorem rl_count:∀ {L:List RlN} {i:Nat} (n:Int),i < L.length→(rlcs L).set (12 * i) (.int .i64 n) = rlcs (L.set i { L.getD i rl0 with n:=n })
 | [],i,n,h=>absurd h (Nat.not_lt_zero _)
 | x :: L,0,n,h=>rfl
 | x :: L,i + 1,n,h=>by
  show (rlc x ++ rlcs L).set (12 * (i + 1)) _ = rlc x ++ rlcs (L.set i { L.getD i rl0 with n:=n })
  rw [List.set_append,if_neg (by rw [rl_len]; omega),rl_len,show 12 * (i + 1) - 12 = 12 * i by omega,rl_count n (by simpa using h)]
def slR (x:RlN) (P Q:Int):RlN:=⟨x.n,x.v,sg P,lb0 (ab P),lb1 (ab P),lb2 (ab P),lb3 (ab P),sg Q,lb0 (ab Q),lb1 (ab Q),lb2 (ab Q),lb3 (ab Q),P,Q⟩
theorem rl_slope:∀ {L:List RlN} {i:Nat} (P Q:Int),i < L.length→ovrO (rlcs L) (12 * i + 2) [.bool (sg P),.int .u64 (lb0 (ab P)),.int .u64 (lb1 (ab P)),.int .u64 (lb2 (ab P)),.int .u64 (lb3 (ab P)),.bool (sg Q),.int .u64 (lb0 (ab Q)),.int .u64 (lb1 (ab Q)),.int .u64 (lb2 (ab Q)),.int .u64 (lb3 (ab Q))] = some (rlcs (L.set i (slR (L.getD i rl0) P Q)))
 | [],i,P,Q,h=>absurd h (Nat.not_lt_zero _)
 | x :: L,0,P,Q,h=>by
  show ovrO (rlc x ++ rlcs L) 2 _ = some (rlc (slR x P Q) ++ rlcs L)
  generalize rlcs L = R
  cases R <;> rfl
 | x :: L,i + 1,P,Q,h=>by
  show ovrO (rlc x ++ rlcs L) (12 * (i + 1) + 2) _ = some (rlc x ++ rlcs (L.set i (slR (L.getD i rl0) P Q)))
  rw [show 12 * (i + 1) + 2 = (rlc x).length + (12 * i + 2) by rw [rl_len]; omega]
  exact ovr_app (rl_slope P Q (by simpa using h))
theorem slR_ok {x:RlN} (h:RlOk x) {P Q:Int} (hf:Fq P Q):RlOk (slR x P Q):=⟨h.n,h.v,hf.cq⟩
theorem cn_ok {x:RlN} (h:RlOk x) {n:Int} (hn:I64 n):RlOk { x with n:=n }:=⟨hn,h.v,h.q⟩
theorem getD_ok {L:List RlN} (h:∀ x∈L,RlOk x) {i:Nat} (hi:i < L.length):RlOk (L.getD i rl0):=h _ (mem_rl hi)
theorem asks_tm {C:Sx.Cx} {S:Sx.St} {K:Sx.St→Prop} {d:Option Nat} {f:FuncId} {l:List Value} {L:List Kn} {ι:Type} {P:ι→Prop} {v:ι→Value} {k:KnG} {tb B Bm:Nat} (hP:C.P = Tryz.prog) (hk:TpK k C.w0.heap.size tb B Bm) (h:TpC f l tb P v) (he:∀ (l:Array Value) W,(callFunc f l).run Tryz.prog W = .ok (.enter f l) W) (hT:S.T = kX C.w0.heap.size L) (hm:.g k∈L) (hmv:tb∈C.mv S)
  (hL:∀ j∈L,j = .g k∨tb ∉ j.bs) (hK:∀ i,P i→K (Sx.St.put S d (.v (v i)))):asks C f l d K S:=by
 refine asks_T (ι:={i // P i}) (fun i=>v i.1) (fun _=>S.T) (fun W hW hok hbs=>givesT_calls (by rw [hP]; exact he) (fun i=>by rw [hT]; exact kX_stab C L) ?_) (fun i=>hK i.1 i.2)
 rw [hT] at hok
 have ho:k.ok C.w0.heap.size W:=hok _ hm
 rw [hP]
 refine (h W (hk.tape ho)).mono fun e w' ⟨i,hi,he,h1,h2⟩=>⟨⟨i,hi⟩,he,⟨h2.os,h2.tape,h2.output,h2.size,fun j hj hn=>h2.block j hj fun e=>hn (by cases e; exact hmv)⟩,?_,fun b hb=>⟨.inl hb,?_⟩⟩
 ·rw [hT]
  intro j hj
  rcases hL j hj with rfl | hb
  ·exact hk.go ho h1 h2
  ·refine (hok j hj).keep h2.size (fun b hbb=>h2.block b ((hok j hj).lt b hbb).2 fun e=>hb (by cases e; exact hbb)) fun b hbn hbl=>h2.block b hbl fun e=>?_
   have:=hk.ge ho
   have e2:b = tb:=Option.some.inj e
   omega
 ·rw [hT] at hb
  exact Nat.lt_of_lt_of_le (kX_lt hok b hb).2 h2.size
end Go.Proofs.YtncmmbacoknefaaGreat

/- Open: Opening arguments that are structs: samples and Wides. -/
namespace Go.Proofs.YtncmmbacoknefaaGreat
open Go.ChangeShapes Go.WideShapes Go.ChangeAt Go.RowKit
set_option linter.unusedVariables false
set_option linter.unusedSimpArgs false
section
variable {H:Type} {enc:TypeId × Value→H} {P:Program}
theorem list5 {l:List Value} (h:l.length = 5):∃ x y z u v,l = [x,y,z,u,v]:=by
 match l,h with
 | [x,y,z,u,v],_=>exact ⟨x,y,z,u,v,rfl⟩
theorem list10 {l:List Value} (h:l.length = 10):∃ a b c d e x y z u v,l = [a,b,c,d,e,x,y,z,u,v]:=by
 match l,h with
 | [a,b,c,d,e,x,y,z,u,v],_=>exact ⟨a,b,c,d,e,x,y,z,u,v,rfl⟩
theorem cells_wid {t e:TypeId} {f0 f1:Field} {n:Nat} {y:DataW H} {l:List Value} {W:World} (ht:P.underlying t = some (.struct #[f0,f1])) (k0:P.underlying f0.type = some .bool) (k1:P.underlying f1.type = some (.array 4 e)) (ke:P.underlying e = some (.int .u64)) (o0:f0.offset = 0) (o1:f1.offset = 1)
  (c0:P.cellsOf f0.type = 1) (c1:P.cellsOf f1.type = 4) (ce:P.cellsOf e = 1) (hl:l.length = 5) {ps:List MemPlace} (hf:DataW.trod enc P W 0 (fun _=>true) true n t l = some (y,ps)):∃ nb a b c d',l = [.bool nb,.int .u64 a,.int .u64 b,.int .u64 c,.int .u64 d']∧U64 a∧U64 b∧U64 c∧U64 d':=by
 obtain ⟨y0,y1,m0,_,hlen,e0,e1⟩:=trod_struct2 ht hf
 obtain ⟨x,y',z,u,v,rfl⟩:=list5 hl
 rw [o0,c0] at e0
 rw [o1,c1] at e1
 obtain ⟨nb,en,-⟩:=DataW.trod_bool k0 e0
 have e1':DataW.trod enc P W 0 (fun _=>true) true m0 f1.type [y',z,u,v] = some y1:=by simpa [Value.cells] using e1
 obtain ⟨z0,z1,z2,z3,m,_,g0,g1,g2,g3⟩:=trod_array4 k1 ce e1'
 obtain ⟨a0,r0,-,w0⟩:=DataW.trod_int ke g0
 obtain ⟨a1,r1,-,w1⟩:=DataW.trod_int ke g1
 obtain ⟨a2,r2,-,w2⟩:=DataW.trod_int ke g2
 obtain ⟨a3,r3,-,w3⟩:=DataW.trod_int ke g3
 simp [Value.cells] at en r0 r1 r2 r3
 subst en; subst r0; subst r1; subst r2; subst r3
 exact ⟨nb,a0,a1,a2,a3,rfl,U64.of_wf w0,U64.of_wf w1,U64.of_wf w2,U64.of_wf w3⟩
end
end Go.Proofs.YtncmmbacoknefaaGreat

/- OpK: Opening arguments that are cones. -/
namespace Go.Proofs.YtncmmbacoknefaaGreat
open Go.ChangeShapes Go.WideShapes Go.ChangeAt Go.RowKit
set_option linter.unusedVariables false
set_option linter.unusedSimpArgs false
section
variable {H:Type} {enc:TypeId × Value→H}
set_option maxRecDepth 100000 in
theorem cells_rat {l:List Value} {n:Nat} {y:DataW H} {W:World} (hl:l.length = 10) {ps:List MemPlace} (hf:DataW.trod enc Tryz.prog W 0 (fun _=>true) true n 39 l = some (y,ps)) :
  ∃ n a b c d' n1 a1 b1 c1 d1,l = [.bool n,.int .u64 a,.int .u64 b,.int .u64 c,.int .u64 d',.bool n1,.int .u64 a1,.int .u64 b1,.int .u64 c1,.int .u64 d1]∧(U64 a∧U64 b∧U64 c∧U64 d')∧(U64 a1∧U64 b1∧U64 c1∧U64 d1):=by
 obtain ⟨y0,y1,n,_,hlen,e0,e1⟩:=trod_struct2 Tryz.underlying39 hf
 have cw:Tryz.prog.cellsOf 37 = 5:=by kernel_rfl
 obtain ⟨a0,a1,a2,a3,a4,a5,a6,a7,a8,a9,rfl⟩:=list10 hl
 simp only [cw] at e0 e1
 have e0':DataW.trod enc Tryz.prog W 0 (fun _=>true) true n 37 [a0,a1,a2,a3,a4] = some y0:=by simpa [Value.cells] using e0
 have e1':DataW.trod enc Tryz.prog W 0 (fun _=>true) true n 37 [a5,a6,a7,a8,a9] = some y1:=by simpa [Value.cells] using e1
 obtain ⟨n1,w0,w1,w2,w3,g1,u1,u2,u3,u4⟩:=cells_wid Tryz.underlying37 Tryz.underlying4 Tryz.underlying35 Tryz.underlying34 rfl rfl (by kernel_rfl) (by kernel_rfl) (by kernel_rfl) rfl e0'
 obtain ⟨n2,x0,x1,x2,x3,g2,v1,v2,v3,v4⟩:=cells_wid Tryz.underlying37 Tryz.underlying4 Tryz.underlying35 Tryz.underlying34 rfl rfl (by kernel_rfl) (by kernel_rfl) (by kernel_rfl) rfl e1'
 cases g1
 cases g2
 exact ⟨_,_,_,_,_,_,_,_,_,_,rfl,⟨u1,u2,u3,u4⟩,⟨v1,v2,v3,v4⟩⟩
end
end Go.Proofs.YtncmmbacoknefaaGreat

/- OpL: Opening arguments that are slices of lines, and of numbers of known length. -/
namespace Go.Proofs.YtncmmbacoknefaaGreat
open Go.ChangeShapes Go.WideShapes Go.ChangeAt Go.RowKit
set_option linter.unusedVariables false
set_option linter.unusedSimpArgs false
theorem list12 {l:List Value} (h:l.length = 12):∃ x0 x1 x2 x3 x4 x5 x6 x7 x8 x9 x10 x11,l = [x0,x1,x2,x3,x4,x5,x6,x7,x8,x9,x10,x11]:=by
 match l,h with
 | [x0,x1,x2,x3,x4,x5,x6,x7,x8,x9,x10,x11],_=>exact ⟨x0,x1,x2,x3,x4,x5,x6,x7,x8,x9,x10,x11,rfl⟩
set_option maxRecDepth 100000 in
theorem cells_line {H:Type} {enc:TypeId × Value→H} {l:List Value} {n:Nat} {y:DataW H} {W:World} {ps:List MemPlace} (hl:l.length = 12) (hf:DataW.trod enc Tryz.prog W 0 (fun _=>true) true n 41 l = some (y,ps)):∃ x,RlOk x∧l = rlc x:=by
 obtain ⟨y0,y1,y2,n,_,hlen,e0,e1,e2⟩:=Go.Deep.trod_struct3 Tryz.underlying41 hf
 have cr:Tryz.prog.cellsOf 39 = 10:=by kernel_rfl
 have ci:Tryz.prog.cellsOf 3 = 1:=by kernel_rfl
 have cj:Tryz.prog.cellsOf 2 = 1:=by kernel_rfl
 obtain ⟨x0,x1,x2,x3,x4,x5,x6,x7,x8,x9,x10,x11,rfl⟩:=list12 hl
 simp only [cr,ci,cj] at e0 e1 e2
 have k0:DataW.trod enc Tryz.prog W 0 (fun _=>true) true n 3 [x0] = some y0:=by simpa [Value.cells] using e0
 have k1:DataW.trod enc Tryz.prog W 0 (fun _=>true) true n 2 [x1] = some y1:=by simpa [Value.cells] using e1
 have k2:DataW.trod enc Tryz.prog W 0 (fun _=>true) true n 39 [x2,x3,x4,x5,x6,x7,x8,x9,x10,x11] = some y2:=by simpa [Value.cells] using e2
 obtain ⟨N,r0,-,w0⟩:=DataW.trod_int Tryz.underlying3 k0
 obtain ⟨V,r1,-,w1⟩:=DataW.trod_int Tryz.underlying2 k1
 obtain ⟨g,a,b,c,d,h,e,f,i,j,rc,⟨u1,u2,u3,u4⟩,⟨s1,s2,s3,s4⟩⟩:=cells_rat rfl k2
 cases r0
 cases r1
 cases rc
 obtain ⟨p,q,hq⟩:=cq_raw g h u1 u2 u3 u4 s1 s2 s3 s4
 exact ⟨⟨N,V,g,a,b,c,d,h,e,f,i,j,p,q⟩,⟨I64.of_wf w0,I64.of_wf w1,hq⟩,rfl⟩
set_option maxRecDepth 100000 in
theorem open_slln {H:Type} {enc:TypeId × Value→H} {v:Value} {d:DataW H} {ps:List MemPlace} {W:World} {base:Nat} (hv:Value.okWide Tryz.prog W .any base 22 v) (h:DataW.Trod enc Tryz.prog W 0 (fun _=>true) true 22 v d ps) (hlt:∀ x∈ps,x.block < W.heap.size):∃ L,SlL W v L:=by
 obtain ⟨a0,len,cap,rfl⟩:=okWide_slice Tryz.underlying22 hv
 obtain ⟨fuel,hf⟩:=h
 have ct:Tryz.prog.cellsOf 41 = 12:=by kernel_rfl
 rcases Go.Deep.open_slice Tryz.underlying22 hf with ⟨hcs,hx⟩ | ⟨a,len',cap',m,n,D,Pl,hcs,hb,hl,hm,hmm,hx,hall⟩
 ·simp [Value.cells] at hcs
  obtain ⟨rfl,rfl,rfl⟩:=hcs
  exact ⟨[],none,0,rfl,Nat.le_refl _,by simp [maxLen],by simp,fun h=>absurd h (by simp)⟩
 ·simp [Value.cells] at hcs
  obtain ⟨rfl,rfl,rfl⟩:=hcs
  simp only [if_true] at hmm
  subst hmm
  rw [ct] at hall
  simp only [Prod.mk.injEq] at hx
  obtain ⟨rfl,rfl⟩:=hx
  have each:∀ i,∃ x:RlN,i < m→RlOk x∧∀ (j:Nat) u,(rlc x)[j]? = some u→W.cell? (a.add (i * 12 + j)) = some u:=fun i=>by
   by_cases hi:i < m
   ·obtain ⟨cs',h1,h2⟩:=hall i hi
    obtain ⟨_,hlen,hcell⟩:=World.cells?_some h1
    obtain ⟨x,hx,rfl⟩:=cells_line hlen h2
    refine ⟨x,fun _=>⟨hx,fun j u hu=>?_⟩⟩
    have hj:j < 12:=(List.getElem?_eq_some_iff.1 hu).1
    have e:=hcell j hj
    rw [Addr.add_add] at e
    exact e.trans hu
   ·exact ⟨rl0,fun h=>absurd h hi⟩
  obtain ⟨X,hX⟩:=Classical.axiomOfChoice each
  refine ⟨(List.range len).map X,some a,m,by rw [List.length_map,List.length_range],by rw [List.length_map,List.length_range]; exact hl,hm,fun x hx=>?_,fun hpos=>?_⟩
  ·obtain ⟨i,hi,rfl⟩:=List.mem_map.1 hx
   exact (hX i (by have:=List.mem_range.1 hi; omega)).1
  ·rw [List.length_map,List.length_range] at hpos ⊢
   obtain ⟨b,off,spot⟩:=a
   have h0:=(hX 0 (by omega)).2 0 (.int .i64 (X 0).n) rfl
   have hspot:spot = none:=by simpa [Addr.add] using World.cell?_spot h0
   subst hspot
   refine ⟨b,off,rfl,hlt (.cell b off) (by refine List.mem_append_left _ (MemPlace.mem_row.2 ⟨0,by rw [ct]; omega,by simp⟩)),fun i hi j u hu=>?_⟩
   have e:((List.range len).map X).getD i rl0 = X i:=by simp [List.getD_eq_getElem?_getD,hi]
   rw [e] at hu
   have:=(hX i (by omega)).2 j u hu
   rw [Addr.add_lit] at this
   rw [show off + i * 12 + j = off + (i * 12 + j) by omega]
   exact this
theorem open_slzn {H:Type} {enc:TypeId × Value→H} {P:Program} {t e:TypeId} {v:Value} {d:DataW H} {ps:List MemPlace} {W:World} {base:Nat} (ht:P.underlying t = some (.slice e)) (he:P.underlying e = some (.int .i64)) (hc:P.cellsOf e = 1)
  (hv:Value.okWide P W .any base t v) (h:DataW.Trod enc P W 0 (fun _=>true) true t v d ps) (hlt:∀ x∈ps,x.block < W.heap.size):∃ zs,SlZ W .i64 v zs∧(zs = []∨∃ es sp,d = .slice es sp∧es.length = zs.length):=by
 obtain ⟨zs,hz⟩:=open_slz ht he hc hv h hlt
 refine ⟨zs,hz,?_⟩
 obtain ⟨a,l,cap,rfl,hl,-⟩:=hz
 obtain ⟨fuel,hf⟩:=h
 rcases Go.Deep.open_slice ht hf with ⟨hcs,hx⟩ | ⟨a',len',cap',m,n,D,Pl,hcs,hb,hl',hm,hmm,hx,hall⟩
 ·simp [Value.cells] at hcs
  obtain ⟨rfl,rfl,rfl⟩:=hcs
  exact .inl (List.eq_nil_of_length_eq_zero hl)
 ·simp [Value.cells] at hcs
  obtain ⟨rfl,rfl,rfl⟩:=hcs
  simp only [Prod.mk.injEq] at hx
  obtain ⟨rfl,rfl⟩:=hx
  exact .inr ⟨_,_,rfl,by simp [hl]⟩
end Go.Proofs.YtncmmbacoknefaaGreat
