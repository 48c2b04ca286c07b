/- Several texts in one: Hd, Ge, Gf, Gg, He, Hf, Hg, CdR, Qa, Ql, Qb, CdX, Qc, Spl, Sq, Rw, CdK, Ka, Kb, Kd, Sh, CdMq, Qm, Qs, Cn, CdRb, Cr, Ws, Bk, CdI, Wi, Va, L20. -/
import Derived.Test.YtncmmbacoknefaaProg
import Derived.Laws.OwnMore
import Derived.Test.YtncmmbacoknefaaRows
import Derived.JoinedCond
import Derived.Test.YtncmmbacoknefaaRk2
import Derived.Test.YtncmmbacoknefaaRk3
set_option linter.defProp false

/- Hd: What a call of the reference's divmod gives. -/
namespace Go.Proofs.Ytncmmbacoknefaa
open Go Go.RowKit Sx
set_option linter.unusedVariables false
set_option linter.unusedSimpArgs false
theorem gen_one {r:Int} (hr:U64 r) (W:World):∃ g cap W',(genRun (.bsl 113 1 [0]) [.int .u64 r]).run Try.prog W = .ok (.value (.slice (some ⟨g,0,none⟩) [r].length cap)) W'∧OwnU W' W.heap.size (.slice (some ⟨g,0,none⟩) [r].length cap) [r]∧Below W.heap.size W W' :=
 ⟨W.heap.size,1,W.alloc (.cells #[.int .u64 r] 35 (0,0)),by kernel_rfl,OwnU.lit W [r] (Ws.one hr) 35 rfl (show 1≤maxLen by decide),(Below.refl _ _).alloc (Nat.le_refl _) _⟩
theorem gen_none (W:World):∃ g cap W',(genRun (.bsl 113 0 []) []).run Try.prog W = .ok (.value (.slice (some ⟨g,0,none⟩) ([]:List Int).length cap)) W'∧OwnU W' W.heap.size (.slice (some ⟨g,0,none⟩) ([]:List Int).length cap) []∧Below W.heap.size W W' :=
 ⟨W.heap.size,0,W.alloc (.cells #[] 35 (0,0)),by kernel_rfl,OwnU.lit W [] Ws.nil 35 rfl (by decide),(Below.refl _ _).alloc (Nat.le_refl _) _⟩
theorem genA_app {C:Cx} {S:St} {K:St→Prop} {d:Option Nat} {L L0:List Kn} {t2:TypeId} {g cap:Nat} {src:Value} {ms:List Int} (hP:C.P = Try.prog) (ht2:∃ e2,Try.prog.underlying t2 = some (.slice e2)) (hT:S.T = kX C.w0.heap.size L) (hm:.o (.slice (some ⟨g,0,none⟩) 0 cap) []∈L)
  (hC:C.fr = none) (hL:∀ k∈L0,k∈L∧g ∉ k.bs) (hsrc:∀ W,Below C.w0.heap.size C.w0 W→(∀ k∈L,k.ok C.w0.heap.size W)→SlU W src ms) (hlen:ms.length≤1000000)
  (hk:∀ a c,Shp a ms.length c→(∀ b∈rbs (.slice a ms.length c),b = g∨b ∉ S.T.bs)→K (St.put ⟨S.n,S.E,S.H,kX C.w0.heap.size (.r (.slice a ms.length c) ms :: L0)⟩ d (.v (.slice a ms.length c)))) :
  genA C (.bi .append [113,t2] 113 [false,false]) [.slice (some ⟨g,0,none⟩) 0 cap,src] d K S:=by
 obtain ⟨e2,ht2⟩:=ht2
 obtain ⟨i0,hi,hz0,hz1,hz2⟩:=info_u
 refine genA_T (ι:={x:Option Addr × Nat // Shp x.1 ms.length x.2∧∀ b∈rbs (.slice x.1 ms.length x.2),b = g∨b ∉ S.T.bs}) (fun x=>.slice x.1.1 ms.length x.1.2) (fun x=>kX C.w0.heap.size (.r (.slice x.1.1 ms.length x.1.2) ms :: L0)) (fun W hW hok hbs=>⟨?_⟩) (fun x=>hk _ _ x.2.1 x.2.2)
 rw [hT] at hok
 have ho:OwnU W C.w0.heap.size (.slice (some ⟨g,0,none⟩) 0 cap) []:=hok _ hm
 obtain ⟨v',w',hrun,hown,hg,hat⟩:=run_append_u (P:=Try.prog) (ty:=113) W C.w0.heap.size Try.underlying113 ht2 hi hz0 hz1 hz2 ho (hsrc W hW hok) (by simp; omega) hW.size
 rw [List.nil_append] at hown
 obtain ⟨a,c,rfl,hs⟩:=hown.sl.shp
 have hr:(Kn.r (.slice a ms.length c) ms).ok C.w0.heap.size w':=⟨hown.sl,hown.fr (Nat.le_refl _)⟩
 have hb':∀ b∈rbs (.slice a ms.length c),b = g∨b = W.heap.size:=fun b hb=>by
  cases a with
  | none=>cases hb
  | some a =>
   have hb2:b∈(if c = 0 then [] else [a.block]):=hb
   have:b = a.block:=by split at hb2; cases hb2; exact List.mem_singleton.1 hb2
   subst this
   rcases hat with h | h
   ·left; exact Option.some.inj h
   ·right; exact Option.some.inj h
 have he:(genRun (.bi .append [113,t2] 113 [false,false]) [.slice (some ⟨g,0,none⟩) 0 cap,src]).run Try.prog W = .ok (.value (.slice a ms.length c)) w':=by
  show Sem.run _ (builtin .append [_,_].toArray _ [false,false].toArray [_,_].toArray) W = _
  unfold builtin
  rw [run_bind_ok hrun]
  rfl
 rw [hP,he]
 have hgb:g∈(kX C.w0.heap.size L).bs:=kX_bs.2 ⟨_,hm,List.mem_singleton.2 rfl⟩
 refine ⟨⟨(a,c),hs,fun b hb=>?_⟩,rfl,?_,?_,kX_stab C _,?_⟩
 ·rcases hb' b hb with h | h
  ·exact .inl h
  ·right; intro hT2; have:=(hbs b hT2).2; omega
 ·rw [mv_none hC,hT]
  exact ⟨hg.os,hg.tape,hg.output,hg.size,fun j hj hn=>hg.block j hj fun e=>hn (by cases e; exact hgb)⟩
 ·intro k hk
  rcases List.mem_cons.1 hk with rfl | hk
  ·exact hr
  ·obtain ⟨h1,h2⟩:=hL k hk
   exact (hok k h1).keep hg.size (fun b hb=>hg.block b ((hok k h1).lt b hb).2 fun e=>h2 (by cases e; exact hb)) fun b hbn hbl=>hg.block b hbl fun e=>by
    have:=(Kn.ok.lt (k:=.o (.slice (some ⟨g,0,none⟩) 0 cap) []) ho g (List.mem_singleton.2 rfl)).1
    have e2:b = g:=Option.some.inj e
    omega
 ·intro b hb
  rw [hT]
  obtain ⟨k,hk,hb⟩:=kX_bs.1 hb
  rcases List.mem_cons.1 hk with rfl | hk
  ·refine ⟨?_,(hr.lt b hb).2⟩
   rcases hb' b hb with h | h
   ·left; rw [h]; exact hgb
   ·right; omega
  ·exact ⟨.inl (kX_bs.2 ⟨k,(hL k hk).1,hb⟩),Nat.lt_of_lt_of_le ((hok k (hL k hk).1).lt b hb).2 hg.size⟩
theorem asks_half {C:Cx} {S:St} {K:St→Prop} {d:Option Nat} {L:List Kn} (L':List Kn) {g len cap:Nat} {ws:List Int} (hP:C.P = Try.prog) (hC:C.fr = none) (hT:S.T = kX C.w0.heap.size L) (hm:.o (.slice (some ⟨g,0,none⟩) len cap) ws∈L) (hlen:len≤1000000)
  (hL:∀ k∈L',k = .o (.slice (some ⟨g,0,none⟩) (wl (VL ws / 2)).length cap) (wl (VL ws / 2))∨(k∈L∧g ∉ k.bs))
  (hk:K (St.put ⟨S.n,S.E,S.H,kX C.w0.heap.size L'⟩ d (.v (.slice (some ⟨g,0,none⟩) (wl (VL ws / 2)).length cap)))):asks C 133 [.slice (some ⟨g,0,none⟩) len cap] d K S:=by
 refine asks_kn (ι:=Unit) (L:=L) (gs:=[g]) (fun _=>.slice (some ⟨g,0,none⟩) (wl (VL ws / 2)).length cap) (fun _=>L') (by rw [hP]; exact en_r02_half) hT (fun b hb=>by rw [List.mem_singleton.1 hb,mv_none hC,hT]; exact kX_bs.2 ⟨_,hm,List.mem_singleton.2 rfl⟩) (fun W hok b hb=>by rw [List.mem_singleton.1 hb]; exact (Kn.ok.lt (k:=.o (.slice (some ⟨g,0,none⟩) len cap) ws) (hok _ hm) g (List.mem_singleton.2 rfl)).1) (fun W hW hok=>?_) fun _=>hk
 rw [hP]
 have ho:OwnU W C.w0.heap.size (.slice (some ⟨g,0,none⟩) len cap) ws:=hok _ hm
 refine (rhalf_any hlen ho).mono fun e w' ⟨h1,h2,h3⟩=>⟨(),h1,h3,fun k hk=>?_⟩
 rcases hL k hk with rfl | ⟨hk,hg⟩
 ·exact .inr ⟨h2,fun b hb=>.inl (by rw [hT]; exact kX_bs.2 ⟨_,hm,hb⟩)⟩
 ·exact .inl ⟨hk,fun b hb h=>hg (by rw [← List.mem_singleton.1 h]; exact hb)⟩
theorem pw4b {z:Int} (h:A4 z):(wl z).length≤4:=(wl_len_lt h.1 4).2 (by rw [pw4]; exact h.2)
theorem SlU.nil (W:World):SlU W (.slice none 0 0) []:=⟨none,0,0,rfl,rfl,Nat.le_refl _,by decide,Ws.nil,fun h=>by omega⟩
theorem SlF.nil (W:World) (n:Nat):SlF W n (.slice none 0 0) []:=⟨SlU.nil W,fun b off e=>by cases e⟩
theorem wl_one {y:Int} (h:0≤y) (hl:(wl y).length = 1):wl y = [y]∧U64 y:=by
 have hp:0 < y:=by
  rcases Int.lt_or_eq_of_le h with h | h
  ·exact h
  ·subst h; rw [wl_nil (Int.le_refl _)] at hl; cases hl
 have hlt:=(wl_len_lt h 1).1 (by omega)
 have h1:y < 18446744073709551616:=hlt
 rw [wl_cons hp,wl_nil (by omega),Int.emod_eq_of_lt h h1]
 exact ⟨rfl,h,by omega⟩
def DmR (n:Nat) (x y:Int) (v:Value) (X:Ext):Prop:=∃ u1 u2,v = .tuple #[u1,u2]∧∀ W,X.ok W→SlF W n u1 (wl (x / y))∧SlF W n u2 (wl (x % y))
def dm1F (w:World) (a b:Option Addr) (lx cx' ly cy' g cap:Nat) (x:Nat × List Int × Int):St:=⟨0,[(0,.v (.slice a lx cx')),(1,.v (.slice b ly cy')),(6,.v (.slice (some ⟨g,0,none⟩) lx cap)),(7,.v (.int .u64 x.2.2)),(8,.v (.int .i64 ((x.1:Int) - 1)))],[],kX w.heap.size [.o (.slice (some ⟨g,0,none⟩) lx cap) x.2.1]⟩
set_option maxRecDepth 100000 in
theorem rdivmod_one {a b:Option Addr} {cx' cy':Nat} {x y:Int} {w:World} (hx:A4 x) (hy:0 < y) (hly:(wl y).length = 1) (h:SlU w (.slice a (wl x).length cx') (wl x)) (h':SlU w (.slice b (wl y).length cy') (wl y)) :
  Calls Try.prog 78 #[.slice a (wl x).length cx',.slice b (wl y).length cy'] w fun e w'=>∃ v Y,e = .returned v∧DmR w.heap.size x y v Y∧Y.ok w'∧Below w.heap.size w w'∧∀ b∈Y.bs,w.heap.size≤b∧b < w'.heap.size:=by
 refine enterX Try.func78 r02_divmod.ok (args:=[.slice a (wl x).length cx',.slice b (wl y).length cy']) (R:=DmR w.heap.size x y) (by simp) ?_
 obtain ⟨e1,hu⟩:=wl_one (Int.le_of_lt hy) hly
 have hb:∃ b' off,b = some ⟨b',off,none⟩:=by
  obtain ⟨a',c',e,hs⟩:=h'.shp
  cases e
  exact hs.some (by omega)
 obtain ⟨b',off',rfl⟩:=hb
 rw [e1] at h' ⊢
 have h'1:SlU w (.slice (some ⟨b',off',none⟩) 1 cy') [y]:=h'
 have hl4:=pw4b hx
 have hst:=d1_start (wl x) hy
 have hwx:=wl_words x
 have hvx:=VL_wl hx.1
 obtain ⟨lx,hlx⟩:∃ lx,lx = (wl x).length:=⟨_,rfl⟩
 rw [← hlx] at h hst hl4 ⊢
 have c0:((1:Nat):Int) == 1:=rfl
 simp (disch:=omega) only [sxE,r02_divmod.E,Nat.reduceAdd,Nat.reduceEqDiff,Nat.reduceMul,Nat.reduceSub,Int.reduceAdd,Int.reduceSub,Int.reduceMul,Int.reduceNeg,Int.reduceLT,Int.reduceLE,Int.reduceEq,Int.reduceToNat,↓reduceIte,Int.reducePow,Nat.reduceLeDiff,Nat.reduceLT,ne_eq,eq_self,List.length_cons,List.length_nil]
 refine genA_o (L:=[]) (ws:=List.replicate lx 0) (kX_nil _) (fun W hW _=>gen_mk (by omega) W) fun g cap' _=>?_
 rw [List.length_replicate]
 simp (disch:=omega) only [sxE,r02_divmod.E,Nat.reduceAdd,Nat.reduceEqDiff,Nat.reduceMul,Nat.reduceSub,Int.reduceAdd,Int.reduceSub,Int.reduceMul,Int.reduceNeg,Int.reduceLT,Int.reduceLE,Int.reduceEq,Int.reduceToNat,↓reduceIte,Int.reducePow,Nat.reduceLeDiff,Nat.reduceLT,ne_eq,eq_self,List.length_cons,List.length_nil,Int.ofNat_one,beq_self_eq_true]
 rw [r02_divmod.p20_l]
 refine LX_inv (dm1F w a (some ⟨b',off',none⟩) lx cx' 1 cy' g cap') (fun q=>q.1≤lx∧D1I (wl x) q.2.1 y q.2.2 q.1) (fun q=>q.1) ?round (lx,List.replicate lx 0,0) ⟨Nat.le_refl _,hst⟩ ?start
 case start=>simp (disch:=omega) only [sxE,r02_divmod.E,Nat.reduceAdd,Nat.reduceEqDiff,Nat.reduceMul,Nat.reduceSub,Int.reduceAdd,Int.reduceSub,Int.reduceMul,Int.reduceNeg,Int.reduceLT,Int.reduceLE,Int.reduceEq,Int.reduceToNat,↓reduceIte,Int.reducePow,Nat.reduceLeDiff,Nat.reduceLT,ne_eq,eq_self,List.length_cons,List.length_nil,dm1F]
 case round =>
  rintro ⟨i,qs,r⟩ ⟨hi,hI⟩
  dsimp only at hi hI ⊢
  have hql:=hI.len
  rw [← hlx] at hql
  have hru:U64 r:=⟨hI.r0,by have:=hI.rl; have:=hu.2; omega⟩
  unfold dm1F
  rcases i with _ | m
  ·obtain ⟨d1,d2⟩:=d1_end hI hy
   rw [hvx] at d1 d2
   have hr1:VL [r] = r:=by show r + 18446744073709551616 * 0 = r; omega
   have c1:¬ (0:Int)≤((0:Nat):Int) - 1:=by omega
   simp (disch:=omega) only [sxE,r02_divmod.E,Nat.reduceAdd,Nat.reduceEqDiff,Nat.reduceMul,Nat.reduceSub,Int.reduceAdd,Int.reduceSub,Int.reduceMul,Int.reduceNeg,Int.reduceLT,Int.reduceLE,Int.reduceEq,Int.reduceToNat,↓reduceIte,Int.reducePow,Nat.reduceLeDiff,Nat.reduceLT,ne_eq,eq_self,List.length_cons,List.length_nil,c1]
   refine asks_trim (L:=[.o (.slice (some ⟨g,0,none⟩) lx cap') qs]) [.o (.slice (some ⟨g,0,none⟩) (wl (VL qs)).length cap') (wl (VL qs))] rfl rfl (List.mem_singleton.2 rfl) (fun k hk=>.inl (List.mem_singleton.1 hk)) ?_
   simp (disch:=omega) only [sxE,r02_divmod.E,Nat.reduceAdd,Nat.reduceEqDiff,Nat.reduceMul,Nat.reduceSub,Int.reduceAdd,Int.reduceSub,Int.reduceMul,Int.reduceNeg,Int.reduceLT,Int.reduceLE,Int.reduceEq,Int.reduceToNat,↓reduceIte,Int.reducePow,Nat.reduceLeDiff,Nat.reduceLT,ne_eq,eq_self,List.length_cons,List.length_nil]
   refine genA_o (L:=[.o (.slice (some ⟨g,0,none⟩) (wl (VL qs)).length cap') (wl (VL qs))]) (ws:=[r]) rfl (fun W hW _=>gen_one hru W) fun g2 cap2 _=>?_
   simp (disch:=omega) only [sxE,r02_divmod.E,Nat.reduceAdd,Nat.reduceEqDiff,Nat.reduceMul,Nat.reduceSub,Int.reduceAdd,Int.reduceSub,Int.reduceMul,Int.reduceNeg,Int.reduceLT,Int.reduceLE,Int.reduceEq,Int.reduceToNat,↓reduceIte,Int.reducePow,Nat.reduceLeDiff,Nat.reduceLT,ne_eq,eq_self,List.length_cons,List.length_nil]
   refine asks_trim (L:=[.o (.slice (some ⟨g2,0,none⟩) 1 cap2) [r],.o (.slice (some ⟨g,0,none⟩) (wl (VL qs)).length cap') (wl (VL qs))]) [.o (.slice (some ⟨g2,0,none⟩) (wl (VL [r])).length cap2) (wl (VL [r])),.o (.slice (some ⟨g,0,none⟩) (wl (VL qs)).length cap') (wl (VL qs))] rfl rfl List.mem_cons_self (fun k hk=>?_) ?_
   ·rcases List.mem_cons.1 hk with rfl | hk
    ·exact .inl rfl
    ·exact .inr (List.mem_cons_of_mem _ hk)
   simp (disch:=omega) only [sxE,r02_divmod.E,Nat.reduceAdd,Nat.reduceEqDiff,Nat.reduceMul,Nat.reduceSub,Int.reduceAdd,Int.reduceSub,Int.reduceMul,Int.reduceNeg,Int.reduceLT,Int.reduceLE,Int.reduceEq,Int.reduceToNat,↓reduceIte,Int.reducePow,Nat.reduceLeDiff,Nat.reduceLT,ne_eq,eq_self,List.length_cons,List.length_nil]
   refine ⟨_,_,rfl,fun W hW=>?_⟩
   have h1:=hW _ List.mem_cons_self
   have h2:=hW _ (List.mem_cons_of_mem _ List.mem_cons_self)
   rw [hr1,d2] at h1
   rw [d1] at h2
   rw [hr1,d1,d2]
   exact ⟨⟨OwnU.sl h2,OwnU.fr h2 (Nat.le_refl _)⟩,⟨OwnU.sl h1,OwnU.fr h1 (Nat.le_refl _)⟩⟩
  ·have hm:m < lx:=hi
   obtain ⟨s1,s2⟩:=d1_step hI hwx hu (by omega)
   obtain ⟨b2,off2,rfl⟩:∃ b off,a = some ⟨b,off,none⟩:=by
    obtain ⟨a',c',e,hs⟩:=h.shp
    cases e
    exact hs.some (by omega)
   have c1:((m + 1:Nat):Int) - 1 = (m:Int):=by omega
   have c2:(0:Int)≤(m:Int)∧(m:Int) < (lx:Int):=by omega
   have y0:([y]:List Int).getD 0 0 = y:=rfl
   have hwm:=hwx.getD m
   have hrl:=hI.rl
   repeat' (first | simp (disch:=omega) only [sxE,r02_divmod.E,Nat.reduceAdd,Nat.reduceEqDiff,Nat.reduceMul,Nat.reduceSub,Int.reduceAdd,Int.reduceSub,Int.reduceMul,Int.reduceNeg,Int.reduceLT,Int.reduceLE,Int.reduceEq,Int.reduceToNat,↓reduceIte,Int.reducePow,Nat.reduceLeDiff,Nat.reduceLT,ne_eq,eq_self,List.length_cons,List.length_nil,Nat.mul_one,Nat.zero_add,c1,c2,y0] | (with_reducible refine Sx.call_at (f:=130) (fun W hW=>g_div64 hru hwm hu hrl W) ?_) | (refine ldP_w m rfl h (by omega) ?_) | (refine ldP_w 0 rfl h'1 Nat.zero_lt_one ?_) | (refine stP_o [.o (.slice (some ⟨g,0,none⟩) lx cap') (qs.set m ((r * 18446744073709551616 + (wl x).getD m 0) / y))] m rfl (List.mem_singleton.2 rfl) (by omega) s1 (fun k1 hk1=>.inl (List.mem_singleton.1 hk1)) ?_) | (with_reducible refine cregF ?_))
   exact ⟨(m,_,_),⟨Nat.le_of_lt hm,s2⟩,Nat.lt_succ_self _,⟨rfl,rfl⟩,.inl rfl⟩
structure DmS where
 k:Nat
 qs:List Int
 a:Option Addr
 c:Nat
 R:Int
 D:Int
def dmL (n g1 lx c1 g2 c2:Nat) (x:DmS):List Kn:=[.o (.slice (some ⟨g1,0,none⟩) lx c1) x.qs,.r (.slice x.a (wl x.R).length x.c) (wl x.R),.o (.slice (some ⟨g2,0,none⟩) (wl x.D).length c2) (wl x.D)]
def dm2F (w:World) (g1 lx c1 g2 c2:Nat) (x:DmS):St:=⟨0,[(6,.v (.slice (some ⟨g1,0,none⟩) lx c1)),(9,.v (.slice x.a (wl x.R).length x.c)),(11,.v (.slice (some ⟨g2,0,none⟩) (wl x.D).length c2)),(12,.v (.int .i64 ((x.k:Int) - 1)))],[],kX w.heap.size (dmL w.heap.size g1 lx c1 g2 c2 x)⟩
structure DmI (x y:Int) (lx g1 g2:Nat) (s:DmS):Prop where
 dv:DvI x y s.R (VL s.qs) s.k
 dd:0 < s.k→s.D = y * 2 ^ (s.k - 1)
 aD:A4 s.D
 aR:A4 s.R
 ql:s.qs.length = lx
 qw:Ws s.qs
 kl:s.k≤64 * lx
 sh:Shp s.a (wl s.R).length s.c
 n1:∀ b∈rbs (.slice s.a (wl s.R).length s.c),b≠g1∧b≠g2
theorem dm_compare {n g1 lx c1 g2 c2:Nat} {s:DmS} {W:World} (hR:A4 s.R) (hD:A4 s.D) (hok:∀ k∈dmL n g1 lx c1 g2 c2 s,k.ok n W):Gives Try.prog 76 [.slice s.a (wl s.R).length s.c,.slice (some ⟨g2,0,none⟩) (wl s.D).length c2] W (· = .int .i64 (cm s.R s.D)):=by
 have h1:SlF W n _ _:=hok (.r (.slice s.a (wl s.R).length s.c) (wl s.R)) (List.mem_cons_of_mem _ List.mem_cons_self)
 have h2:OwnU W n (.slice (some ⟨g2,0,none⟩) (wl s.D).length c2) (wl s.D):=hok (.o (.slice (some ⟨g2,0,none⟩) (wl s.D).length c2) (wl s.D)) (List.mem_cons_of_mem _ (List.mem_cons_of_mem _ List.mem_cons_self))
 exact gives_known en_r02_compare ((rcompare_any _ _ _ _ _ _ _ _ hR.1 hD.1 W h1.1 h2.sl).mono fun e w' ⟨he,d,hd⟩=>⟨he,by subst hd; exact below_drewN (Below.refl _ _)⟩)
theorem dm_sub {n g1 lx c1 g2 c2:Nat} {s:DmS} {W:World} (hR:A4 s.R) (hD:A4 s.D) (hle:s.D≤s.R) (hok:∀ k∈dmL n g1 lx c1 g2 c2 s,k.ok n W):Calls Try.prog 77 #[.slice s.a (wl s.R).length s.c,.slice (some ⟨g2,0,none⟩) (wl s.D).length c2] W fun e w'=>∃ v,e = .returned v∧SlF w' W.heap.size v (wl (s.R - s.D))∧Below W.heap.size W w':=by
 have h1:SlF W n _ _:=hok (.r (.slice s.a (wl s.R).length s.c) (wl s.R)) (List.mem_cons_of_mem _ List.mem_cons_self)
 have h2:OwnU W n (.slice (some ⟨g2,0,none⟩) (wl s.D).length c2) (wl s.D):=hok (.o (.slice (some ⟨g2,0,none⟩) (wl s.D).length c2) (wl s.D)) (List.mem_cons_of_mem _ (List.mem_cons_of_mem _ List.mem_cons_self))
 exact rsub_any _ _ _ _ _ _ _ _ hD.1 hle (by have:=pw4b hR; omega) W h1.1 h2.sl
set_option maxRecDepth 100000 in
theorem rdivmod_loop {x y:Int} {w:World} (hx:A4 x) (hy:0 < y) {g1 lx c1 g2 c2:Nat} (hg:g1≠g2) {s:DmS} (hI:DmI x y lx g1 g2 s) {S0:St} (hS:subS (cx Try.prog w 89) S0 (dm2F w g1 lx c1 g2 c2 s)) :
  r02_divmod.p2 (cx Try.prog w 89) (finT [(4,none),(5,none)] (DmR w.heap.size x y)) S0:=by
 rw [r02_divmod.p2_l]
 refine LX_inv (dm2F w g1 lx c1 g2 c2) (DmI x y lx g1 g2) (fun s=>s.k) ?round s hI hS
 case round =>
  clear hI hS
  rintro ⟨k,qs,a,c,R,D⟩ hI
  obtain ⟨dv,dd,aD,aR,ql,qw,kl,sh,n1⟩:=hI
  dsimp only at dv dd aD aR ql qw kl sh n1 ⊢
  unfold dm2F
  rcases k with _ | k
  ·obtain ⟨e1,e2⟩:=dv_end dv hy
   have c1':¬ (0:Int)≤((0:Nat):Int) - 1:=by omega
   simp (disch:=omega) only [sxE,r02_divmod.E,Nat.reduceAdd,Nat.reduceEqDiff,Nat.reduceMul,Nat.reduceSub,Int.reduceAdd,Int.reduceSub,Int.reduceMul,Int.reduceNeg,Int.reduceLT,Int.reduceLE,Int.reduceEq,Int.reduceToNat,↓reduceIte,Int.reducePow,Nat.reduceLeDiff,Nat.reduceLT,ne_eq,eq_self,List.length_cons,List.length_nil,c1']
   unfold dmL
   dsimp only
   refine asks_trim [.o (.slice (some ⟨g1,0,none⟩) (wl (VL qs)).length c1) (wl (VL qs)),.r (.slice a (wl R).length c) (wl R)] rfl rfl List.mem_cons_self (fun k hk=>?_) ?_
   ·rcases List.mem_cons.1 hk with rfl | hk
    ·exact .inl rfl
    ·exact .inr (List.mem_cons_of_mem _ (by rw [List.mem_singleton.1 hk]; exact List.mem_cons_self))
   simp (disch:=omega) only [sxE,r02_divmod.E,Nat.reduceAdd,Nat.reduceEqDiff,Nat.reduceMul,Nat.reduceSub,Int.reduceAdd,Int.reduceSub,Int.reduceMul,Int.reduceNeg,Int.reduceLT,Int.reduceLE,Int.reduceEq,Int.reduceToNat,↓reduceIte,Int.reducePow,Nat.reduceLeDiff,Nat.reduceLT,ne_eq,eq_self,List.length_cons,List.length_nil]
   refine ⟨_,_,rfl,fun W hW=>?_⟩
   have h1:=hW _ List.mem_cons_self
   have h2:=hW _ (List.mem_cons_of_mem _ List.mem_cons_self)
   rw [← e1,← e2]
   exact ⟨⟨OwnU.sl h1,OwnU.fr h1 (Nat.le_refl _)⟩,h2⟩
  ·have hD':D = y * 2 ^ k:=dd (Nat.succ_pos _)
   have hk:((k + 1:Nat):Int) - 1 = (k:Int):=by omega
   have hk2:k < 256:=pow256 hy (hD' ▸ aD)
   obtain ⟨st1,st2⟩:=dv_step dv hy
   have aH:A4 (D / 2):=⟨by have:=aD.1; omega,by have:=aD.1; have:=aD.2; omega⟩
   have hH:0 < k→D / 2 = y * 2 ^ (k - 1):=fun h=>by
    obtain ⟨m,rfl⟩:∃ m,k = m + 1:=⟨k - 1,by omega⟩
    rw [hD',Int.pow_succ,← Int.mul_assoc,Nat.add_sub_cancel]; omega
   rw [← hD'] at st1 st2
   have hcm:=cm_ge R D
   have hvD:VL (wl D) = D:=VL_wl aD.1
   have hl4:=pw4b aD
   by_cases hle:D≤R
   ·have hI2:=st1 hle
    have hc0:0≤cm R D:=hcm.2 hle
    have aR2:A4 (R - D):=⟨by omega,by have:=aR.2; have:=aD.1; omega⟩
    obtain ⟨w',j,hj,e⟩:∃ w' j:Nat,j < 64∧k = 64 * w' + j:=⟨k / 64,k % 64,by omega,by omega⟩
    have hw':w' < lx:=by omega
    have hm:(k:Int) % 64 = (j:Nat):=by omega
    have hq:(k:Int) / 64 = (w':Nat):=by omega
    have hwb:(0:Int)≤(w':Int)∧(w':Int) < (lx:Int):=by omega
    obtain ⟨b1,b2,b3⟩:=q_bit qw e hj (by omega) dv.dv
    have p0:(0:Int) < 2 ^ j:=Int.pow_pos (by decide)
    have p1:=pow63 hj
    have hp2:IntKind.u64.wrap (2 ^ j) = 2 ^ j:=s_wu _ (by omega) (by omega)
    repeat' (first | simp (disch:=omega) only [sxE,r02_divmod.E,Nat.reduceAdd,Nat.reduceEqDiff,Nat.reduceMul,Nat.reduceSub,Int.reduceAdd,Int.reduceSub,Int.reduceMul,Int.reduceNeg,Int.reduceLT,Int.reduceLE,Int.reduceEq,Int.reduceToNat,↓reduceIte,Int.reducePow,Nat.reduceLeDiff,Nat.reduceLT,ne_eq,eq_self,List.length_cons,List.length_nil,hk,hc0] | ((with_reducible apply asks_ext (f:=76)); (case h=>exact fun W hW hok=>dm_compare aR aD hok); (case' hk=>skip)) | (with_reducible refine cregF ?_))
    refine asks_r (L:=dmL w.heap.size g1 lx c1 g2 c2 ⟨k + 1,qs,a,c,R,D⟩) (ws:=wl (R - D)) en_r02_sub rfl (fun W hW hok=>dm_sub aR aD hle hok) fun a2 c2' hs2 hn2=>?_
    have hne:∀ b∈rbs (.slice a2 (wl (R - D)).length c2'),b≠g1∧b≠g2:=fun b hb=>by
     have:=hn2 b hb
     refine ⟨fun e=>this ?_,fun e=>this ?_⟩
     ·rw [e]; exact kX_bs.2 ⟨_,List.mem_cons_self,List.mem_singleton.2 rfl⟩
     ·rw [e]; exact kX_bs.2 ⟨_,List.mem_cons_of_mem _ (List.mem_cons_of_mem _ List.mem_cons_self),List.mem_singleton.2 rfl⟩
    clear hn2
    unfold dmL
    dsimp only
    simp (disch:=omega) only [sxE,r02_divmod.E,Nat.reduceAdd,Nat.reduceEqDiff,Nat.reduceMul,Nat.reduceSub,Int.reduceAdd,Int.reduceSub,Int.reduceMul,Int.reduceNeg,Int.reduceLT,Int.reduceLE,Int.reduceEq,Int.reduceToNat,↓reduceIte,Int.reducePow,Nat.reduceLeDiff,Nat.reduceLT,ne_eq,eq_self,List.length_cons,List.length_nil,hq]
    repeat' (first | simp (disch:=omega) only [sxE,r02_divmod.E,Nat.reduceAdd,Nat.reduceEqDiff,Nat.reduceMul,Nat.reduceSub,Int.reduceAdd,Int.reduceSub,Int.reduceMul,Int.reduceNeg,Int.reduceLT,Int.reduceLE,Int.reduceEq,Int.reduceToNat,↓reduceIte,Int.reducePow,Nat.reduceLeDiff,Nat.reduceLT,ne_eq,eq_self,List.length_cons,List.length_nil,Nat.mul_one,Nat.zero_add,hq,hm,hwb,Int.one_mul,hp2,b1] | (refine ldP_o w' rfl (List.mem_cons_of_mem _ List.mem_cons_self) (by omega) ?_) | (refine stP_o [.o (.slice (some ⟨g1,0,none⟩) lx c1) (qs.set w' (qs.getD w' 0 + 2 ^ j)),.r (.slice a2 (wl (R - D)).length c2') (wl (R - D)),.o (.slice (some ⟨g2,0,none⟩) (wl D).length c2) (wl D)] w' rfl (List.mem_cons_of_mem _ List.mem_cons_self) (by omega) b2 (fun q1 hq1=>?mem) ?_) | (with_reducible refine cregF ?_))
    case mem =>
     rcases List.mem_cons.1 hq1 with rfl | hq1
     ·exact .inl rfl
     ·rcases List.mem_cons.1 hq1 with rfl | hq1
      ·exact .inr ⟨List.mem_cons_self,fun h=>(hne _ h).1 rfl⟩
      ·exact .inr ⟨by rw [List.mem_singleton.1 hq1]; exact List.mem_cons_of_mem _ (List.mem_cons_of_mem _ (List.mem_cons_of_mem _ List.mem_cons_self)),fun h=>by rw [List.mem_singleton.1 hq1] at h; exact hg (List.mem_singleton.1 h)⟩
    refine asks_half (dmL w.heap.size g1 lx c1 g2 c2 ⟨k,qs.set w' (qs.getD w' 0 + 2 ^ j),a2,c2',R - D,D / 2⟩) rfl rfl rfl (List.mem_cons_of_mem _ (List.mem_cons_of_mem _ List.mem_cons_self)) (by omega) (fun q hq=>?_) ?_
    ·rw [hvD]
     rcases List.mem_cons.1 hq with rfl | hq
     ·exact .inr ⟨List.mem_cons_self,fun h=>hg (List.mem_singleton.1 h).symm⟩
     ·rcases List.mem_cons.1 hq with rfl | hq
      ·exact .inr ⟨List.mem_cons_of_mem _ List.mem_cons_self,fun h=>(hne _ h).2 rfl⟩
      ·exact .inl (List.mem_singleton.1 hq)
    rw [hvD]
    simp (disch:=omega) only [sxE,r02_divmod.E,Nat.reduceAdd,Nat.reduceEqDiff,Nat.reduceMul,Nat.reduceSub,Int.reduceAdd,Int.reduceSub,Int.reduceMul,Int.reduceNeg,Int.reduceLT,Int.reduceLE,Int.reduceEq,Int.reduceToNat,↓reduceIte,Int.reducePow,Nat.reduceLeDiff,Nat.reduceLT,ne_eq,eq_self,List.length_cons,List.length_nil,hk]
    exact ⟨⟨k,qs.set w' (qs.getD w' 0 + 2 ^ j),a2,c2',R - D,D / 2⟩,⟨by dsimp only; rw [b3]; exact hI2,hH,aH,aR2,by dsimp only; rw [List.length_set]; exact ql,qw.set b2 _,by dsimp only; omega,hs2,hne⟩,Nat.lt_succ_self _,by repeat' (first | (with_reducible rfl) | (exact Or.inl rfl) | apply And.intro)⟩
   ·have hI2:=st2 hle
    have hc0:¬ 0≤cm R D:=fun h=>hle (hcm.1 h)
    repeat' (first | simp (disch:=omega) only [sxE,r02_divmod.E,Nat.reduceAdd,Nat.reduceEqDiff,Nat.reduceMul,Nat.reduceSub,Int.reduceAdd,Int.reduceSub,Int.reduceMul,Int.reduceNeg,Int.reduceLT,Int.reduceLE,Int.reduceEq,Int.reduceToNat,↓reduceIte,Int.reducePow,Nat.reduceLeDiff,Nat.reduceLT,ne_eq,eq_self,List.length_cons,List.length_nil,hk,hc0] | ((with_reducible apply asks_ext (f:=76)); (case h=>exact fun W hW hok=>dm_compare aR aD hok); (case' hk=>skip)) | (with_reducible refine cregF ?_))
    refine asks_half (L:=dmL w.heap.size g1 lx c1 g2 c2 ⟨k + 1,qs,a,c,R,D⟩) (dmL w.heap.size g1 lx c1 g2 c2 ⟨k,qs,a,c,R,D / 2⟩) rfl rfl rfl (List.mem_cons_of_mem _ (List.mem_cons_of_mem _ List.mem_cons_self)) (by omega) (fun q hq=>?_) ?_
    ·rw [hvD]
     rcases List.mem_cons.1 hq with rfl | hq
     ·exact .inr ⟨List.mem_cons_self,fun h=>hg (List.mem_singleton.1 h).symm⟩
     ·rcases List.mem_cons.1 hq with rfl | hq
      ·exact .inr ⟨List.mem_cons_of_mem _ List.mem_cons_self,fun h=>(n1 _ h).2 rfl⟩
      ·exact .inl (List.mem_singleton.1 hq)
    rw [hvD]
    simp (disch:=omega) only [sxE,r02_divmod.E,Nat.reduceAdd,Nat.reduceEqDiff,Nat.reduceMul,Nat.reduceSub,Int.reduceAdd,Int.reduceSub,Int.reduceMul,Int.reduceNeg,Int.reduceLT,Int.reduceLE,Int.reduceEq,Int.reduceToNat,↓reduceIte,Int.reducePow,Nat.reduceLeDiff,Nat.reduceLT,ne_eq,eq_self,List.length_cons,List.length_nil,hk]
    exact ⟨⟨k,qs,a,c,R,D / 2⟩,⟨hI2,hH,aH,aR,ql,qw,by dsimp only; omega,sh,n1⟩,Nat.lt_succ_self _,by repeat' (first | (with_reducible rfl) | (exact Or.inl rfl) | apply And.intro)⟩
set_option maxRecDepth 100000 in
theorem rdivmod_more {a b:Option Addr} {cx' cy':Nat} {x y:Int} {w:World} (hx:A4 x) (hay:A4 y) (hy:0 < y) (hly:(wl y).length≠1) (h:SlU w (.slice a (wl x).length cx') (wl x)) (h':SlU w (.slice b (wl y).length cy') (wl y)) :
  Calls Try.prog 78 #[.slice a (wl x).length cx',.slice b (wl y).length cy'] w fun e w'=>∃ v Y,e = .returned v∧DmR w.heap.size x y v Y∧Y.ok w'∧Below w.heap.size w w'∧∀ b∈Y.bs,w.heap.size≤b∧b < w'.heap.size:=by
 refine enterX Try.func78 r02_divmod.ok (args:=[.slice a (wl x).length cx',.slice b (wl y).length cy']) (R:=DmR w.heap.size x y) (by simp) ?_
 have hl4:=pw4b hx
 have hl4':=pw4b hay
 have hwx:=wl_words x
 have hvx:=VL_wl hx.1
 have hvy:=VL_wl (Int.le_of_lt hy)
 have b1:=bl_256 hx
 have b2:=bl_256 hay
 have hck:(((wl y).length:Int) == 1) = false:=beq_eq_false_iff_ne.2 (by omega)
 simp (disch:=omega) only [sxE,r02_divmod.E,Nat.reduceAdd,Nat.reduceEqDiff,Nat.reduceMul,Nat.reduceSub,Int.reduceAdd,Int.reduceSub,Int.reduceMul,Int.reduceNeg,Int.reduceLT,Int.reduceLE,Int.reduceEq,Int.reduceToNat,↓reduceIte,Int.reducePow,Nat.reduceLeDiff,Nat.reduceLT,ne_eq,eq_self,List.length_cons,List.length_nil]
 refine genA_o (L:=[]) (ws:=List.replicate (wl x).length 0) (kX_nil _) (fun W hW _=>gen_mk (by omega) W) fun g1 c1 _=>?_
 rw [List.length_replicate]
 simp (disch:=omega) only [sxE,r02_divmod.E,Nat.reduceAdd,Nat.reduceEqDiff,Nat.reduceMul,Nat.reduceSub,Int.reduceAdd,Int.reduceSub,Int.reduceMul,Int.reduceNeg,Int.reduceLT,Int.reduceLE,Int.reduceEq,Int.reduceToNat,↓reduceIte,Int.reducePow,Nat.reduceLeDiff,Nat.reduceLT,ne_eq,eq_self,List.length_cons,List.length_nil,hck]
 refine genA_o (L:=[.o (.slice (some ⟨g1,0,none⟩) (wl x).length c1) (List.replicate (wl x).length 0)]) (ws:=[]) rfl (fun W hW _=>gen_none W) fun g2 c2 hn2=>?_
 have hg12:g1≠g2:=fun e=>hn2 (by rw [← e]; exact kX_bs.2 ⟨_,List.mem_cons_self,List.mem_singleton.2 rfl⟩)
 clear hn2
 simp (disch:=omega) only [sxE,r02_divmod.E,Nat.reduceAdd,Nat.reduceEqDiff,Nat.reduceMul,Nat.reduceSub,Int.reduceAdd,Int.reduceSub,Int.reduceMul,Int.reduceNeg,Int.reduceLT,Int.reduceLE,Int.reduceEq,Int.reduceToNat,↓reduceIte,Int.reducePow,Nat.reduceLeDiff,Nat.reduceLT,ne_eq,eq_self,List.length_cons,List.length_nil]
 refine genA_app (L:=[.o (.slice (some ⟨g2,0,none⟩) 0 c2) [],.o (.slice (some ⟨g1,0,none⟩) (wl x).length c1) (List.replicate (wl x).length 0)]) (L0:=[.o (.slice (some ⟨g1,0,none⟩) (wl x).length c1) (List.replicate (wl x).length 0)]) (ms:=wl x) rfl ⟨_,Try.underlying113⟩ rfl List.mem_cons_self rfl (fun k hk=>?_) (fun W hW _=>h.below hW) (by omega) fun a2 c3 hs3 hn3=>?_
 ·rw [List.mem_singleton.1 hk]
  exact ⟨List.mem_cons_of_mem _ List.mem_cons_self,fun h=>hg12 (List.mem_singleton.1 h).symm⟩
 have hn4:∀ b∈rbs (.slice a2 (wl x).length c3),b≠g1:=fun b hb e=>by
  rcases hn3 b hb with h | h
  ·exact hg12 (e.symm.trans h)
  ·exact h (by rw [e]; exact kX_bs.2 ⟨_,List.mem_cons_of_mem _ List.mem_cons_self,List.mem_singleton.2 rfl⟩)
 clear hn3
 simp (disch:=omega) only [sxE,r02_divmod.E,Nat.reduceAdd,Nat.reduceEqDiff,Nat.reduceMul,Nat.reduceSub,Int.reduceAdd,Int.reduceSub,Int.reduceMul,Int.reduceNeg,Int.reduceLT,Int.reduceLE,Int.reduceEq,Int.reduceToNat,↓reduceIte,Int.reducePow,Nat.reduceLeDiff,Nat.reduceLT,ne_eq,eq_self,List.length_cons,List.length_nil]
 refine asks_trim_r [.r (.slice a2 (wl x).length c3) (wl x),.o (.slice (some ⟨g1,0,none⟩) (wl x).length c1) (List.replicate (wl x).length 0)] rfl rfl List.mem_cons_self (fun k hk=>?_) ?_
 ·exact .inr hk
 rw [hvx]
 have size1:∀ W,(∀ k∈[Kn.r (.slice a2 (wl x).length c3) (wl x),.o (.slice (some ⟨g1,0,none⟩) (wl x).length c1) (List.replicate (wl x).length 0)],k.ok w.heap.size W)→Gives Try.prog 131 [.slice a2 (wl x).length c3] W (· = .int .i64 (bl x)):=fun W hok =>
  gives_known en_r02_size (rsize_any hx.1 (by omega) (hok (.r (.slice a2 (wl x).length c3) (wl x)) List.mem_cons_self).1)
 have size2:∀ W,Below w.heap.size w W→Gives Try.prog 131 [.slice b (wl y).length cy'] W (· = .int .i64 (bl y)):=fun W hW =>
  gives_known en_r02_size (rsize_any (Int.le_of_lt hy) (by omega) (h'.below hW))
 repeat' (first | simp (disch:=omega) only [sxE,r02_divmod.E,Nat.reduceAdd,Nat.reduceEqDiff,Nat.reduceMul,Nat.reduceSub,Int.reduceAdd,Int.reduceSub,Int.reduceMul,Int.reduceNeg,Int.reduceLT,Int.reduceLE,Int.reduceEq,Int.reduceToNat,↓reduceIte,Int.reducePow,Nat.reduceLeDiff,Nat.reduceLT,ne_eq,eq_self,List.length_cons,List.length_nil] | ((with_reducible apply asks_ext (f:=131)); (case h=>first | exact fun W hW hok=>size1 W hok | exact fun W hW hok=>size2 W hW); (case' hk=>skip)) | (with_reducible refine cregF ?_))
 clear size1 size2
 by_cases hlen:bl x < bl y
 ·obtain ⟨e1,e2⟩:=dv_small hx.1 hy hlen
  repeat' (first | simp (disch:=omega) only [sxE,r02_divmod.E,Nat.reduceAdd,Nat.reduceEqDiff,Nat.reduceMul,Nat.reduceSub,Int.reduceAdd,Int.reduceSub,Int.reduceMul,Int.reduceNeg,Int.reduceLT,Int.reduceLE,Int.reduceEq,Int.reduceToNat,↓reduceIte,Int.reducePow,Nat.reduceLeDiff,Nat.reduceLT,ne_eq,eq_self,List.length_cons,List.length_nil] | (with_reducible refine cregF ?_))
  refine ⟨_,_,rfl,fun W hW=>?_⟩
  rw [e1,e2,wl_nil (Int.le_refl _)]
  exact ⟨SlF.nil W _,hW _ List.mem_cons_self⟩
 ·have hst:=dv_start hx.1 hy (by omega)
  have hfit:=dv_fit (m:=0) hx hay hy (by omega)
  have hpos:=bl_pos hy
  have hbl:bl x≤64 * (wl x).length:=by
   rcases Nat.lt_or_ge (64 * (wl x).length) (bl x) with hc | hc
   ·exfalso
    have hx0:0 < x:=by
     rcases Int.lt_or_eq_of_le hx.1 with hh | hh
     ·exact hh
     ·subst hh; rw [bl_zero] at hc; omega
    have h1:=bl_le hx0
    have h2:=(wl_len_lt hx.1 (wl x).length).1 (Nat.le_refl _)
    rw [pw_two] at h2
    have h3:(2:Nat) ^ (64 * (wl x).length)≤2 ^ (bl x - 1):=Nat.pow_le_pow_right (by decide) (by omega)
    have h4:=Int.ofNat_le.2 h3
    rw [Int.natCast_pow,Int.natCast_pow] at h4
    have h5:((2:Nat):Int) = 2:=rfl
    rw [h5] at h4
    omega
   ·exact hc
  have hsub:(bl x:Int) - (bl y:Int) = ((bl x - bl y:Nat):Int):=by omega
  have hnn:¬ (((bl x - bl y:Nat):Int) < 0):=by omega
  generalize hN:bl x - bl y = N at *
  rw [hsub]
  simp (disch:=omega) only [sxE,r02_divmod.E,Nat.reduceAdd,Nat.reduceEqDiff,Nat.reduceMul,Nat.reduceSub,Int.reduceAdd,Int.reduceSub,Int.reduceMul,Int.reduceNeg,Int.reduceLT,Int.reduceLE,Int.reduceEq,Int.reduceToNat,↓reduceIte,Int.reducePow,Nat.reduceLeDiff,Nat.reduceLT,ne_eq,eq_self,List.length_cons,List.length_nil,hnn]
  have hup:∀ W,Below w.heap.size w W→Calls Try.prog 132 #[.slice b (wl y).length cy',.int .i64 (N:Int)] W fun e w'=>∃ g cap',e = .returned (.slice (some ⟨g,0,none⟩) (wl (y * 2 ^ N)).length cap')∧OwnU w' W.heap.size (.slice (some ⟨g,0,none⟩) (wl (y * 2 ^ N)).length cap') (wl (y * 2 ^ N))∧Below W.heap.size W w':=fun W hW=>by
   have:=rup_any (n:=N) (k:=N / 64) (s:=N % 64) (by omega) (by omega) (by omega) (by omega) (h'.below hW)
   rw [hvy] at this
   exact this
  refine asks_o (L:=[.r (.slice a2 (wl x).length c3) (wl x),.o (.slice (some ⟨g1,0,none⟩) (wl x).length c1) (List.replicate (wl x).length 0)]) (ws:=wl (y * 2 ^ N)) en_r02_up rfl (fun W hW _=>hup W hW) fun g3 c4 hn5=>?_
  have hg13:g1≠g3:=fun e=>hn5 (by rw [← e]; exact kX_bs.2 ⟨_,List.mem_cons_of_mem _ List.mem_cons_self,List.mem_singleton.2 rfl⟩)
  have hr3:∀ b∈rbs (.slice a2 (wl x).length c3),b≠g3:=fun b hb e=>hn5 (by rw [← e]; exact kX_bs.2 ⟨_,List.mem_cons_self,hb⟩)
  clear hn5 hup
  simp (disch:=omega) only [sxE,r02_divmod.E,Nat.reduceAdd,Nat.reduceEqDiff,Nat.reduceMul,Nat.reduceSub,Int.reduceAdd,Int.reduceSub,Int.reduceMul,Int.reduceNeg,Int.reduceLT,Int.reduceLE,Int.reduceEq,Int.reduceToNat,↓reduceIte,Int.reducePow,Nat.reduceLeDiff,Nat.reduceLT,ne_eq,eq_self,List.length_cons,List.length_nil]
  refine rdivmod_loop hx hy (lx:=(wl x).length) (c1:=c1) (g2:=g3) (c2:=c4) hg13 (s:=⟨N + 1,List.replicate (wl x).length 0,a2,c3,x,y * 2 ^ N⟩) ⟨by dsimp only; rw [VL_zeros]; exact hst,fun _=>rfl,hfit,hx,by simp,Ws.zeros _,by dsimp only; omega,hs3,fun b hb=>⟨hn4 b hb,hr3 b hb⟩⟩ ?_
  have hk1:((N + 1:Nat):Int) - 1 = (N:Int):=by omega
  unfold dm2F
  dsimp only
  simp (disch:=omega) only [sxE,r02_divmod.E,Nat.reduceAdd,Nat.reduceEqDiff,Nat.reduceMul,Nat.reduceSub,Int.reduceAdd,Int.reduceSub,Int.reduceMul,Int.reduceNeg,Int.reduceLT,Int.reduceLE,Int.reduceEq,Int.reduceToNat,↓reduceIte,Int.reducePow,Nat.reduceLeDiff,Nat.reduceLT,ne_eq,eq_self,List.length_cons,List.length_nil,hk1]
  refine extS_kn fun k hk=>?_
  unfold dmL at hk
  dsimp only at hk
  simp only [List.mem_cons,List.not_mem_nil,or_false] at hk ⊢
  rcases hk with rfl | rfl | rfl
  ·exact .inr (.inr rfl)
  ·exact .inr (.inl rfl)
  ·exact .inl rfl
theorem rdivmod_any {a b:Option Addr} {cx' cy':Nat} {x y:Int} {w:World} (hx:A4 x) (hay:A4 y) (hy:0 < y) (h:SlU w (.slice a (wl x).length cx') (wl x)) (h':SlU w (.slice b (wl y).length cy') (wl y)) :
  Calls Try.prog 78 #[.slice a (wl x).length cx',.slice b (wl y).length cy'] w fun e w'=>∃ u1 u2,e = .returned (.tuple #[u1,u2])∧SlF w' w.heap.size u1 (wl (x / y))∧SlF w' w.heap.size u2 (wl (x % y))∧Below w.heap.size w w':=by
 have key:∀ {e:Ending} {w':World},(∃ v Y,e = .returned v∧DmR w.heap.size x y v Y∧Y.ok w'∧Below w.heap.size w w'∧∀ b∈Y.bs,w.heap.size≤b∧b < w'.heap.size)→∃ u1 u2,e = .returned (.tuple #[u1,u2])∧SlF w' w.heap.size u1 (wl (x / y))∧SlF w' w.heap.size u2 (wl (x % y))∧Below w.heap.size w w':=by
  rintro e w' ⟨v,Y,rfl,⟨u1,u2,rfl,hY⟩,hok,hb,-⟩
  exact ⟨u1,u2,rfl,(hY w' hok).1,(hY w' hok).2,hb⟩
 by_cases hl:(wl y).length = 1
 ·exact (rdivmod_one hx hy hl h h').mono fun e w' hh=>key hh
 ·exact (rdivmod_more hx hay hy hl h h').mono fun e w' hh=>key hh
end Go.Proofs.Ytncmmbacoknefaa

/- Ge: What calls of the program's shift and of its division of absolute values give. -/
namespace Go.Proofs.Ytncmmbacoknefaa
open Go Go.RowKit Sx
set_option linter.unusedVariables false
set_option linter.unusedSimpArgs false
set_option maxRecDepth 100000 in
theorem left_0 {z n:Int} {r:Nat} (h:A4 z) (hr:0 < r) (hr2:r < 64) (hn:n = 64 * 0 + r) (hf:z * 2 ^ r < 115792089237316195423570985008687907853269984665640564039457584007913129639936) (w:World) :
  Calls Try.prog 184 #[ME z,.int .i64 n] w fun e w'=>e = .returned (ME (z * 2 ^ r))∧Below w.heap.size w w':=by
 show Calls _ _ #[MG (lb0 z) (lb1 z) (lb2 z) (lb3 z),_] _ _
 have e:=mv_me h
 obtain ⟨t0,u0,ht0,hu0,U0,a0,b0,d0,s0⟩:=shl_word (r:=r) (lb0_in z) hr2
 obtain ⟨t1,u1,ht1,hu1,U1,a1,b1,d1,s1⟩:=shl_word (r:=r) (lb1_in z) hr2
 obtain ⟨t2,u2,ht2,hu2,U2,a2,b2,d2,s2⟩:=shl_word (r:=r) (lb2_in z) hr2
 obtain ⟨t3,u3,ht3,hu3,U3,a3,b3,d3,s3⟩:=shl_word (r:=r) (lb3_in z) hr2
 have S:=shl_words s0 s1 s2 s3
 rw [e] at S
 have hp:=pow63 hr2
 obtain ⟨-,o1,V1⟩:=or_add r (⟨a0,by omega⟩:U64 u0) U1 b0 d1
 obtain ⟨-,o2,V2⟩:=or_add r (⟨a1,by omega⟩:U64 u1) U2 b1 d2
 obtain ⟨-,o3,V3⟩:=or_add r (⟨a2,by omega⟩:U64 u2) U3 b2 d3
 rw [Int.add_comm t1 u0,Int.add_comm t2 u1,Int.add_comm t3 u2] at S
 have hR:=shl0 S a3 ⟨U0,V1,V2,V3⟩ hf
 have hM:=mg_me (U0) (V1) (V2) (V3)
 rw [hR] at hM
 rw [← hM]
 have hq:n / 64 = 0:=by omega
 have hm:n % 64 = (r:Int):=by omega
 have h64:((64:Int) - r).toNat = 64 - r:=by omega
 have h0:0≤n:=by omega
 generalize lb0 z = x0 at *
 generalize lb1 z = x1 at *
 generalize lb2 z = x2 at *
 generalize lb3 z = x3 at *
 clear hM hR S e hf h hn s0 s1 s2 s3 a0 a1 a2 a3 b0 b1 b2 b3 d0 d1 d2 d3 U0 U1 U2 U3 V1 V2 V3 hp
 refine known_of (enter Try.func184 wide_left.ok (args:=[MG x0 x1 x2 x3,.int .i64 n]) (by simp) ?_)
 repeat' (first | simp (disch:=omega) only [sxE,wide_left.E,Nat.reduceAdd,Nat.reduceEqDiff,Nat.reduceMul,Nat.reduceSub,Int.reduceAdd,Int.reduceSub,Int.reduceMul,Int.reduceNeg,Int.reduceLT,Int.reduceLE,Int.reduceEq,Int.reduceToNat,↓reduceIte,Int.reducePow,Nat.reduceLeDiff,Nat.reduceLT,ne_eq,eq_self,List.length_cons,List.length_nil,hq,hm,h64,ht0,ht1,ht2,ht3,hu0,hu1,hu2,hu3,o1,o2,o3] | (rw [wide_left.p2_l]) | (with_reducible apply LX_round) | (with_reducible refine cregF ?_))
set_option maxRecDepth 100000 in
theorem left_0z {z n:Int} (h:A4 z) (hn:n = 64 * 0) (hf:z < 115792089237316195423570985008687907853269984665640564039457584007913129639936) (w:World) :
  Calls Try.prog 184 #[ME z,.int .i64 n] w fun e w'=>e = .returned (ME (z))∧Below w.heap.size w w':=by
 show Calls _ _ #[MG (lb0 z) (lb1 z) (lb2 z) (lb3 z),_] _ _
 have e:=mv_me h
 have U0:=lb0_in z
 have U1:=lb1_in z
 have U2:=lb2_in z
 have U3:=lb3_in z
 have hR:=shl0 (e:=0) (by rw [e]; omega:z = MV (lb0 z) (lb1 z) (lb2 z) (lb3 z) + _ * 0) (Int.le_refl 0) ⟨U0,U1,U2,U3⟩ hf
 have hM:=mg_me (U0) (U1) (U2) (U3)
 rw [hR] at hM
 rw [← hM]
 have hq:n / 64 = 0:=by omega
 have hm:n % 64 = 0:=by omega
 have h0:0≤n:=by omega
 generalize lb0 z = x0 at *
 generalize lb1 z = x1 at *
 generalize lb2 z = x2 at *
 generalize lb3 z = x3 at *
 clear hM hR e hf h hn
 obtain ⟨g0,l0⟩:=U0
 obtain ⟨g1,l1⟩:=U1
 obtain ⟨g2,l2⟩:=U2
 obtain ⟨g3,l3⟩:=U3
 refine known_of (enter Try.func184 wide_left.ok (args:=[MG x0 x1 x2 x3,.int .i64 n]) (by simp) ?_)
 repeat' (first | simp (disch:=omega) only [sxE,wide_left.E,Nat.reduceAdd,Nat.reduceEqDiff,Nat.reduceMul,Nat.reduceSub,Int.reduceAdd,Int.reduceSub,Int.reduceMul,Int.reduceNeg,Int.reduceLT,Int.reduceLE,Int.reduceEq,Int.reduceToNat,↓reduceIte,Int.reducePow,Nat.reduceLeDiff,Nat.reduceLT,ne_eq,eq_self,List.length_cons,List.length_nil,hq,hm,Int.mul_one,Int.pow_zero,Int.toNat_zero] | (rw [wide_left.p2_l]) | (with_reducible apply LX_round) | (with_reducible refine cregF ?_))
set_option maxRecDepth 100000 in
theorem left_1 {z n:Int} {r:Nat} (h:A4 z) (hr:0 < r) (hr2:r < 64) (hn:n = 64 * 1 + r) (hf:z * 2 ^ r * 18446744073709551616 < 115792089237316195423570985008687907853269984665640564039457584007913129639936) (w:World) :
  Calls Try.prog 184 #[ME z,.int .i64 n] w fun e w'=>e = .returned (ME (z * 2 ^ r * 18446744073709551616))∧Below w.heap.size w w':=by
 show Calls _ _ #[MG (lb0 z) (lb1 z) (lb2 z) (lb3 z),_] _ _
 have e:=mv_me h
 obtain ⟨t0,u0,ht0,hu0,U0,a0,b0,d0,s0⟩:=shl_word (r:=r) (lb0_in z) hr2
 obtain ⟨t1,u1,ht1,hu1,U1,a1,b1,d1,s1⟩:=shl_word (r:=r) (lb1_in z) hr2
 obtain ⟨t2,u2,ht2,hu2,U2,a2,b2,d2,s2⟩:=shl_word (r:=r) (lb2_in z) hr2
 obtain ⟨t3,u3,ht3,hu3,U3,a3,b3,d3,s3⟩:=shl_word (r:=r) (lb3_in z) hr2
 have S:=shl_words s0 s1 s2 s3
 rw [e] at S
 have hp:=pow63 hr2
 obtain ⟨-,o1,V1⟩:=or_add r (⟨a0,by omega⟩:U64 u0) U1 b0 d1
 obtain ⟨-,o2,V2⟩:=or_add r (⟨a1,by omega⟩:U64 u1) U2 b1 d2
 obtain ⟨-,o3,V3⟩:=or_add r (⟨a2,by omega⟩:U64 u2) U3 b2 d3
 rw [Int.add_comm t1 u0,Int.add_comm t2 u1,Int.add_comm t3 u2] at S
 have hR:=shl1 S a3 ⟨U0,V1,V2,V3⟩ hf
 have hM:=mg_me (U64.zero) (U0) (V1) (V2)
 rw [hR] at hM
 rw [← hM]
 have hq:n / 64 = 1:=by omega
 have hm:n % 64 = (r:Int):=by omega
 have h64:((64:Int) - r).toNat = 64 - r:=by omega
 have h0:0≤n:=by omega
 generalize lb0 z = x0 at *
 generalize lb1 z = x1 at *
 generalize lb2 z = x2 at *
 generalize lb3 z = x3 at *
 clear hM hR S e hf h hn s0 s1 s2 s3 a0 a1 a2 a3 b0 b1 b2 b3 d0 d1 d2 d3 U0 U1 U2 U3 V1 V2 V3 hp
 refine known_of (enter Try.func184 wide_left.ok (args:=[MG x0 x1 x2 x3,.int .i64 n]) (by simp) ?_)
 repeat' (first | simp (disch:=omega) only [sxE,wide_left.E,Nat.reduceAdd,Nat.reduceEqDiff,Nat.reduceMul,Nat.reduceSub,Int.reduceAdd,Int.reduceSub,Int.reduceMul,Int.reduceNeg,Int.reduceLT,Int.reduceLE,Int.reduceEq,Int.reduceToNat,↓reduceIte,Int.reducePow,Nat.reduceLeDiff,Nat.reduceLT,ne_eq,eq_self,List.length_cons,List.length_nil,hq,hm,h64,ht0,ht1,ht2,ht3,hu0,hu1,hu2,hu3,o1,o2,o3] | (rw [wide_left.p2_l]) | (with_reducible apply LX_round) | (with_reducible refine cregF ?_))
set_option maxRecDepth 100000 in
theorem left_1z {z n:Int} (h:A4 z) (hn:n = 64 * 1) (hf:z * 18446744073709551616 < 115792089237316195423570985008687907853269984665640564039457584007913129639936) (w:World) :
  Calls Try.prog 184 #[ME z,.int .i64 n] w fun e w'=>e = .returned (ME (z * 18446744073709551616))∧Below w.heap.size w w':=by
 show Calls _ _ #[MG (lb0 z) (lb1 z) (lb2 z) (lb3 z),_] _ _
 have e:=mv_me h
 have U0:=lb0_in z
 have U1:=lb1_in z
 have U2:=lb2_in z
 have U3:=lb3_in z
 have hR:=shl1 (e:=0) (by rw [e]; omega:z = MV (lb0 z) (lb1 z) (lb2 z) (lb3 z) + _ * 0) (Int.le_refl 0) ⟨U0,U1,U2,U3⟩ hf
 have hM:=mg_me (U64.zero) (U0) (U1) (U2)
 rw [hR] at hM
 rw [← hM]
 have hq:n / 64 = 1:=by omega
 have hm:n % 64 = 0:=by omega
 have h0:0≤n:=by omega
 generalize lb0 z = x0 at *
 generalize lb1 z = x1 at *
 generalize lb2 z = x2 at *
 generalize lb3 z = x3 at *
 clear hM hR e hf h hn
 obtain ⟨g0,l0⟩:=U0
 obtain ⟨g1,l1⟩:=U1
 obtain ⟨g2,l2⟩:=U2
 obtain ⟨g3,l3⟩:=U3
 refine known_of (enter Try.func184 wide_left.ok (args:=[MG x0 x1 x2 x3,.int .i64 n]) (by simp) ?_)
 repeat' (first | simp (disch:=omega) only [sxE,wide_left.E,Nat.reduceAdd,Nat.reduceEqDiff,Nat.reduceMul,Nat.reduceSub,Int.reduceAdd,Int.reduceSub,Int.reduceMul,Int.reduceNeg,Int.reduceLT,Int.reduceLE,Int.reduceEq,Int.reduceToNat,↓reduceIte,Int.reducePow,Nat.reduceLeDiff,Nat.reduceLT,ne_eq,eq_self,List.length_cons,List.length_nil,hq,hm,Int.mul_one,Int.pow_zero,Int.toNat_zero] | (rw [wide_left.p2_l]) | (with_reducible apply LX_round) | (with_reducible refine cregF ?_))
set_option maxRecDepth 100000 in
theorem left_2 {z n:Int} {r:Nat} (h:A4 z) (hr:0 < r) (hr2:r < 64) (hn:n = 64 * 2 + r) (hf:z * 2 ^ r * 340282366920938463463374607431768211456 < 115792089237316195423570985008687907853269984665640564039457584007913129639936) (w:World) :
  Calls Try.prog 184 #[ME z,.int .i64 n] w fun e w'=>e = .returned (ME (z * 2 ^ r * 340282366920938463463374607431768211456))∧Below w.heap.size w w':=by
 show Calls _ _ #[MG (lb0 z) (lb1 z) (lb2 z) (lb3 z),_] _ _
 have e:=mv_me h
 obtain ⟨t0,u0,ht0,hu0,U0,a0,b0,d0,s0⟩:=shl_word (r:=r) (lb0_in z) hr2
 obtain ⟨t1,u1,ht1,hu1,U1,a1,b1,d1,s1⟩:=shl_word (r:=r) (lb1_in z) hr2
 obtain ⟨t2,u2,ht2,hu2,U2,a2,b2,d2,s2⟩:=shl_word (r:=r) (lb2_in z) hr2
 obtain ⟨t3,u3,ht3,hu3,U3,a3,b3,d3,s3⟩:=shl_word (r:=r) (lb3_in z) hr2
 have S:=shl_words s0 s1 s2 s3
 rw [e] at S
 have hp:=pow63 hr2
 obtain ⟨-,o1,V1⟩:=or_add r (⟨a0,by omega⟩:U64 u0) U1 b0 d1
 obtain ⟨-,o2,V2⟩:=or_add r (⟨a1,by omega⟩:U64 u1) U2 b1 d2
 obtain ⟨-,o3,V3⟩:=or_add r (⟨a2,by omega⟩:U64 u2) U3 b2 d3
 rw [Int.add_comm t1 u0,Int.add_comm t2 u1,Int.add_comm t3 u2] at S
 have hR:=shl2 S a3 ⟨U0,V1,V2,V3⟩ hf
 have hM:=mg_me (U64.zero) (U64.zero) (U0) (V1)
 rw [hR] at hM
 rw [← hM]
 have hq:n / 64 = 2:=by omega
 have hm:n % 64 = (r:Int):=by omega
 have h64:((64:Int) - r).toNat = 64 - r:=by omega
 have h0:0≤n:=by omega
 generalize lb0 z = x0 at *
 generalize lb1 z = x1 at *
 generalize lb2 z = x2 at *
 generalize lb3 z = x3 at *
 clear hM hR S e hf h hn s0 s1 s2 s3 a0 a1 a2 a3 b0 b1 b2 b3 d0 d1 d2 d3 U0 U1 U2 U3 V1 V2 V3 hp
 refine known_of (enter Try.func184 wide_left.ok (args:=[MG x0 x1 x2 x3,.int .i64 n]) (by simp) ?_)
 repeat' (first | simp (disch:=omega) only [sxE,wide_left.E,Nat.reduceAdd,Nat.reduceEqDiff,Nat.reduceMul,Nat.reduceSub,Int.reduceAdd,Int.reduceSub,Int.reduceMul,Int.reduceNeg,Int.reduceLT,Int.reduceLE,Int.reduceEq,Int.reduceToNat,↓reduceIte,Int.reducePow,Nat.reduceLeDiff,Nat.reduceLT,ne_eq,eq_self,List.length_cons,List.length_nil,hq,hm,h64,ht0,ht1,ht2,ht3,hu0,hu1,hu2,hu3,o1,o2,o3] | (rw [wide_left.p2_l]) | (with_reducible apply LX_round) | (with_reducible refine cregF ?_))
set_option maxRecDepth 100000 in
theorem left_2z {z n:Int} (h:A4 z) (hn:n = 64 * 2) (hf:z * 340282366920938463463374607431768211456 < 115792089237316195423570985008687907853269984665640564039457584007913129639936) (w:World) :
  Calls Try.prog 184 #[ME z,.int .i64 n] w fun e w'=>e = .returned (ME (z * 340282366920938463463374607431768211456))∧Below w.heap.size w w':=by
 show Calls _ _ #[MG (lb0 z) (lb1 z) (lb2 z) (lb3 z),_] _ _
 have e:=mv_me h
 have U0:=lb0_in z
 have U1:=lb1_in z
 have U2:=lb2_in z
 have U3:=lb3_in z
 have hR:=shl2 (e:=0) (by rw [e]; omega:z = MV (lb0 z) (lb1 z) (lb2 z) (lb3 z) + _ * 0) (Int.le_refl 0) ⟨U0,U1,U2,U3⟩ hf
 have hM:=mg_me (U64.zero) (U64.zero) (U0) (U1)
 rw [hR] at hM
 rw [← hM]
 have hq:n / 64 = 2:=by omega
 have hm:n % 64 = 0:=by omega
 have h0:0≤n:=by omega
 generalize lb0 z = x0 at *
 generalize lb1 z = x1 at *
 generalize lb2 z = x2 at *
 generalize lb3 z = x3 at *
 clear hM hR e hf h hn
 obtain ⟨g0,l0⟩:=U0
 obtain ⟨g1,l1⟩:=U1
 obtain ⟨g2,l2⟩:=U2
 obtain ⟨g3,l3⟩:=U3
 refine known_of (enter Try.func184 wide_left.ok (args:=[MG x0 x1 x2 x3,.int .i64 n]) (by simp) ?_)
 repeat' (first | simp (disch:=omega) only [sxE,wide_left.E,Nat.reduceAdd,Nat.reduceEqDiff,Nat.reduceMul,Nat.reduceSub,Int.reduceAdd,Int.reduceSub,Int.reduceMul,Int.reduceNeg,Int.reduceLT,Int.reduceLE,Int.reduceEq,Int.reduceToNat,↓reduceIte,Int.reducePow,Nat.reduceLeDiff,Nat.reduceLT,ne_eq,eq_self,List.length_cons,List.length_nil,hq,hm,Int.mul_one,Int.pow_zero,Int.toNat_zero] | (rw [wide_left.p2_l]) | (with_reducible apply LX_round) | (with_reducible refine cregF ?_))
set_option maxRecDepth 100000 in
theorem left_3 {z n:Int} {r:Nat} (h:A4 z) (hr:0 < r) (hr2:r < 64) (hn:n = 64 * 3 + r) (hf:z * 2 ^ r * 6277101735386680763835789423207666416102355444464034512896 < 115792089237316195423570985008687907853269984665640564039457584007913129639936) (w:World) :
  Calls Try.prog 184 #[ME z,.int .i64 n] w fun e w'=>e = .returned (ME (z * 2 ^ r * 6277101735386680763835789423207666416102355444464034512896))∧Below w.heap.size w w':=by
 show Calls _ _ #[MG (lb0 z) (lb1 z) (lb2 z) (lb3 z),_] _ _
 have e:=mv_me h
 obtain ⟨t0,u0,ht0,hu0,U0,a0,b0,d0,s0⟩:=shl_word (r:=r) (lb0_in z) hr2
 obtain ⟨t1,u1,ht1,hu1,U1,a1,b1,d1,s1⟩:=shl_word (r:=r) (lb1_in z) hr2
 obtain ⟨t2,u2,ht2,hu2,U2,a2,b2,d2,s2⟩:=shl_word (r:=r) (lb2_in z) hr2
 obtain ⟨t3,u3,ht3,hu3,U3,a3,b3,d3,s3⟩:=shl_word (r:=r) (lb3_in z) hr2
 have S:=shl_words s0 s1 s2 s3
 rw [e] at S
 have hp:=pow63 hr2
 obtain ⟨-,o1,V1⟩:=or_add r (⟨a0,by omega⟩:U64 u0) U1 b0 d1
 obtain ⟨-,o2,V2⟩:=or_add r (⟨a1,by omega⟩:U64 u1) U2 b1 d2
 obtain ⟨-,o3,V3⟩:=or_add r (⟨a2,by omega⟩:U64 u2) U3 b2 d3
 rw [Int.add_comm t1 u0,Int.add_comm t2 u1,Int.add_comm t3 u2] at S
 have hR:=shl3 S a3 ⟨U0,V1,V2,V3⟩ hf
 have hM:=mg_me (U64.zero) (U64.zero) (U64.zero) (U0)
 rw [hR] at hM
 rw [← hM]
 have hq:n / 64 = 3:=by omega
 have hm:n % 64 = (r:Int):=by omega
 have h64:((64:Int) - r).toNat = 64 - r:=by omega
 have h0:0≤n:=by omega
 generalize lb0 z = x0 at *
 generalize lb1 z = x1 at *
 generalize lb2 z = x2 at *
 generalize lb3 z = x3 at *
 clear hM hR S e hf h hn s0 s1 s2 s3 a0 a1 a2 a3 b0 b1 b2 b3 d0 d1 d2 d3 U0 U1 U2 U3 V1 V2 V3 hp
 refine known_of (enter Try.func184 wide_left.ok (args:=[MG x0 x1 x2 x3,.int .i64 n]) (by simp) ?_)
 repeat' (first | simp (disch:=omega) only [sxE,wide_left.E,Nat.reduceAdd,Nat.reduceEqDiff,Nat.reduceMul,Nat.reduceSub,Int.reduceAdd,Int.reduceSub,Int.reduceMul,Int.reduceNeg,Int.reduceLT,Int.reduceLE,Int.reduceEq,Int.reduceToNat,↓reduceIte,Int.reducePow,Nat.reduceLeDiff,Nat.reduceLT,ne_eq,eq_self,List.length_cons,List.length_nil,hq,hm,h64,ht0,ht1,ht2,ht3,hu0,hu1,hu2,hu3,o1,o2,o3] | (rw [wide_left.p2_l]) | (with_reducible apply LX_round) | (with_reducible refine cregF ?_))
set_option maxRecDepth 100000 in
theorem left_3z {z n:Int} (h:A4 z) (hn:n = 64 * 3) (hf:z * 6277101735386680763835789423207666416102355444464034512896 < 115792089237316195423570985008687907853269984665640564039457584007913129639936) (w:World) :
  Calls Try.prog 184 #[ME z,.int .i64 n] w fun e w'=>e = .returned (ME (z * 6277101735386680763835789423207666416102355444464034512896))∧Below w.heap.size w w':=by
 show Calls _ _ #[MG (lb0 z) (lb1 z) (lb2 z) (lb3 z),_] _ _
 have e:=mv_me h
 have U0:=lb0_in z
 have U1:=lb1_in z
 have U2:=lb2_in z
 have U3:=lb3_in z
 have hR:=shl3 (e:=0) (by rw [e]; omega:z = MV (lb0 z) (lb1 z) (lb2 z) (lb3 z) + _ * 0) (Int.le_refl 0) ⟨U0,U1,U2,U3⟩ hf
 have hM:=mg_me (U64.zero) (U64.zero) (U64.zero) (U0)
 rw [hR] at hM
 rw [← hM]
 have hq:n / 64 = 3:=by omega
 have hm:n % 64 = 0:=by omega
 have h0:0≤n:=by omega
 generalize lb0 z = x0 at *
 generalize lb1 z = x1 at *
 generalize lb2 z = x2 at *
 generalize lb3 z = x3 at *
 clear hM hR e hf h hn
 obtain ⟨g0,l0⟩:=U0
 obtain ⟨g1,l1⟩:=U1
 obtain ⟨g2,l2⟩:=U2
 obtain ⟨g3,l3⟩:=U3
 refine known_of (enter Try.func184 wide_left.ok (args:=[MG x0 x1 x2 x3,.int .i64 n]) (by simp) ?_)
 repeat' (first | simp (disch:=omega) only [sxE,wide_left.E,Nat.reduceAdd,Nat.reduceEqDiff,Nat.reduceMul,Nat.reduceSub,Int.reduceAdd,Int.reduceSub,Int.reduceMul,Int.reduceNeg,Int.reduceLT,Int.reduceLE,Int.reduceEq,Int.reduceToNat,↓reduceIte,Int.reducePow,Nat.reduceLeDiff,Nat.reduceLT,ne_eq,eq_self,List.length_cons,List.length_nil,hq,hm,Int.mul_one,Int.pow_zero,Int.toNat_zero] | (rw [wide_left.p2_l]) | (with_reducible apply LX_round) | (with_reducible refine cregF ?_))
theorem g_left {z:Int} {n:Nat} (h:A4 z) (hf:A4 (z * 2 ^ n)) (hn:n < 256) (W:World):Gives Try.prog 184 [ME z,.int .i64 (n:Int)] W (· = ME (z * 2 ^ n)):=by
 refine gives_known en_wide_left ?_
 obtain ⟨q,r,hq,hr,e⟩:∃ q r:Nat,q < 4∧r < 64∧n = 64 * q + r:=⟨n / 64,n % 64,by omega,by omega,by omega⟩
 have hp:=pow_split q r
 have e2:z * 2 ^ n = z * 2 ^ r * 18446744073709551616 ^ q:=by rw [e,hp,Int.mul_assoc]
 have hf2:=hf.2
 rw [e2] at hf2 ⊢
 rcases Nat.eq_zero_or_pos r with h0 | h0
 ·subst h0
  rw [Int.pow_zero,Int.mul_one] at hf2 ⊢
  rcases q with _ | _ | _ | _ | q
  ·rw [Int.pow_zero,Int.mul_one] at hf2 ⊢; exact left_0z h (by omega) hf2 W
  ·rw [show (18446744073709551616:Int) ^ (0 + 1) = 18446744073709551616 from rfl] at hf2 ⊢; exact left_1z h (by omega) hf2 W
  ·rw [show (18446744073709551616:Int) ^ (0 + 1 + 1) = 340282366920938463463374607431768211456 from rfl] at hf2 ⊢; exact left_2z h (by omega) hf2 W
  ·rw [show (18446744073709551616:Int) ^ (0 + 1 + 1 + 1) = 6277101735386680763835789423207666416102355444464034512896 from rfl] at hf2 ⊢; exact left_3z h (by omega) hf2 W
  ·omega
 ·rcases q with _ | _ | _ | _ | q
  ·rw [Int.pow_zero,Int.mul_one] at hf2 ⊢; exact left_0 h h0 hr (by omega) hf2 W
  ·rw [show (18446744073709551616:Int) ^ (0 + 1) = 18446744073709551616 from rfl] at hf2 ⊢; exact left_1 h h0 hr (by omega) hf2 W
  ·rw [show (18446744073709551616:Int) ^ (0 + 1 + 1) = 340282366920938463463374607431768211456 from rfl] at hf2 ⊢; exact left_2 h h0 hr (by omega) hf2 W
  ·rw [show (18446744073709551616:Int) ^ (0 + 1 + 1 + 1) = 6277101735386680763835789423207666416102355444464034512896 from rfl] at hf2 ⊢; exact left_3 h h0 hr (by omega) hf2 W
  ·omega
end Go.Proofs.Ytncmmbacoknefaa

/- Gf: What a call of the program's division of absolute values gives; DivMod. -/
namespace Go.Proofs.Ytncmmbacoknefaa
open Go Go.RowKit Sx
set_option linter.unusedVariables false
set_option linter.unusedSimpArgs false
theorem g_wcompare_me {z y:Int} (h:A4 z) (h':A4 y) (W:World):Gives Try.prog 141 [ME z,ME y] W (· = .int .i64 (cm z y)):=by
 have e:=cm4_mv (a3:=lb3 z) (b3:=lb3 y) (lb0_in z) (lb1_in z) (lb2_in z) (lb0_in y) (lb1_in y) (lb2_in y)
 rw [mv_me h,mv_me h'] at e
 rw [← e]
 exact g_wcompare _ _ _ _ _ _ _ _ W
theorem g_wsub_me {z y:Int} (h:A4 z) (h':A4 y) (W:World):Gives Try.prog 142 [ME z,ME y] W (· = ME (z - y)):=by
 have e:=wsub_any (lb0 z) (lb1 z) (lb2 z) (lb3 z) (lb0 y) (lb1 y) (lb2 y) (lb3 y) (lb0_in z) (lb1_in z) (lb2_in z) (lb3_in z) (lb0_in y) (lb1_in y) (lb2_in y) (lb3_in y) W
 rw [mv_me h,mv_me h'] at e
 exact gives_known en_wide_sub e
theorem bit_words {q:Int} {k w j:Nat} (hk:k = 64 * w + j) (hj:j < 64) (hw:w < 4) (hq:A4 q) (hd:(2 ^ (k + 1):Int) ∣ q) (hs:A4 (q + 2 ^ k)) :
  let g:=fun x:Int=>IntKind.u64.wrap ((BitVec.ofInt IntKind.u64.bits x ||| BitVec.ofInt IntKind.u64.bits (2 ^ j)).toNat:Int)
  (w = 0→lb0 (q + 2 ^ k) = g (lb0 q)∧lb1 (q + 2 ^ k) = lb1 q∧lb2 (q + 2 ^ k) = lb2 q∧lb3 (q + 2 ^ k) = lb3 q)∧(w = 1→lb0 (q + 2 ^ k) = lb0 q∧lb1 (q + 2 ^ k) = g (lb1 q)∧lb2 (q + 2 ^ k) = lb2 q∧lb3 (q + 2 ^ k) = lb3 q) ∧
  (w = 2→lb0 (q + 2 ^ k) = lb0 q∧lb1 (q + 2 ^ k) = lb1 q∧lb2 (q + 2 ^ k) = g (lb2 q)∧lb3 (q + 2 ^ k) = lb3 q)∧(w = 3→lb0 (q + 2 ^ k) = lb0 q∧lb1 (q + 2 ^ k) = lb1 q∧lb2 (q + 2 ^ k) = lb2 q∧lb3 (q + 2 ^ k) = g (lb3 q)):=by
 intro g
 have hg:∀ x:Int,U64 x→(2 ^ (j + 1):Int) ∣ x→g x = x + 2 ^ j∧U64 (x + 2 ^ j):=fun x hx hd=>by
  have hp:=pow63 hj
  have h0:(0:Int) < 2 ^ j:=Int.pow_pos (by decide)
  obtain ⟨a,b,c⟩:=or_add (j + 1) (⟨by omega,by omega⟩:U64 ((2:Int) ^ j)) hx (by rw [Int.pow_succ]; omega) hd
  refine ⟨?_,?_⟩
  ·show IntKind.u64.wrap _ = _
   rw [b]; omega
  ·rw [Int.add_comm]; exact c
 have hm:=mv_me hq
 have h0:=lb0_in q
 have h1:=lb1_in q
 have h2:=lb2_in q
 have h3:=lb3_in q
 have p3:(2 ^ (64 * 3):Int) = 6277101735386680763835789423207666416102355444464034512896:=rfl
 have p2:(2 ^ (64 * 2):Int) = 340282366920938463463374607431768211456:=rfl
 have p1:(2 ^ (64 * 1):Int) = 18446744073709551616:=rfl
 have p0:(2 ^ (64 * 0):Int) = 1:=rfl
 obtain ⟨a0,a1⟩:=id h0
 obtain ⟨b0,b1⟩:=id h1
 obtain ⟨c0,c1⟩:=id h2
 have hsp:(2 ^ k:Int) = 2 ^ (64 * w) * 2 ^ j:=by rw [hk,Int.pow_add]
 generalize lb0 q = a at *
 generalize lb1 q = b at *
 generalize lb2 q = c at *
 generalize lb3 q = d at *
 unfold MV at hm
 refine ⟨fun e=>?_,fun e=>?_,fun e=>?_,fun e=>?_⟩
 ·subst e
  obtain ⟨e1,e2⟩:=hg a h0 (word_dvd (q:=q) (w:=0) (lo:=0) (hi:=b + 18446744073709551616 * (c + 18446744073709551616 * d)) hj (by rw [p0]; omega) (by omega) (by rw [p0]; omega) (by rw [← hk]; exact hd))
  have e3:q + 2 ^ k = MV (a + 2 ^ j) b c d:=by unfold MV; rw [hsp,p0]; omega
  rw [e1,e3,lb0_mv _ _ _ e2,lb1_mv _ _ e2 h1,lb2_mv _ e2 h1 h2,lb3_mv e2 h1 h2 h3]
  exact ⟨rfl,rfl,rfl,rfl⟩
 ·subst e
  obtain ⟨e1,e2⟩:=hg b h1 (word_dvd (q:=q) (w:=1) (lo:=a) (hi:=c + 18446744073709551616 * d) hj (by rw [p1]; omega) (by omega) (by rw [p1]; omega) (by rw [← hk]; exact hd))
  have e3:q + 2 ^ k = MV a (b + 2 ^ j) c d:=by unfold MV; rw [hsp,p1]; omega
  rw [e1,e3,lb0_mv _ _ _ h0,lb1_mv _ _ h0 e2,lb2_mv _ h0 e2 h2,lb3_mv h0 e2 h2 h3]
  exact ⟨rfl,rfl,rfl,rfl⟩
 ·subst e
  obtain ⟨e1,e2⟩:=hg c h2 (word_dvd (q:=q) (w:=2) (lo:=a + 18446744073709551616 * b) (hi:=d) hj (by rw [p2]; omega) (by omega) (by rw [p2]; omega) (by rw [← hk]; exact hd))
  have e3:q + 2 ^ k = MV a b (c + 2 ^ j) d:=by unfold MV; rw [hsp,p2]; omega
  rw [e1,e3,lb0_mv _ _ _ h0,lb1_mv _ _ h0 h1,lb2_mv _ h0 h1 e2,lb3_mv h0 h1 e2 h3]
  exact ⟨rfl,rfl,rfl,rfl⟩
 ·subst e
  obtain ⟨e1,e2⟩:=hg d h3 (word_dvd (q:=q) (w:=3) (lo:=a + 18446744073709551616 * (b + 18446744073709551616 * c)) (hi:=0) hj (by rw [p3]; omega) (by omega) (by rw [p3]; omega) (by rw [← hk]; exact hd))
  have e3:q + 2 ^ k = MV a b c (d + 2 ^ j):=by unfold MV; rw [hsp,p3]; omega
  rw [e1,e3,lb0_mv _ _ _ h0,lb1_mv _ _ h0 h1,lb2_mv _ h0 h1 h2,lb3_mv h0 h1 h2 e2]
  exact ⟨rfl,rfl,rfl,rfl⟩
theorem a4_zero:A4 0:=⟨by decide,by decide⟩
abbrev W4 (z:Int):List Value:=[.int .u64 (lb0 z),.int .u64 (lb1 z),.int .u64 (lb2 z),.int .u64 (lb3 z)]
def dvF (x:Int × Int × Int × Nat):St:=⟨5,[(2,.p 0 0),(4,.p 2 0),(5,.p 3 0),(6,.v (.int .i64 ((x.2.2.2:Int) - 1))),(7,.p 4 0)],[(4,W4 x.2.2.1),(3,[.int .u64 0,.int .u64 0,.int .u64 0,.int .u64 0]),(2,W4 x.2.1),(0,W4 x.1)],ext0⟩
set_option maxRecDepth 100000 in
theorem div_any {a b:Int} (ha:A4 a) (hb:A4 b) (hb0:0 < b) (w:World):Calls Try.prog 173 #[ME a,ME b] w fun e w'=>e = .returned (.tuple #[ME (a / b),ME (a % b)])∧Below w.heap.size w w':=by
 have l1:=bl_256 ha
 have l2:=bl_256 hb
 by_cases hlen:bl a < bl b
 ·obtain ⟨e1,e2⟩:=dv_small ha.1 hb0 hlen
  rw [e1,e2]
  refine known_of (enter Try.func173 wide_div.ok (args:=[ME a,ME b]) (by simp) ?_)
  repeat' (first | simp (disch:=omega) only [sxE,wide_div.E,Nat.reduceAdd,Nat.reduceEqDiff,Nat.reduceMul,Nat.reduceSub,Int.reduceAdd,Int.reduceSub,Int.reduceMul,Int.reduceNeg,Int.reduceLT,Int.reduceLE,Int.reduceEq,Int.reduceToNat,↓reduceIte,Int.reducePow,Nat.reduceLeDiff,Nat.reduceLT,ne_eq,eq_self,List.length_cons,List.length_nil] | (with_reducible refine Sx.call_at (f:=183) (fun W hW=>g_length (by assumption) W) ?_) | (with_reducible refine cregF ?_))
  rfl
 ·have hst:=dv_start ha.1 hb0 (by omega)
  have hfit:=dv_fit (m:=0) ha hb hb0 (by omega)
  have hsub:IntKind.i64.wrap ((bl a:Int) - (bl b:Int)) = ((bl a - bl b:Nat):Int):=by rw [s_wi _ (by omega) (by omega)]; omega
  have hn:bl a - bl b < 256:=pow256 hb0 hfit
  generalize bl a - bl b = N at *
  clear hlen l1 l2
  refine known_of (enter Try.func173 wide_div.ok (args:=[ME a,ME b]) (by simp) ?_)
  repeat' (first | simp (disch:=omega) only [sxE,wide_div.E,Nat.reduceAdd,Nat.reduceEqDiff,Nat.reduceMul,Nat.reduceSub,Int.reduceAdd,Int.reduceSub,Int.reduceMul,Int.reduceNeg,Int.reduceLT,Int.reduceLE,Int.reduceEq,Int.reduceToNat,↓reduceIte,Int.reducePow,Nat.reduceLeDiff,Nat.reduceLT,ne_eq,eq_self,List.length_cons,List.length_nil,hsub] | (with_reducible refine Sx.call_at (f:=183) (fun W hW=>g_length (by assumption) W) ?_) | (with_reducible refine Sx.call_at (f:=184) (fun W hW=>g_left (by assumption) hfit hn W) ?_) | (with_reducible refine cregF ?_))
  rw [wide_div.p2_l]
  refine LX_inv dvF (fun x=>DvI a b x.1 x.2.1 x.2.2.2∧(0 < x.2.2.2→x.2.2.1 = b * 2 ^ (x.2.2.2 - 1))∧A4 x.2.2.1∧A4 x.1∧A4 x.2.1) (fun x=>x.2.2.2) ?round (a,0,b * 2 ^ N,N + 1) ⟨hst,fun _=>rfl,hfit,ha,a4_zero⟩ ?start
  case start =>
   have hk:((N + 1:Nat):Int) - 1 = N:=by omega
   simp (disch:=omega) only [sxE,wide_div.E,Nat.reduceAdd,Nat.reduceEqDiff,Nat.reduceMul,Nat.reduceSub,Int.reduceAdd,Int.reduceSub,Int.reduceMul,Int.reduceNeg,Int.reduceLT,Int.reduceLE,Int.reduceEq,Int.reduceToNat,↓reduceIte,Int.reducePow,Nat.reduceLeDiff,Nat.reduceLT,ne_eq,eq_self,List.length_cons,List.length_nil,dvF,W4,hk,show lb0 0 = 0 from rfl,show lb1 0 = 0 from rfl,show lb2 0 = 0 from rfl,show lb3 0 = 0 from rfl]
  case round =>
   clear hst hfit hsub hn
   rintro ⟨r,q,D,k⟩ ⟨hI,hD,aD,ar,aq⟩
   dsimp only at hI hD aD ar aq ⊢
   rcases k with _ | k
   ·obtain ⟨e1,e2⟩:=dv_end hI hb0
    rw [← e1,← e2]
    clear e1 e2 hI hD
    unfold dvF
    repeat' (first | simp (disch:=omega) only [sxE,wide_div.E,Nat.reduceAdd,Nat.reduceEqDiff,Nat.reduceMul,Nat.reduceSub,Int.reduceAdd,Int.reduceSub,Int.reduceMul,Int.reduceNeg,Int.reduceLT,Int.reduceLE,Int.reduceEq,Int.reduceToNat,↓reduceIte,Int.reducePow,Nat.reduceLeDiff,Nat.reduceLT,ne_eq,eq_self,List.length_cons,List.length_nil] | (with_reducible refine cregF ?_))
   ·have hD':D = b * 2 ^ k:=hD (by omega)
    have hk:((k + 1:Nat):Int) - 1 = k:=by omega
    have hk2:k < 256:=pow256 hb0 (hD' ▸ aD)
    obtain ⟨st1,st2⟩:=dv_step hI hb0
    have aH:A4 (D / 2):=⟨by have:=aD.1; omega,by have:=aD.1; have:=aD.2; omega⟩
    have hH:0 < k→D / 2 = b * 2 ^ (k - 1):=fun h=>by
     obtain ⟨m,rfl⟩:∃ m,k = m + 1:=⟨k - 1,by omega⟩
     rw [hD',Int.pow_succ,← Int.mul_assoc,Nat.add_sub_cancel]; omega
    rw [← hD'] at st1 st2
    have hcm:=cm_ge r D
    by_cases hle:D≤r
    ·have hI2:=st1 hle
     have hc0:0≤cm r D:=hcm.2 hle
     have aR:A4 (r - D):=⟨by omega,by have:=ar.2; have:=aD.1; omega⟩
     have aQ:A4 (q + 2 ^ k):=by
      have h1:=hI2.eq
      have h2:=hI2.r0
      have h3:=hI2.q0
      have h4:=Int.mul_le_mul_of_nonneg_left (show (1:Int)≤b by omega) h3
      exact ⟨h3,by have:=ha.2; omega⟩
     obtain ⟨w',j,hw,hj,e⟩:∃ w' j:Nat,w' < 4∧j < 64∧k = 64 * w' + j:=⟨k / 64,k % 64,by omega,by omega,by omega⟩
     have BW:=bit_words e hj hw aq hI.dv aQ
     have hm:(k:Int) % 64 = (j:Nat):=by omega
     have p0:(0:Int) < 2 ^ j:=Int.pow_pos (by decide)
     have p1:=pow63 hj
     have hp2:IntKind.u64.wrap (2 ^ j) = 2 ^ j:=s_wu _ (by omega) (by omega)
     unfold dvF
     clear st1 st2 hcm hI hD hD' p0 p1
     rcases w' with _ | _ | _ | _ | w'
     ·have hq:(k:Int) / 64 = 0:=by omega
      obtain ⟨v0,v1,v2,v3⟩:=BW.1 rfl
      clear BW
      repeat' (first | simp (disch:=omega) only [sxE,wide_div.E,Nat.reduceAdd,Nat.reduceEqDiff,Nat.reduceMul,Nat.reduceSub,Int.reduceAdd,Int.reduceSub,Int.reduceMul,Int.reduceNeg,Int.reduceLT,Int.reduceLE,Int.reduceEq,Int.reduceToNat,↓reduceIte,Int.reducePow,Nat.reduceLeDiff,Nat.reduceLT,ne_eq,eq_self,List.length_cons,List.length_nil,hk,hq,hm,hp2,Int.one_mul] | (with_reducible refine Sx.call_at (f:=141) (fun W hW=>g_wcompare_me (by assumption) (by assumption) W) ?_) | (with_reducible refine Sx.call_at (f:=142) (fun W hW=>g_wsub_me (by assumption) (by assumption) W) ?_) | (with_reducible refine Sx.call_at (f:=185) (fun W hW=>g_halved (by assumption) W) ?_) | (with_reducible refine cregF ?_))
      exact ⟨(r - D,q + 2 ^ k,D / 2,k),⟨hI2,hH,aH,aR,aQ⟩,Nat.lt_succ_self _,rfl,rfl,by simp only [W4,v0,v1,v2,v3],rfl⟩
     ·have hq:(k:Int) / 64 = 1:=by omega
      obtain ⟨v0,v1,v2,v3⟩:=BW.2.1 rfl
      clear BW
      repeat' (first | simp (disch:=omega) only [sxE,wide_div.E,Nat.reduceAdd,Nat.reduceEqDiff,Nat.reduceMul,Nat.reduceSub,Int.reduceAdd,Int.reduceSub,Int.reduceMul,Int.reduceNeg,Int.reduceLT,Int.reduceLE,Int.reduceEq,Int.reduceToNat,↓reduceIte,Int.reducePow,Nat.reduceLeDiff,Nat.reduceLT,ne_eq,eq_self,List.length_cons,List.length_nil,hk,hq,hm,hp2,Int.one_mul] | (with_reducible refine Sx.call_at (f:=141) (fun W hW=>g_wcompare_me (by assumption) (by assumption) W) ?_) | (with_reducible refine Sx.call_at (f:=142) (fun W hW=>g_wsub_me (by assumption) (by assumption) W) ?_) | (with_reducible refine Sx.call_at (f:=185) (fun W hW=>g_halved (by assumption) W) ?_) | (with_reducible refine cregF ?_))
      exact ⟨(r - D,q + 2 ^ k,D / 2,k),⟨hI2,hH,aH,aR,aQ⟩,Nat.lt_succ_self _,rfl,rfl,by simp only [W4,v0,v1,v2,v3],rfl⟩
     ·have hq:(k:Int) / 64 = 2:=by omega
      obtain ⟨v0,v1,v2,v3⟩:=BW.2.2.1 rfl
      clear BW
      repeat' (first | simp (disch:=omega) only [sxE,wide_div.E,Nat.reduceAdd,Nat.reduceEqDiff,Nat.reduceMul,Nat.reduceSub,Int.reduceAdd,Int.reduceSub,Int.reduceMul,Int.reduceNeg,Int.reduceLT,Int.reduceLE,Int.reduceEq,Int.reduceToNat,↓reduceIte,Int.reducePow,Nat.reduceLeDiff,Nat.reduceLT,ne_eq,eq_self,List.length_cons,List.length_nil,hk,hq,hm,hp2,Int.one_mul] | (with_reducible refine Sx.call_at (f:=141) (fun W hW=>g_wcompare_me (by assumption) (by assumption) W) ?_) | (with_reducible refine Sx.call_at (f:=142) (fun W hW=>g_wsub_me (by assumption) (by assumption) W) ?_) | (with_reducible refine Sx.call_at (f:=185) (fun W hW=>g_halved (by assumption) W) ?_) | (with_reducible refine cregF ?_))
      exact ⟨(r - D,q + 2 ^ k,D / 2,k),⟨hI2,hH,aH,aR,aQ⟩,Nat.lt_succ_self _,rfl,rfl,by simp only [W4,v0,v1,v2,v3],rfl⟩
     ·have hq:(k:Int) / 64 = 3:=by omega
      obtain ⟨v0,v1,v2,v3⟩:=BW.2.2.2 rfl
      clear BW
      repeat' (first | simp (disch:=omega) only [sxE,wide_div.E,Nat.reduceAdd,Nat.reduceEqDiff,Nat.reduceMul,Nat.reduceSub,Int.reduceAdd,Int.reduceSub,Int.reduceMul,Int.reduceNeg,Int.reduceLT,Int.reduceLE,Int.reduceEq,Int.reduceToNat,↓reduceIte,Int.reducePow,Nat.reduceLeDiff,Nat.reduceLT,ne_eq,eq_self,List.length_cons,List.length_nil,hk,hq,hm,hp2,Int.one_mul] | (with_reducible refine Sx.call_at (f:=141) (fun W hW=>g_wcompare_me (by assumption) (by assumption) W) ?_) | (with_reducible refine Sx.call_at (f:=142) (fun W hW=>g_wsub_me (by assumption) (by assumption) W) ?_) | (with_reducible refine Sx.call_at (f:=185) (fun W hW=>g_halved (by assumption) W) ?_) | (with_reducible refine cregF ?_))
      exact ⟨(r - D,q + 2 ^ k,D / 2,k),⟨hI2,hH,aH,aR,aQ⟩,Nat.lt_succ_self _,rfl,rfl,by simp only [W4,v0,v1,v2,v3],rfl⟩
     ·omega
    ·have hI2:=st2 hle
     have hc0:¬ 0≤cm r D:=fun h=>hle (hcm.1 h)
     unfold dvF
     clear st1 st2 hcm hI hD hD'
     repeat' (first | simp (disch:=omega) only [sxE,wide_div.E,Nat.reduceAdd,Nat.reduceEqDiff,Nat.reduceMul,Nat.reduceSub,Int.reduceAdd,Int.reduceSub,Int.reduceMul,Int.reduceNeg,Int.reduceLT,Int.reduceLE,Int.reduceEq,Int.reduceToNat,↓reduceIte,Int.reducePow,Nat.reduceLeDiff,Nat.reduceLT,ne_eq,eq_self,List.length_cons,List.length_nil,hk] | (with_reducible refine Sx.call_at (f:=141) (fun W hW=>g_wcompare_me (by assumption) (by assumption) W) ?_) | (with_reducible refine Sx.call_at (f:=185) (fun W hW=>g_halved (by assumption) W) ?_) | (with_reducible refine cregF ?_))
     exact ⟨(r,q,D / 2,k),⟨hI2,hH,aH,ar,aq⟩,Nat.lt_succ_self _,rfl,rfl,rfl,rfl⟩
theorem g_div {a b:Int} (ha:A4 a) (hb:A4 b) (hb0:0 < b) (W:World):Gives Try.prog 173 [ME a,ME b] W (· = .tuple #[ME (a / b),ME (a % b)]):=gives_known en_wide_div (div_any ha hb hb0 W)
end Go.Proofs.Ytncmmbacoknefaa

/- Gg: What a call of the program's DivMod gives. -/
namespace Go.Proofs.Ytncmmbacoknefaa
open Go Go.RowKit Sx
set_option linter.unusedVariables false
set_option linter.unusedSimpArgs false
theorem IsW.me {v:Value} {z:Int} (h:IsW v z):∃ n m,v = WV n (lb0 m) (lb1 m) (lb2 m) (lb3 m)∧A4 m∧ab z = m∧z = sv n m∧(n && !mz (lb0 m) (lb1 m) (lb2 m) (lb3 m)) = decide (z < 0):=by
 obtain ⟨n,a,b,c,d,rfl,rfl,ha,hb,hc,hd⟩:=h
 refine ⟨n,MV a b c d,?_,a4_mv ha hb hc hd,ab_wv ha hb hc hd,?_,?_⟩
 ·rw [lb0_mv _ _ _ ha,lb1_mv _ _ ha hb,lb2_mv _ ha hb hc,lb3_mv ha hb hc hd]
 ·rfl
 ·rw [lb0_mv _ _ _ ha,lb1_mv _ _ ha hb,lb2_mv _ ha hb hc,lb3_mv ha hb hc hd]
  exact (sg_wv (n:=n) ha hb hc hd).symm
theorem mz_me {m:Int} (h:A4 m):mz (lb0 m) (lb1 m) (lb2 m) (lb3 m) = decide (m = 0):=by
 rw [Bool.eq_iff_iff,mz_iff (lb0_in m) (lb1_in m) (lb2_in m) (lb3_in m),mv_me h,decide_eq_true_iff]
theorem g_signed_me {n:Bool} {m:Int} (h:A4 m) (W:World):Gives Try.prog 140 [.bool n,ME m] W (· = WE (sv n m)):=by
 rw [← sv_signed h.1 (up4_a4 h)]
 exact g_signed n _ _ _ _ W
theorem g_wadd1 {m:Int} (h:A4 m) (W:World):Gives Try.prog 139 [ME m,MG 1 0 0 0] W (· = .tuple #[ME (m + 1),.int .u64 (up4 (m + 1))]):=by
 have e:=wadd_any (lb0 m) (lb1 m) (lb2 m) (lb3 m) 1 0 0 0 (lb0_in m) (lb1_in m) (lb2_in m) (lb3_in m) ⟨by decide,by decide⟩ ⟨by decide,by decide⟩ ⟨by decide,by decide⟩ ⟨by decide,by decide⟩ W
 rw [mv_me h,show MV 1 0 0 0 = 1 from rfl] at e
 exact gives_known en_wide_add e
theorem dm_plain {z y:Int} (hy:y≠0):(¬ z < 0∨ab z % ab y = 0→z / y = sv (decide (z < 0) != decide (y < 0)) (ab z / ab y)∧z % y = ab z % ab y) ∧
  (z < 0→ab z % ab y≠0→z / y = sv (decide (z < 0) != decide (y < 0)) (ab z / ab y + 1)∧z % y = ab y - ab z % ab y):=by
 have hn:0 < ab y:=by unfold ab; split <;> omega
 have e1:=Int.mul_ediv_add_emod (ab z) (ab y)
 have e2:=Int.emod_nonneg (ab z) (Int.ne_of_gt hn)
 have e3:=Int.emod_lt_of_pos (ab z) hn
 have q0:=Int.ediv_nonneg (ab_nonneg z) (Int.le_of_lt hn)
 generalize ab z / ab y = Q at *
 generalize ab z % ab y = R at *
 have key:∀ q r:Int,r + y * q = z→0≤r→r < ab y→z / y = q∧z % y = r:=fun q r h1 h2 h3=>by
  rcases Int.lt_or_lt_of_ne hy with h | h
  ·exact (Int.ediv_emod_unique' h).2 ⟨h1,h2,by unfold ab at h3; rw [if_pos h] at h3; exact h3⟩
  ·exact (Int.ediv_emod_unique h).2 ⟨h1,h2,by unfold ab at h3; rw [if_neg (by omega)] at h3; exact h3⟩
 by_cases hz:z < 0
 ·have az:ab z = -z:=by unfold ab; rw [if_pos hz]
  rw [az] at e1
  by_cases hy0:y < 0
  ·have ay:ab y = -y:=by unfold ab; rw [if_pos hy0]
   rw [decide_eq_true hz,decide_eq_true hy0]
   rw [ay] at e1 e3 hn ⊢
   refine ⟨fun h=>key _ _ ?_ e2 (by rw [ay]; exact e3),fun _ h=>key _ _ ?_ (by omega) (by rw [ay]; omega)⟩
   ·show R + y * Q = z
    rw [Int.neg_mul] at e1
    omega
   ·show (-y - R) + y * (Q + 1) = z
    rw [Int.neg_mul] at e1
    rw [Int.mul_add]
    omega
  ·have ay:ab y = y:=by unfold ab; rw [if_neg hy0]
   rw [decide_eq_true hz,decide_eq_false hy0]
   rw [ay] at e1 e3 hn ⊢
   refine ⟨fun h=>key _ _ ?_ e2 (by rw [ay]; exact e3),fun _ h=>key _ _ ?_ (by omega) (by rw [ay]; omega)⟩
   ·show R + y * -Q = z
    rw [Int.mul_neg]
    omega
   ·show (y - R) + y * -(Q + 1) = z
    rw [Int.mul_neg,Int.mul_add]
    omega
 ·have az:ab z = z:=by unfold ab; rw [if_neg hz]
  rw [az] at e1
  refine ⟨fun _=>?_,fun h=>absurd h hz⟩
  by_cases hy0:y < 0
  ·have ay:ab y = -y:=by unfold ab; rw [if_pos hy0]
   rw [decide_eq_false hz,decide_eq_true hy0]
   rw [ay] at e1 e3 hn
   refine key _ _ ?_ e2 (by rw [ay]; exact e3)
   show R + y * -Q = z
   rw [Int.mul_neg]
   rw [Int.neg_mul] at e1
   omega
  ·have ay:ab y = y:=by unfold ab; rw [if_neg hy0]
   rw [decide_eq_false hz,decide_eq_false hy0]
   rw [ay] at e1 e3 hn
   refine key _ _ ?_ e2 (by rw [ay]; exact e3)
   show R + y * Q = z
   omega
def dr (z y:Int):Int:=if y = 0 then 0 else z % y
set_option maxRecDepth 100000 in
theorem g_divmod {v v':Value} {z y:Int} (h:IsW v z) (h':IsW v' y) (W:World):Gives Try.prog 145 [v,v'] W (· = .tuple #[WE (z / y),WE (dr z y),.bool (decide (y≠0))]):=by
  obtain ⟨n,m,rfl,am,hab,hz,hn⟩:=h.me
  obtain ⟨n',m',rfl,am',hab',hy,hn'⟩:=h'.me
  refine gives_known en_wide_DivMod ?_
  have p1:cn n (lb0 m) (lb1 m) (lb2 m) (lb3 m) = decide (z < 0):=hn
  have p2:cn n' (lb0 m') (lb1 m') (lb2 m') (lb3 m') = decide (y < 0):=hn'
  have SI:IsW (WV (decide (y < 0)) (lb0 m') (lb1 m') (lb2 m') (lb3 m')) y:=by
    have:=IsW.raw (n:=cn n' (lb0 m') (lb1 m') (lb2 m') (lb3 m')) (lb0_in m') (lb1_in m') (lb2_in m') (lb3_in m')
    rw [wv_cn,p2] at this
    have e:wv n' (lb0 m') (lb1 m') (lb2 m') (lb3 m') = y:=by rw [hy]; unfold wv sv; rw [mv_me am']
    rw [e] at this
    exact this
  clear hz hy hn hn'
  have hcm:=cm_zero y
  have hmz:=mz_me (m:=m % m')
  by_cases hy0:y = 0
  · have hc0:cm y 0 = 0:=by subst hy0; rfl
    have e1:z / y = 0:=by rw [hy0]; exact Int.ediv_zero z
    have e2:dr z y = 0:=if_pos hy0
    have e3:decide (y≠0) = false:=by simp [hy0]
    rw [e1,e2,e3]
    clear hcm hmz e1 e2 e3 hab hab'
    refine known_of (enter Try.func145 wide_DivMod.ok (args:=[WV n (lb0 m) (lb1 m) (lb2 m) (lb3 m),WV n' (lb0 m') (lb1 m') (lb2 m') (lb3 m')]) (by simp) ?_)
    repeat' (first | simp (disch:=omega) only [sxE,wide_DivMod.E,Nat.reduceAdd,Nat.reduceEqDiff,Nat.reduceMul,Nat.reduceSub,Int.reduceAdd,Int.reduceSub,Int.reduceMul,Int.reduceNeg,Int.reduceLT,Int.reduceLE,Int.reduceEq,Int.reduceToNat,↓reduceIte,Int.reducePow,Nat.reduceLeDiff,Nat.reduceLT,ne_eq,eq_self,List.length_cons,List.length_nil,p1,p2] | (with_reducible refine Sx.call_at (f:=138) (fun W hW=>g_clean _ _ _ _ _ W) ?_) | (with_reducible refine Sx.call_at (f:=87) (fun W hW=>g_sign SI W) ?_) | (with_reducible refine cregF ?_))
    rfl
  · have hc0:cm y 0≠0:=by rw [hcm]; split <;> (try split) <;> omega
    have e3:decide (y≠0) = true:=by simp [hy0]
    have hm':0 < m':=by rw [← hab']; unfold ab; split <;> omega
    obtain ⟨D1,D2⟩:=dm_plain (z:=z) hy0
    rw [hab,hab'] at D1 D2
    have e2:dr z y = z % y:=if_neg hy0
    rw [e2,e3]
    have ar:A4 (m % m'):=⟨Int.emod_nonneg _ (by omega),by have:=Int.emod_lt_of_pos m hm'; have:=am'.2; omega⟩
    have aq:A4 (m / m'):=⟨Int.ediv_nonneg am.1 (by omega),by have:=Int.ediv_le_self m' am.1; have:=am.2; omega⟩
    replace hmz:=hmz ar
    unfold mz at hmz
    by_cases hC:¬ z < 0∨m % m' = 0
    · obtain ⟨e4,e5⟩:=D1 hC
      rw [e4,e5]
      clear hcm e2 e3 e4 e5 D1 D2 hab hab'
      by_cases hz0:z < 0
      · have hr0:m % m' = 0:=by omega
        refine known_of (enter Try.func145 wide_DivMod.ok (args:=[WV n (lb0 m) (lb1 m) (lb2 m) (lb3 m),WV n' (lb0 m') (lb1 m') (lb2 m') (lb3 m')]) (by simp) ?_)
        repeat' (first | simp (disch:=omega) only [sxE,wide_DivMod.E,Nat.reduceAdd,Nat.reduceEqDiff,Nat.reduceMul,Nat.reduceSub,Int.reduceAdd,Int.reduceSub,Int.reduceMul,Int.reduceNeg,Int.reduceLT,Int.reduceLE,Int.reduceEq,Int.reduceToNat,↓reduceIte,Int.reducePow,Nat.reduceLeDiff,Nat.reduceLT,ne_eq,eq_self,List.length_cons,List.length_nil,p1,p2,hmz] | (with_reducible refine Sx.call_at (f:=138) (fun W hW=>g_clean _ _ _ _ _ W) ?_) | (with_reducible refine Sx.call_at (f:=87) (fun W hW=>g_sign SI W) ?_) | (with_reducible refine Sx.call_at (f:=173) (fun W hW=>g_div am am' (by omega) W) ?_) | (with_reducible refine Sx.call_at (f:=139) (fun W hW=>g_wadd1 aq W) ?_) | (with_reducible refine Sx.call_at (f:=142) (fun W hW=>g_wsub_me am' ar W) ?_) | (with_reducible refine Sx.call_at (f:=140) (fun W hW=>g_signed_me (by assumption) W) ?_) | (with_reducible refine eq_is (fun W=>by exact eqm_run _ _ _ _ _ _ _ _ W) ?_) | (with_reducible refine cregF ?_))
        rfl
      · refine known_of (enter Try.func145 wide_DivMod.ok (args:=[WV n (lb0 m) (lb1 m) (lb2 m) (lb3 m),WV n' (lb0 m') (lb1 m') (lb2 m') (lb3 m')]) (by simp) ?_)
        repeat' (first | simp (disch:=omega) only [sxE,wide_DivMod.E,Nat.reduceAdd,Nat.reduceEqDiff,Nat.reduceMul,Nat.reduceSub,Int.reduceAdd,Int.reduceSub,Int.reduceMul,Int.reduceNeg,Int.reduceLT,Int.reduceLE,Int.reduceEq,Int.reduceToNat,↓reduceIte,Int.reducePow,Nat.reduceLeDiff,Nat.reduceLT,ne_eq,eq_self,List.length_cons,List.length_nil,p1,p2,hmz] | (with_reducible refine Sx.call_at (f:=138) (fun W hW=>g_clean _ _ _ _ _ W) ?_) | (with_reducible refine Sx.call_at (f:=87) (fun W hW=>g_sign SI W) ?_) | (with_reducible refine Sx.call_at (f:=173) (fun W hW=>g_div am am' (by omega) W) ?_) | (with_reducible refine Sx.call_at (f:=139) (fun W hW=>g_wadd1 aq W) ?_) | (with_reducible refine Sx.call_at (f:=142) (fun W hW=>g_wsub_me am' ar W) ?_) | (with_reducible refine Sx.call_at (f:=140) (fun W hW=>g_signed_me (by assumption) W) ?_) | (with_reducible refine eq_is (fun W=>by exact eqm_run _ _ _ _ _ _ _ _ W) ?_) | (with_reducible refine cregF ?_))
        rfl
    · have hz0:z < 0:=by omega
      have hr0:m % m'≠0:=by omega
      obtain ⟨e4,e5⟩:=D2 hz0 hr0
      rw [e4,e5]
      clear hcm e2 e3 e4 e5 D1 D2 hab hab'
      have asx:A4 (m' - m % m'):=⟨by have:=Int.emod_lt_of_pos m hm'; omega,by have:=ar.1; have:=am'.2; omega⟩
      have aq1:A4 (m / m' + 1):=by
        refine ⟨by have:=aq.1; omega,?_⟩
        have h2:2≤m':=by
          rcases Int.lt_or_le m' 2 with h | h
          · exact absurd (show m % m' = 0 by have:m' = 1:=by omega
                                             rw [this]; exact Int.emod_one m) hr0
          · exact h
        have:=Int.mul_ediv_add_emod m m'
        have h3:=Int.mul_le_mul_of_nonneg_right h2 aq.1
        have:=am.2
        have:=ar.1
        omega
      refine known_of (enter Try.func145 wide_DivMod.ok (args:=[WV n (lb0 m) (lb1 m) (lb2 m) (lb3 m),WV n' (lb0 m') (lb1 m') (lb2 m') (lb3 m')]) (by simp) ?_)
      repeat' (first | simp (disch:=omega) only [sxE,wide_DivMod.E,Nat.reduceAdd,Nat.reduceEqDiff,Nat.reduceMul,Nat.reduceSub,Int.reduceAdd,Int.reduceSub,Int.reduceMul,Int.reduceNeg,Int.reduceLT,Int.reduceLE,Int.reduceEq,Int.reduceToNat,↓reduceIte,Int.reducePow,Nat.reduceLeDiff,Nat.reduceLT,ne_eq,eq_self,List.length_cons,List.length_nil,p1,p2,hmz] | (with_reducible refine Sx.call_at (f:=138) (fun W hW=>g_clean _ _ _ _ _ W) ?_) | (with_reducible refine Sx.call_at (f:=87) (fun W hW=>g_sign SI W) ?_) | (with_reducible refine Sx.call_at (f:=173) (fun W hW=>g_div am am' (by omega) W) ?_) | (with_reducible refine Sx.call_at (f:=139) (fun W hW=>g_wadd1 aq W) ?_) | (with_reducible refine Sx.call_at (f:=142) (fun W hW=>g_wsub_me am' ar W) ?_) | (with_reducible refine Sx.call_at (f:=140) (fun W hW=>g_signed_me (by assumption) W) ?_) | (with_reducible refine eq_is (fun W=>by exact eqm_run _ _ _ _ _ _ _ _ W) ?_) | (with_reducible refine cregF ?_))
      rfl
end Go.Proofs.Ytncmmbacoknefaa

/- He: What calls of the reference of wide give. -/
namespace Go.Proofs.Ytncmmbacoknefaa
open Go Go.RowKit Sx
set_option linter.unusedVariables false
set_option linter.unusedSimpArgs false
theorem rg_valid (n:Bool) {a b c d:Int} (ha:U64 a) (hb:U64 b) (hc:U64 c) (hd:U64 d) (W:World):Gives Try.prog 88 [WV n a b c d] W (· = .bool (!n || !mz a b c d)):=gives_known en_r02_Valid (rvalid_any n a b c d ha hb hc hd W)
theorem rg_clean (n:Bool) {a b c d:Int} (ha:U64 a) (hb:U64 b) (hc:U64 c) (hd:U64 d) (W:World):Gives Try.prog 72 [WV n a b c d] W (· = WV (cn n a b c d) a b c d):=gives_known en_r02_clean (rclean_any n a b c d ha hb hc hd W)
theorem rg_sign {v:Value} {z:Int} (h:IsW v z) (W:World):Gives Try.prog 65 [v] W (· = .int .i64 (cm z 0)):=by
 obtain ⟨n,a,b,c,d,rfl,rfl,ha,hb,hc,hd⟩:=h
 exact gives_known en_r02_Sign (rsign_any n a b c d ha hb hc hd W)
theorem rg_neg {v:Value} {z:Int} (h:IsW v z) (W:World):Gives Try.prog 53 [v] W (· = WE (-z)):=gives_known en_r02_Neg (rneg_w h W)
theorem rg_Of {v:Int} (h:I64 v) (W:World):Gives Try.prog 20 [.int .i64 v] W (· = WE v):=gives_known en_r02_Of (rOf_any v h W)
theorem rg_OfU {v:Int} (h:U64 v) (W:World):Gives Try.prog 58 [.int .u64 v] W (· = WE v):=by
 refine gives_known en_r02_OfUnsigned ?_
 rw [we_uns v h]
 refine known_of (enter Try.func58 r02_OfUnsigned.ok (args:=[.int .u64 v]) (by simp) ?_)
 repeat' (first | simp (disch:=omega) only [sxE,r02_OfUnsigned.E,Nat.reduceAdd,Nat.reduceEqDiff,Nat.reduceMul,Nat.reduceSub,Int.reduceAdd,Int.reduceSub,Int.reduceMul,Int.reduceNeg,Int.reduceLT,Int.reduceLE,Int.reduceEq,Int.reduceToNat,↓reduceIte,Int.reducePow,Nat.reduceLeDiff,Nat.reduceLT,ne_eq,eq_self,List.length_cons,List.length_nil] | (with_reducible refine cregF ?_))
theorem of_mag {n:Bool} {m:Int} (h:A4 m) (W:World):Calls Try.prog 73 #[WV n (lb0 m) (lb1 m) (lb2 m) (lb3 m)] W (MagP W m):=by
 have:=rof_any n (lb0 m) (lb1 m) (lb2 m) (lb3 m) (lb0_in m) (lb1_in m) (lb2_in m) (lb3_in m) W
 rw [mv_me h] at this
 exact this
end Go.Proofs.Ytncmmbacoknefaa

/- Hf: What calls of the reference's DivMod and Unsigned give; the numbers as atoms. -/
namespace Go.Proofs.Ytncmmbacoknefaa
open Go Go.RowKit Sx
set_option linter.unusedVariables false
set_option linter.unusedSimpArgs false
theorem g_wide {neg:Bool} {a:Option Addr} {len cap:Nat} {ws:List Int} {W:World} (h:SlU W (.slice a len cap) ws):Gives Try.prog 74 [.bool neg,.slice a len cap] W (· = .tuple #[WE (cl (sv neg (VL ws))),.bool (fb (sv neg (VL ws)))]) :=
 gives_known en_r02_wide (rwide_any neg a len cap ws W h)
theorem ask_wide {C:Cx} {S:St} {K:St→Prop} {d:Option Nat} {L:List Kn} {a:Option Addr} {c:Nat} {t z:Int} {neg:Bool} (hP:C.P = Try.prog) (hT:S.T = kX C.w0.heap.size L) (hm:.r (.slice a (wl t).length c) (wl t)∈L) (ht:0≤t) (e:z = sv neg t) (hf:Fits z)
  (hk:K (S.put d (.v (.tuple #[WE z,.bool true])))):asks C 74 [.bool neg,.slice a (wl t).length c] d K S :=
 asks_ext (v:=.tuple #[WE z,.bool true]) (fun W hW hok=>by
  rw [hT] at hok
  have:=g_wide (neg:=neg) (W:=W) (hok (.r (.slice a (wl t).length c) (wl t)) hm).1
  rw [VL_wl ht,← e,cl_fit hf,fb_fit hf] at this
  rw [hP]
  exact this) hk
theorem fits_ediv {z y:Int} (h:Fits z) (hy:y≠0):Fits (z / y):=by
 refine fits_le h ?_
 rcases Int.lt_or_lt_of_ne hy with h | h
 ·have e:z / y = -(z / -y):=by rw [Int.ediv_neg,Int.neg_neg]
  rw [e,ab_neg]
  exact ab_fdiv_le z (by omega)
 ·exact ab_fdiv_le z h
theorem fits_emod {z y:Int} (h:Fits y) (hy:y≠0):Fits (z % y):=by
 refine fits_le h ?_
 have h1:=Int.emod_nonneg z hy
 rw [ab_pos h1]
 have h2:=Int.emod_lt z hy
 unfold ab
 split <;> omega
set_option maxRecDepth 100000 in
theorem rg_divmod {v v':Value} {z y:Int} (h:IsW v z) (h':IsW v' y) (W0:World):Gives Try.prog 23 [v,v'] W0 (· = .tuple #[WE (z / y),WE (dr z y),.bool (decide (y≠0))]):=by
  have fz:Fits z:=by obtain ⟨n,a,b,c,d,-,rfl,ha,hb,hc,hd⟩:=h; unfold Fits; rw [ab_wv ha hb hc hd]; exact up4_mv ha hb hc hd
  have fy:Fits y:=by obtain ⟨n,a,b,c,d,-,rfl,ha,hb,hc,hd⟩:=h'; unfold Fits; rw [ab_wv ha hb hc hd]; exact up4_mv ha hb hc hd
  obtain ⟨n,m,rfl,am,hab,hz,hn⟩:=h.me
  obtain ⟨n',m',rfl,am',hab',hy,hn'⟩:=h'.me
  refine gives_known en_r02_DivMod ?_
  have p1:cn n (lb0 m) (lb1 m) (lb2 m) (lb3 m) = decide (z < 0):=hn
  have p2:cn n' (lb0 m') (lb1 m') (lb2 m') (lb3 m') = decide (y < 0):=hn'
  have SI:IsW (WV (decide (y < 0)) (lb0 m') (lb1 m') (lb2 m') (lb3 m')) y:=by
    have:=IsW.raw (n:=cn n' (lb0 m') (lb1 m') (lb2 m') (lb3 m')) (lb0_in m') (lb1_in m') (lb2_in m') (lb3_in m')
    rw [wv_cn,p2] at this
    have e:wv n' (lb0 m') (lb1 m') (lb2 m') (lb3 m') = y:=by rw [hy]; unfold wv sv; rw [mv_me am']
    rw [e] at this
    exact this
  clear hz hy hn hn' h h'
  have hcm:=cm_zero y
  by_cases hy0:y = 0
  · have hc0:cm y 0 = 0:=by subst hy0; rfl
    have e1:z / y = 0:=by rw [hy0]; exact Int.ediv_zero z
    have e2:dr z y = 0:=if_pos hy0
    have e3:decide (y≠0) = false:=by simp [hy0]
    rw [e1,e2,e3]
    clear hcm e1 e2 e3 hab hab'
    refine known_of (enter Try.func23 r02_DivMod.ok (args:=[WV n (lb0 m) (lb1 m) (lb2 m) (lb3 m),WV n' (lb0 m') (lb1 m') (lb2 m') (lb3 m')]) (by simp) ?_)
    repeat' (first | simp (disch:=omega) only [sxE,r02_DivMod.E,Nat.reduceAdd,Nat.reduceEqDiff,Nat.reduceMul,Nat.reduceSub,Int.reduceAdd,Int.reduceSub,Int.reduceMul,Int.reduceNeg,Int.reduceLT,Int.reduceLE,Int.reduceEq,Int.reduceToNat,↓reduceIte,Int.reducePow,Nat.reduceLeDiff,Nat.reduceLT,ne_eq,eq_self,List.length_cons,List.length_nil,p1,p2] | (with_reducible refine Sx.call_at (f:=72) (fun W hW=>rg_clean _ (lb0_in _) (lb1_in _) (lb2_in _) (lb3_in _) W) ?_) | (with_reducible refine Sx.call_at (f:=65) (fun W hW=>rg_sign SI W) ?_) | (with_reducible refine cregF ?_))
    rfl
  · have hc0:cm y 0≠0:=by rw [hcm]; split <;> (try split) <;> omega
    have e3:decide (y≠0) = true:=by simp [hy0]
    have hm':0 < m':=by rw [← hab']; unfold ab; split <;> omega
    obtain ⟨D1,D2⟩:=dm_plain (z:=z) hy0
    rw [hab,hab'] at D1 D2
    have e2:dr z y = z % y:=if_neg hy0
    rw [e2,e3]
    have ar:A4 (m % m'):=⟨Int.emod_nonneg _ (by omega),by have:=Int.emod_lt_of_pos m hm'; have:=am'.2; omega⟩
    have aq:A4 (m / m'):=⟨Int.ediv_nonneg am.1 (by omega),by have:=Int.ediv_le_self m' am.1; have:=am.2; omega⟩
    have q1:=fits_ediv fz hy0
    have q2:=fits_emod (z:=z) fy hy0
    generalize hQ:z / y = Q at *
    generalize hR:z % y = R at *
    refine known_of (enter Try.func23 r02_DivMod.ok (args:=[WV n (lb0 m) (lb1 m) (lb2 m) (lb3 m),WV n' (lb0 m') (lb1 m') (lb2 m') (lb3 m')]) (by simp) ?_)
    repeat' (first | simp (disch:=omega) only [sxE,r02_DivMod.E,Nat.reduceAdd,Nat.reduceEqDiff,Nat.reduceMul,Nat.reduceSub,Int.reduceAdd,Int.reduceSub,Int.reduceMul,Int.reduceNeg,Int.reduceLT,Int.reduceLE,Int.reduceEq,Int.reduceToNat,↓reduceIte,Int.reducePow,Nat.reduceLeDiff,Nat.reduceLT,ne_eq,eq_self,List.length_cons,List.length_nil,p1,p2] | (with_reducible refine Sx.call_at (f:=72) (fun W hW=>rg_clean _ (lb0_in _) (lb1_in _) (lb2_in _) (lb3_in _) W) ?_) | (with_reducible refine Sx.call_at (f:=65) (fun W hW=>rg_sign SI W) ?_) | (with_reducible refine cregF ?_))
    refine asks_r (L:=[]) (ws:=wl m) en_r02_of (kX_nil _) (fun W hW _=>of_mag am W) fun a1 c1 hs1 hn1=>?_
    simp (disch:=omega) only [sxE,r02_DivMod.E,Nat.reduceAdd,Nat.reduceEqDiff,Nat.reduceMul,Nat.reduceSub,Int.reduceAdd,Int.reduceSub,Int.reduceMul,Int.reduceNeg,Int.reduceLT,Int.reduceLE,Int.reduceEq,Int.reduceToNat,↓reduceIte,Int.reducePow,Nat.reduceLeDiff,Nat.reduceLT,ne_eq,eq_self,List.length_cons,List.length_nil]
    refine asks_r (L:=[.r (.slice a1 (wl m).length c1) (wl m)]) (ws:=wl m') en_r02_of rfl (fun W hW _=>of_mag am' W) fun a2 c2 hs2 hn2=>?_
    simp (disch:=omega) only [sxE,r02_DivMod.E,Nat.reduceAdd,Nat.reduceEqDiff,Nat.reduceMul,Nat.reduceSub,Int.reduceAdd,Int.reduceSub,Int.reduceMul,Int.reduceNeg,Int.reduceLT,Int.reduceLE,Int.reduceEq,Int.reduceToNat,↓reduceIte,Int.reducePow,Nat.reduceLeDiff,Nat.reduceLT,ne_eq,eq_self,List.length_cons,List.length_nil]
    refine asks_r2 (L:=[.r (.slice a2 (wl m').length c2) (wl m'),.r (.slice a1 (wl m).length c1) (wl m)]) (ws:=wl (m / m')) (vs:=wl (m % m')) en_r02_divmod rfl (fun W hW hok=>rdivmod_any am am' hm' (hok (.r (.slice a1 (wl m).length c1) (wl m)) (List.mem_cons_of_mem _ List.mem_cons_self)).1 (hok (.r (.slice a2 (wl m').length c2) (wl m')) List.mem_cons_self).1) fun a3 c3 a4 c4 hs3 hs4=>?_
    clear hn1 hn2 hs1 hs2 hs3 hs4 hcm p1 p2
    have l1:=pw4b ar
    have l2:=pw4b aq
    have l3:=pw4b am'
    have v1:=VL_wl aq.1
    have v2:=VL_wl ar.1
    have hl0:((wl (m % m')).length:Int) > 0↔m % m'≠0:=by
      constructor
      · intro h e; rw [e,wl_nil (Int.le_refl _)] at h; simp at h
      · intro h
        have:=ar.1
        rw [wl_cons (by omega),List.length_cons]; omega
    by_cases hC:¬ z < 0∨m % m' = 0
    · obtain ⟨e4,e5⟩:=D1 hC
      clear D1 D2 hab hab' SI e3 hQ hR e2 l1 l2 l3
      have e6:sv false (m % m') = R:=e5.symm
      have hR0:R = sv false (m % m'):=e5
      by_cases hz:z < 0
      · have h0:m % m' = 0:=by omega
        have hlf:¬ ((wl (m % m')).length:Int) > 0:=fun h=>hl0.1 h h0
        clear hl0 hC
        simp only [decide_eq_true hz]
        repeat' (first | simp (disch:=omega) only [sxE,r02_DivMod.E,Nat.reduceAdd,Nat.reduceEqDiff,Nat.reduceMul,Nat.reduceSub,Int.reduceAdd,Int.reduceSub,Int.reduceMul,Int.reduceNeg,Int.reduceLT,Int.reduceLE,Int.reduceEq,Int.reduceToNat,↓reduceIte,Int.reducePow,Nat.reduceLeDiff,Nat.reduceLT,ne_eq,eq_self,List.length_cons,List.length_nil] | (with_reducible refine cregF ?_))
        refine ask_wide rfl rfl List.mem_cons_self aq.1 (by rw [e4,decide_eq_true hz]; rfl) q1 ?_
        repeat' (first | simp (disch:=omega) only [sxE,r02_DivMod.E,Nat.reduceAdd,Nat.reduceEqDiff,Nat.reduceMul,Nat.reduceSub,Int.reduceAdd,Int.reduceSub,Int.reduceMul,Int.reduceNeg,Int.reduceLT,Int.reduceLE,Int.reduceEq,Int.reduceToNat,↓reduceIte,Int.reducePow,Nat.reduceLeDiff,Nat.reduceLT,ne_eq,eq_self,List.length_cons,List.length_nil] | (with_reducible refine cregF ?_))
        refine ask_wide rfl rfl (List.mem_cons_of_mem _ List.mem_cons_self) ar.1 hR0 q2 ?_
        repeat' (first | simp (disch:=omega) only [sxE,r02_DivMod.E,Nat.reduceAdd,Nat.reduceEqDiff,Nat.reduceMul,Nat.reduceSub,Int.reduceAdd,Int.reduceSub,Int.reduceMul,Int.reduceNeg,Int.reduceLT,Int.reduceLE,Int.reduceEq,Int.reduceToNat,↓reduceIte,Int.reducePow,Nat.reduceLeDiff,Nat.reduceLT,ne_eq,eq_self,List.length_cons,List.length_nil] | (with_reducible refine cregF ?_))
      · clear hl0 hC
        simp only [decide_eq_false hz]
        repeat' (first | simp (disch:=omega) only [sxE,r02_DivMod.E,Nat.reduceAdd,Nat.reduceEqDiff,Nat.reduceMul,Nat.reduceSub,Int.reduceAdd,Int.reduceSub,Int.reduceMul,Int.reduceNeg,Int.reduceLT,Int.reduceLE,Int.reduceEq,Int.reduceToNat,↓reduceIte,Int.reducePow,Nat.reduceLeDiff,Nat.reduceLT,ne_eq,eq_self,List.length_cons,List.length_nil] | (with_reducible refine cregF ?_))
        refine ask_wide rfl rfl List.mem_cons_self aq.1 (by rw [e4,decide_eq_false hz]; rfl) q1 ?_
        repeat' (first | simp (disch:=omega) only [sxE,r02_DivMod.E,Nat.reduceAdd,Nat.reduceEqDiff,Nat.reduceMul,Nat.reduceSub,Int.reduceAdd,Int.reduceSub,Int.reduceMul,Int.reduceNeg,Int.reduceLT,Int.reduceLE,Int.reduceEq,Int.reduceToNat,↓reduceIte,Int.reducePow,Nat.reduceLeDiff,Nat.reduceLT,ne_eq,eq_self,List.length_cons,List.length_nil] | (with_reducible refine cregF ?_))
        refine ask_wide rfl rfl (List.mem_cons_of_mem _ List.mem_cons_self) ar.1 hR0 q2 ?_
        repeat' (first | simp (disch:=omega) only [sxE,r02_DivMod.E,Nat.reduceAdd,Nat.reduceEqDiff,Nat.reduceMul,Nat.reduceSub,Int.reduceAdd,Int.reduceSub,Int.reduceMul,Int.reduceNeg,Int.reduceLT,Int.reduceLE,Int.reduceEq,Int.reduceToNat,↓reduceIte,Int.reducePow,Nat.reduceLeDiff,Nat.reduceLT,ne_eq,eq_self,List.length_cons,List.length_nil] | (with_reducible refine cregF ?_))
    · have hz:z < 0:=by omega
      have h0:m % m'≠0:=by omega
      obtain ⟨e4,e5⟩:=D2 hz h0
      have hlf:((wl (m % m')).length:Int) > 0:=hl0.2 h0
      clear D1 D2 hab hab' SI e3 hQ hR e2 hl0 hC
      have hR0:R = sv false (m' - m % m'):=e5
      simp only [decide_eq_true hz]
      repeat' (first | simp (disch:=omega) only [sxE,r02_DivMod.E,Nat.reduceAdd,Nat.reduceEqDiff,Nat.reduceMul,Nat.reduceSub,Int.reduceAdd,Int.reduceSub,Int.reduceMul,Int.reduceNeg,Int.reduceLT,Int.reduceLE,Int.reduceEq,Int.reduceToNat,↓reduceIte,Int.reducePow,Nat.reduceLeDiff,Nat.reduceLT,ne_eq,eq_self,List.length_cons,List.length_nil] | (with_reducible refine cregF ?_))
      have w1:wl (1:Int) = [1]:=(wl_one (by decide) (by rw [wl_cons (by decide),show (1:Int) / 18446744073709551616 = 0 by decide,wl_nil (by decide)]; rfl)).1
      have hlt:=Int.emod_lt_of_pos m hm'
      have asx:A4 (m' - m % m'):=⟨by omega,by have:=ar.1; have:=am'.2; omega⟩
      have aq1:A4 (m / m' + 1):=by
        refine ⟨by have:=aq.1; omega,?_⟩
        have h2:2≤m':=by
          rcases Int.lt_or_le m' 2 with h | h
          · exact absurd (show m % m' = 0 by have:m' = 1:=by omega
                                             rw [this]; exact Int.emod_one m) h0
          · exact h
        have:=Int.mul_ediv_add_emod m m'
        have h3:=Int.mul_le_mul_of_nonneg_right h2 aq.1
        have:=am.2
        have:=ar.1
        omega
      refine genA_o (L:=[.r (.slice a3 (wl (m / m')).length c3) (wl (m / m')),.r (.slice a4 (wl (m % m')).length c4) (wl (m % m')),.r (.slice a2 (wl m').length c2) (wl m'),.r (.slice a1 (wl m).length c1) (wl m)]) (ws:=[1]) rfl (fun W hW _=>gen_one ⟨by decide,by decide⟩ W) fun g5 c5 hn5=>?_
      clear hn5
      repeat' (first | simp (disch:=omega) only [sxE,r02_DivMod.E,Nat.reduceAdd,Nat.reduceEqDiff,Nat.reduceMul,Nat.reduceSub,Int.reduceAdd,Int.reduceSub,Int.reduceMul,Int.reduceNeg,Int.reduceLT,Int.reduceLE,Int.reduceEq,Int.reduceToNat,↓reduceIte,Int.reducePow,Nat.reduceLeDiff,Nat.reduceLT,ne_eq,eq_self,List.length_cons,List.length_nil] | (with_reducible refine cregF ?_))
      refine asks_r (L:=[.o (.slice (some ⟨g5,0,none⟩) 1 c5) [1],.r (.slice a3 (wl (m / m')).length c3) (wl (m / m')),.r (.slice a4 (wl (m % m')).length c4) (wl (m % m')),.r (.slice a2 (wl m').length c2) (wl m'),.r (.slice a1 (wl m).length c1) (wl m)]) (ws:=wl (m / m' + 1)) en_r02_add rfl (fun W hW hok=>by
        have h5:OwnU W W0.heap.size (.slice (some ⟨g5,0,none⟩) 1 c5) [1]:=hok (.o (.slice (some ⟨g5,0,none⟩) 1 c5) [1]) List.mem_cons_self
        exact radd_any _ _ _ _ _ _ _ _ aq.1 (by decide) (by omega) (by decide) W (hok (.r (.slice a3 (wl (m / m')).length c3) (wl (m / m'))) (List.mem_cons_of_mem _ List.mem_cons_self)).1 (by rw [w1]; exact h5.sl)) fun a6 c6 hs6 hn6=>?_
      clear hs6 hn6
      repeat' (first | simp (disch:=omega) only [sxE,r02_DivMod.E,Nat.reduceAdd,Nat.reduceEqDiff,Nat.reduceMul,Nat.reduceSub,Int.reduceAdd,Int.reduceSub,Int.reduceMul,Int.reduceNeg,Int.reduceLT,Int.reduceLE,Int.reduceEq,Int.reduceToNat,↓reduceIte,Int.reducePow,Nat.reduceLeDiff,Nat.reduceLT,ne_eq,eq_self,List.length_cons,List.length_nil] | (with_reducible refine cregF ?_))
      refine asks_r (L:=[.r (.slice a6 (wl (m / m' + 1)).length c6) (wl (m / m' + 1)),.o (.slice (some ⟨g5,0,none⟩) 1 c5) [1],.r (.slice a3 (wl (m / m')).length c3) (wl (m / m')),.r (.slice a4 (wl (m % m')).length c4) (wl (m % m')),.r (.slice a2 (wl m').length c2) (wl m'),.r (.slice a1 (wl m).length c1) (wl m)]) (ws:=wl m') en_r02_of rfl (fun W hW _=>of_mag am' W) fun a7 c7 hs7 hn7=>?_
      clear hs7 hn7
      repeat' (first | simp (disch:=omega) only [sxE,r02_DivMod.E,Nat.reduceAdd,Nat.reduceEqDiff,Nat.reduceMul,Nat.reduceSub,Int.reduceAdd,Int.reduceSub,Int.reduceMul,Int.reduceNeg,Int.reduceLT,Int.reduceLE,Int.reduceEq,Int.reduceToNat,↓reduceIte,Int.reducePow,Nat.reduceLeDiff,Nat.reduceLT,ne_eq,eq_self,List.length_cons,List.length_nil] | (with_reducible refine cregF ?_))
      refine asks_r (L:=[.r (.slice a7 (wl m').length c7) (wl m'),.r (.slice a6 (wl (m / m' + 1)).length c6) (wl (m / m' + 1)),.o (.slice (some ⟨g5,0,none⟩) 1 c5) [1],.r (.slice a3 (wl (m / m')).length c3) (wl (m / m')),.r (.slice a4 (wl (m % m')).length c4) (wl (m % m')),.r (.slice a2 (wl m').length c2) (wl m'),.r (.slice a1 (wl m).length c1) (wl m)]) (ws:=wl (m' - m % m')) en_r02_sub rfl (fun W hW hok=>rsub_any _ _ _ _ _ _ _ _ ar.1 (by omega) (by omega) W (hok (.r (.slice a7 (wl m').length c7) (wl m')) (by simp)).1 (hok (.r (.slice a4 (wl (m % m')).length c4) (wl (m % m'))) (by simp)).1) fun a8 c8 hs8 hn8=>?_
      clear hs8 hn8
      repeat' (first | simp (disch:=omega) only [sxE,r02_DivMod.E,Nat.reduceAdd,Nat.reduceEqDiff,Nat.reduceMul,Nat.reduceSub,Int.reduceAdd,Int.reduceSub,Int.reduceMul,Int.reduceNeg,Int.reduceLT,Int.reduceLE,Int.reduceEq,Int.reduceToNat,↓reduceIte,Int.reducePow,Nat.reduceLeDiff,Nat.reduceLT,ne_eq,eq_self,List.length_cons,List.length_nil] | (with_reducible refine cregF ?_))
      refine ask_wide rfl rfl (t:=m / m' + 1) (by simp) aq1.1 (by rw [e4,decide_eq_true hz]; rfl) q1 ?_
      repeat' (first | simp (disch:=omega) only [sxE,r02_DivMod.E,Nat.reduceAdd,Nat.reduceEqDiff,Nat.reduceMul,Nat.reduceSub,Int.reduceAdd,Int.reduceSub,Int.reduceMul,Int.reduceNeg,Int.reduceLT,Int.reduceLE,Int.reduceEq,Int.reduceToNat,↓reduceIte,Int.reducePow,Nat.reduceLeDiff,Nat.reduceLT,ne_eq,eq_self,List.length_cons,List.length_nil] | (with_reducible refine cregF ?_))
      refine ask_wide rfl rfl (t:=m' - m % m') (by simp) asx.1 hR0 q2 ?_
      repeat' (first | simp (disch:=omega) only [sxE,r02_DivMod.E,Nat.reduceAdd,Nat.reduceEqDiff,Nat.reduceMul,Nat.reduceSub,Int.reduceAdd,Int.reduceSub,Int.reduceMul,Int.reduceNeg,Int.reduceLT,Int.reduceLE,Int.reduceEq,Int.reduceToNat,↓reduceIte,Int.reducePow,Nat.reduceLeDiff,Nat.reduceLT,ne_eq,eq_self,List.length_cons,List.length_nil] | (with_reducible refine cregF ?_))
def unb (z:Int):Bool:=decide (0≤z∧z < 18446744073709551616)
def unv (z:Int):Int:=if unb z then z else 0
theorem ab_of_sv {n:Bool} {m z:Int} (h:ab z = m):(decide (z < 0) = true→z = -m)∧(decide (z < 0) = false→z = m):=by
 unfold ab at h
 constructor
 ·intro h2; rw [if_pos (of_decide_eq_true h2)] at h; omega
 ·intro h2; rw [if_neg (of_decide_eq_false h2)] at h; exact h
theorem rg_unsigned {v:Value} {z:Int} (h:IsW v z) (W:World):Gives Try.prog 170 [v] W (· = .tuple #[.int .u64 (unv z),.bool (unb z)]):=by
 obtain ⟨n,m,rfl,am,hab,hz,hn⟩:=h.me
 refine gives_known en_r02_Unsigned ?_
 have p1:cn n (lb0 m) (lb1 m) (lb2 m) (lb3 m) = decide (z < 0):=hn
 obtain ⟨k1,k2⟩:=ab_of_sv (n:=n) hab
 have hl:¬ 1 < ((wl m).length:Int)↔m < 18446744073709551616:=by
  have:=wl_len_lt am.1 1
  have e:((18446744073709551616:Int) ^ 1) = 18446744073709551616:=by decide
  have e2:(pw 1:Int) = 18446744073709551616:=rfl
  rw [e2] at this
  omega
 clear h hn hz hab
 refine known_of (enter Try.func170 r02_Unsigned.ok (args:=[WV n (lb0 m) (lb1 m) (lb2 m) (lb3 m)]) (by simp) ?_)
 repeat' (first | simp (disch:=omega) only [sxE,r02_Unsigned.E,Nat.reduceAdd,Nat.reduceEqDiff,Nat.reduceMul,Nat.reduceSub,Int.reduceAdd,Int.reduceSub,Int.reduceMul,Int.reduceNeg,Int.reduceLT,Int.reduceLE,Int.reduceEq,Int.reduceToNat,↓reduceIte,Int.reducePow,Nat.reduceLeDiff,Nat.reduceLT,ne_eq,eq_self,List.length_cons,List.length_nil,p1] | (with_reducible refine Sx.call_at (f:=72) (fun W hW=>rg_clean _ (lb0_in _) (lb1_in _) (lb2_in _) (lb3_in _) W) ?_) | (with_reducible refine cregF ?_))
 refine asks_r (L:=[]) (ws:=wl m) en_r02_of (kX_nil _) (fun W hW _=>of_mag am W) fun a1 c1 hs1 hn1=>?_
 clear hs1 hn1
 by_cases hneg:z < 0
 ·have u1:unb z = false:=decide_eq_false (by omega)
  have u2:unv z = 0:=by unfold unv; rw [u1]; rfl
  rw [u1,u2,decide_eq_true hneg]
  repeat' (first | simp (disch:=omega) only [sxE,r02_Unsigned.E,Nat.reduceAdd,Nat.reduceEqDiff,Nat.reduceMul,Nat.reduceSub,Int.reduceAdd,Int.reduceSub,Int.reduceMul,Int.reduceNeg,Int.reduceLT,Int.reduceLE,Int.reduceEq,Int.reduceToNat,↓reduceIte,Int.reducePow,Nat.reduceLeDiff,Nat.reduceLT,ne_eq,eq_self,List.length_cons,List.length_nil] | (with_reducible refine cregF ?_))
 ·have hzm:=k2 (decide_eq_false hneg)
  rw [decide_eq_false hneg]
  by_cases hlt:m < 18446744073709551616
  ·have u1:unb z = true:=decide_eq_true (by have:=am.1; omega)
   have u2:unv z = m:=by unfold unv; rw [u1]; exact hzm
   have u3:lb0 m = m:=Int.emod_eq_of_lt am.1 hlt
   have u4:=hl.2 hlt
   rw [u1,u2,u3]
   clear hl k1 k2 u1 u2 u3 p1 hneg hzm
   repeat' (first | simp (disch:=omega) only [sxE,r02_Unsigned.E,Nat.reduceAdd,Nat.reduceEqDiff,Nat.reduceMul,Nat.reduceSub,Int.reduceAdd,Int.reduceSub,Int.reduceMul,Int.reduceNeg,Int.reduceLT,Int.reduceLE,Int.reduceEq,Int.reduceToNat,↓reduceIte,Int.reducePow,Nat.reduceLeDiff,Nat.reduceLT,ne_eq,eq_self,List.length_cons,List.length_nil] | (with_reducible refine cregF ?_))
  ·have u1:unb z = false:=decide_eq_false (by omega)
   have u2:unv z = 0:=by unfold unv; rw [u1]; rfl
   have u4:1 < ((wl m).length:Int):=by omega
   rw [u1,u2]
   clear hl k1 k2 u1 u2 p1 hneg hzm
   repeat' (first | simp (disch:=omega) only [sxE,r02_Unsigned.E,Nat.reduceAdd,Nat.reduceEqDiff,Nat.reduceMul,Nat.reduceSub,Int.reduceAdd,Int.reduceSub,Int.reduceMul,Int.reduceNeg,Int.reduceLT,Int.reduceLE,Int.reduceEq,Int.reduceToNat,↓reduceIte,Int.reducePow,Nat.reduceLeDiff,Nat.reduceLT,ne_eq,eq_self,List.length_cons,List.length_nil] | (with_reducible refine cregF ?_))
end Go.Proofs.Ytncmmbacoknefaa

/- Hg: What calls of wide and of its reference give, on integers as atoms. -/
namespace Go.Proofs.Ytncmmbacoknefaa
open Go Go.RowKit Sx
set_option linter.unusedVariables false
set_option linter.unusedSimpArgs false
theorem Fits.is {z:Int} (h:Fits z):IsW (WX z) z:=IsW.x h
theorem nz_is:IsW NZ 0:=⟨true,0,0,0,0,rfl,rfl,⟨by decide,by decide⟩,⟨by decide,by decide⟩,⟨by decide,by decide⟩,⟨by decide,by decide⟩⟩
theorem valid_wx {z:Int} (h:Fits z):(!sg z || !mz (lb0 (ab z)) (lb1 (ab z)) (lb2 (ab z)) (lb3 (ab z))) = true:=by
 have a4:A4 (ab z):=⟨ab_nonneg z,(fits_lt z).1 h⟩
 rw [mz_me a4]
 unfold sg ab
 by_cases hz:z < 0
 ·rw [decide_eq_true hz,if_pos hz,decide_eq_false (by omega)]; rfl
 ·rw [decide_eq_false hz]; rfl
theorem tup2 {a b c d:Value} (h:a = c) (h':b = d):Value.tuple #[a,b] = Value.tuple #[c,d]:=by rw [h,h']
theorem tup3 {a b c a' b' c':Value} (h:a = a') (h1:b = b') (h2:c = c'):Value.tuple #[a,b,c] = Value.tuple #[a',b',c']:=by rw [h,h1,h2]
theorem gives_eq {P:Program} {f:FuncId} {l:List Value} {W:World} {u v:Value} (h:Gives P f l W (· = u)) (e:u = v):Gives P f l W (· = v):=by subst e; exact h
theorem gx_valid {z:Int} (h:Fits z) (W:World):Gives Try.prog 107 [WX z] W (· = .bool true):=gives_eq (g_valid _ _ _ _ _ W) (congrArg Value.bool (valid_wx h))
theorem gx_valid0 (W:World):Gives Try.prog 107 [NZ] W (· = .bool false):=g_valid true 0 0 0 0 W
theorem rx_valid {z:Int} (h:Fits z) (W:World):Gives Try.prog 88 [WX z] W (· = .bool true):=gives_eq (rg_valid _ (lb0_in _) (lb1_in _) (lb2_in _) (lb3_in _) W) (congrArg Value.bool (valid_wx h))
theorem rx_valid0 (W:World):Gives Try.prog 88 [NZ] W (· = .bool false):=rg_valid true ⟨by decide,by decide⟩ ⟨by decide,by decide⟩ ⟨by decide,by decide⟩ ⟨by decide,by decide⟩ W
theorem gx_add {x y:Int} (h:Fits x) (h':Fits y) (hf:Fits (x + y)) (W:World):Gives Try.prog 84 [WX x,WX y] W (· = .tuple #[WX (x + y),.bool true]):=gives_eq (g_add h.is h'.is W) (tup2 (by rw [cl_fit hf]; rfl) (by rw [fb_fit hf]))
theorem gx_mul {x y:Int} (h:Fits x) (h':Fits y) (hf:Fits (x * y)) (W:World):Gives Try.prog 119 [WX x,WX y] W (· = .tuple #[WX (x * y),.bool true]):=gives_eq (g_mul h.is h'.is W) (tup2 (by rw [cl_fit hf]; rfl) (by rw [fb_fit hf]))
theorem gx_sign {x:Int} (h:Fits x) (W:World):Gives Try.prog 87 [WX x] W (· = .int .i64 (cm x 0)):=g_sign h.is W
theorem gx_of {x:Int} (h:I64 x) (W:World):Gives Try.prog 109 [.int .i64 x] W (· = WX x):=g_of h W
theorem gx_ofU {x:Int} (h:U64 x) (W:World):Gives Try.prog 111 [.int .u64 x] W (· = WX x):=g_ofU h W
theorem gx_divmod {x y:Int} (h:Fits x) (h':Fits y) (hy:y≠0) (W:World):Gives Try.prog 145 [WX x,WX y] W (· = .tuple #[WX (x / y),WX (x % y),.bool true]):=gives_eq (g_divmod h.is h'.is W) (tup3 rfl (by unfold dr; rw [if_neg hy]; rfl) (by rw [decide_eq_true hy]))
theorem rx_neg {x:Int} (h:Fits x) (W:World):Gives Try.prog 53 [WX x] W (· = WX (-x)):=rg_neg h.is W
theorem rx_sign {x:Int} (h:Fits x) (W:World):Gives Try.prog 65 [WX x] W (· = .int .i64 (cm x 0)):=rg_sign h.is W
theorem rx_of {x:Int} (h:I64 x) (W:World):Gives Try.prog 20 [.int .i64 x] W (· = WX x):=rg_Of h W
theorem rx_ofU {x:Int} (h:U64 x) (W:World):Gives Try.prog 58 [.int .u64 x] W (· = WX x):=rg_OfU h W
theorem rx_divmod {x y:Int} (h:Fits x) (h':Fits y) (hy:y≠0) (W:World):Gives Try.prog 23 [WX x,WX y] W (· = .tuple #[WX (x / y),WX (x % y),.bool true]):=gives_eq (rg_divmod h.is h'.is W) (tup3 rfl (by unfold dr; rw [if_neg hy]; rfl) (by rw [decide_eq_true hy]))
theorem rx_unsigned {z:Int} (h:Fits z) (W:World):Gives Try.prog 170 [WX z] W (· = .tuple #[.int .u64 (unv z),.bool (unb z)]):=rg_unsigned h.is W
theorem we_inj {x y:Int} (h:Fits x) (h':Fits y):weq (sg x) (lb0 (ab x)) (lb1 (ab x)) (lb2 (ab x)) (lb3 (ab x)) (sg y) (lb0 (ab y)) (lb1 (ab y)) (lb2 (ab y)) (lb3 (ab y)) = decide (x = y):=by
 rw [Bool.eq_iff_iff,decide_eq_true_iff]
 constructor
 ·intro e
  have e':sg x = sg y∧lb0 (ab x) = lb0 (ab y)∧lb1 (ab x) = lb1 (ab y)∧lb2 (ab x) = lb2 (ab y)∧lb3 (ab x) = lb3 (ab y):=by simpa [weq,meq] using e
  obtain ⟨e0,e1,e2,e3,e4⟩:=e'
  have m1:=mv_me (z:=ab x) ⟨ab_nonneg x,(fits_lt x).1 h⟩
  have m2:=mv_me (z:=ab y) ⟨ab_nonneg y,(fits_lt y).1 h'⟩
  rw [e1,e2,e3,e4,m2] at m1
  unfold sg at e0
  have e0':(x < 0)↔(y < 0):=by simpa using e0
  unfold ab at m1
  (repeat' (split at m1)) <;> omega
 ·rintro rfl
  unfold weq meq; simp
theorem eqx_run {ng:Bool} {xo yo:Operand} {x y:Int} (h:Fits x) (h':Fits y) (W:World) :
  ((do eqGuard (if ng then .neq else .eql) 38 xo yo (WX x) (WX y); binOp (if ng then .neq else .eql) 38 (WX x) (WX y)):Sem Value).run Try.prog W = .ok (.bool (if ng then !decide (x = y) else decide (x = y))) W:=by
 have:=eqw_run (ng:=ng) (xo:=xo) (yo:=yo) (sg x) (lb0 (ab x)) (lb1 (ab x)) (lb2 (ab x)) (lb3 (ab x)) (sg y) (lb0 (ab y)) (lb1 (ab y)) (lb2 (ab y)) (lb3 (ab y)) W
 rw [we_inj h h'] at this
 exact this
def RW (v:Value) (b:Bool) (z:Int):Prop:=(b = true∧v = WX z∧Fits z)∨(b = false∧v = NZ∧z = 0)
theorem RW.five {v:Value} {b:Bool} {z:Int} (h:RW v b z):∃ c0 c1 c2 c3 c4,v = .agg #[c0,c1,c2,c3,c4]:=by
 rcases h with ⟨-,rfl,-⟩ | ⟨-,rfl,-⟩ <;> exact ⟨_,_,_,_,_,rfl⟩
theorem RW.is {v:Value} {b:Bool} {z:Int} (h:RW v b z):IsW v z:=by
 rcases h with ⟨-,rfl,h⟩ | ⟨-,rfl,rfl⟩
 ·exact h.is
 ·exact nz_is
theorem RW.fits {v:Value} {b:Bool} {z:Int} (h:RW v b z):Fits z:=by
 rcases h with ⟨-,rfl,h⟩ | ⟨-,rfl,rfl⟩
 ·exact h
 ·exact fits_zero
theorem Fits.rw {z:Int} (h:Fits z):RW (WX z) true z:=.inl ⟨rfl,rfl,h⟩
theorem gy_valid {v:Value} {b:Bool} {z:Int} (h:RW v b z) (W:World):Gives Try.prog 107 [v] W (· = .bool b):=by
 rcases h with ⟨rfl,rfl,h⟩ | ⟨rfl,rfl,rfl⟩
 ·exact gx_valid h W
 ·exact gx_valid0 W
theorem ry_valid {v:Value} {b:Bool} {z:Int} (h:RW v b z) (W:World):Gives Try.prog 88 [v] W (· = .bool b):=by
 rcases h with ⟨rfl,rfl,h⟩ | ⟨rfl,rfl,rfl⟩
 ·exact rx_valid h W
 ·exact rx_valid0 W
end Go.Proofs.Ytncmmbacoknefaa

/- CdR: MADE BY PROGRAM (sxgen.py): the small code of some functions, points of it and their equations. -/
namespace Go.Proofs.Ytncmmbacoknefaa
open Go Go.RowKit Sx Sx.Q
set_option linter.unusedVariables false
variable (C:Cx) (R L1 L2 L3 L4:St→Prop)
namespace ratio_At
abbrev q0:=[1,2,4]
abbrev r0:List G:=[e 2 (.box true 10 (t 0)),e 4 (.new zW)]
abbrev r1:List G:=[L 11 10 2,K1 12 143 11,V 10 2 12]
abbrev q1:=[1,2,4,5]
abbrev r2:List G:=[e 13 (.call false 109 [(i 2)]),e 5 (.new zW),V 5 5 13]
abbrev q2:=[2,4,5,6]
abbrev r3:List G:=[L 15 5 5,a 16 0 2,L 17 5 16,m 18 1,k1 19 111 18,k2 20 144 17 19,k2 21 144 15 20,a 22 5 2,L 23 5 22,k2 24 84 21 23,m 14 24,x 25 14 0,x 26 14 1]
abbrev t3:List G:=[e 6 (.new zW),V 5 6 25,m 7 26]
abbrev q3:=[4,8]
abbrev r4:List G:=[L 28 5 6,L 29 5 5,a 30 5 2,L 31 5 30,k2 32 144 29 31,k2 33 145 28 32,m 27 33,x 34 27 0,x 35 27 1,x 36 27 2]
abbrev t4:List G:=[e 8 (.new zW),e 9 (.new zW),V 5 8 34,V 5 9 35,m 10 36]
abbrev r5:List G:=[L 37 5 8,V 5 4 37]
abbrev c:MC:=sq [g r0 q0,g r1 q0,g r2 q1,gd r3 t3 q2,gd r4 t4 q3,g r5 [4],.ret]
theorem ok:compF Try.prog Try.f85 (an (rg 6) c [(3,14,[12],(up 12 ++ [(12,2)]),[13]),(4,12,[8,9],(up 8 ++ [(8,2),(9,2)]),[10,11])]) = some (38,c,[(4,some (true,5))]):=by kernel_rfl
abbrev p1:=P C r5 [4] R
abbrev p2:=Pd C r4 t4 q3 (p1 C R)
abbrev p3:=Pd C r3 t3 q2 (p2 C R)
abbrev p4:=P C r2 q1 (p3 C R)
abbrev p5:=P C r1 q0 (p4 C R)
abbrev p6:=P C r0 q0 (p5 C R)
theorem s (S:St):X C c (retK R) S = p6 C R S:=by kernel_rfl
theorem E:type_of% @s:=@s
end ratio_At
namespace ratio_Of
abbrev q0:=[0,2]
abbrev r0:List G:=[e 2 (.new zR)]
abbrev r1:List G:=[m 3 0,K1 4 109 3,e 5 (.call false 109 [(i 1)]),e 6 (.bd zR [(0,5,(t 4)),(5,5,(t 5))]),V 10 2 6]
abbrev c:MC:=sq [g r0 q0,g r1 [2],.ret]
theorem ok:compF Try.prog Try.f112 (an (rg 2) c []) = some (7,c,[(2,some (true,10))]):=by kernel_rfl
abbrev p1:=P C r1 [2] R
abbrev p2:=P C r0 q0 (p1 C R)
theorem s (S:St):X C c (retK R) S = p2 C R S:=by kernel_rfl
theorem E:type_of% @s:=@s
end ratio_Of
namespace ratio_Valid
abbrev r0:List G:=[e 1 (.box true 10 (t 0)),Mb 2 false]
abbrev r1:List G:=[a 3 0 1,L 4 5 3,K1 5 107 4,m 6 5,ya 7 6 5 1,y 8 6 (.ld true 5 (t 7)),y 9 6 (.call false 107 [(t 8)]),w 10 6 9,m 11 10,ya 12 11 5 1,y 13 11 (.ld true 5 (t 12)),y 14 11 (.call false 87 [(t 13)]),y 15 11 (.bin .gtr (t 14) (i 0)),w 16 11 15,m 17 16,ya 18 17 0 1,y 19 17 (.ld true 5 (t 18)),y 20 17 (.call false 155 [(t 19)]),w 21 17 20,m 22 21,ya 23 22 5 1,y 24 22 (.ld true 5 (t 23)),y 25 22 (.call false 155 [(t 24)]),w 26 22 25,m 27 26,ya 28 27 0 1,y 29 27 (.ld true 5 (t 28)),ya 30 27 5 1,y 31 27 (.ld true 5 (t 30)),y 32 27 (.call false 154 [(t 29),(t 31)]),y 33 27 (.call false 109 [(i 1)]),y 34 27 (.eqg false 38 (t 32) (t 33)),w 35 27 34,m 2 35]
abbrev c:MC:=sq [g r0 [1],g r1 [2],.ret]
theorem ok:compF Try.prog Try.f115 (an (rg 2) c []) = some (36,c,[(2,none)]):=by kernel_rfl
abbrev p1:=P C r1 [2] R
abbrev p2:=P C r0 [1] (p1 C R)
theorem s (S:St):X C c (retK R) S = p2 C R S:=by kernel_rfl
theorem E:type_of% @s:=@s
end ratio_Valid
namespace ratio_clean
abbrev q0:=[1,2]
abbrev r0:List G:=[e 1 (.box true 10 (t 0)),e 2 (.new zR)]
abbrev q1:=[1,2,5]
abbrev r1:List G:=[L 3 10 1,K1 4 115 3,e 5 (.un .not (t 4))]
abbrev r2:List G:=[e 6 (.call false 112 [(i 0)]),V 10 2 6]
abbrev r3:List G:=[L 7 10 1,V 10 2 7]
abbrev c:MC:=sq [g r0 q0,sq [g r1 q1,ci 5 (sq [g r2 [2],.ret]) .skip],g r3 [2],.ret]
theorem ok:compF Try.prog Try.f143 (an (rg 4) c []) = some (8,c,[(2,some (true,10))]):=by kernel_rfl
abbrev p1:=P C r3 [2] R
abbrev p3:=P C r2 [2] R
abbrev p2:=cd (t 5) (p3 C R) (p1 C R)
abbrev p4:=P C r1 q1 (p2 C R)
abbrev p5:=P C r0 q0 (p4 C R)
theorem s (S:St):X C c (retK R) S = p5 C R S:=by kernel_rfl
theorem E:type_of% @s:=@s
end ratio_clean
namespace ratio_divisor
abbrev q0:=[2,3,4]
abbrev r0:List G:=[e 2 (.box true 5 (t 0)),e 3 (.box true 5 (t 1)),e 4 (.new zW)]
abbrev r1:List G:=[a 8 0 2,z (.st false 1 (t 8) bf),a 9 0 3,z (.st false 1 (t 9) bf)]
abbrev q1:=[2,3,4,12]
abbrev r2:List G:=[L 10 5 3,K1 11 87 10,bi 12 .neq 11 0]
abbrev q2:=[2,3,4,6]
abbrev r3:List G:=[L 14 5 2,L 15 5 3,K2 16 145 14 15,m 13 16,x 17 13 0,x 18 13 1,x 19 13 2,e 5 (.new zW),e 6 (.new zW),V 5 5 17,V 5 6 18,m 7 19]
abbrev o4:List (List G):=[[L 20 5 3,L 21 5 6,V 5 2 20,V 5 3 21],[L 20 5 3,V 5 2 20,L 21 5 6,V 5 3 21],[L 21 5 6,L 20 5 3,V 5 2 20,V 5 3 21]]
abbrev r5:List G:=[L 22 5 2,V 5 4 22]
abbrev c:MC:=sq [g r0 q0,g r1 q0,.block 0 (.loop (sq [sq [g r2 q1,ci 12 .skip (.exit 0)],.block 1 (sq [g r3 q2,ga [] o4 q0])])),g r5 [4],.ret]
theorem ok:compF Try.prog Try.f154 (an (rg 6) c [(4,99999,[],[],[])]) = some (23,c,[(4,some (true,5))]):=by kernel_rfl
abbrev p1:=P C r5 [4] R
abbrev p3:=Pa C [] o4 q0 L1
abbrev p4:=P C r3 q2 (p3 C L1)
abbrev p5:=cd (t 12) (p4 C L1) (p1 C R)
abbrev p6:=P C r2 q1 (p5 C R L1)
def p2 (S:St):Prop:=LX C (fun L1=>(p6 C R L1)) S
theorem p2_l (S:St):p2 C R S = LX C (fun L1=>(p6 C R L1)) S:=rfl
abbrev p7:=P C r1 q0 (p2 C R)
abbrev p8:=P C r0 q0 (p7 C R)
theorem s (S:St):X C c (retK R) S = p8 C R S:=by kernel_rfl
theorem E:type_of% @s:=@s
end ratio_divisor
namespace ratio_product
abbrev q0:=[2,3,4]
abbrev r0:List G:=[e 2 (.box true 5 (t 0)),e 3 (.box true 5 (t 1)),e 4 (.new zW)]
abbrev q1:=[4,5]
abbrev r1:List G:=[L 8 5 2,L 9 5 3,K2 10 119 8 9,m 7 10,x 11 7 0,x 12 7 1,e 5 (.new zW),V 5 5 11,m 6 12]
abbrev r2:List G:=[L 13 5 5,V 5 4 13]
abbrev c:MC:=sq [g r0 q0,g r1 q1,g r2 [4],.ret]
theorem ok:compF Try.prog Try.f144 (an (rg 3) c []) = some (14,c,[(4,some (true,5))]):=by kernel_rfl
abbrev p1:=P C r2 [4] R
abbrev p2:=P C r1 q1 (p1 C R)
abbrev p3:=P C r0 q0 (p2 C R)
theorem s (S:St):X C c (retK R) S = p3 C R S:=by kernel_rfl
theorem E:type_of% @s:=@s
end ratio_product
namespace ratio_small
abbrev r0:List G:=[e 1 (.box true 5 (t 0)),Mb 2 false]
abbrev r1:List G:=[a 3 1 1,e 4 (.ia 4 1 (t 3) (i 3)),l 5 4,bu 6 .eql 5 0,m 7 6,ya 8 7 1 1,y 9 7 (.ia 4 1 (t 8) (i 2)),yl 10 7 9,y 11 7 (.bin .eql (t 10) (u 0)),w 12 7 11,m 13 12,ya 14 13 1 1,y 15 13 (.ia 4 1 (t 14) (i 1)),yl 16 13 15,y 17 13 (.bin .shr (t 16) (u 63)),y 18 13 (.bin .eql (t 17) (u 0)),w 19 13 18,m 2 19]
abbrev c:MC:=sq [g r0 [1],g r1 [2],.ret]
theorem ok:compF Try.prog Try.f155 (an (rg 2) c []) = some (20,c,[(2,none)]):=by kernel_rfl
abbrev p1:=P C r1 [2] R
abbrev p2:=P C r0 [1] (p1 C R)
theorem s (S:St):X C c (retK R) S = p2 C R S:=by kernel_rfl
theorem E:type_of% @s:=@s
end ratio_small
end Go.Proofs.Ytncmmbacoknefaa

/- Qa: What calls of the program's ratio give. -/
namespace Go.Proofs.Ytncmmbacoknefaa
open Go Go.RowKit Sx
set_option linter.unusedVariables false
set_option linter.unusedSimpArgs false
theorem small_plain {m:Int} (h:A4 m):m < ((2 ^ 127:Nat):Int)↔lb3 m = 0∧lb2 m = 0∧(lb1 m).fdiv 9223372036854775808 = 0:=by
 have e:=mv_me h
 have h0:=lb0_in m
 have h1:=lb1_in m
 have h2:=lb2_in m
 have h3:=lb3_in m
 rw [Int.fdiv_eq_ediv_of_nonneg _ (by decide)]
 rw [show ((2 ^ 127:Nat):Int) = 170141183460469231731687303715884105728 by decide]
 unfold MV at e
 unfold U64 at *
 generalize lb0 m = a at *
 generalize lb1 m = b at *
 generalize lb2 m = c at *
 generalize lb3 m = d at *
 clear h
 omega
theorem gx_small {z:Int} (h:Fits z) (W:World):Gives Try.prog 155 [WX z] W (· = .bool (decide (ab z < ((2 ^ 127:Nat):Int)))):=by
 have e:=small_plain (m:=ab z) ⟨ab_nonneg z,(fits_lt z).1 h⟩
 have hb:=lb1_in (ab z)
 have sh:∀ a:Int,Int.fdiv a (2 ^ 63) = a.fdiv 9223372036854775808:=fun a=>rfl
 refine gives_known en_ratio_small ?_
 rw [show decide (ab z < ((2 ^ 127:Nat):Int)) = (decide (lb3 (ab z) = 0) && (decide (lb2 (ab z) = 0) && decide ((lb1 (ab z)).fdiv 9223372036854775808 = 0))) by rw [Bool.eq_iff_iff,decide_eq_true_iff,e]; simp]
 clear e h
 refine known_of (enter Try.func155 ratio_small.ok (args:=[WX z]) (by simp) ?_)
 repeat' (first | simp (disch:=omega) only [sxE,ratio_small.E,Nat.reduceAdd,Nat.reduceEqDiff,Nat.reduceMul,Nat.reduceSub,Int.reduceAdd,Int.reduceSub,Int.reduceMul,Int.reduceNeg,Int.reduceLT,Int.reduceLE,Int.reduceEq,Int.reduceToNat,↓reduceIte,Int.reducePow,Nat.reduceLeDiff,Nat.reduceLT,ne_eq,eq_self,List.length_cons,List.length_nil,qxE] | ((with_reducible first | apply cond_beq | apply gd_beq) <;> (intro hc; first | simp only [beq_iff_eq.2 hc] | simp only [beq_eq_false_iff_ne.2 hc] | skip)) | ((with_reducible first | apply cond_dec | apply gd_dec) <;> (intro hc; first | simp only [decide_eq_true hc] | simp only [decide_eq_false hc] | skip)) | ((with_reducible first | apply cond_of | apply gd_of) <;> (intro hc; try simp only [hc])) | (with_reducible refine cregF ?_))
 all_goals (refine vb ?_; rw [Bool.eq_iff_iff]; simp_all)
def gcF (x:Int × Int):St:=⟨3,[(2,.p 0 0),(3,.p 1 0),(4,.p 2 0)],[(0,wc x.1),(1,wc x.2),(2,[.bool false,.int .u64 0,.int .u64 0,.int .u64 0,.int .u64 0])],ext0⟩
set_option maxRecDepth 100000 in
theorem gx_divisor {z y:Int} (h:Fits z) (h':Fits y) (W:World):Gives Try.prog 154 [WX z,WX y] W (· = WX (gc z y)):=by
 refine gives_known en_ratio_divisor ?_
 rw [← gc_abs]
 have f1:Fits (ab z):=fits_le h (by rw [ab_ab]; exact Int.le_refl _)
 have f2:Fits (ab y):=fits_le h' (by rw [ab_ab]; exact Int.le_refl _)
 have n1:=ab_nonneg z
 have n2:=ab_nonneg y
 have g1:=sgx_ab z
 have g2:=sgx_ab y
 have a1:=ab_ab z
 have a2:=ab_ab y
 clear h h'
 refine known_of (enter Try.func154 ratio_divisor.ok (args:=[WX z,WX y]) (by simp) ?_)
 repeat' (first | simp (disch:=omega) only [sxE,ratio_divisor.E,Nat.reduceAdd,Nat.reduceEqDiff,Nat.reduceMul,Nat.reduceSub,Int.reduceAdd,Int.reduceSub,Int.reduceMul,Int.reduceNeg,Int.reduceLT,Int.reduceLE,Int.reduceEq,Int.reduceToNat,↓reduceIte,Int.reducePow,Nat.reduceLeDiff,Nat.reduceLT,ne_eq,eq_self,List.length_cons,List.length_nil,qxE] | (with_reducible refine cregF ?_))
 rw [ratio_divisor.p2_l]
 refine LX_inv gcF (fun x=>0≤x.1∧0≤x.2∧Fits x.1∧Fits x.2∧gc x.1 x.2 = gc (ab z) (ab y)) (fun x=>x.2.toNat) ?round (ab z,ab y) ⟨n1,n2,f1,f2,rfl⟩ ?start
 case start =>
  unfold gcF wc
  dsimp only
  rw [g1,g2,a1,a2]
  simp (disch:=omega) only [sxE,ratio_divisor.E,Nat.reduceAdd,Nat.reduceEqDiff,Nat.reduceMul,Nat.reduceSub,Int.reduceAdd,Int.reduceSub,Int.reduceMul,Int.reduceNeg,Int.reduceLT,Int.reduceLE,Int.reduceEq,Int.reduceToNat,↓reduceIte,Int.reducePow,Nat.reduceLeDiff,Nat.reduceLT,ne_eq,eq_self,List.length_cons,List.length_nil]
 case round =>
  rintro ⟨x,w⟩ ⟨h1,h2,h3,h4,h5⟩
  dsimp only at h1 h2 h3 h4 h5 ⊢
  rw [← h5]
  clear h5 f1 f2 n1 n2 g1 g2 a1 a2
  have hcm:=cm_zero w
  unfold gcF wc
  dsimp only
  by_cases hw:w = 0
  ·subst hw
   rw [gc_zero x h1]
   have hc0:cm 0 0 = 0:=rfl
   repeat' (first | simp (disch:=omega) only [sxE,ratio_divisor.E,Nat.reduceAdd,Nat.reduceEqDiff,Nat.reduceMul,Nat.reduceSub,Int.reduceAdd,Int.reduceSub,Int.reduceMul,Int.reduceNeg,Int.reduceLT,Int.reduceLE,Int.reduceEq,Int.reduceToNat,↓reduceIte,Int.reducePow,Nat.reduceLeDiff,Nat.reduceLT,ne_eq,eq_self,List.length_cons,List.length_nil,qxE,hc0] | (with_reducible refine Sx.call_at (f:=87) (fun W hW=>gx_sign h4 W) ?_) | (with_reducible refine cregF ?_))
  ·have hc0:cm w 0≠0:=by rw [hcm]; (repeat' split) <;> omega
   have hq:=fits_emod (z:=x) h4 hw
   have hm0:=Int.emod_nonneg x hw
   have hm1:=Int.emod_lt_of_pos x (show 0 < w by omega)
   have hgs:=gc_step h1 (show 0 < w by omega)
   clear hcm
   repeat' (first | simp (disch:=omega) only [sxE,ratio_divisor.E,Nat.reduceAdd,Nat.reduceEqDiff,Nat.reduceMul,Nat.reduceSub,Int.reduceAdd,Int.reduceSub,Int.reduceMul,Int.reduceNeg,Int.reduceLT,Int.reduceLE,Int.reduceEq,Int.reduceToNat,↓reduceIte,Int.reducePow,Nat.reduceLeDiff,Nat.reduceLT,ne_eq,eq_self,List.length_cons,List.length_nil,qxE] | (with_reducible refine Sx.call_at (f:=87) (fun W hW=>gx_sign h4 W) ?_) | (with_reducible refine Sx.call_at (f:=145) (fun W hW=>gx_divmod h3 h4 hw W) ?_) | (with_reducible refine cregF ?_))
   exact ⟨(w,x % w),⟨h2,hm0,h4,hq,hgs⟩,by dsimp only; omega,by repeat' (first | (with_reducible rfl) | (exact Or.inl rfl) | apply And.intro)⟩
theorem gc_le_ab (x y:Int):gc x y≤ab x∨gc x y≤ab y:=by
 by_cases h:y = 0
 ·left; subst h; rw [← gc_abs]; rw [show ab 0 = 0 from rfl,gc_zero _ (ab_nonneg x)]; exact Int.le_refl _
 ·right
  rw [← gc_abs]
  exact gc_le (by have:=ab_nonneg y; have:=ab_zero_iff (z:=y); omega)
theorem fits_gc {x y:Int} (h:Fits x) (h':Fits y):Fits (gc x y):=by
 rcases gc_le_ab x y with e | e
 ·exact fits_le h (by rw [ab_pos (gc_nonneg x y)]; exact e)
 ·exact fits_le h' (by rw [ab_pos (gc_nonneg x y)]; exact e)
theorem fits_one:Fits 1:=rfl
theorem cm_pos (z:Int):0 < cm z 0↔0 < z:=by rw [cm_zero]; (repeat' split) <;> omega
theorem i64_one:I64 1:=⟨by decide,by decide⟩
set_option maxRecDepth 100000 in
theorem gx_rvalid {p q:Int} (h:Fits p) (h':Fits q) (W:World):Gives Try.prog 115 [RX p q] W (· = .bool (rok true p q)):=by
 have hg:=fits_gc h h'
 refine gives_known en_ratio_Valid ?_
 have hcm:=cm_pos q
 refine known_of (enter Try.func115 ratio_Valid.ok (args:=[RX p q]) (by simp) ?_)
 repeat' (first | simp (disch:=omega) only [sxE,ratio_Valid.E,Nat.reduceAdd,Nat.reduceEqDiff,Nat.reduceMul,Nat.reduceSub,Int.reduceAdd,Int.reduceSub,Int.reduceMul,Int.reduceNeg,Int.reduceLT,Int.reduceLE,Int.reduceEq,Int.reduceToNat,↓reduceIte,Int.reducePow,Nat.reduceLeDiff,Nat.reduceLT,ne_eq,eq_self,List.length_cons,List.length_nil,qxE] | (with_reducible refine Sx.call_at (f:=107) (fun W hW=>gx_valid h W) ?_) | (with_reducible refine Sx.call_at (f:=107) (fun W hW=>gx_valid h' W) ?_) | (with_reducible refine Sx.call_at (f:=87) (fun W hW=>gx_sign h' W) ?_) | (with_reducible refine Sx.call_at (f:=155) (fun W hW=>gx_small h W) ?_) | (with_reducible refine Sx.call_at (f:=155) (fun W hW=>gx_small h' W) ?_) | (with_reducible refine Sx.call_at (f:=154) (fun W hW=>gx_divisor h h' W) ?_) | (with_reducible refine Sx.call_at (f:=109) (fun W hW=>gx_of i64_one W) ?_) | ((with_reducible apply Sx.eq_is); (case h=>exact fun W=>eqx_run hg fits_one W); (case' hk=>skip)) | ((with_reducible first | apply cond_beq | apply gd_beq) <;> (intro hc; first | simp only [beq_iff_eq.2 hc] | simp only [beq_eq_false_iff_ne.2 hc] | skip)) | ((with_reducible first | apply cond_dec | apply gd_dec) <;> (intro hc; first | simp only [decide_eq_true hc] | simp only [decide_eq_false hc] | skip)) | ((with_reducible first | apply cond_of | apply gd_of) <;> (intro hc; try simp only [hc])) | (with_reducible refine cregF ?_))
 all_goals (refine vb ?_; unfold rok; rw [Bool.eq_iff_iff]; simp_all <;> (intros; omega))
def BadR (v:Value):Prop:=(∃ q,Fits q∧v = .agg #[.bool true,.int .u64 0,.int .u64 0,.int .u64 0,.int .u64 0,.bool (sg q),.int .u64 (lb0 (ab q)),.int .u64 (lb1 (ab q)),.int .u64 (lb2 (ab q)),.int .u64 (lb3 (ab q))]) ∨
 (∃ p,Fits p∧v = .agg #[.bool (sg p),.int .u64 (lb0 (ab p)),.int .u64 (lb1 (ab p)),.int .u64 (lb2 (ab p)),.int .u64 (lb3 (ab p)),.bool true,.int .u64 0,.int .u64 0,.int .u64 0,.int .u64 0]) ∨
 v = .agg #[.bool true,.int .u64 0,.int .u64 0,.int .u64 0,.int .u64 0,.bool true,.int .u64 0,.int .u64 0,.int .u64 0,.int .u64 0]
theorem gx_rvalid0 {v:Value} (h:BadR v) (W:World):Gives Try.prog 115 [v] W (· = .bool false):=by
 refine gives_known en_ratio_Valid ?_
 rcases h with ⟨q,h,rfl⟩ | ⟨p,h,rfl⟩ | rfl
 ·refine known_of (enter Try.func115 ratio_Valid.ok (args:=[_]) (by simp) ?_)
  repeat' (first | simp (disch:=omega) only [sxE,ratio_Valid.E,Nat.reduceAdd,Nat.reduceEqDiff,Nat.reduceMul,Nat.reduceSub,Int.reduceAdd,Int.reduceSub,Int.reduceMul,Int.reduceNeg,Int.reduceLT,Int.reduceLE,Int.reduceEq,Int.reduceToNat,↓reduceIte,Int.reducePow,Nat.reduceLeDiff,Nat.reduceLT,ne_eq,eq_self,List.length_cons,List.length_nil,qxE] | (with_reducible refine Sx.call_at (f:=107) (fun W hW=>gx_valid0 W) ?_) | (with_reducible refine cregF ?_))
 ·refine known_of (enter Try.func115 ratio_Valid.ok (args:=[_]) (by simp) ?_)
  repeat' (first | simp (disch:=omega) only [sxE,ratio_Valid.E,Nat.reduceAdd,Nat.reduceEqDiff,Nat.reduceMul,Nat.reduceSub,Int.reduceAdd,Int.reduceSub,Int.reduceMul,Int.reduceNeg,Int.reduceLT,Int.reduceLE,Int.reduceEq,Int.reduceToNat,↓reduceIte,Int.reducePow,Nat.reduceLeDiff,Nat.reduceLT,ne_eq,eq_self,List.length_cons,List.length_nil,qxE] | (with_reducible refine Sx.call_at (f:=107) (fun W hW=>gx_valid h W) ?_) | (with_reducible refine Sx.call_at (f:=107) (fun W hW=>gx_valid0 W) ?_) | (with_reducible refine cregF ?_))
 ·refine known_of (enter Try.func115 ratio_Valid.ok (args:=[_]) (by simp) ?_)
  repeat' (first | simp (disch:=omega) only [sxE,ratio_Valid.E,Nat.reduceAdd,Nat.reduceEqDiff,Nat.reduceMul,Nat.reduceSub,Int.reduceAdd,Int.reduceSub,Int.reduceMul,Int.reduceNeg,Int.reduceLT,Int.reduceLE,Int.reduceEq,Int.reduceToNat,↓reduceIte,Int.reducePow,Nat.reduceLeDiff,Nat.reduceLT,ne_eq,eq_self,List.length_cons,List.length_nil,qxE] | (with_reducible refine Sx.call_at (f:=107) (fun W hW=>gx_valid0 W) ?_) | (with_reducible refine cregF ?_))
theorem gx_rof {z:Int} (h:I64 z) (W:World):Gives Try.prog 112 [.int .i64 z] W (· = RX z 1):=by
 refine gives_known en_ratio_Of ?_
 refine known_of (enter Try.func112 ratio_Of.ok (args:=[_]) (by simp) ?_)
 repeat' (first | simp (disch:=omega) only [sxE,ratio_Of.E,Nat.reduceAdd,Nat.reduceEqDiff,Nat.reduceMul,Nat.reduceSub,Int.reduceAdd,Int.reduceSub,Int.reduceMul,Int.reduceNeg,Int.reduceLT,Int.reduceLE,Int.reduceEq,Int.reduceToNat,↓reduceIte,Int.reducePow,Nat.reduceLeDiff,Nat.reduceLT,ne_eq,eq_self,List.length_cons,List.length_nil,qxE] | (with_reducible refine Sx.call_at (f:=109) (fun W hW=>gx_of h W) ?_) | (with_reducible refine Sx.call_at (f:=109) (fun W hW=>gx_of i64_one W) ?_) | (with_reducible refine cregF ?_))
def CQ (v:Value) (p q:Int):Prop:=(∃ x y,Fits x∧Fits y∧v = RX x y∧p = qn true x y∧q = qd true x y)∨(BadR v∧p = 0∧q = 1)
theorem CQ.fq {v:Value} {p q:Int} (h:CQ v p q):Fq p q:=by
 rcases h with ⟨x,y,-,-,-,rfl,rfl⟩ | ⟨-,rfl,rfl⟩
 ·exact fq_clean _ _ _
 ·exact fq_zero
theorem Fq.cq {p q:Int} (h:Fq p q):CQ (RX p q) p q:=by
 have:rok true p q = true:=rok_iff.2 ⟨rfl,h⟩
 exact .inl ⟨p,q,h.fp,h.fq,rfl,by unfold qn; rw [this]; rfl,by unfold qd; rw [this]; rfl⟩
set_option maxRecDepth 100000 in
theorem gx_rclean {v:Value} {p q:Int} (h:CQ v p q) (W:World):Gives Try.prog 143 [v] W (· = RX p q):=by
 refine gives_known en_ratio_clean ?_
 rcases h with ⟨x,y,h1,h2,rfl,rfl,rfl⟩ | ⟨h,rfl,rfl⟩
 ·unfold qn qd
  cases hk:rok true x y
  ·refine known_of (enter Try.func143 ratio_clean.ok (args:=[_]) (by simp) ?_)
   repeat' (first | simp (disch:=omega) only [sxE,ratio_clean.E,Nat.reduceAdd,Nat.reduceEqDiff,Nat.reduceMul,Nat.reduceSub,Int.reduceAdd,Int.reduceSub,Int.reduceMul,Int.reduceNeg,Int.reduceLT,Int.reduceLE,Int.reduceEq,Int.reduceToNat,↓reduceIte,Int.reducePow,Nat.reduceLeDiff,Nat.reduceLT,ne_eq,eq_self,List.length_cons,List.length_nil,qxE,hk] | (with_reducible refine Sx.call_at (f:=115) (fun W hW=>gx_rvalid h1 h2 W) ?_) | (with_reducible refine Sx.call_at (f:=112) (fun W hW=>gx_rof i64_zero W) ?_) | (with_reducible refine cregF ?_))
  ·refine known_of (enter Try.func143 ratio_clean.ok (args:=[_]) (by simp) ?_)
   repeat' (first | simp (disch:=omega) only [sxE,ratio_clean.E,Nat.reduceAdd,Nat.reduceEqDiff,Nat.reduceMul,Nat.reduceSub,Int.reduceAdd,Int.reduceSub,Int.reduceMul,Int.reduceNeg,Int.reduceLT,Int.reduceLE,Int.reduceEq,Int.reduceToNat,↓reduceIte,Int.reducePow,Nat.reduceLeDiff,Nat.reduceLT,ne_eq,eq_self,List.length_cons,List.length_nil,qxE,hk] | (with_reducible refine Sx.call_at (f:=115) (fun W hW=>gx_rvalid h1 h2 W) ?_) | (with_reducible refine Sx.call_at (f:=112) (fun W hW=>gx_rof i64_zero W) ?_) | (with_reducible refine cregF ?_))
 ·have hv:=fun W=>gx_rvalid0 h W
  rcases h with ⟨q,h,rfl⟩ | ⟨p,h,rfl⟩ | rfl
  ·refine known_of (enter Try.func143 ratio_clean.ok (args:=[_]) (by simp) ?_)
   repeat' (first | simp (disch:=omega) only [sxE,ratio_clean.E,Nat.reduceAdd,Nat.reduceEqDiff,Nat.reduceMul,Nat.reduceSub,Int.reduceAdd,Int.reduceSub,Int.reduceMul,Int.reduceNeg,Int.reduceLT,Int.reduceLE,Int.reduceEq,Int.reduceToNat,↓reduceIte,Int.reducePow,Nat.reduceLeDiff,Nat.reduceLT,ne_eq,eq_self,List.length_cons,List.length_nil,qxE] | (with_reducible refine Sx.call_at (f:=115) (fun W hW=>hv W) ?_) | (with_reducible refine Sx.call_at (f:=112) (fun W hW=>gx_rof i64_zero W) ?_) | (with_reducible refine cregF ?_))
  ·refine known_of (enter Try.func143 ratio_clean.ok (args:=[_]) (by simp) ?_)
   repeat' (first | simp (disch:=omega) only [sxE,ratio_clean.E,Nat.reduceAdd,Nat.reduceEqDiff,Nat.reduceMul,Nat.reduceSub,Int.reduceAdd,Int.reduceSub,Int.reduceMul,Int.reduceNeg,Int.reduceLT,Int.reduceLE,Int.reduceEq,Int.reduceToNat,↓reduceIte,Int.reducePow,Nat.reduceLeDiff,Nat.reduceLT,ne_eq,eq_self,List.length_cons,List.length_nil,qxE] | (with_reducible refine Sx.call_at (f:=115) (fun W hW=>hv W) ?_) | (with_reducible refine Sx.call_at (f:=112) (fun W hW=>gx_rof i64_zero W) ?_) | (with_reducible refine cregF ?_))
  ·refine known_of (enter Try.func143 ratio_clean.ok (args:=[_]) (by simp) ?_)
   repeat' (first | simp (disch:=omega) only [sxE,ratio_clean.E,Nat.reduceAdd,Nat.reduceEqDiff,Nat.reduceMul,Nat.reduceSub,Int.reduceAdd,Int.reduceSub,Int.reduceMul,Int.reduceNeg,Int.reduceLT,Int.reduceLE,Int.reduceEq,Int.reduceToNat,↓reduceIte,Int.reducePow,Nat.reduceLeDiff,Nat.reduceLT,ne_eq,eq_self,List.length_cons,List.length_nil,qxE] | (with_reducible refine Sx.call_at (f:=115) (fun W hW=>hv W) ?_) | (with_reducible refine Sx.call_at (f:=112) (fun W hW=>gx_rof i64_zero W) ?_) | (with_reducible refine cregF ?_))
end Go.Proofs.Ytncmmbacoknefaa

/- Ql: Plain laws of fractions. -/
namespace Go.Proofs.Ytncmmbacoknefaa
set_option linter.unusedVariables false
set_option linter.unusedSimpArgs false
theorem km_lt (x y:Int):cm x y < 0↔x < y:=by unfold cm; (repeat' split) <;> omega
def cq (p q p' q':Int):Int:=cm (p * q') (p' * q)
def atq (p q n:Int):Int:=(2 * (p * n) + q) / (2 * q)
end Go.Proofs.Ytncmmbacoknefaa

/- Qb: What calls of the program's ratio give: Compare, Floor, Ceil, At, Make. -/
namespace Go.Proofs.Ytncmmbacoknefaa
open Go Go.RowKit Sx
set_option linter.unusedVariables false
set_option linter.unusedSimpArgs false
theorem CQ.ten {v:Value} {p q:Int} (h:CQ v p q):∃ c0 c1 c2 c3 c4 c5 c6 c7 c8 c9,v = .agg #[c0,c1,c2,c3,c4,c5,c6,c7,c8,c9]:=by
 rcases h with ⟨x,y,-,-,rfl,-,-⟩ | ⟨⟨q,-,rfl⟩ | ⟨p,-,rfl⟩ | rfl,-,-⟩ <;> exact ⟨_,_,_,_,_,_,_,_,_,_,rfl⟩
theorem gx_product {x y:Int} (h:Fits x) (h':Fits y) (hf:Fits (x * y)) (W:World):Gives Try.prog 144 [WX x,WX y] W (· = WX (x * y)):=by
 refine gives_known en_ratio_product ?_
 refine known_of (enter Try.func144 ratio_product.ok (args:=[_,_]) (by simp) ?_)
 repeat' (first | simp (disch:=omega) only [sxE,ratio_product.E,Nat.reduceAdd,Nat.reduceEqDiff,Nat.reduceMul,Nat.reduceSub,Int.reduceAdd,Int.reduceSub,Int.reduceMul,Int.reduceNeg,Int.reduceLT,Int.reduceLE,Int.reduceEq,Int.reduceToNat,↓reduceIte,Int.reducePow,Nat.reduceLeDiff,Nat.reduceLT,ne_eq,eq_self,List.length_cons,List.length_nil,qxE] | (with_reducible refine Sx.call_at (f:=119) (fun W hW=>gx_mul h h' hf W) ?_) | (with_reducible refine cregF ?_))
theorem Fq.fm {p q p' q':Int} (h:Fq p q) (h':Fq p' q'):Fits (p * q'):=(bd_mul h.bp h'.bq).fits
theorem Fq.neg {p q:Int} (h:Fq p q):Fq (-p) q:=⟨h.pos,bd_neg h.bp,h.bq,by rw [gc_neg]; exact h.gc⟩
theorem bd_two:Bd 2 2:=by unfold Bd; decide
theorem gx_rat {v:Value} {p q n:Int} (h:CQ v p q) (hn:U64 n) (W:World):Gives Try.prog 85 [v,.int .u64 n] W (· = WX (atq p q n)):=by
 obtain ⟨c0,c1,c2,c3,c4,c5,c6,c7,c8,c9,rfl⟩:=h.ten
 have f:=h.fq
 have b1:=bd_mul f.bp (bd_u64 hn)
 have b2:=bd_mul bd_two b1
 have b3:=bd_add (c:=194) b2 f.bq (by decide) (by decide)
 have b4:=bd_mul bd_two f.bq
 have f1:=b1.fits
 have f2:=b2.fits
 have f3:=b3.fits
 have f4:=b4.fits
 have fn:=(bd_u64 hn).fits
 have ft:=bd_two.fits
 have i2:I64 2:=⟨by decide,by decide⟩
 have ne:2 * q≠0:=by have:=f.pos; omega
 clear b1 b2 b3 b4
 refine gives_known en_ratio_At ?_
 refine known_of (enter Try.func85 ratio_At.ok (args:=[_,_]) (by simp) ?_)
 repeat' (first | simp (disch:=omega) only [sxE,ratio_At.E,Nat.reduceAdd,Nat.reduceEqDiff,Nat.reduceMul,Nat.reduceSub,Int.reduceAdd,Int.reduceSub,Int.reduceMul,Int.reduceNeg,Int.reduceLT,Int.reduceLE,Int.reduceEq,Int.reduceToNat,↓reduceIte,Int.reducePow,Nat.reduceLeDiff,Nat.reduceLT,ne_eq,eq_self,List.length_cons,List.length_nil,qxE] | (with_reducible refine Sx.call_at (f:=143) (fun W hW=>gx_rclean h W) ?_) | (with_reducible refine Sx.call_at (f:=109) (fun W hW=>gx_of i2 W) ?_) | (with_reducible refine Sx.call_at (f:=111) (fun W hW=>gx_ofU hn W) ?_) | (with_reducible refine Sx.call_at (f:=144) (fun W hW=>gx_product f.fp fn f1 W) ?_) | (with_reducible refine Sx.call_at (f:=144) (fun W hW=>gx_product ft f1 f2 W) ?_) | (with_reducible refine Sx.call_at (f:=144) (fun W hW=>gx_product ft f.fq f4 W) ?_) | (with_reducible refine Sx.call_at (f:=84) (fun W hW=>gx_add f2 f.fq f3 W) ?_) | (with_reducible refine Sx.call_at (f:=145) (fun W hW=>gx_divmod f3 f4 ne W) ?_) | (with_reducible refine cregF ?_))
 rfl
def mkV (b:Bool) (z y:Int):Value:=if mok b z y then .tuple #[RX (mn z y) (mD z y),.bool true] else .tuple #[RX 0 0,.bool false]
theorem cm_zero_iff (z:Int):cm z 0 = 0↔z = 0:=by rw [cm_zero]; (repeat' split) <;> omega
theorem fits_neg {z:Int} (h:Fits z):Fits (-z):=fits_le h (by rw [ab_neg]; exact Int.le_refl _)
theorem fits_mn {z y:Int} (h:Fits z) (hy:y≠0):Fits (mn z y):=by
 unfold mn
 split
 ·exact fits_ediv (fits_neg h) (by have:=gc_pos (x:=z) hy; omega)
 ·exact fits_ediv h (by have:=gc_pos (x:=z) hy; omega)
theorem fits_ab {z:Int} (h:Fits z):Fits (ab z):=fits_le h (by rw [ab_ab]; exact Int.le_refl _)
theorem fits_mD {z y:Int} (h:Fits y) (hy:y≠0):Fits (mD z y):=fits_ediv (fits_ab h) (by have:=gc_pos (x:=z) hy; omega)
end Go.Proofs.Ytncmmbacoknefaa

/- CdX: MADE BY PROGRAM (sxgen.py): the small code of some functions, points of it and their equations. -/
namespace Go.Proofs.Ytncmmbacoknefaa
open Go Go.RowKit Sx Sx.Q
set_option linter.unusedVariables false
variable (C:Cx) (R L1 L2 L3 L4:St→Prop)
namespace r03_Make
abbrev q0:=[2,3,4]
abbrev r0:List G:=[e 2 (.box true 5 (t 0)),e 3 (.box true 5 (t 1)),e 4 (.new zR),Mb 5 false]
abbrev q1:=[2,3,4,26]
abbrev r1:List G:=[L 14 5 2,K1 15 88 14,e 16 (.un .not (t 15)),m 17 16,n 18 17 (.ld true 5 (t 3)),n 19 17 (.call false 88 [(t 18)]),n 20 17 (.un .not (t 19)),o 21 17 20,m 22 21,n 23 22 (.ld true 5 (t 3)),n 24 22 (.call false 65 [(t 23)]),n 25 22 (.bin .eql (t 24) (i 0)),o 26 22 25]
abbrev q2:=[4,5]
abbrev r2:List G:=[e 27 (.bd zR []),V 10 4 27,Mb 5 false]
abbrev q3:=[2,3,4,6]
abbrev r3:List G:=[L 28 5 2,k1 29 136 28,L 30 5 3,k1 31 136 30,k2 32 135 29 31]
abbrev t3:List G:=[e 6 (.new zW),V 5 6 32]
abbrev q4:=[2,3,4,6,7]
abbrev r4:List G:=[L 34 5 2,k1 35 136 34,L 36 5 6,k2 37 23 35 36,m 33 37,x 38 33 0,x 39 33 1,x 40 33 2]
abbrev t4:List G:=[e 7 (.new zW),e 8 (.new zW),V 5 7 38,V 5 8 39,m 9 40]
abbrev q5:=[2,3,4,7,10]
abbrev r5:List G:=[L 42 5 3,k1 43 136 42,L 44 5 6,k2 45 23 43 44,m 41 45,x 46 41 0,x 47 41 1,x 48 41 2]
abbrev t5:List G:=[e 10 (.new zW),e 11 (.new zW),V 5 10 46,V 5 11 47,m 12 48]
abbrev q6:=[4,7,10,53]
abbrev r6:List G:=[a 49 0 2,l 50 49,a 51 0 3,l 52 51,e 53 (.bq true (t 50) (t 52))]
abbrev q7:=[4,7,10]
abbrev r7:List G:=[L 54 5 7,K1 55 53 54,V 5 7 55]
abbrev q8:=[4,13]
abbrev r8:List G:=[L 56 5 7,L 57 5 10,e 58 (.bd zR [(0,5,(t 56)),(5,5,(t 57))]),e 13 (.new zR),V 10 13 58]
abbrev q9:=[4,13,61]
abbrev r9:List G:=[L 59 10 13,K1 60 117 59,e 61 (.un .not (t 60))]
abbrev r10:List G:=[e 62 (.bd zR []),V 10 4 62,Mb 5 false]
abbrev r11:List G:=[L 63 10 13,V 10 4 63,Mb 5 true]
abbrev c:MC:=sq [g r0 q0,sq [g r1 q1,ci 26 (sq [g r2 q2,.ret]) .skip],gd r3 t3 q3,gd r4 t4 q4,gd r5 t5 q5,sq [g r6 q6,ci 53 (g r7 q7) .skip],g r8 q8,sq [g r9 q9,ci 61 (sq [g r10 q2,.ret]) .skip],g r11 q2,.ret]
theorem ok:compF Try.prog Try.f81 (an (rg 12) c [(3,6,[],(up 5),[5]),(4,10,[6,7],(up 6 ++ [(6,2),(7,2)]),[8,9]),(5,10,[6,7],(up 6 ++ [(6,2),(7,2)]),[8,9])]) = some (64,c,[(4,some (true,10)),(5,none)]):=by kernel_rfl
abbrev p1:=P C r11 q2 R
abbrev p3:=P C r10 q2 R
abbrev p2:=cd (t 61) (p3 C R) (p1 C R)
abbrev p4:=P C r9 q9 (p2 C R)
abbrev p5:=P C r8 q8 (p4 C R)
abbrev p7:=P C r7 q7 (p5 C R)
abbrev p6:=cd (t 53) (p7 C R) (p5 C R)
abbrev p8:=P C r6 q6 (p6 C R)
abbrev p9:=Pd C r5 t5 q5 (p8 C R)
abbrev p10:=Pd C r4 t4 q4 (p9 C R)
abbrev p11:=Pd C r3 t3 q3 (p10 C R)
abbrev p13:=P C r2 q2 R
abbrev p12:=cd (t 26) (p13 C R) (p11 C R)
abbrev p14:=P C r1 q1 (p12 C R)
abbrev p15:=P C r0 q0 (p14 C R)
theorem s (S:St):X C c (retK R) S = p15 C R S:=by kernel_rfl
theorem E:type_of% @s:=@s
end r03_Make
namespace r03_Of
abbrev q0:=[0,2]
abbrev r0:List G:=[e 2 (.new zR)]
abbrev r1:List G:=[m 3 0,K1 4 20 3,K0 5 137,e 6 (.bd zR [(0,5,(t 4)),(5,5,(t 5))]),V 10 2 6]
abbrev c:MC:=sq [g r0 q0,g r1 [2],.ret]
theorem ok:compF Try.prog Try.f82 (an (rg 2) c []) = some (7,c,[(2,some (true,10))]):=by kernel_rfl
abbrev p1:=P C r1 [2] R
abbrev p2:=P C r0 q0 (p1 C R)
theorem s (S:St):X C c (retK R) S = p2 C R S:=by kernel_rfl
theorem E:type_of% @s:=@s
end r03_Of
namespace r03_Valid
abbrev r0:List G:=[e 1 (.box true 10 (t 0)),Mb 2 false]
abbrev q0:=[1,30]
abbrev r1:List G:=[a 3 0 1,L 4 5 3,K1 5 88 4,e 6 (.un .not (t 5)),m 7 6,na 8 7 5 1,n 9 7 (.ld true 5 (t 8)),n 10 7 (.call false 88 [(t 9)]),n 11 7 (.un .not (t 10)),o 12 7 11,m 13 12,na 14 13 5 1,n 15 13 (.ld true 5 (t 14)),n 16 13 (.call false 65 [(t 15)]),n 17 13 (.bin .leq (t 16) (i 0)),o 18 13 17,m 19 18,na 20 19 0 1,n 21 19 (.ld true 5 (t 20)),n 22 19 (.call false 160 [(t 21)]),n 23 19 (.un .not (t 22)),o 24 19 23,m 25 24,na 26 25 5 1,n 27 25 (.ld true 5 (t 26)),n 28 25 (.call false 160 [(t 27)]),n 29 25 (.un .not (t 28)),o 30 25 29]
abbrev r2:List G:=[Mb 2 false]
abbrev r3:List G:=[a 31 0 1,L 32 5 31,k1 33 136 32,a 34 5 1,L 35 5 34,k2 36 135 33 35,k0 37 137,e 38 (.eqg false 38 (t 36) (t 37))]
abbrev t3:List G:=[m 2 38]
abbrev c:MC:=sq [g r0 [1],sq [g r1 q0,ci 30 (sq [g r2 [2],.ret]) .skip],gd r3 t3 [2],.ret]
theorem ok:compF Try.prog Try.f117 (an (rg 4) c [(3,8,[],(up 8),[])]) = some (39,c,[(2,none)]):=by kernel_rfl
abbrev p1:=Pd C r3 t3 [2] R
abbrev p3:=P C r2 [2] R
abbrev p2:=cd (t 30) (p3 C R) (p1 C R)
abbrev p4:=P C r1 q0 (p2 C R)
abbrev p5:=P C r0 [1] (p4 C R)
theorem s (S:St):X C c (retK R) S = p5 C R S:=by kernel_rfl
theorem E:type_of% @s:=@s
end r03_Valid
namespace r03_abs
abbrev q0:=[1,2]
abbrev r0:List G:=[e 1 (.box true 5 (t 0)),e 2 (.new zW)]
abbrev r1:List G:=[a 3 0 1,z (.st false 1 (t 3) bf)]
abbrev r2:List G:=[L 4 5 1,V 5 2 4]
abbrev c:MC:=sq [g r0 q0,g r1 q0,g r2 [2],.ret]
theorem ok:compF Try.prog Try.f136 (an (rg 3) c []) = some (5,c,[(2,some (true,5))]):=by kernel_rfl
abbrev p1:=P C r2 [2] R
abbrev p2:=P C r1 q0 (p1 C R)
abbrev p3:=P C r0 q0 (p2 C R)
theorem s (S:St):X C c (retK R) S = p3 C R S:=by kernel_rfl
theorem E:type_of% @s:=@s
end r03_abs
namespace r03_gcd
abbrev q0:=[2,3,4]
abbrev r0:List G:=[e 2 (.box true 5 (t 0)),e 3 (.box true 5 (t 1)),e 4 (.new zW)]
abbrev q1:=[2,3,4,14]
abbrev r1:List G:=[L 12 5 3,K1 13 65 12,bi 14 .neq 13 0]
abbrev q2:=[2,3,4,5,6]
abbrev r2:List G:=[L 16 5 2,K1 17 170 16,m 15 17,x 18 15 0,x 19 15 1,m 5 18,m 6 19]
abbrev q3:=[2,3,4,5,6,7,8]
abbrev r3:List G:=[L 21 5 3,K1 22 170 21,m 20 22,x 23 20 0,x 24 20 1,m 7 23,m 8 24]
abbrev q4:=[2,3,4,5,7,28]
abbrev r4:List G:=[m 25 6,m 26 25,ym 27 26 8,w 28 26 27]
abbrev q5:=[4,5,7,30]
abbrev r5:List G:=[m 29 7,bu 30 .neq 29 0]
abbrev q6:=[4,5,7]
abbrev r6:List G:=[m 31 7,m 32 5,m 33 7,b 34 .rem 32 33]
abbrev t6:List G:=[m 5 31,m 7 34]
abbrev r7:List G:=[m 35 5,K1 36 58 35,V 5 4 36]
abbrev q7:=[2,3,4,10]
abbrev r8:List G:=[L 38 5 2,L 39 5 3,K2 40 23 38 39,m 37 40,x 41 37 0,x 42 37 1,x 43 37 2,e 9 (.new zW),e 10 (.new zW),V 5 9 41,V 5 10 42,m 11 43]
abbrev o9:List (List G):=[[L 44 5 3,L 45 5 10,V 5 2 44,V 5 3 45],[L 44 5 3,V 5 2 44,L 45 5 10,V 5 3 45],[L 45 5 10,L 44 5 3,V 5 2 44,V 5 3 45]]
abbrev r10:List G:=[L 46 5 2,V 5 4 46]
abbrev c:MC:=sq [g r0 q0,.block 0 (.loop (sq [sq [g r1 q1,ci 14 .skip (.exit 0)],.block 1 (sq [g r2 q2,g r3 q3,sq [g r4 q4,ci 28 (sq [.block 2 (.loop (sq [sq [g r5 q5,ci 30 .skip (.exit 2)],.block 3 (gd r6 t6 q6)])),g r7 [4],.ret]) .skip],g r8 q7,ga [] o9 q0])])),g r10 [4],.ret]
theorem ok:compF Try.prog Try.f135 (an (rg 11) c [(6,4,[2,3],[(0,0),(1,0),(2,2),(3,2)],[]),(9,99999,[],[],[])]) = some (47,c,[(4,some (true,5))]):=by kernel_rfl
abbrev p1:=P C r10 [4] R
abbrev p3:=Pa C [] o9 q0 L1
abbrev p4:=P C r8 q7 (p3 C L1)
abbrev p6:=P C r7 [4] R
abbrev p8:=Pd C r6 t6 q6 L2
abbrev p9:=cd (t 30) (p8 C L2) (p6 C R)
abbrev p10:=P C r5 q5 (p9 C R L2)
def p7 (S:St):Prop:=LX C (fun L2=>(p10 C R L2)) S
theorem p7_l (S:St):p7 C R S = LX C (fun L2=>(p10 C R L2)) S:=rfl
abbrev p5:=cd (t 28) (p7 C R) (p4 C L1)
abbrev p11:=P C r4 q4 (p5 C R L1)
abbrev p12:=P C r3 q3 (p11 C R L1)
abbrev p13:=P C r2 q2 (p12 C R L1)
abbrev p14:=cd (t 14) (p13 C R L1) (p1 C R)
abbrev p15:=P C r1 q1 (p14 C R L1)
def p2 (S:St):Prop:=LX C (fun L1=>(p15 C R L1)) S
theorem p2_l (S:St):p2 C R S = LX C (fun L1=>(p15 C R L1)) S:=rfl
abbrev p16:=P C r0 q0 (p2 C R)
theorem s (S:St):X C c (retK R) S = p16 C R S:=by kernel_rfl
theorem E:type_of% @s:=@s
end r03_gcd
namespace r03_one
abbrev r0:List G:=[e 0 (.new zW)]
abbrev r1:List G:=[e 1 (.call false 20 [(i 1)]),V 5 0 1]
abbrev c:MC:=sq [g r0 [0],g r1 [0],.ret]
theorem ok:compF Try.prog Try.f137 (an (rg 2) c []) = some (2,c,[(0,some (true,5))]):=by kernel_rfl
abbrev p1:=P C r1 [0] R
abbrev p2:=P C r0 [0] (p1 C R)
theorem s (S:St):X C c (retK R) S = p2 C R S:=by kernel_rfl
theorem E:type_of% @s:=@s
end r03_one
namespace r03_small
abbrev r0:List G:=[e 1 (.box true 5 (t 0)),Mb 2 false]
abbrev r1:List G:=[a 3 1 1,e 4 (.ia 4 1 (t 3) (i 3)),l 5 4,bu 6 .eql 5 0,m 7 6,ya 8 7 1 1,y 9 7 (.ia 4 1 (t 8) (i 2)),yl 10 7 9,y 11 7 (.bin .eql (t 10) (u 0)),w 12 7 11,m 13 12,ya 14 13 1 1,y 15 13 (.ia 4 1 (t 14) (i 1)),yl 16 13 15,y 17 13 (.bin .lss (t 16) (u 9223372036854775808)),w 18 13 17,m 2 18]
abbrev c:MC:=sq [g r0 [1],g r1 [2],.ret]
theorem ok:compF Try.prog Try.f160 (an (rg 2) c []) = some (19,c,[(2,none)]):=by kernel_rfl
abbrev p1:=P C r1 [2] R
abbrev p2:=P C r0 [1] (p1 C R)
theorem s (S:St):X C c (retK R) S = p2 C R S:=by kernel_rfl
theorem E:type_of% @s:=@s
end r03_small
end Go.Proofs.Ytncmmbacoknefaa

/- Qc: What calls of the reference of ratio give. -/
namespace Go.Proofs.Ytncmmbacoknefaa
open Go Go.RowKit Sx
set_option linter.unusedVariables false
set_option linter.unusedSimpArgs false
theorem small_plain2 {m:Int} (h:A4 m):m < ((2 ^ 127:Nat):Int)↔lb3 m = 0∧lb2 m = 0∧lb1 m < 9223372036854775808:=by
 rw [small_plain h]
 have:=lb1_in m
 rw [Int.fdiv_eq_ediv_of_nonneg _ (by decide)]
 unfold U64 at this
 constructor
 ·rintro ⟨a,b,c⟩; exact ⟨a,b,by omega⟩
 ·rintro ⟨a,b,c⟩; exact ⟨a,b,by omega⟩
theorem rx_small {z:Int} (h:Fits z) (W:World):Gives Try.prog 160 [WX z] W (· = .bool (decide (ab z < ((2 ^ 127:Nat):Int)))):=by
 have e:=small_plain2 (m:=ab z) ⟨ab_nonneg z,(fits_lt z).1 h⟩
 refine gives_known en_r03_small ?_
 rw [show decide (ab z < ((2 ^ 127:Nat):Int)) = (decide (lb3 (ab z) = 0) && (decide (lb2 (ab z) = 0) && decide (lb1 (ab z) < 9223372036854775808))) by rw [Bool.eq_iff_iff,decide_eq_true_iff,e]; simp]
 clear e h
 refine known_of (enter Try.func160 r03_small.ok (args:=[WX z]) (by simp) ?_)
 repeat' (first | simp (disch:=omega) only [sxE,r03_small.E,Nat.reduceAdd,Nat.reduceEqDiff,Nat.reduceMul,Nat.reduceSub,Int.reduceAdd,Int.reduceSub,Int.reduceMul,Int.reduceNeg,Int.reduceLT,Int.reduceLE,Int.reduceEq,Int.reduceToNat,↓reduceIte,Int.reducePow,Nat.reduceLeDiff,Nat.reduceLT,ne_eq,eq_self,List.length_cons,List.length_nil,qxE] | ((with_reducible first | apply cond_beq | apply gd_beq) <;> (intro hc; first | simp only [beq_iff_eq.2 hc] | simp only [beq_eq_false_iff_ne.2 hc] | skip)) | ((with_reducible first | apply cond_dec | apply gd_dec) <;> (intro hc; first | simp only [decide_eq_true hc] | simp only [decide_eq_false hc] | skip)) | ((with_reducible first | apply cond_of | apply gd_of) <;> (intro hc; try simp only [hc])) | (with_reducible refine cregF ?_))
 all_goals (refine vb ?_; rw [Bool.eq_iff_iff]; simp_all)
theorem rx_abs {z:Int} (W:World):Gives Try.prog 136 [WX z] W (· = WX (ab z)):=by
 refine gives_known en_r03_abs ?_
 refine known_of (enter Try.func136 r03_abs.ok (args:=[_]) (by simp) ?_)
 repeat' (first | simp (disch:=omega) only [sxE,r03_abs.E,Nat.reduceAdd,Nat.reduceEqDiff,Nat.reduceMul,Nat.reduceSub,Int.reduceAdd,Int.reduceSub,Int.reduceMul,Int.reduceNeg,Int.reduceLT,Int.reduceLE,Int.reduceEq,Int.reduceToNat,↓reduceIte,Int.reducePow,Nat.reduceLeDiff,Nat.reduceLT,ne_eq,eq_self,List.length_cons,List.length_nil,qxE] | (with_reducible refine cregF ?_))
theorem rx_one (W:World):Gives Try.prog 137 [] W (· = WX 1):=by
 refine gives_known en_r03_one ?_
 refine known_of (enter Try.func137 r03_one.ok (args:=[]) (by simp) ?_)
 repeat' (first | simp (disch:=omega) only [sxE,r03_one.E,Nat.reduceAdd,Nat.reduceEqDiff,Nat.reduceMul,Nat.reduceSub,Int.reduceAdd,Int.reduceSub,Int.reduceMul,Int.reduceNeg,Int.reduceLT,Int.reduceLE,Int.reduceEq,Int.reduceToNat,↓reduceIte,Int.reducePow,Nat.reduceLeDiff,Nat.reduceLT,ne_eq,eq_self,List.length_cons,List.length_nil,qxE] | (with_reducible refine Sx.call_at (f:=20) (fun W hW=>rx_of i64_one W) ?_) | (with_reducible refine cregF ?_))
def gcF2 (x:Int × Int):St:=⟨3,[(4,.p 2 0),(5,.v (.int .u64 x.1)),(7,.v (.int .u64 x.2))],[(2,[.bool false,.int .u64 0,.int .u64 0,.int .u64 0,.int .u64 0])],ext0⟩
set_option maxRecDepth 100000 in
theorem rx_gcd {z y:Int} (h:Fits z) (h':Fits y) (n1:0≤z) (n2:0≤y) (W:World):Gives Try.prog 135 [WX z,WX y] W (· = WX (gc z y)):=by
 refine gives_known en_r03_gcd ?_
 refine known_of (enter Try.func135 r03_gcd.ok (args:=[WX z,WX y]) (by simp) ?_)
 repeat' (first | simp (disch:=omega) only [sxE,r03_gcd.E,Nat.reduceAdd,Nat.reduceEqDiff,Nat.reduceMul,Nat.reduceSub,Int.reduceAdd,Int.reduceSub,Int.reduceMul,Int.reduceNeg,Int.reduceLT,Int.reduceLE,Int.reduceEq,Int.reduceToNat,↓reduceIte,Int.reducePow,Nat.reduceLeDiff,Nat.reduceLT,ne_eq,eq_self,List.length_cons,List.length_nil,qxE] | (with_reducible refine cregF ?_))
 rw [r03_gcd.p2_l]
 refine LX_inv gcF (fun x=>0≤x.1∧0≤x.2∧Fits x.1∧Fits x.2∧gc x.1 x.2 = gc z y) (fun x=>x.2.toNat) ?round (z,y) ⟨n1,n2,h,h',rfl⟩ ?start
 case start =>
  unfold gcF wc
  dsimp only
  simp (disch:=omega) only [sxE,r03_gcd.E,Nat.reduceAdd,Nat.reduceEqDiff,Nat.reduceMul,Nat.reduceSub,Int.reduceAdd,Int.reduceSub,Int.reduceMul,Int.reduceNeg,Int.reduceLT,Int.reduceLE,Int.reduceEq,Int.reduceToNat,↓reduceIte,Int.reducePow,Nat.reduceLeDiff,Nat.reduceLT,ne_eq,eq_self,List.length_cons,List.length_nil]
 case round =>
  rintro ⟨x,w⟩ ⟨h1,h2,h3,h4,h5⟩
  dsimp only at h1 h2 h3 h4 h5 ⊢
  rw [← h5]
  clear h5 h h' n1 n2
  have hcm:=cm_zero w
  unfold gcF wc
  dsimp only
  by_cases hw:w = 0
  ·subst hw
   rw [gc_zero x h1]
   have hc0:cm 0 0 = 0:=rfl
   repeat' (first | simp (disch:=omega) only [sxE,r03_gcd.E,Nat.reduceAdd,Nat.reduceEqDiff,Nat.reduceMul,Nat.reduceSub,Int.reduceAdd,Int.reduceSub,Int.reduceMul,Int.reduceNeg,Int.reduceLT,Int.reduceLE,Int.reduceEq,Int.reduceToNat,↓reduceIte,Int.reducePow,Nat.reduceLeDiff,Nat.reduceLT,ne_eq,eq_self,List.length_cons,List.length_nil,qxE,hc0] | (with_reducible refine Sx.call_at (f:=65) (fun W hW=>rx_sign h4 W) ?_) | (with_reducible refine cregF ?_))
  ·have hc0:cm w 0≠0:=by rw [hcm]; (repeat' split) <;> omega
   have hq:=fits_emod (z:=x) h4 hw
   have hm0:=Int.emod_nonneg x hw
   have hm1:=Int.emod_lt_of_pos x (show 0 < w by omega)
   have hgs:=gc_step h1 (show 0 < w by omega)
   clear hcm
   by_cases hu:x < 18446744073709551616∧w < 18446744073709551616
   ·have u1:unb x = true:=decide_eq_true ⟨h1,hu.1⟩
    have u2:unb w = true:=decide_eq_true ⟨h2,hu.2⟩
    have u3:unv x = x:=by unfold unv; rw [u1]; rfl
    have u4:unv w = w:=by unfold unv; rw [u2]; rfl
    have k1:=fun W=>rx_unsigned h3 W
    have k2:=fun W=>rx_unsigned h4 W
    rw [u1,u3] at k1
    rw [u2,u4] at k2
    repeat' (first | simp (disch:=omega) only [sxE,r03_gcd.E,Nat.reduceAdd,Nat.reduceEqDiff,Nat.reduceMul,Nat.reduceSub,Int.reduceAdd,Int.reduceSub,Int.reduceMul,Int.reduceNeg,Int.reduceLT,Int.reduceLE,Int.reduceEq,Int.reduceToNat,↓reduceIte,Int.reducePow,Nat.reduceLeDiff,Nat.reduceLT,ne_eq,eq_self,List.length_cons,List.length_nil,qxE] | (with_reducible refine Sx.call_at (f:=65) (fun W hW=>rx_sign h4 W) ?_) | (with_reducible refine Sx.call_at (f:=170) (fun W hW=>k1 W) ?_) | (with_reducible refine Sx.call_at (f:=170) (fun W hW=>k2 W) ?_) | (with_reducible refine cregF ?_))
    rw [r03_gcd.p7_l]
    obtain ⟨hu1,hu2⟩:=hu
    clear hgs hm0 hm1 hq hc0 hw u1 u2 u3 u4 k1 k2
    refine LX_inv gcF2 (fun t=>U64 t.1∧U64 t.2∧gc t.1 t.2 = gc x w) (fun t=>t.2.toNat) ?round2 (x,w) ⟨⟨h1,by omega⟩,⟨h2,by omega⟩,rfl⟩ ?start2
    case start2 =>
     unfold gcF2
     dsimp only
     simp (disch:=omega) only [sxE,r03_gcd.E,Nat.reduceAdd,Nat.reduceEqDiff,Nat.reduceMul,Nat.reduceSub,Int.reduceAdd,Int.reduceSub,Int.reduceMul,Int.reduceNeg,Int.reduceLT,Int.reduceLE,Int.reduceEq,Int.reduceToNat,↓reduceIte,Int.reducePow,Nat.reduceLeDiff,Nat.reduceLT,ne_eq,eq_self,List.length_cons,List.length_nil]
    case round2 =>
     rintro ⟨s,t⟩ ⟨i1,i2,i3⟩
     dsimp only at i1 i2 i3 ⊢
     rw [← i3]
     unfold gcF2
     dsimp only
     by_cases ht:t = 0
     ·subst ht
      rw [gc_zero s i1.1]
      repeat' (first | simp (disch:=omega) only [sxE,r03_gcd.E,Nat.reduceAdd,Nat.reduceEqDiff,Nat.reduceMul,Nat.reduceSub,Int.reduceAdd,Int.reduceSub,Int.reduceMul,Int.reduceNeg,Int.reduceLT,Int.reduceLE,Int.reduceEq,Int.reduceToNat,↓reduceIte,Int.reducePow,Nat.reduceLeDiff,Nat.reduceLT,ne_eq,eq_self,List.length_cons,List.length_nil,qxE] | (with_reducible refine Sx.call_at (f:=58) (fun W hW=>rx_ofU i1 W) ?_) | (with_reducible refine cregF ?_))
     ·have e1:s.tmod t = s % t:=Int.tmod_eq_emod_of_nonneg i1.1
      have j0:=Int.emod_nonneg s ht
      have j1:=Int.emod_lt_of_pos s (show 0 < t by have:=i2.1; omega)
      have j2:=gc_step i1.1 (show 0 < t by have:=i2.1; omega)
      have j3:=i2.2
      repeat' (first | simp (disch:=omega) only [sxE,r03_gcd.E,Nat.reduceAdd,Nat.reduceEqDiff,Nat.reduceMul,Nat.reduceSub,Int.reduceAdd,Int.reduceSub,Int.reduceMul,Int.reduceNeg,Int.reduceLT,Int.reduceLE,Int.reduceEq,Int.reduceToNat,↓reduceIte,Int.reducePow,Nat.reduceLeDiff,Nat.reduceLT,ne_eq,eq_self,List.length_cons,List.length_nil,qxE,e1] | (with_reducible refine cregF ?_))
      exact ⟨(t,s % t),⟨i2,⟨j0,by dsimp only; omega⟩,j2⟩,by dsimp only; omega,by repeat' (first | (with_reducible rfl) | (exact Or.inl rfl) | apply And.intro)⟩
   ·have u2:unb x = false∨unb w = false:=by
     rcases Int.lt_or_le x 18446744073709551616 with hl | hl
     ·right; exact decide_eq_false (by omega)
     ·left; exact decide_eq_false (by omega)
    have k1:=fun W=>rx_unsigned h3 W
    have k2:=fun W=>rx_unsigned h4 W
    generalize unb x = p1 at *
    generalize unb w = p2 at *
    generalize unv x = w1 at *
    generalize unv w = w2 at *
    clear hu
    cases p1
    ·repeat' (first | simp (disch:=omega) only [sxE,r03_gcd.E,Nat.reduceAdd,Nat.reduceEqDiff,Nat.reduceMul,Nat.reduceSub,Int.reduceAdd,Int.reduceSub,Int.reduceMul,Int.reduceNeg,Int.reduceLT,Int.reduceLE,Int.reduceEq,Int.reduceToNat,↓reduceIte,Int.reducePow,Nat.reduceLeDiff,Nat.reduceLT,ne_eq,eq_self,List.length_cons,List.length_nil,qxE] | (with_reducible refine Sx.call_at (f:=65) (fun W hW=>rx_sign h4 W) ?_) | (with_reducible refine Sx.call_at (f:=170) (fun W hW=>k1 W) ?_) | (with_reducible refine Sx.call_at (f:=170) (fun W hW=>k2 W) ?_) | (with_reducible refine Sx.call_at (f:=23) (fun W hW=>rx_divmod h3 h4 hw W) ?_) | (with_reducible refine cregF ?_))
     exact ⟨(w,x % w),⟨h2,hm0,h4,hq,hgs⟩,by dsimp only; omega,by repeat' (first | (with_reducible rfl) | (exact Or.inl rfl) | apply And.intro)⟩
    ·obtain rfl:p2 = false:=by rcases u2 with h | h; cases h; exact h
     repeat' (first | simp (disch:=omega) only [sxE,r03_gcd.E,Nat.reduceAdd,Nat.reduceEqDiff,Nat.reduceMul,Nat.reduceSub,Int.reduceAdd,Int.reduceSub,Int.reduceMul,Int.reduceNeg,Int.reduceLT,Int.reduceLE,Int.reduceEq,Int.reduceToNat,↓reduceIte,Int.reducePow,Nat.reduceLeDiff,Nat.reduceLT,ne_eq,eq_self,List.length_cons,List.length_nil,qxE] | (with_reducible refine Sx.call_at (f:=65) (fun W hW=>rx_sign h4 W) ?_) | (with_reducible refine Sx.call_at (f:=170) (fun W hW=>k1 W) ?_) | (with_reducible refine Sx.call_at (f:=170) (fun W hW=>k2 W) ?_) | (with_reducible refine Sx.call_at (f:=23) (fun W hW=>rx_divmod h3 h4 hw W) ?_) | (with_reducible refine cregF ?_))
     exact ⟨(w,x % w),⟨h2,hm0,h4,hq,hgs⟩,by dsimp only; omega,by repeat' (first | (with_reducible rfl) | (exact Or.inl rfl) | apply And.intro)⟩
set_option maxRecDepth 100000 in
theorem rx_rvalid {p q:Int} (h:Fits p) (h':Fits q) (W:World):Gives Try.prog 117 [RX p q] W (· = .bool (rok true p q)):=by
 have hg:=fits_gc h h'
 have hcm:=cm_pos q
 have gq:=fun (hq:0≤q) W=>rx_gcd (fits_ab h) h' (ab_nonneg p) hq W
 rw [gc_abl] at gq
 refine gives_known en_r03_Valid ?_
 by_cases hq:0 < q
 ·have gq:=gq (by omega)
  have hc0:¬ cm q 0≤0:=by omega
  refine known_of (enter Try.func117 r03_Valid.ok (args:=[RX p q]) (by simp) ?_)
  repeat' (first | simp (disch:=omega) only [sxE,r03_Valid.E,Nat.reduceAdd,Nat.reduceEqDiff,Nat.reduceMul,Nat.reduceSub,Int.reduceAdd,Int.reduceSub,Int.reduceMul,Int.reduceNeg,Int.reduceLT,Int.reduceLE,Int.reduceEq,Int.reduceToNat,↓reduceIte,Int.reducePow,Nat.reduceLeDiff,Nat.reduceLT,ne_eq,eq_self,List.length_cons,List.length_nil,qxE] | (with_reducible refine Sx.call_at (f:=88) (fun W hW=>rx_valid h W) ?_) | (with_reducible refine Sx.call_at (f:=88) (fun W hW=>rx_valid h' W) ?_) | (with_reducible refine Sx.call_at (f:=65) (fun W hW=>rx_sign h' W) ?_) | (with_reducible refine Sx.call_at (f:=160) (fun W hW=>rx_small h W) ?_) | (with_reducible refine Sx.call_at (f:=160) (fun W hW=>rx_small h' W) ?_) | (with_reducible refine Sx.call_at (f:=136) (fun W hW=>rx_abs W) ?_) | (with_reducible refine Sx.call_at (f:=135) (fun W hW=>gq W) ?_) | (with_reducible refine Sx.call_at (f:=137) (fun W hW=>rx_one W) ?_) | ((with_reducible apply Sx.eq_is); (case h=>exact fun W=>eqx_run hg fits_one W); (case' hk=>skip)) | ((with_reducible first | apply cond_beq | apply gd_beq) <;> (intro hc; first | simp only [beq_iff_eq.2 hc] | simp only [beq_eq_false_iff_ne.2 hc] | skip)) | ((with_reducible first | apply cond_dec | apply gd_dec) <;> (intro hc; first | simp only [decide_eq_true hc] | simp only [decide_eq_false hc] | skip)) | ((with_reducible first | apply cond_of | apply gd_of) <;> (intro hc; try simp only [hc])) | (with_reducible refine cregF ?_))
  all_goals (refine vb ?_; unfold rok; rw [Bool.eq_iff_iff]; simp_all <;> (intros; omega))
 ·have hc0:cm q 0≤0:=by omega
  have e:rok true p q = false:=by unfold rok; rw [decide_eq_false hq]; rfl
  rw [e]
  refine known_of (enter Try.func117 r03_Valid.ok (args:=[RX p q]) (by simp) ?_)
  repeat' (first | simp (disch:=omega) only [sxE,r03_Valid.E,Nat.reduceAdd,Nat.reduceEqDiff,Nat.reduceMul,Nat.reduceSub,Int.reduceAdd,Int.reduceSub,Int.reduceMul,Int.reduceNeg,Int.reduceLT,Int.reduceLE,Int.reduceEq,Int.reduceToNat,↓reduceIte,Int.reducePow,Nat.reduceLeDiff,Nat.reduceLT,ne_eq,eq_self,List.length_cons,List.length_nil,qxE] | (with_reducible refine Sx.call_at (f:=88) (fun W hW=>rx_valid h W) ?_) | (with_reducible refine Sx.call_at (f:=88) (fun W hW=>rx_valid h' W) ?_) | (with_reducible refine Sx.call_at (f:=65) (fun W hW=>rx_sign h' W) ?_) | (with_reducible refine cregF ?_))
theorem rx_rof {z:Int} (h:I64 z) (W:World):Gives Try.prog 82 [.int .i64 z] W (· = RX z 1):=by
 refine gives_known en_r03_Of ?_
 refine known_of (enter Try.func82 r03_Of.ok (args:=[_]) (by simp) ?_)
 repeat' (first | simp (disch:=omega) only [sxE,r03_Of.E,Nat.reduceAdd,Nat.reduceEqDiff,Nat.reduceMul,Nat.reduceSub,Int.reduceAdd,Int.reduceSub,Int.reduceMul,Int.reduceNeg,Int.reduceLT,Int.reduceLE,Int.reduceEq,Int.reduceToNat,↓reduceIte,Int.reducePow,Nat.reduceLeDiff,Nat.reduceLT,ne_eq,eq_self,List.length_cons,List.length_nil,qxE] | (with_reducible refine Sx.call_at (f:=20) (fun W hW=>rx_of h W) ?_) | (with_reducible refine Sx.call_at (f:=137) (fun W hW=>rx_one W) ?_) | (with_reducible refine cregF ?_))
theorem sg_beq (z y:Int):(sg z == sg y) = decide ((z < 0)↔(y < 0)):=by
 unfold sg
 by_cases h:z < 0 <;> by_cases h':y < 0 <;> simp [h,h']
theorem mn_sg {z y:Int} (hy:y≠0):((z < 0↔y < 0)→mn z y = ab z / gc z y)∧(¬ (z < 0↔y < 0)→mn z y = -(ab z / gc z y)):=by
 have hd:gc z y ∣ z:=gc_dvd_l z y
 unfold mn ab
 by_cases h:z < 0 <;> by_cases h':y < 0 <;> simp only [h,h',if_true,if_false,iff_true,iff_false,not_true_eq_false,not_false_eq_true,false_implies,true_implies,and_true,true_and,forall_const]
 ·rw [Int.neg_ediv_of_dvd hd,Int.neg_neg]
 ·exact Int.neg_ediv_of_dvd hd
set_option maxRecDepth 100000 in
theorem rx_rmake {v v':Value} {b b':Bool} {z y:Int} (h:RW v b z) (h':RW v' b' y) (W:World):Gives Try.prog 81 [v,v'] W (· = mkV (b && b') z y):=by
 refine gives_known en_r03_Make ?_
 have v1:=fun W=>ry_valid h W
 have v2:=fun W=>ry_valid h' W
 have s2:=fun W=>rg_sign h'.is W
 by_cases hbad:b = false∨b' = false∨y = 0
 ·have e:mkV (b && b') z y = .tuple #[RX 0 0,.bool false]:=by
   unfold mkV mok
   rcases hbad with rfl | rfl | rfl
   ·rfl
   ·rw [Bool.and_false]; rfl
   ·rw [if_neg (by simp)]
  rw [e]
  obtain ⟨c0,c1,c2,c3,c4,rfl⟩:=h.five
  obtain ⟨d0,d1,d2,d3,d4,rfl⟩:=h'.five
  have hcm:=cm_zero_iff y
  clear e h h'
  cases b
  ·refine known_of (enter Try.func81 r03_Make.ok (args:=[_,_]) (by simp) ?_)
   repeat' (first | simp (disch:=omega) only [sxE,r03_Make.E,Nat.reduceAdd,Nat.reduceEqDiff,Nat.reduceMul,Nat.reduceSub,Int.reduceAdd,Int.reduceSub,Int.reduceMul,Int.reduceNeg,Int.reduceLT,Int.reduceLE,Int.reduceEq,Int.reduceToNat,↓reduceIte,Int.reducePow,Nat.reduceLeDiff,Nat.reduceLT,ne_eq,eq_self,List.length_cons,List.length_nil,qxE] | (with_reducible refine Sx.call_at (f:=88) (fun W hW=>v1 W) ?_) | (with_reducible refine cregF ?_))
  ·cases b'
   ·refine known_of (enter Try.func81 r03_Make.ok (args:=[_,_]) (by simp) ?_)
    repeat' (first | simp (disch:=omega) only [sxE,r03_Make.E,Nat.reduceAdd,Nat.reduceEqDiff,Nat.reduceMul,Nat.reduceSub,Int.reduceAdd,Int.reduceSub,Int.reduceMul,Int.reduceNeg,Int.reduceLT,Int.reduceLE,Int.reduceEq,Int.reduceToNat,↓reduceIte,Int.reducePow,Nat.reduceLeDiff,Nat.reduceLT,ne_eq,eq_self,List.length_cons,List.length_nil,qxE] | (with_reducible refine Sx.call_at (f:=88) (fun W hW=>v1 W) ?_) | (with_reducible refine Sx.call_at (f:=88) (fun W hW=>v2 W) ?_) | (with_reducible refine cregF ?_))
   ·have hc0:cm y 0 = 0:=hcm.2 (by rcases hbad with h | h | h; cases h; cases h; exact h)
    clear hcm hbad
    refine known_of (enter Try.func81 r03_Make.ok (args:=[_,_]) (by simp) ?_)
    repeat' (first | simp (disch:=omega) only [sxE,r03_Make.E,Nat.reduceAdd,Nat.reduceEqDiff,Nat.reduceMul,Nat.reduceSub,Int.reduceAdd,Int.reduceSub,Int.reduceMul,Int.reduceNeg,Int.reduceLT,Int.reduceLE,Int.reduceEq,Int.reduceToNat,↓reduceIte,Int.reducePow,Nat.reduceLeDiff,Nat.reduceLT,ne_eq,eq_self,List.length_cons,List.length_nil,qxE,hc0] | (with_reducible refine Sx.call_at (f:=88) (fun W hW=>v1 W) ?_) | (with_reducible refine Sx.call_at (f:=88) (fun W hW=>v2 W) ?_) | (with_reducible refine Sx.call_at (f:=65) (fun W hW=>s2 W) ?_) | (with_reducible refine cregF ?_))
 ·obtain ⟨rfl,rfl⟩:b = true∧b' = true:=by
   cases b
   ·exact absurd (.inl rfl) hbad
   ·cases b'
    ·exact absurd (.inr (.inl rfl)) hbad
    ·exact ⟨rfl,rfl⟩
  have hy:y≠0:=fun e=>hbad (.inr (.inr e))
  rcases h with ⟨-,rfl,h⟩ | ⟨h,-,-⟩
  rotate_left
  ·cases h
  rcases h' with ⟨-,rfl,h'⟩ | ⟨h',-,-⟩
  rotate_left
  ·cases h'
  have hc0:cm y 0≠0:=fun e=>hy ((cm_zero_iff y).1 e)
  have f1:=fits_mn h hy
  have f2:=fits_mD (z:=z) h' hy
  have a1:=fits_ab h
  have a2:=fits_ab h'
  have hg:=fits_gc h h'
  have hgp:=gc_pos (x:=z) hy
  have hgn:gc z y≠0:=by omega
  have e:mkV (true && true) z y = if rok true (mn z y) (mD z y) = true then .tuple #[RX (mn z y) (mD z y),.bool true] else .tuple #[RX 0 0,.bool false]:=by
   unfold mkV mok rok
   rw [decide_eq_false hy,decide_eq_true (mk_pos hy),decide_eq_true (mk_gc hy)]
   simp only [Bool.and_true,Bool.true_and,Bool.not_false]
  rw [e]
  have k1:=fun W=>rx_rvalid f1 f2 W
  generalize rok true (mn z y) (mD z y) = t at *
  clear e hbad
  have sb:=sg_beq z y
  have gg:=fun W=>rx_gcd a1 a2 (ab_nonneg z) (ab_nonneg y) W
  rw [gc_abs] at gg
  have d1:=fun W=>rx_divmod a1 hg hgn W
  have d2:=fun W=>rx_divmod a2 hg hgn W
  have e2:ab y / gc z y = mD z y:=rfl
  rw [e2] at d2
  have f3:=fits_ediv a1 hgn
  obtain ⟨m1,m2⟩:=mn_sg (z:=z) hy
  by_cases hs:(z < 0↔y < 0)
  ·have e1:=m1 hs
   rw [e1] at k1 f1 ⊢
   rw [decide_eq_true hs] at sb
   clear m1 m2 e1 e2 hs
   generalize ab z / gc z y = N at *
   generalize mD z y = D at *
   generalize gc z y = G at *
   cases t
   all_goals
    refine known_of (enter Try.func81 r03_Make.ok (args:=[_,_]) (by simp) ?_)
    repeat' (first | simp (disch:=omega) only [sxE,r03_Make.E,Nat.reduceAdd,Nat.reduceEqDiff,Nat.reduceMul,Nat.reduceSub,Int.reduceAdd,Int.reduceSub,Int.reduceMul,Int.reduceNeg,Int.reduceLT,Int.reduceLE,Int.reduceEq,Int.reduceToNat,↓reduceIte,Int.reducePow,Nat.reduceLeDiff,Nat.reduceLT,ne_eq,eq_self,List.length_cons,List.length_nil,qxE,sb] | (with_reducible refine Sx.call_at (f:=88) (fun W hW=>v1 W) ?_) | (with_reducible refine Sx.call_at (f:=88) (fun W hW=>v2 W) ?_) | (with_reducible refine Sx.call_at (f:=65) (fun W hW=>s2 W) ?_) | (with_reducible refine Sx.call_at (f:=136) (fun W hW=>rx_abs W) ?_) | (with_reducible refine Sx.call_at (f:=135) (fun W hW=>gg W) ?_) | (with_reducible refine Sx.call_at (f:=23) (fun W hW=>d1 W) ?_) | (with_reducible refine Sx.call_at (f:=23) (fun W hW=>d2 W) ?_) | (with_reducible refine Sx.call_at (f:=117) (fun W hW=>k1 W) ?_) | (with_reducible refine cregF ?_))
    try rfl
  ·have e1:=m2 hs
   rw [e1] at k1 f1 ⊢
   rw [decide_eq_false hs] at sb
   clear m1 m2 e1 e2 hs
   generalize ab z / gc z y = N at *
   generalize mD z y = D at *
   generalize gc z y = G at *
   cases t
   all_goals
    refine known_of (enter Try.func81 r03_Make.ok (args:=[_,_]) (by simp) ?_)
    repeat' (first | simp (disch:=omega) only [sxE,r03_Make.E,Nat.reduceAdd,Nat.reduceEqDiff,Nat.reduceMul,Nat.reduceSub,Int.reduceAdd,Int.reduceSub,Int.reduceMul,Int.reduceNeg,Int.reduceLT,Int.reduceLE,Int.reduceEq,Int.reduceToNat,↓reduceIte,Int.reducePow,Nat.reduceLeDiff,Nat.reduceLT,ne_eq,eq_self,List.length_cons,List.length_nil,qxE,sb] | (with_reducible refine Sx.call_at (f:=88) (fun W hW=>v1 W) ?_) | (with_reducible refine Sx.call_at (f:=88) (fun W hW=>v2 W) ?_) | (with_reducible refine Sx.call_at (f:=65) (fun W hW=>s2 W) ?_) | (with_reducible refine Sx.call_at (f:=136) (fun W hW=>rx_abs W) ?_) | (with_reducible refine Sx.call_at (f:=135) (fun W hW=>gg W) ?_) | (with_reducible refine Sx.call_at (f:=23) (fun W hW=>d1 W) ?_) | (with_reducible refine Sx.call_at (f:=23) (fun W hW=>d2 W) ?_) | (with_reducible refine Sx.call_at (f:=53) (fun W hW=>rx_neg f3 W) ?_) | (with_reducible refine Sx.call_at (f:=117) (fun W hW=>k1 W) ?_) | (with_reducible refine cregF ?_))
    try rfl
end Go.Proofs.Ytncmmbacoknefaa

/- Spl: Plain facts of the simplest fraction of an interval. -/
namespace Go.Proofs.Ytncmmbacoknefaa
set_option linter.unusedVariables false
set_option linter.unusedSimpArgs false
def sp:Nat→Int→Int→Int→Int→Int × Int
 | 0,_,_,_,_=>(0,0)
 | n + 1,a,b,c,d =>
  if a % b = 0 then (a / b,1)
  else if a / b < c / d then (a / b + 1,1)
  else (a / b * (sp n d (c % d) b (a % b)).1 + (sp n d (c % d) b (a % b)).2,(sp n d (c % d) b (a % b)).1)
end Go.Proofs.Ytncmmbacoknefaa

/- Sq: What calls of simplest and of its reference give. -/
namespace Go.Proofs.Ytncmmbacoknefaa
open Go Go.RowKit Sx
set_option linter.unusedVariables false
set_option linter.unusedSimpArgs false
theorem Fq.v1 {p q:Int} (f:Fq p q) (W:World):Gives Try.prog 115 [RX p q] W (· = .bool true):=by
 have:=gx_rvalid f.fp f.fq W
 rwa [show rok true p q = true from rok_iff.2 ⟨rfl,f⟩] at this
theorem Fq.v2 {p q:Int} (f:Fq p q) (W:World):Gives Try.prog 117 [RX p q] W (· = .bool true):=by
 have:=rx_rvalid f.fp f.fq W
 rwa [show rok true p q = true from rok_iff.2 ⟨rfl,f⟩] at this
end Go.Proofs.Ytncmmbacoknefaa

/- Rw: Make on atoms; raw Wides and Ratios as arguments. -/
namespace Go.Proofs.Ytncmmbacoknefaa
open Go Go.RowKit Sx
set_option linter.unusedVariables false
set_option linter.unusedSimpArgs false
theorem rx_make {z y:Int} (h:Fits z) (h':Fits y) (W:World):Gives Try.prog 81 [WX z,WX y] W (· = mkV true z y):=rx_rmake h.rw h'.rw W
theorem mkV_yes {z y:Int} (h:mok true z y = true):mkV true z y = .tuple #[RX (mn z y) (mD z y),.bool true]:=by unfold mkV; rw [if_pos h]
end Go.Proofs.Ytncmmbacoknefaa

/- CdK: MADE BY PROGRAM (sxgen.py): the small code of some functions, points of it and their equations. -/
namespace Go.Proofs.Ytncmmbacoknefaa
open Go Go.RowKit Sx Sx.Q
set_option linter.unusedVariables false
variable (C:Cx) (R L1 L2 L3 L4:St→Prop)
namespace r13_Tolerance
abbrev r0:List G:=[Mb 2 false]
abbrev r1:List G:=[m 3 0,bi 4 .geq 3 0,m 5 4,ym 6 5 0,y 7 5 (.bin .leq (t 6) (i 4611686018427387904)),w 8 5 7,m 2 8]
abbrev c:MC:=sq [g r0 [0],g r1 [2],.ret]
theorem ok:compF Try.prog Try.f95 (an (rg 2) c []) = some (9,c,[(2,none)]):=by kernel_rfl
abbrev p1:=P C r1 [2] R
abbrev p2:=P C r0 [0] (p1 C R)
theorem s (S:St):X C c (retK R) S = p2 C R S:=by kernel_rfl
theorem E:type_of% @s:=@s
end r13_Tolerance
end Go.Proofs.Ytncmmbacoknefaa

/- Ka: Cones as atoms: cells, equality; Sub of the program. -/
namespace Go.Proofs.Ytncmmbacoknefaa
open Go Go.RowKit
set_option linter.unusedVariables false
set_option linter.unusedSimpArgs false
def KX (o:Bool) (p q p' q':Int):Value:=.agg #[.bool o,.bool (sg p),.int .u64 (lb0 (ab p)),.int .u64 (lb1 (ab p)),.int .u64 (lb2 (ab p)),.int .u64 (lb3 (ab p)),.bool (sg q),.int .u64 (lb0 (ab q)),.int .u64 (lb1 (ab q)),.int .u64 (lb2 (ab q)),.int .u64 (lb3 (ab q)),.bool (sg p'),.int .u64 (lb0 (ab p')),.int .u64 (lb1 (ab p')),.int .u64 (lb2 (ab p')),.int .u64 (lb3 (ab p')),.bool (sg q'),.int .u64 (lb0 (ab q')),.int .u64 (lb1 (ab q')),.int .u64 (lb2 (ab q')),.int .u64 (lb3 (ab q'))]
namespace Sx
variable {C:Cx} {S:St} {K:St→Prop} {d:Option Nat}
end Sx
open Sx
end Go.Proofs.Ytncmmbacoknefaa

/- Kb: Cones: what both programs' Valid, Meet, Contains and Choose return. -/
namespace Go.Proofs.Ytncmmbacoknefaa
open Go Go.RowKit Sx
set_option linter.unusedVariables false
set_option linter.unusedSimpArgs false
structure Cn where
 o:Bool
 p:Int
 q:Int
 p1:Int
 q1:Int
def Cn.v (c:Cn):Value:=KX c.o c.p c.q c.p1 c.q1
def c0:Cn:=⟨false,0,0,0,0⟩
def cO:Cn:=⟨true,0,0,0,0⟩
structure Cl (p q p1 q1:Int):Prop where
 f:Fq p q
 g:Fq p1 q1
 le:p * q1≤p1 * q
def Cn.ok (c:Cn):Prop:=c = cO∨(c.o = false∧Cl c.p c.q c.p1 c.q1)
theorem Cl.ok {p q p1 q1:Int} (h:Cl p q p1 q1):(Cn.mk false p q p1 q1).ok:=.inr ⟨rfl,h⟩
end Go.Proofs.Ytncmmbacoknefaa

/- Kd: Cones: what both programs' Through return. -/
namespace Go.Proofs.Ytncmmbacoknefaa
open Go Go.RowKit Sx
set_option linter.unusedVariables false
set_option linter.unusedSimpArgs false
theorem rx_tol {e:Int} (h:I64 e) (W:World):Gives Try.prog 95 [.int .i64 e] W (· = .bool (decide (0≤e∧e≤4611686018427387904))):=by
 refine gives_known en_r13_Tolerance ?_
 by_cases h1:0≤e
 ·rw [show decide (0≤e∧e≤4611686018427387904) = decide (e≤4611686018427387904) by rw [decide_eq_decide]; exact ⟨fun x=>x.2,fun x=>⟨h1,x⟩⟩]
  refine known_of (enter Try.func95 r13_Tolerance.ok (args:=[_]) (by simp) ?_)
  repeat' (first | simp (disch:=omega) only [sxE,r13_Tolerance.E,Nat.reduceAdd,Nat.reduceEqDiff,Nat.reduceMul,Nat.reduceSub,Int.reduceAdd,Int.reduceSub,Int.reduceMul,Int.reduceNeg,Int.reduceLT,Int.reduceLE,Int.reduceEq,Int.reduceToNat,↓reduceIte,Int.reducePow,Nat.reduceLeDiff,Nat.reduceLT,ne_eq,eq_self,List.length_cons,List.length_nil,qxE] | (with_reducible refine cregF ?_))
 ·rw [show decide (0≤e∧e≤4611686018427387904) = false from decide_eq_false fun x=>h1 x.1]
  refine known_of (enter Try.func95 r13_Tolerance.ok (args:=[_]) (by simp) ?_)
  repeat' (first | simp (disch:=omega) only [sxE,r13_Tolerance.E,Nat.reduceAdd,Nat.reduceEqDiff,Nat.reduceMul,Nat.reduceSub,Int.reduceAdd,Int.reduceSub,Int.reduceMul,Int.reduceNeg,Int.reduceLT,Int.reduceLE,Int.reduceEq,Int.reduceToNat,↓reduceIte,Int.reducePow,Nat.reduceLeDiff,Nat.reduceLT,ne_eq,eq_self,List.length_cons,List.length_nil,qxE] | (with_reducible refine cregF ?_))
end Go.Proofs.Ytncmmbacoknefaa

/- Sh: What swing and pieces share. -/
namespace Go.Proofs.Ytncmmbacoknefaa
open Go Go.RowKit Sx
set_option linter.unusedVariables false
set_option linter.unusedSimpArgs false
abbrev kc (c:Cn):List Value:=[.bool c.o,.bool (sg c.p),.int .u64 (lb0 (ab c.p)),.int .u64 (lb1 (ab c.p)),.int .u64 (lb2 (ab c.p)),.int .u64 (lb3 (ab c.p)),.bool (sg c.q),.int .u64 (lb0 (ab c.q)),.int .u64 (lb1 (ab c.q)),.int .u64 (lb2 (ab c.q)),.int .u64 (lb3 (ab c.q)),.bool (sg c.p1),.int .u64 (lb0 (ab c.p1)),.int .u64 (lb1 (ab c.p1)),.int .u64 (lb2 (ab c.p1)),.int .u64 (lb3 (ab c.p1)),.bool (sg c.q1),.int .u64 (lb0 (ab c.q1)),.int .u64 (lb1 (ab c.q1)),.int .u64 (lb2 (ab c.q1)),.int .u64 (lb3 (ab c.q1))]
abbrev rc (p q:Int):List Value:=[.bool (sg p),.int .u64 (lb0 (ab p)),.int .u64 (lb1 (ab p)),.int .u64 (lb2 (ab p)),.int .u64 (lb3 (ab p)),.bool (sg q),.int .u64 (lb0 (ab q)),.int .u64 (lb1 (ab q)),.int .u64 (lb2 (ab q)),.int .u64 (lb3 (ab q))]
theorem wrap_subw {a b:Int} (ha:I64 a) (hb:I64 b) (h:a≤b):IntKind.u64.wrap (IntKind.u64.wrap b - IntKind.u64.wrap a) = b - a:=by
 have h1:=ha.1
 have h2:=ha.2
 have h3:=hb.1
 have h4:=hb.2
 rw [IntKind.wrap_u64,IntKind.wrap_u64,IntKind.wrap_u64]
 omega
namespace Sx
end Sx
theorem rx_sdist {a b:Int} (ha:I64 a) (hb:I64 b) (h:b≤a) (W:World):Gives Try.prog 71 [.int .i64 a,.int .i64 b] W (· = .int .u64 (a - b)):=by
 refine gives_known en_r01_Distance ?_
 have w1:=wrap_subw hb ha h
 have h':¬ a < b:=by omega
 clear ha hb
 refine known_of (enter Try.func71 r01_Distance.ok (args:=[_,_]) (by simp) ?_)
 repeat' (first | simp (disch:=omega) only [sxE,r01_Distance.E,Nat.reduceAdd,Nat.reduceEqDiff,Nat.reduceMul,Nat.reduceSub,Int.reduceAdd,Int.reduceSub,Int.reduceMul,Int.reduceNeg,Int.reduceLT,Int.reduceLE,Int.reduceEq,Int.reduceToNat,↓reduceIte,Int.reducePow,Nat.reduceLeDiff,Nat.reduceLT,ne_eq,eq_self,List.length_cons,List.length_nil,w1] | (with_reducible refine cregF ?_))
theorem all1_app:∀ a b:List Value,all1 (a ++ b) = (all1 a && all1 b)
 | [],b=>by rw [List.nil_append]; show _ = (true && _); rw [Bool.true_and]
 | v :: a,b=>by
  show (one v && all1 (a ++ b)) = ((one v && all1 a) && all1 b)
  rw [all1_app a b,Bool.and_assoc]
end Go.Proofs.Ytncmmbacoknefaa

/- CdMq: MADE BY PROGRAM (sxgen.py): the small code of some functions, points of it and their equations. -/
namespace Go.Proofs.Ytncmmbacoknefaa
open Go Go.RowKit Sx Sx.Q
set_option linter.unusedVariables false
variable (C:Cx) (R L1 L2 L3 L4:St→Prop)
namespace r15_Start
abbrev q0:=[0,2]
abbrev r0:List G:=[e 2 (.new [.int .i64 0,.int .i64 0,.int .i64 0,.int .i64 0]),Mi 3 0]
abbrev q1:=[0,2,6]
abbrev r1:List G:=[m 4 0,K1 5 95 4,e 6 (.un .not (t 5))]
abbrev q2:=[2,3]
abbrev r2:List G:=[e 7 (.bd [.int .i64 0,.int .i64 0,.int .i64 0,.int .i64 0] []),V 4 2 7,Mi 3 9]
abbrev r3:List G:=[m 8 0,e 9 (.bd [.int .i64 0,.int .i64 0,.int .i64 0,.int .i64 0] [(0,1,(t 8))]),V 4 2 9,Mi 3 0]
abbrev c:MC:=sq [g r0 q0,sq [g r1 q1,ci 6 (sq [g r2 q2,.ret]) .skip],g r3 q2,.ret]
theorem ok:compF Try.prog Try.f89 (an (rg 4) c []) = some (10,c,[(2,some (true,4)),(3,none)]):=by kernel_rfl
abbrev p1:=P C r3 q2 R
abbrev p3:=P C r2 q2 R
abbrev p2:=cd (t 6) (p3 C R) (p1 C R)
abbrev p4:=P C r1 q1 (p2 C R)
abbrev p5:=P C r0 q0 (p4 C R)
theorem s (S:St):X C c (retK R) S = p5 C R S:=by kernel_rfl
theorem E:type_of% @s:=@s
end r15_Start
namespace r15_fits
abbrev r0:List G:=[e 1 (.box true 4 (t 0)),Mb 2 false]
abbrev r1:List G:=[a 3 2 1,l 4 3,a 5 3 1,l 6 5,k2 7 71 4 6,a 8 0 1,l 9 8,e 10 (.cv .u64 (t 9)),e 11 (.bin .mul (u 2) (t 10)),b 12 .leq 7 11]
abbrev t1:List G:=[m 2 12]
abbrev c:MC:=sq [g r0 [1],gd r1 t1 [2],.ret]
theorem ok:compF Try.prog Try.f147 (an (rg 2) c [(1,10,[],(up 10),[])]) = some (13,c,[(2,none)]):=by kernel_rfl
abbrev p1:=Pd C r1 t1 [2] R
abbrev p2:=P C r0 [1] (p1 C R)
theorem s (S:St):X C c (retK R) S = p2 C R S:=by kernel_rfl
theorem E:type_of% @s:=@s
end r15_fits
namespace r15_Valid
abbrev r0:List G:=[e 1 (.box true 4 (t 0)),Mb 2 false]
abbrev q0:=[1,6]
abbrev r1:List G:=[a 3 0 1,l 4 3,K1 5 95 4,e 6 (.un .not (t 5))]
abbrev r2:List G:=[Mb 2 false]
abbrev q1:=[1,9]
abbrev r3:List G:=[a 7 1 1,l 8 7,bi 9 .eql 8 0]
abbrev r4:List G:=[a 10 2 1,l 11 10,bi 12 .eql 11 0,m 13 12,ya 14 13 3 1,yl 15 13 14,y 16 13 (.bin .eql (t 15) (i 0)),w 17 13 16,m 2 17]
abbrev r5:List G:=[a 18 1 1,l 19 18,bi 20 .gtr 19 0,m 21 20,ya 22 21 1 1,yl 23 21 22,y 24 21 (.bin .leq (t 23) (i 1073741824)),w 25 21 24,m 26 25,ya 27 26 2 1,yl 28 26 27,ya 29 26 3 1,yl 30 26 29,y 31 26 (.bin .leq (t 28) (t 30)),w 32 26 31,m 33 32,y 34 33 (.ld true 4 (t 1)),y 35 33 (.call false 147 [(t 34)]),w 36 33 35,m 37 36,ya 38 37 1 1,yl 39 37 38,y 40 37 (.bin .gtr (t 39) (i 1)),ym 41 37 40,na 42 41 2 1,nl 43 41 42,na 44 41 3 1,nl 45 41 44,n 46 41 (.bin .eql (t 43) (t 45)),y 47 37 (.pick (t 41) bt (t 46)),w 48 37 47,m 2 48]
abbrev c:MC:=sq [g r0 [1],sq [g r1 q0,ci 6 (sq [g r2 [2],.ret]) .skip],sq [g r3 q1,ci 9 (sq [g r4 [2],.ret]) .skip],g r5 [2],.ret]
theorem ok:compF Try.prog Try.f146 (an (rg 6) c []) = some (49,c,[(2,none)]):=by kernel_rfl
abbrev p1:=P C r5 [2] R
abbrev p3:=P C r4 [2] R
abbrev p2:=cd (t 9) (p3 C R) (p1 C R)
abbrev p4:=P C r3 q1 (p2 C R)
abbrev p6:=P C r2 [2] R
abbrev p5:=cd (t 6) (p6 C R) (p4 C R)
abbrev p7:=P C r1 q0 (p5 C R)
abbrev p8:=P C r0 [1] (p7 C R)
theorem s (S:St):X C c (retK R) S = p8 C R S:=by kernel_rfl
theorem E:type_of% @s:=@s
end r15_Valid
namespace r15_Step
abbrev q0:=[1,2,4]
abbrev r0:List G:=[e 2 (.box true 4 (t 0)),e 4 (.new [.int .i64 0,.int .i64 0,.int .i64 0,.int .i64 0]),e 5 (.mv (.const (.slice none 0 0))),Mi 6 0]
abbrev q1:=[1,2,4,12]
abbrev r1:List G:=[L 10 4 2,K1 11 146 10,e 12 (.un .not (t 11))]
abbrev q2:=[4,5,6]
abbrev r2:List G:=[e 13 (.bd [.int .i64 0,.int .i64 0,.int .i64 0,.int .i64 0] []),V 4 4 13,e 5 (.mv (.const (.slice none 0 0))),Mi 6 1]
abbrev q3:=[1,2,4,16]
abbrev r3:List G:=[a 14 1 2,l 15 14,bi 16 .eql 15 1073741824]
abbrev r4:List G:=[e 17 (.bd [.int .i64 0,.int .i64 0,.int .i64 0,.int .i64 0] []),V 4 4 17,e 5 (.mv (.const (.slice none 0 0))),Mi 6 3]
abbrev q4:=[1,2,4,7]
abbrev r5:List G:=[a 18 0 2,l 19 18,a 20 1 2,l 21 20,bi 22 .add 21 1,a 23 2 2,l 24 23,m 25 1,e 26 (.mm false (t 24) (t 25)),a 27 3 2,l 28 27,m 29 1,e 30 (.mm true (t 28) (t 29)),e 31 (.bd [.int .i64 0,.int .i64 0,.int .i64 0,.int .i64 0] [(0,1,(t 19)),(1,1,(t 22)),(2,1,(t 26)),(3,1,(t 30))]),e 7 (.new [.int .i64 0,.int .i64 0,.int .i64 0,.int .i64 0]),V 4 7 31]
abbrev q5:=[1,2,4,7,38]
abbrev r6:List G:=[a 32 1 2,l 33 32,bi 34 .gtr 33 0,m 35 34,y 36 35 (.ld true 4 (t 7)),y 37 35 (.call false 147 [(t 36)]),w 38 35 37]
abbrev r7:List G:=[L 39 4 7,V 4 4 39,e 5 (.mv (.const (.slice none 0 0))),Mi 6 0]
abbrev q6:=[1,2,4,8]
abbrev r8:List G:=[L 41 4 2,K1 42 91 41,m 40 42,x 43 40 0,x 44 40 1,m 8 43,m 9 44]
abbrev r9:List G:=[a 45 0 2,l 46 45,m 47 1,m 48 1,e 49 (.bd [.int .i64 0,.int .i64 0,.int .i64 0,.int .i64 0] [(0,1,(t 46)),(1,1,(i 1)),(2,1,(t 47)),(3,1,(t 48))]),m 50 8,V 4 4 49,m 5 50,Mi 6 0]
abbrev c:MC:=sq [g r0 q0,sq [g r1 q1,ci 12 (sq [g r2 q2,.ret]) .skip],sq [g r3 q3,ci 16 (sq [g r4 q2,.ret]) .skip],g r5 q4,sq [g r6 q5,ci 38 (sq [g r7 q2,.ret]) .skip],g r8 q6,g r9 q2,.ret]
theorem ok:compF Try.prog Try.f90 (an (rg 10) c []) = some (51,c,[(4,some (true,4)),(5,none),(6,none)]):=by kernel_rfl
abbrev p1:=P C r9 q2 R
abbrev p2:=P C r8 q6 (p1 C R)
abbrev p4:=P C r7 q2 R
abbrev p3:=cd (t 38) (p4 C R) (p2 C R)
abbrev p5:=P C r6 q5 (p3 C R)
abbrev p6:=P C r5 q4 (p5 C R)
abbrev p8:=P C r4 q2 R
abbrev p7:=cd (t 16) (p8 C R) (p6 C R)
abbrev p9:=P C r3 q3 (p7 C R)
abbrev p11:=P C r2 q2 R
abbrev p10:=cd (t 12) (p11 C R) (p9 C R)
abbrev p12:=P C r1 q1 (p10 C R)
abbrev p13:=P C r0 q0 (p12 C R)
theorem s (S:St):X C c (retK R) S = p13 C R S:=by kernel_rfl
theorem E:type_of% @s:=@s
end r15_Step
namespace r15_Finish
abbrev r0:List G:=[e 1 (.box true 4 (t 0)),e 2 (.mv (.const (.slice none 0 0))),Mi 3 0]
abbrev q0:=[1,6]
abbrev r1:List G:=[L 4 4 1,K1 5 146 4,e 6 (.un .not (t 5))]
abbrev q1:=[2,3]
abbrev r2:List G:=[e 2 (.mv (.const (.slice none 0 0))),Mi 3 1]
abbrev q2:=[1,9]
abbrev r3:List G:=[a 7 1 1,l 8 7,bi 9 .eql 8 0]
abbrev r4:List G:=[e 2 (.mv (.const (.slice none 0 0))),Mi 3 0]
abbrev r5:List G:=[a 10 1 1,l 11 10,a 12 2 1,l 13 12,a 14 3 1,l 15 14,k2 16 148 13 15,e 17 (.bd [.int .i64 0,.int .i64 0] [(0,1,(t 11)),(1,1,(t 16))]),e 18 (.gen false (.bsl 29 1 [0]) [(t 17)])]
abbrev t5:List G:=[m 2 18,Mi 3 0]
abbrev c:MC:=sq [g r0 [1],sq [g r1 q0,ci 6 (sq [g r2 q1,.ret]) .skip],sq [g r3 q2,ci 9 (sq [g r4 q1,.ret]) .skip],gk true false r5 t5 q1,.ret]
theorem ok:compF Try.prog Try.f91 (an (rg 6) c [(5,200009,[],(up 8 ++ [(8,1)]),[])]) = some (19,c,[(2,none),(3,none)]):=by kernel_rfl
abbrev p1:=Pc C true false r5 t5 q1 R
abbrev p3:=P C r4 q1 R
abbrev p2:=cd (t 9) (p3 C R) (p1 C R)
abbrev p4:=P C r3 q2 (p2 C R)
abbrev p6:=P C r2 q1 R
abbrev p5:=cd (t 6) (p6 C R) (p4 C R)
abbrev p7:=P C r1 q0 (p5 C R)
abbrev p8:=P C r0 [1] (p7 C R)
theorem s (S:St):X C c (retK R) S = p8 C R S:=by kernel_rfl
theorem E:type_of% @s:=@s
end r15_Finish
namespace r15_All
abbrev q0:=[0,1]
abbrev r0:List G:=[e 4 (.mv (.const (.slice none 0 0))),Mi 5 0]
abbrev q1:=[0,6,7]
abbrev r1:List G:=[m 14 1,K1 15 89 14,m 13 15,x 16 13 0,x 17 13 1,e 6 (.new [.int .i64 0,.int .i64 0,.int .i64 0,.int .i64 0]),V 4 6 16,m 7 17]
abbrev q2:=[0,6,7,19]
abbrev r2:List G:=[m 18 7,bi 19 .neq 18 0]
abbrev q3:=[4,5]
abbrev r3:List G:=[m 20 7,e 4 (.mv (.const (.slice none 0 0))),m 5 20]
abbrev q4:=[0,6,23]
abbrev r4:List G:=[m 21 0,e 22 (.len false (t 21)),bi 23 .gtr 22 1073741824]
abbrev r5:List G:=[e 4 (.mv (.const (.slice none 0 0))),Mi 5 3]
abbrev q5:=[0,6,8]
abbrev r6:List G:=[e 8 (.mv (.const (.slice none 0 0)))]
abbrev q6:=[0,6,8,9]
abbrev r7:List G:=[Mi 9 0]
abbrev q7:=[0,6,8,9,27]
abbrev r8:List G:=[m 24 9,m 25 0,e 26 (.len false (t 25)),b 27 .lss 24 26]
abbrev r10:List G:=[e 10 (.mv (.const (.slice none 0 0)))]
abbrev q8:=[0,6,8,9,10]
abbrev r11:List G:=[L 31 4 6,m 32 0,m 33 9,j 34 1 32 33,l 35 34,K2 36 90 31 35,m 30 36,x 37 30 0,x 38 30 1,x 39 30 2]
abbrev t11:List G:=[V 4 6 37,m 10 38]
abbrev r12:List G:=[m 40 8,m 41 10,e 42 (.gen false (.bi .append [29,29] 29 [false,false]) [(t 40),(t 41)]),m 8 42]
abbrev r9:List G:=[m 28 9,bi 29 .add 28 1,m 9 29]
abbrev q9:=[8,11]
abbrev r13:List G:=[L 44 4 6,K1 45 91 44,m 43 45,x 46 43 0,x 47 43 1,m 11 46,m 12 47]
abbrev r14:List G:=[m 48 8,m 49 11,e 50 (.gen false (.bi .append [29,29] 29 [false,false]) [(t 48),(t 49)]),m 4 50,Mi 5 0]
abbrev c:MC:=sq [g r0 q0,g r1 q1,sq [g r2 q2,ci 19 (sq [g r3 q3,.ret]) .skip],sq [g r4 q4,ci 23 (sq [g r5 q3,.ret]) .skip],g r6 q5,sq [g r7 q6,.block 0 (.loop (sq [sq [g r8 q7,ci 27 .skip (.exit 0)],.block 1 (sq [g r10 q6,gk true false r11 t11 q8,g r12 q6]),g r9 q6]))],g r13 q9,g r14 q3,.ret]
theorem ok:compF Try.prog Try.f36 (an [0,1,2,3,4,5,6,7,8,10,11,12,9,13,14] c [(11,200010,[8,9],(up 5 ++ [(5,1),(6,0),(7,0),(8,2),(9,2)]),[])]) = some (51,c,[(4,none),(5,none)]):=by kernel_rfl
abbrev p1:=P C r14 q3 R
abbrev p2:=P C r13 q9 (p1 C R)
abbrev p4:=P C r9 q6 L1
abbrev p5:=P C r12 q6 (p4 C L1)
abbrev p6:=Pc C true false r11 t11 q8 (p5 C L1)
abbrev p7:=P C r10 q6 (p6 C L1)
abbrev p8:=cd (t 27) (p7 C L1) (p2 C R)
abbrev p9:=P C r8 q7 (p8 C R L1)
def p3 (S:St):Prop:=LX C (fun L1=>(p9 C R L1)) S
theorem p3_l (S:St):p3 C R S = LX C (fun L1=>(p9 C R L1)) S:=rfl
abbrev p10:=P C r7 q6 (p3 C R)
abbrev p11:=P C r6 q5 (p10 C R)
abbrev p13:=P C r5 q3 R
abbrev p12:=cd (t 23) (p13 C R) (p11 C R)
abbrev p14:=P C r4 q4 (p12 C R)
abbrev p16:=P C r3 q3 R
abbrev p15:=cd (t 19) (p16 C R) (p14 C R)
abbrev p17:=P C r2 q2 (p15 C R)
abbrev p18:=P C r1 q1 (p17 C R)
abbrev p19:=P C r0 q0 (p18 C R)
theorem s (S:St):X C c (retK R) S = p19 C R S:=by kernel_rfl
theorem E:type_of% @s:=@s
end r15_All
namespace r01_Mid
abbrev q0:=[0,1]
abbrev r0:List G:=[Mi 4 0]
abbrev q1:=[0,1,7]
abbrev r1:List G:=[m 5 0,m 6 1,b 7 .gtr 5 6]
abbrev r2:List G:=[m 8 1,m 9 0,m 0 8,m 1 9]
abbrev r3:List G:=[m 10 0,m 11 0,m 12 1,K2 13 71 11 12,bu 14 .quo 13 2,K2 15 174 10 14,m 4 15]
abbrev c:MC:=sq [g r0 q0,sq [g r1 q1,ci 7 (g r2 q0) .skip],g r3 [4],.ret]
theorem ok:compF Try.prog Try.f148 (an (rg 4) c []) = some (16,c,[(4,none)]):=by kernel_rfl
abbrev p1:=P C r3 [4] R
abbrev p3:=P C r2 q0 (p1 C R)
abbrev p2:=cd (t 7) (p3 C R) (p1 C R)
abbrev p4:=P C r1 q1 (p2 C R)
abbrev p5:=P C r0 q0 (p4 C R)
theorem s (S:St):X C c (retK R) S = p5 C R S:=by kernel_rfl
theorem E:type_of% @s:=@s
end r01_Mid
namespace r01_Apply
abbrev q0:=[0,1]
abbrev r0:List G:=[Mi 4 0]
abbrev r1:List G:=[m 5 0,e 6 (.cv .u64 (t 5)),m 7 1,b 8 .add 6 7,e 9 (.cv .i64 (t 8)),m 4 9]
abbrev c:MC:=sq [g r0 q0,g r1 [4],.ret]
theorem ok:compF Try.prog Try.f174 (an (rg 2) c []) = some (10,c,[(4,none)]):=by kernel_rfl
abbrev p1:=P C r1 [4] R
abbrev p2:=P C r0 q0 (p1 C R)
theorem s (S:St):X C c (retK R) S = p2 C R S:=by kernel_rfl
theorem E:type_of% @s:=@s
end r01_Apply
end Go.Proofs.Ytncmmbacoknefaa

/- Qm: midrange: the reference's All; its segments, plain. -/
namespace Go.Proofs.Ytncmmbacoknefaa
open Go Go.RowKit Sx
set_option linter.unusedVariables false
set_option linter.unusedSimpArgs false
structure MqS where
 t:Int
 n:Int
 lo:Int
 hi:Int
abbrev mqv (s:MqS):Value:=.agg #[.int .i64 s.t,.int .i64 s.n,.int .i64 s.lo,.int .i64 s.hi]
def qmi (a b:Int):Int:=if b < a then b else a
def qma (a b:Int):Int:=if a < b then b else a
def mqx (s:MqS) (v:Int):MqS:=⟨s.t,s.n + 1,qmi s.lo v,qma s.hi v⟩
def mqb (t v:Int):MqS:=⟨t,1,v,v⟩
def mqf (s:MqS):Bool:=decide (s.hi - s.lo≤2 * s.t)
def mqg (s:MqS) (v:Int):Bool:=decide (0 < s.n) && mqf (mqx s v)
def mqn (s:MqS) (v:Int):MqS:=if mqg s v = true then mqx s v else mqb s.t v
def mql (s:MqS):Smps:=if s.n = 0 then [] else [(s.n,(s.lo + s.hi) / 2)]
def mqe (s:MqS) (v:Int):Smps:=if mqg s v = true then [] else mql s
structure MqG (s:MqS):Prop where
 t:0≤s.t∧s.t≤4611686018427387904
 n:0≤s.n∧s.n≤1073741824
 lo:I64 s.lo
 hi:I64 s.hi
 le:s.lo≤s.hi
 z:s.n = 0→s.lo = 0∧s.hi = 0
 f:s.hi - s.lo≤2 * s.t
 o:s.n = 1→s.lo = s.hi
theorem qmi_in {a b:Int} (ha:I64 a) (hb:I64 b):I64 (qmi a b):=by unfold qmi; split <;> assumption
theorem qma_in {a b:Int} (ha:I64 a) (hb:I64 b):I64 (qma a b):=by unfold qma; split <;> assumption
theorem qm_le {a b v:Int} (h:a≤b):qmi a v≤qma b v:=by unfold qmi qma; split <;> split <;> omega
theorem mqb_g {t v:Int} (ht:0≤t∧t≤4611686018427387904) (hv:I64 v):MqG (mqb t v):=⟨ht,⟨by show (0:Int)≤1; decide,by show (1:Int)≤_; decide⟩,hv,hv,Int.le_refl _,fun h=>(by cases (show (1:Int) = 0 from h)),by show v - v≤2 * t; omega,fun _=>rfl⟩
theorem MqG.next {s:MqS} (h:MqG s) (hN:s.n < 1073741824) {v:Int} (hv:I64 v):MqG (mqn s v):=by
 unfold mqn
 split
 ·rename_i hg
  unfold mqg mqf at hg
  rw [Bool.and_eq_true,decide_eq_true_eq,decide_eq_true_eq] at hg
  have:=h.n
  exact ⟨h.t,⟨by show 0≤s.n + 1; omega,by show s.n + 1≤_; omega⟩,qmi_in h.lo hv,qma_in h.hi hv,qm_le h.le,fun e=>by have e:s.n + 1 = 0:=e; omega,hg.2,fun e=>by have e:s.n + 1 = 1:=e; omega⟩
 ·exact mqb_g h.t hv
theorem mqn_t (s:MqS) (v:Int):(mqn s v).t = s.t:=by unfold mqn; split <;> rfl
theorem mqn_n {s:MqS} (h:0≤s.n) (v:Int):(mqn s v).n≤s.n + 1:=by
 unfold mqn
 split
 ·exact Int.le_refl _
 ·show (1:Int)≤s.n + 1; omega
theorem mql_len (s:MqS):(mql s).length≤1:=by unfold mql; split <;> simp
theorem mqe_len (s:MqS) (v:Int):(mqe s v).length≤1:=by
 unfold mqe
 split
 ·simp
 ·exact mql_len s
def mqa (a:MqS × Smps) (v:Int):MqS × Smps:=(mqn a.1 v,a.2 ++ mqe a.1 v)
def mq0 (t:Int):MqS:=⟨t,0,0,0⟩
def mqF (t:Int) (zs:List Int):MqS × Smps:=zs.foldl mqa (mq0 t,[])
theorem mqF_snoc (t:Int) (zs:List Int) (x:Int):mqF t (zs ++ [x]) = mqa (mqF t zs) x:=by unfold mqF; rw [List.foldl_append]; rfl
def mqall (t:Int) (zs:List Int):Smps:=(mqF t zs).2 ++ mql (mqF t zs).1
structure MqI (t:Int) (i:Nat) (a:MqS × Smps):Prop where
 g:MqG a.1
 t:a.1.t = t
 n:a.1.n≤i
 len:a.2.length≤i
theorem qtake {zs:List Int} {i:Nat} (h:i < zs.length):zs.take (i + 1) = zs.take i ++ [zs.getD i 0]:=by
 rw [List.take_add_one,List.getElem?_eq_getElem h,List.getD_eq_getElem?_getD,List.getElem?_eq_getElem h]
 rfl
theorem qget {zs:List Int} (hz:∀ z∈zs,I64 z) (i:Nat):I64 (zs.getD i 0):=by
 by_cases h:i < zs.length
 ·rw [List.getD_eq_getElem?_getD,List.getElem?_eq_getElem h]
  exact hz _ (List.getElem_mem h)
 ·rw [List.getD_eq_getElem?_getD,List.getElem?_eq_none (by omega)]
  exact ⟨by decide,by decide⟩
theorem mq0_g {t:Int} (ht:0≤t∧t≤4611686018427387904):MqG (mq0 t):=⟨ht,⟨Int.le_refl _,by show (0:Int)≤_; decide⟩,⟨by show _≤(0:Int); decide,by show (0:Int)≤_; decide⟩,⟨by show _≤(0:Int); decide,by show (0:Int)≤_; decide⟩,Int.le_refl _,fun _=>⟨rfl,rfl⟩,by show (0:Int) - 0≤2 * t; omega,fun h=>(by cases (show (0:Int) = 1 from h))⟩
theorem mqi_at {t:Int} {zs:List Int} (ht:0≤t∧t≤4611686018427387904) (hz:∀ z∈zs,I64 z) (hl:zs.length≤1073741824):∀ i,i≤zs.length→MqI t i (mqF t (zs.take i))
 | 0,_=>⟨by rw [List.take_zero]; exact mq0_g ht,by rw [List.take_zero]; rfl,by rw [List.take_zero]; exact Int.le_refl _,by rw [List.take_zero]; exact Nat.le_refl _⟩
 | i + 1,hi=>by
  have h:=mqi_at ht hz hl i (by omega)
  rw [qtake (by omega),mqF_snoc]
  have h1:=h.n
  have h2:=mqe_len (mqF t (zs.take i)).1 (zs.getD i 0)
  have h3:=h.len
  have h4:=mqn_n h.g.n.1 (zs.getD i 0)
  refine ⟨h.g.next (by omega) (qget hz i),(mqn_t _ _).trans h.t,?_,?_⟩
  ·show (mqn _ _).n≤((i + 1:Nat):Int); omega
  ·show ((mqF t (zs.take i)).2 ++ mqe (mqF t (zs.take i)).1 (zs.getD i 0)).length≤i + 1; rw [List.length_append]; omega
theorem elt_constq:ElT Try.prog 29 34 2 16:=elT (z:=.agg #[.int .i64 0,.int .i64 0]) Try.underlying29 (by kernel_rfl) rfl (by decide)
theorem scells_1q (ls:Smps):all1 (scells ls) = true:=by
 induction ls with
 | nil=>rfl
 | cons x l ih =>
  show all1 (scell x ++ scells l) = true
  rw [all1_app,ih]
  rfl
theorem scells_apq (a b:Smps):scells (a ++ b) = scells a ++ scells b:=by unfold scells; rw [List.flatMap_append]
theorem u64_dbl {t:Int} (ht:0≤t∧t≤4611686018427387904):IntKind.u64.wrap (2 * IntKind.u64.wrap t) = 2 * t:=by
 rw [IntKind.wrap_u64,IntKind.wrap_u64]
 omega
theorem wrap_app {a d:Int} (ha:I64 a) (h0:0≤d) (h:I64 (a + d)):IntKind.i64.wrap (IntKind.u64.wrap (IntKind.u64.wrap a + d)) = a + d:=by
 have h1:=ha.1
 have h2:=ha.2
 have h3:=h.1
 have h4:=h.2
 rw [IntKind.wrap_i64,IntKind.wrap_u64,IntKind.wrap_u64]
 omega
theorem rx_dst {a b:Int} (ha:I64 a) (hb:I64 b) (h:a≤b) (W:World):Gives Try.prog 71 [.int .i64 a,.int .i64 b] W (· = .int .u64 (b - a)):=by
 by_cases e:a = b
 ·subst e
  rw [show a - a = a - a from rfl]
  exact rx_sdist ha ha (Int.le_refl _) W
 ·refine gives_known en_r01_Distance ?_
  have w1:=wrap_subw ha hb h
  have h':a < b:=by omega
  clear ha hb e
  refine known_of (enter Try.func71 r01_Distance.ok (args:=[_,_]) (by simp) ?_)
  repeat' (first | simp (disch:=omega) only [sxE,r01_Distance.E,Nat.reduceAdd,Nat.reduceEqDiff,Nat.reduceMul,Nat.reduceSub,Int.reduceAdd,Int.reduceSub,Int.reduceMul,Int.reduceNeg,Int.reduceLT,Int.reduceLE,Int.reduceEq,Int.reduceToNat,↓reduceIte,Int.reducePow,Nat.reduceLeDiff,Nat.reduceLT,ne_eq,eq_self,List.length_cons,List.length_nil,w1] | (with_reducible refine cregF ?_))
theorem rx_app {a d:Int} (ha:I64 a) (h0:0≤d) (h:I64 (a + d)) (W:World):Gives Try.prog 174 [.int .i64 a,.int .u64 d] W (· = .int .i64 (a + d)):=by
 refine gives_known en_r01_Apply ?_
 have w1:=wrap_app ha h0 h
 clear ha h0 h
 refine known_of (enter Try.func174 r01_Apply.ok (args:=[_,_]) (by simp) ?_)
 repeat' (first | simp (disch:=omega) only [sxE,r01_Apply.E,Nat.reduceAdd,Nat.reduceEqDiff,Nat.reduceMul,Nat.reduceSub,Int.reduceAdd,Int.reduceSub,Int.reduceMul,Int.reduceNeg,Int.reduceLT,Int.reduceLE,Int.reduceEq,Int.reduceToNat,↓reduceIte,Int.reducePow,Nat.reduceLeDiff,Nat.reduceLT,ne_eq,eq_self,List.length_cons,List.length_nil,w1] | (with_reducible refine cregF ?_))
theorem rx_mid {a b:Int} (ha:I64 a) (hb:I64 b) (h:a≤b) (W:World):Gives Try.prog 148 [.int .i64 a,.int .i64 b] W (· = .int .i64 ((a + b) / 2)):=by
 refine gives_known en_r01_Mid ?_
 have d:=fun W=>rx_dst ha hb h W
 have e:(a + b) / 2 = a + (b - a) / 2:=by omega
 have p:=fun W=>rx_app (d:=(b - a) / 2) ha (by omega) ⟨by have:=ha.1; omega,by have:=hb.2; omega⟩ W
 rw [e]
 have q:(b - a).tdiv 2 = (b - a) / 2:=Int.tdiv_eq_ediv_of_nonneg (by omega)
 have wq:IntKind.u64.wrap ((b - a) / 2) = (b - a) / 2:=u64_wrap_id _ ⟨by omega,by have:=ha.1; have:=hb.2; omega⟩
 clear ha hb e
 refine known_of (enter Try.func148 r01_Mid.ok (args:=[_,_]) (by simp) ?_)
 repeat' (first | simp (disch:=omega) only [sxE,r01_Mid.E,Nat.reduceAdd,Nat.reduceEqDiff,Nat.reduceMul,Nat.reduceSub,Int.reduceAdd,Int.reduceSub,Int.reduceMul,Int.reduceNeg,Int.reduceLT,Int.reduceLE,Int.reduceEq,Int.reduceToNat,↓reduceIte,Int.reducePow,Nat.reduceLeDiff,Nat.reduceLT,ne_eq,eq_self,List.length_cons,List.length_nil,q,wq] | (with_reducible refine Sx.call_at (f:=71) (fun W hW=>d W) ?_) | (with_reducible refine Sx.call_at (f:=174) (fun W hW=>p W) ?_) | (with_reducible refine cregF ?_))
theorem rx_qfits {s:MqS} (hl:I64 s.lo) (hh:I64 s.hi) (h:s.lo≤s.hi) (ht:0≤s.t∧s.t≤4611686018427387904) (W:World):Gives Try.prog 147 [mqv s] W (· = .bool (mqf s)):=by
 refine gives_known en_r15_fits ?_
 have d:=fun W=>rx_dst hl hh h W
 have w1:=u64_dbl ht
 unfold mqf
 obtain ⟨t,n,lo,hi⟩:=s
 dsimp only at *
 clear hl hh ht
 generalize hi - lo = D at *
 refine known_of (enter Try.func147 r15_fits.ok (args:=[_]) (by simp) ?_)
 repeat' (first | simp (disch:=omega) only [sxE,r15_fits.E,Nat.reduceAdd,Nat.reduceEqDiff,Nat.reduceMul,Nat.reduceSub,Int.reduceAdd,Int.reduceSub,Int.reduceMul,Int.reduceNeg,Int.reduceLT,Int.reduceLE,Int.reduceEq,Int.reduceToNat,↓reduceIte,Int.reducePow,Nat.reduceLeDiff,Nat.reduceLT,ne_eq,eq_self,List.length_cons,List.length_nil,w1] | (with_reducible refine Sx.call_at (f:=71) (fun W hW=>d W) ?_) | (with_reducible refine cregF ?_))
theorem rx_qval {s:MqS} (h:MqG s) (W:World):Gives Try.prog 146 [mqv s] W (· = .bool true):=by
 refine gives_known en_r15_Valid ?_
 have f:=fun W=>rx_qfits h.lo h.hi h.le h.t W
 have e:mqf s = true:=decide_eq_true h.f
 rw [e] at f
 have it:I64 s.t:=⟨by have:=h.t; omega,by have:=h.t; omega⟩
 have k:=fun W=>rx_tol it W
 obtain ⟨t,n,lo,hi⟩:=s
 have hn:=h.n
 have hz:=h.z
 have ho:=h.o
 have hle:=h.le
 have ht:=h.t
 dsimp only at *
 rw [show decide (0≤t∧t≤4611686018427387904) = true from decide_eq_true ht] at k
 clear h it e
 refine known_of (enter Try.func146 r15_Valid.ok (args:=[_]) (by simp) ?_)
 by_cases h0:n = 0
 ·obtain ⟨e1,e2⟩:=hz h0
  subst h0
  subst e1
  subst e2
  repeat' (first | simp (disch:=omega) only [sxE,r15_Valid.E,Nat.reduceAdd,Nat.reduceEqDiff,Nat.reduceMul,Nat.reduceSub,Int.reduceAdd,Int.reduceSub,Int.reduceMul,Int.reduceNeg,Int.reduceLT,Int.reduceLE,Int.reduceEq,Int.reduceToNat,↓reduceIte,Int.reducePow,Nat.reduceLeDiff,Nat.reduceLT,ne_eq,eq_self,List.length_cons,List.length_nil,beq_self_eq_true,Bool.not_true] | (with_reducible refine Sx.call_at (f:=95) (fun W hW=>k W) ?_) | (with_reducible refine cregF ?_))
 ·have b0:(n == 0) = false:=beq_eq_false_iff_ne.2 h0
  by_cases h1:n = 1
  ·have e1:=ho h1
   subst h1
   subst e1
   repeat' (first | simp (disch:=omega) only [sxE,r15_Valid.E,Nat.reduceAdd,Nat.reduceEqDiff,Nat.reduceMul,Nat.reduceSub,Int.reduceAdd,Int.reduceSub,Int.reduceMul,Int.reduceNeg,Int.reduceLT,Int.reduceLE,Int.reduceEq,Int.reduceToNat,↓reduceIte,Int.reducePow,Nat.reduceLeDiff,Nat.reduceLT,ne_eq,eq_self,List.length_cons,List.length_nil,b0,beq_self_eq_true,Bool.not_true] | (with_reducible refine Sx.call_at (f:=95) (fun W hW=>k W) ?_) | (with_reducible refine Sx.call_at (f:=147) (fun W hW=>f W) ?_) | (with_reducible refine cregF ?_))
  ·repeat' (first | simp (disch:=omega) only [sxE,r15_Valid.E,Nat.reduceAdd,Nat.reduceEqDiff,Nat.reduceMul,Nat.reduceSub,Int.reduceAdd,Int.reduceSub,Int.reduceMul,Int.reduceNeg,Int.reduceLT,Int.reduceLE,Int.reduceEq,Int.reduceToNat,↓reduceIte,Int.reducePow,Nat.reduceLeDiff,Nat.reduceLT,ne_eq,eq_self,List.length_cons,List.length_nil,b0,beq_self_eq_true,Bool.not_true] | (with_reducible refine Sx.call_at (f:=95) (fun W hW=>k W) ?_) | (with_reducible refine Sx.call_at (f:=147) (fun W hW=>f W) ?_) | (with_reducible refine cregF ?_))
def QlB (w:World) (ls:Smps) (er:Int) (en:Ending) (w':World):Prop:=∃ v,en = .returned (.tuple #[v,.int .i64 er])∧w'.ownsRow w.heap.size 34 2 v ls.length (scells ls)∧Below w.heap.size w w'
theorem rx_qstart {t:Int} (ht:0≤t∧t≤4611686018427387904) (W:World):Gives Try.prog 89 [.int .i64 t] W (· = .tuple #[mqv (mq0 t),.int .i64 0]):=by
 refine gives_known en_r15_Start ?_
 have k:=fun W=>rx_tol (e:=t) ⟨by omega,by omega⟩ W
 rw [decide_eq_true ht] at k
 show Calls _ _ _ _ _
 unfold mq0
 clear ht
 refine known_of (enter Try.func89 r15_Start.ok (args:=[_]) (by simp) ?_)
 repeat' (first | simp (disch:=omega) only [sxE,r15_Start.E,Nat.reduceAdd,Nat.reduceEqDiff,Nat.reduceMul,Nat.reduceSub,Int.reduceAdd,Int.reduceSub,Int.reduceMul,Int.reduceNeg,Int.reduceLT,Int.reduceLE,Int.reduceEq,Int.reduceToNat,↓reduceIte,Int.reducePow,Nat.reduceLeDiff,Nat.reduceLT,ne_eq,eq_self,List.length_cons,List.length_nil,Bool.not_true] | (with_reducible refine Sx.call_at (f:=95) (fun W hW=>k W) ?_) | (with_reducible refine cregF ?_))
set_option maxRecDepth 100000 in
theorem rx_qfin {w:World} {s:MqS} (h:MqG s):Calls Try.prog 91 #[mqv s] w (QlB w (mql s) 0):=by
 refine (enterX Try.func91 r15_Finish.ok (args:=[mqv s]) (R:=fun u X=>∃ v L,u = .tuple #[v,.int .i64 0]∧X = kX w.heap.size L∧rowOf L 34 2 v (mql s).length (scells (mql s))) (by simp) ?run).mono ?fin
 case fin =>
  rintro e w' ⟨u,X,rfl,⟨v,L,rfl,rfl,hr⟩,hX,hbl,-⟩
  exact ⟨v,rfl,hr.own hX,hbl⟩
 case run =>
  have kv:=fun W=>rx_qval h W
  have hn1:=h.n
  by_cases hn:s.n = 0
  ·have e:mql s = []:=if_pos hn
   rw [e]
   obtain ⟨t,n,lo,hi⟩:=s
   dsimp only at *
   subst hn
   clear e h
   repeat' (first | simp (disch:=omega) only [sxE,r15_Finish.E,Nat.reduceAdd,Nat.reduceEqDiff,Nat.reduceMul,Nat.reduceSub,Int.reduceAdd,Int.reduceSub,Int.reduceMul,Int.reduceNeg,Int.reduceLT,Int.reduceLE,Int.reduceEq,Int.reduceToNat,↓reduceIte,Int.reducePow,Nat.reduceLeDiff,Nat.reduceLT,ne_eq,eq_self,List.length_cons,List.length_nil,Bool.not_true,beq_self_eq_true] | (with_reducible refine Sx.call_at (f:=146) (fun W hW=>kv W) ?_) | (with_reducible refine cregF ?_))
   exact ⟨.slice none 0 0,[],rfl,kX_nil _,.inl ⟨rfl,rfl,rfl⟩⟩
  ·have e:mql s = [(s.n,(s.lo + s.hi) / 2)]:=if_neg hn
   have m:=fun W=>rx_mid h.lo h.hi h.le W
   rw [e]
   obtain ⟨t,n,lo,hi⟩:=s
   dsimp only at *
   generalize (lo + hi) / 2 = q at *
   have b0:(n == 0) = false:=beq_eq_false_iff_ne.2 hn
   clear e h
   repeat' (first | simp (disch:=omega) only [sxE,r15_Finish.E,Nat.reduceAdd,Nat.reduceEqDiff,Nat.reduceMul,Nat.reduceSub,Int.reduceAdd,Int.reduceSub,Int.reduceMul,Int.reduceNeg,Int.reduceLT,Int.reduceLE,Int.reduceEq,Int.reduceToNat,↓reduceIte,Int.reducePow,Nat.reduceLeDiff,Nat.reduceLT,ne_eq,eq_self,List.length_cons,List.length_nil,b0,Bool.not_true] | (with_reducible refine Sx.call_at (f:=146) (fun W hW=>kv W) ?_) | (with_reducible refine Sx.call_at (f:=148) (fun W hW=>m W) ?_) | (refine genA_w (L:=[]) (cs:=scells [(n,q)]) (e:=34) (s:=2) (n:=1) (kX_nil _) (by simp [maxLen]) rfl (fun W=>by kernel_rfl) fun b hb=>?_) | (with_reducible refine cregF ?_))
   exact ⟨_,_,rfl,rfl,.inr (List.mem_singleton.2 rfl)⟩
set_option maxRecDepth 100000 in
set_option maxHeartbeats 1000000 in
theorem rx_qstp {w:World} {s:MqS} {v:Int} (h:MqG s) (hN:s.n < 1073741824) (hv:I64 v):Calls Try.prog 90 #[mqv s,.int .i64 v] w fun en w'=>∃ u,en = .returned (.tuple #[mqv (mqn s v),u,.int .i64 0])∧w'.ownsRow w.heap.size 34 2 u (mqe s v).length (scells (mqe s v))∧Below w.heap.size w w':=by
 refine (enterX Try.func90 r15_Step.ok (args:=[mqv s,.int .i64 v]) (R:=fun u X=>∃ y L,u = .tuple #[mqv (mqn s v),y,.int .i64 0]∧X = kX w.heap.size L∧rowOf L 34 2 y (mqe s v).length (scells (mqe s v))) (by simp) ?run).mono ?fin
 case fin =>
  rintro e w' ⟨u,X,rfl,⟨y,L,rfl,rfl,hr⟩,hX,hbl,-⟩
  exact ⟨y,rfl,hr.own hX,hbl⟩
 case run =>
  have kv:=fun W=>rx_qval h W
  have fi:=fun W:World=>rx_qfin (w:=W) h
  have hn:=h.n
  have hb:(s.n == 1073741824) = false:=beq_eq_false_iff_ne.2 (by omega)
  have ft:=fun W=>rx_qfits (s:=mqx s v) (qmi_in h.lo hv) (qma_in h.hi hv) (qm_le h.le) h.t W
  clear h
  
  by_cases h0:0 < s.n
  ·have e1:mqn s v = if mqf (mqx s v) = true then mqx s v else mqb s.t v:=by unfold mqn mqg; rw [decide_eq_true h0,Bool.true_and]
   have e2:mqe s v = if mqf (mqx s v) = true then [] else mql s:=by unfold mqe mqg; rw [decide_eq_true h0,Bool.true_and]
   rw [e1,e2]
   clear e1 e2
   generalize mql s = ls at *
   generalize mqf (mqx s v) = r at *
   obtain ⟨t,n,lo,hi⟩:=s
   dsimp only [mqx] at *
   generalize hlo:qmi lo v = lo' at *
   generalize hhi:qma hi v = hi' at *
   unfold qmi at hlo
   unfold qma at hhi
   cases r
   ·rw [if_neg (by decide),if_neg (by decide)]
    repeat' (first | simp (disch:=omega) only [sxE,r15_Step.E,Nat.reduceAdd,Nat.reduceEqDiff,Nat.reduceMul,Nat.reduceSub,Int.reduceAdd,Int.reduceSub,Int.reduceMul,Int.reduceNeg,Int.reduceLT,Int.reduceLE,Int.reduceEq,Int.reduceToNat,↓reduceIte,Int.reducePow,Nat.reduceLeDiff,Nat.reduceLT,ne_eq,eq_self,List.length_cons,List.length_nil,hb,hlo,hhi,Bool.not_true] | (with_reducible refine Sx.call_at (f:=146) (fun W hW=>kv W) ?_) | (with_reducible refine Sx.call_at (f:=147) (fun W hW=>ft W) ?_) | (with_reducible refine cregF ?_))
    refine asks_rowB (L:=[]) (e:=34) (s:=2) (ι:=Unit) (fun _=>True) (fun _=>ls.length) (fun _=>scells ls) (fun _ y=>.tuple #[y,.int .i64 0]) en_r15_Finish (kX_nil _) (fun W hW hok=>by
    refine (fi W).mono ?_
    rintro e w' ⟨y,q1,q2,q3⟩
    exact ⟨(),y,trivial,q1,q2,q3⟩) ?_
    rintro - a5 c5 - - - - -
    repeat' (first | simp (disch:=omega) only [sxE,r15_Step.E,Nat.reduceAdd,Nat.reduceEqDiff,Nat.reduceMul,Nat.reduceSub,Int.reduceAdd,Int.reduceSub,Int.reduceMul,Int.reduceNeg,Int.reduceLT,Int.reduceLE,Int.reduceEq,Int.reduceToNat,↓reduceIte,Int.reducePow,Nat.reduceLeDiff,Nat.reduceLT,ne_eq,eq_self,List.length_cons,List.length_nil,Bool.not_true] | (with_reducible refine cregF ?_))
    exact ⟨_,_,rfl,rfl,.inr (List.mem_singleton.2 rfl)⟩
   ·rw [if_pos rfl,if_pos rfl]
    repeat' (first | simp (disch:=omega) only [sxE,r15_Step.E,Nat.reduceAdd,Nat.reduceEqDiff,Nat.reduceMul,Nat.reduceSub,Int.reduceAdd,Int.reduceSub,Int.reduceMul,Int.reduceNeg,Int.reduceLT,Int.reduceLE,Int.reduceEq,Int.reduceToNat,↓reduceIte,Int.reducePow,Nat.reduceLeDiff,Nat.reduceLT,ne_eq,eq_self,List.length_cons,List.length_nil,hb,hlo,hhi,Bool.not_true] | (with_reducible refine Sx.call_at (f:=146) (fun W hW=>kv W) ?_) | (with_reducible refine Sx.call_at (f:=147) (fun W hW=>ft W) ?_) | (with_reducible refine cregF ?_))
    exact ⟨.slice none 0 0,[],rfl,kX_nil _,.inl ⟨rfl,rfl,rfl⟩⟩
  ·have e1:mqn s v = mqb s.t v:=by unfold mqn mqg; rw [decide_eq_false h0,Bool.false_and,if_neg (by decide)]
   have e2:mqe s v = mql s:=by unfold mqe mqg; rw [decide_eq_false h0,Bool.false_and,if_neg (by decide)]
   rw [e1,e2]
   clear e1 e2 ft
   generalize mql s = ls at *
   obtain ⟨t,n,lo,hi⟩:=s
   dsimp only at *
   repeat' (first | simp (disch:=omega) only [sxE,r15_Step.E,Nat.reduceAdd,Nat.reduceEqDiff,Nat.reduceMul,Nat.reduceSub,Int.reduceAdd,Int.reduceSub,Int.reduceMul,Int.reduceNeg,Int.reduceLT,Int.reduceLE,Int.reduceEq,Int.reduceToNat,↓reduceIte,Int.reducePow,Nat.reduceLeDiff,Nat.reduceLT,ne_eq,eq_self,List.length_cons,List.length_nil,hb,Bool.not_true] | (with_reducible refine Sx.call_at (f:=146) (fun W hW=>kv W) ?_) | (with_reducible refine cregF ?_))
   refine asks_rowB (L:=[]) (e:=34) (s:=2) (ι:=Unit) (fun _=>True) (fun _=>ls.length) (fun _=>scells ls) (fun _ y=>.tuple #[y,.int .i64 0]) en_r15_Finish (kX_nil _) (fun W hW hok=>by
    refine (fi W).mono ?_
    rintro e w' ⟨y,q1,q2,q3⟩
    exact ⟨(),y,trivial,q1,q2,q3⟩) ?_
   rintro - a5 c5 - - - - -
   repeat' (first | simp (disch:=omega) only [sxE,r15_Step.E,Nat.reduceAdd,Nat.reduceEqDiff,Nat.reduceMul,Nat.reduceSub,Int.reduceAdd,Int.reduceSub,Int.reduceMul,Int.reduceNeg,Int.reduceLT,Int.reduceLE,Int.reduceEq,Int.reduceToNat,↓reduceIte,Int.reducePow,Nat.reduceLeDiff,Nat.reduceLT,ne_eq,eq_self,List.length_cons,List.length_nil,Bool.not_true] | (with_reducible refine cregF ?_))
   exact ⟨_,_,rfl,rfl,.inr (List.mem_singleton.2 rfl)⟩
set_option maxRecDepth 100000 in
set_option maxHeartbeats 1000000 in
theorem rx_qall {w:World} {v:Value} {zs:List Int} {t:Int} (h:SlZ w .i64 v zs) (ht:0≤t∧t≤4611686018427387904) (hl:zs.length≤1073741824):Calls Try.prog 36 #[v,.int .i64 t] w (QlB w (mqall t zs) 0):=by
 obtain ⟨a,len,cap,rfl,hlen0,h1,h2,h3,h4⟩:=id h
 subst hlen0
 have h2':=h2
 simp only [maxLen] at h2'
 have hz:∀ z∈zs,I64 z:=fun z hz=>I64.of_wf (h3 z hz)
 refine (enterX Try.func36 r15_All.ok (args:=[.slice a zs.length cap,.int .i64 t]) (R:=fun u X=>∃ v L,u = .tuple #[v,.int .i64 0]∧X = kX w.heap.size L∧rowOf L 34 2 v (mqall t zs).length (scells (mqall t zs))) (by simp) ?run).mono ?fin
 case fin =>
  rintro e w' ⟨u,X,rfl,⟨v,L,rfl,rfl,hr⟩,hX,hbl,-⟩
  exact ⟨v,rfl,hr.own hX,hbl⟩
 case run =>
  have k1:=fun W=>rx_qstart ht W
  have HI:=fun i hi=>mqi_at ht hz hl i hi
  clear ht
  repeat' (first | simp (disch:=omega) only [sxE,r15_All.E,Nat.reduceAdd,Nat.reduceEqDiff,Nat.reduceMul,Nat.reduceSub,Int.reduceAdd,Int.reduceSub,Int.reduceMul,Int.reduceNeg,Int.reduceLT,Int.reduceLE,Int.reduceEq,Int.reduceToNat,↓reduceIte,Int.reducePow,Nat.reduceLeDiff,Nat.reduceLT,ne_eq,eq_self,List.length_cons,List.length_nil,Bool.not_true] | (with_reducible refine Sx.call_at (f:=89) (fun W hW=>k1 W) ?_) | (with_reducible refine cregF ?_))
  rw [r15_All.p3_l]
  refine LX_inv (fun x:Nat × Value=>⟨1,[(0,.v (.slice a zs.length cap)),(6,.p 0 0),(8,.v x.2),(9,.v (.int .i64 (x.1:Int)))],[(0,[.int .i64 (mqF t (zs.take x.1)).1.t,.int .i64 (mqF t (zs.take x.1)).1.n,.int .i64 (mqF t (zs.take x.1)).1.lo,.int .i64 (mqF t (zs.take x.1)).1.hi])],kX w.heap.size [.g (wK 34 2 x.2 (mqF t (zs.take x.1)).2.length (scells (mqF t (zs.take x.1)).2))]⟩) (fun x=>x.1≤zs.length) (fun x=>zs.length - x.1) ?round (0,.slice none 0 0) (Nat.zero_le _) ?start
  case start =>
   have c0:((0:Nat):Int) = 0:=rfl
   simp (disch:=omega) only [sxE,r15_All.E,Nat.reduceAdd,Nat.reduceEqDiff,Nat.reduceMul,Nat.reduceSub,Int.reduceAdd,Int.reduceSub,Int.reduceMul,Int.reduceNeg,Int.reduceLT,Int.reduceLE,Int.reduceEq,Int.reduceToNat,↓reduceIte,Int.reducePow,Nat.reduceLeDiff,Nat.reduceLT,ne_eq,eq_self,List.length_cons,List.length_nil,c0]
   refine ⟨?_,?_⟩
   ·rfl
   ·rw [kX_nil w.heap.size]
    refine extS_of (L:=[]) fun k hk=>?_
    rw [List.mem_singleton.1 hk]
    exact .inr ⟨rfl,fun W=>wK_nil _ _ _ W⟩
  case round =>
   rintro ⟨i,v⟩ hi'
   try dsimp only at hi' ⊢
   by_cases hlt:i < zs.length
   ·obtain ⟨b',off,rfl,-,-⟩:=h4 (by omega)
    have hsi:=HI i hi'
    have hG:=hsi.g
    have enx:mqF t (zs.take (i + 1)) = mqa (mqF t (zs.take i)) (zs.getD i 0):=by rw [qtake hlt,mqF_snoc]
    have hx:=qget hz i
    have e0:(i:Int) + 1 = ((i + 1:Nat):Int):=by omega
    have hN:=hsi.n
    have hlen:=hsi.len
    have hle2:=mqe_len (mqF t (zs.take i)).1 (zs.getD i 0)
    unfold mqa at enx
    generalize hA:mqF t (zs.take i) = A at *
    obtain ⟨⟨st,sn,sl,sh⟩,ls⟩:=A
    clear hA h3 h4 hsi HI
    dsimp only at hG hlen enx hle2 hN ⊢
    repeat' (first | simp (disch:=omega) only [sxE,r15_All.E,Nat.reduceAdd,Nat.reduceEqDiff,Nat.reduceMul,Nat.reduceSub,Int.reduceAdd,Int.reduceSub,Int.reduceMul,Int.reduceNeg,Int.reduceLT,Int.reduceLE,Int.reduceEq,Int.reduceToNat,↓reduceIte,Int.reducePow,Nat.reduceLeDiff,Nat.reduceLT,ne_eq,eq_self,List.length_cons,List.length_nil] | (with_reducible refine ldP_blk b' ?_; refine ldP_z i h ?_ ?_ ?_; omega; omega) | (with_reducible refine cregF ?_))
    refine asks_rowB (L:=[.g (wK 34 2 v ls.length (scells ls))]) (e:=34) (s:=2) (ι:=Unit) (fun _=>True) (fun _=>(mqe ⟨st,sn,sl,sh⟩ (zs.getD i 0)).length) (fun _=>scells (mqe ⟨st,sn,sl,sh⟩ (zs.getD i 0))) (fun _ v=>.tuple #[mqv (mqn ⟨st,sn,sl,sh⟩ (zs.getD i 0)),v,.int .i64 0]) en_r15_Step rfl (fun W hW hok=>?_) ?_
    ·exact (rx_qstp (w:=W) hG (by show sn < 1073741824; omega) hx).mono fun e w' ⟨v,h1,h2,h3⟩=>⟨(),v,trivial,h1,h2,h3⟩
    rintro - a2 c2 - - - - -
    generalize mqe ⟨st,sn,sl,sh⟩ (zs.getD i 0) = es at *
    generalize mqn ⟨st,sn,sl,sh⟩ (zs.getD i 0) = s' at *
    clear hG hx hN
    obtain ⟨st',sn',sl',sh'⟩:=s'
    repeat' (first | simp (disch:=omega) only [sxE,r15_All.E,Nat.reduceAdd,Nat.reduceEqDiff,Nat.reduceMul,Nat.reduceSub,Int.reduceAdd,Int.reduceSub,Int.reduceMul,Int.reduceNeg,Int.reduceLT,Int.reduceLE,Int.reduceEq,Int.reduceToNat,↓reduceIte,Int.reducePow,Nat.reduceLeDiff,Nat.reduceLT,ne_eq,eq_self,List.length_cons,List.length_nil] | (refine genA_appR rfl [] elt_constq rfl (.inr (List.mem_cons_of_mem _ List.mem_cons_self)) (.inr List.mem_cons_self) (.inl fun _ h=>h) (scells_1q _) (by simp only [maxLen]; omega) (by omega) (fun k hk=>by cases hk) fun a3 c3 _ _ _ _=>?_) | (with_reducible refine cregF ?_))
    rw [e0]
    refine ⟨(i + 1,.slice a3 (ls.length + es.length) c3),by dsimp only; omega,by dsimp only; omega,⟨rfl,rfl⟩,?_,.inl ?_⟩
    ·dsimp only
     rw [enx]
    ·dsimp only
     rw [enx]
     dsimp only
     rw [List.length_append,scells_apq]
   ·obtain rfl:i = zs.length:=by omega
    have hsi:=HI _ (Nat.le_refl _)
    rw [List.take_length] at hsi ⊢
    have hG:=hsi.g
    have hlen:=hsi.len
    have hll:=mql_len (mqF t zs).1
    unfold mqall
    generalize hA:mqF t zs = A at *
    obtain ⟨⟨st,sn,sl,sh⟩,ls⟩:=A
    clear hA h3 h4 hsi HI
    dsimp only at hG hlen hll ⊢
    repeat' (first | simp (disch:=omega) only [sxE,r15_All.E,Nat.reduceAdd,Nat.reduceEqDiff,Nat.reduceMul,Nat.reduceSub,Int.reduceAdd,Int.reduceSub,Int.reduceMul,Int.reduceNeg,Int.reduceLT,Int.reduceLE,Int.reduceEq,Int.reduceToNat,↓reduceIte,Int.reducePow,Nat.reduceLeDiff,Nat.reduceLT,ne_eq,eq_self,List.length_cons,List.length_nil] | (with_reducible refine cregF ?_))
    refine asks_rowB (L:=[.g (wK 34 2 v ls.length (scells ls))]) (e:=34) (s:=2) (ι:=Unit) (fun _=>True) (fun _=>(mql ⟨st,sn,sl,sh⟩).length) (fun _=>scells (mql ⟨st,sn,sl,sh⟩)) (fun _ v=>.tuple #[v,.int .i64 0]) en_r15_Finish rfl (fun W hW hok=>?_) ?_
    ·exact (rx_qfin (w:=W) hG).mono fun e w' ⟨v,h1,h2,h3⟩=>⟨(),v,trivial,h1,h2,h3⟩
    rintro - a2 c2 - - - - -
    generalize mql ⟨st,sn,sl,sh⟩ = es at *
    clear hG
    repeat' (first | simp (disch:=omega) only [sxE,r15_All.E,Nat.reduceAdd,Nat.reduceEqDiff,Nat.reduceMul,Nat.reduceSub,Int.reduceAdd,Int.reduceSub,Int.reduceMul,Int.reduceNeg,Int.reduceLT,Int.reduceLE,Int.reduceEq,Int.reduceToNat,↓reduceIte,Int.reducePow,Nat.reduceLeDiff,Nat.reduceLT,ne_eq,eq_self,List.length_cons,List.length_nil] | (refine genA_appR rfl [] elt_constq rfl (.inr (List.mem_cons_of_mem _ List.mem_cons_self)) (.inr List.mem_cons_self) (.inl fun _ h=>h) (scells_1q _) (by simp only [maxLen]; omega) (by omega) (fun k hk=>by cases hk) fun a3 c3 _ _ _ _=>?_) | (with_reducible refine cregF ?_))
    refine ⟨_,_,rfl,rfl,.inr ?_⟩
    rw [List.length_append,scells_apq]
    exact List.mem_singleton.2 rfl
end Go.Proofs.Ytncmmbacoknefaa

/- Qs: midrange: the segments, plain; what constants stand for. -/
namespace Go.Proofs.Ytncmmbacoknefaa
open Go Go.RowKit Sx
set_option linter.unusedVariables false
set_option linter.unusedSimpArgs false
def cz1 (c:Int × Int):List Int:=if 1≤c.1∧c.1≤1073741824 then List.replicate c.1.toNat c.2 else []
def cz (cs:Smps):List Int:=cs.flatMap cz1
theorem cz_take {cs:Smps} {i:Nat} (h:i < cs.length):cz (cs.take (i + 1)) = cz (cs.take i) ++ cz1 (cs.getD i (0,0)):=by
 unfold cz
 rw [List.take_add_one,List.getElem?_eq_getElem h,List.flatMap_append,List.getD_eq_getElem?_getD,List.getElem?_eq_getElem h]
 simp
theorem cz_le {cs:Smps} (i:Nat):(cz (cs.take i)).length≤(cz cs).length:=by
 have e:cz cs = cz (cs.take i) ++ cz (cs.drop i):=by
  unfold cz
  rw [← List.flatMap_append,List.take_append_drop]
 rw [e,List.length_append]
 omega
theorem cz_cons (c:Int × Int) (cs:Smps):cz (c :: cs) = cz1 c ++ cz cs:=rfl
theorem cz_bound {B:Nat}:∀ {cs:Smps},(∀ c∈cs,(cz1 c).length≤B)→(cz cs).length≤cs.length * B
 | [],_=>Nat.zero_le _
 | c :: cs,h=>by
  have h1:=h c List.mem_cons_self
  have h2:=cz_bound (cs:=cs) fun x hx=>h x (List.mem_cons_of_mem _ hx)
  rw [cz_cons,List.length_append,List.length_cons,Nat.add_mul]
  omega
def qlo (zs:List Int) (a:Nat):Nat→Int
 | 0=>zs.getD a 0
 | j + 1=>qmi (qlo zs a j) (zs.getD (a + (j + 1)) 0)
def qhi (zs:List Int) (a:Nat):Nat→Int
 | 0=>zs.getD a 0
 | j + 1=>qma (qhi zs a j) (zs.getD (a + (j + 1)) 0)
def qst (t:Int) (zs:List Int) (a m:Nat):MqS:=⟨t,(m:Int) + 1,qlo zs a m,qhi zs a m⟩
theorem mqx_qst (t:Int) (zs:List Int) (a m:Nat):mqx (qst t zs a m) (zs.getD (a + (m + 1)) 0) = qst t zs a (m + 1):=by
 show (⟨t,(m:Int) + 1 + 1,qmi (qlo zs a m) (zs.getD (a + (m + 1)) 0),qma (qhi zs a m) (zs.getD (a + (m + 1)) 0)⟩:MqS) = ⟨t,((m + 1:Nat):Int) + 1,_,_⟩
 rw [show ((m + 1:Nat):Int) + 1 = (m:Int) + 1 + 1 by omega]
 rfl
def qsg (zs:List Int) (a m:Nat):Int × Int:=((m:Int) + 1,(qlo zs a m + qhi zs a m) / 2)
theorem mql_qst (t:Int) (zs:List Int) (a m:Nat):mql (qst t zs a m) = [qsg zs a m]:=by
 unfold mql
 rw [if_neg (show ¬ (qst t zs a m).n = 0 by show ¬ (m:Int) + 1 = 0; omega)]
 rfl
def QOk (t:Int) (zs:List Int):Nat→Smps→Nat→Prop
 | a,[],e=>a = e
 | a,x :: l,e=>∃ m,x = qsg zs a m∧a + m + 1≤e∧mqf (qst t zs a m) = true∧QOk t zs (a + m + 1) l e
theorem QOk.le {t:Int} {zs:List Int}:∀ {l:Smps} {a e:Nat},QOk t zs a l e→a≤e
 | [],a,e,h=>Nat.le_of_eq h
 | x :: l,a,e,⟨m,_,_,_,h⟩=>by have:=QOk.le h; omega
theorem QOk.snoc {t:Int} {zs:List Int} {b m:Nat} (hf:mqf (qst t zs b m) = true):∀ {l:Smps} {a:Nat},QOk t zs a l b→QOk t zs a (l ++ [qsg zs b m]) (b + m + 1)
 | [],a,h=>by
  have h:a = b:=h
  subst h
  exact ⟨m,rfl,Nat.le_refl _,hf,rfl⟩
 | x :: l,a,⟨n,h1,h2,h3,h⟩=>⟨n,h1,by have:=h.le; omega,h3,QOk.snoc hf h⟩
theorem qf_zero {t:Int} (ht:0≤t) (zs:List Int) (a:Nat):mqf (qst t zs a 0) = true:=decide_eq_true (by show zs.getD a 0 - zs.getD a 0≤2 * t; omega)
theorem mqj_at {t:Int} {zs:List Int} (ht:0≤t):∀ i,i + 1≤zs.length→∃ a m,a + m = i∧QOk t zs 0 (mqF t (zs.take (i + 1))).2 a∧(mqF t (zs.take (i + 1))).1 = qst t zs a m∧mqf (qst t zs a m) = true
 | 0,h=>by
  have e1:mqF t (zs.take (0 + 1)) = (mqb t (zs.getD 0 0),[]):=by
   rw [qtake (by omega),mqF_snoc]
   rfl
  rw [e1]
  exact ⟨0,0,rfl,rfl,rfl,qf_zero ht zs 0⟩
 | i + 1,h=>by
  obtain ⟨a,m,h1,h2,h3,h4⟩:=mqj_at (zs:=zs) ht i (by omega)
  rw [qtake (by omega),mqF_snoc]
  generalize mqF t (zs.take (i + 1)) = A at *
  obtain ⟨s,l⟩:=A
  dsimp only at h2 h3
  subst h3
  have hi:i + 1 = a + (m + 1):=by omega
  have hm:mqg (qst t zs a m) (zs.getD (i + 1) 0) = mqf (qst t zs a (m + 1)):=by
   unfold mqg
   rw [hi,mqx_qst,show decide (0 < (qst t zs a m).n) = true from decide_eq_true (by show (0:Int) < (m:Int) + 1; omega),Bool.true_and]
  show ∃ a' m',a' + m' = i + 1∧QOk t zs 0 (l ++ mqe (qst t zs a m) (zs.getD (i + 1) 0)) a'∧mqn (qst t zs a m) (zs.getD (i + 1) 0) = qst t zs a' m'∧mqf (qst t zs a' m') = true
  cases hb:mqf (qst t zs a (m + 1))
  ·rw [hb] at hm
   refine ⟨i + 1,0,rfl,?_,?_,qf_zero ht zs _⟩
   ·unfold mqe
    rw [hm,if_neg (by decide),mql_qst,show i + 1 = a + m + 1 by omega]
    exact h2.snoc h4
   ·unfold mqn
    rw [hm,if_neg (by decide)]
    rfl
  ·rw [hb] at hm
   refine ⟨a,m + 1,by omega,?_,?_,hb⟩
   ·unfold mqe
    rw [hm,if_pos rfl,List.append_nil]
    exact h2
   ·unfold mqn
    rw [hm,if_pos rfl,hi]
    exact mqx_qst t zs a m
theorem mqall_ok {t:Int} {zs:List Int} (ht:0≤t):QOk t zs 0 (mqall t zs) zs.length:=by
 cases hn:zs.length with
 | zero =>
  obtain rfl:zs = []:=List.eq_nil_of_length_eq_zero hn
  rfl
 | succ i =>
  obtain ⟨a,m,h1,h2,h3,h4⟩:=mqj_at (t:=t) (zs:=zs) ht i (by omega)
  rw [show zs.take (i + 1) = zs by rw [← hn]; exact List.take_length] at h2 h3
  have e:mqall t zs = (mqF t zs).2 ++ [qsg zs a m]:=by
   unfold mqall
   rw [h3,mql_qst]
  rw [e,← h1]
  exact h2.snoc h4
theorem qlo_in {zs:List Int} (hz:∀ z∈zs,I64 z) (a:Nat):∀ m:Nat,I64 (qlo zs a m)∧I64 (qhi zs a m)
 | 0=>⟨qget hz a,qget hz a⟩
 | m + 1=>⟨qmi_in (qlo_in hz a m).1 (qget hz _),qma_in (qlo_in hz a m).2 (qget hz _)⟩
theorem QOk.in64 {t:Int} {zs:List Int} (hz:∀ z∈zs,I64 z) (hl:zs.length≤1073741824):∀ {l:Smps} {a e:Nat},e≤zs.length→QOk t zs a l e→∀ c∈l,I64 c.1∧I64 c.2
 | [],a,e,_,h,c,hc=>by cases hc
 | x :: l,a,e,he,⟨m,h1,h2,h3,h⟩,c,hc=>by
  rcases List.mem_cons.1 hc with rfl | hc
  ·obtain ⟨⟨q1,q2⟩,⟨q3,q4⟩⟩:=qlo_in hz a m
   rw [h1]
   exact ⟨⟨by show _≤(m:Int) + 1; omega,by show (m:Int) + 1≤_; omega⟩,⟨by show _≤(qlo zs a m + qhi zs a m) / 2; omega,by show (qlo zs a m + qhi zs a m) / 2≤_; omega⟩⟩
  ·exact h.in64 hz hl he c hc
theorem QOk.cz_len {t:Int} {zs:List Int} (hl:zs.length≤1073741824):∀ {l:Smps} {a e:Nat},e≤zs.length→QOk t zs a l e→a + (cz l).length = e
 | [],a,e,_,h=>h
 | x :: l,a,e,he,⟨m,h1,h2,h3,h⟩=>by
  have:=h.cz_len hl he
  rw [cz_cons,List.length_append,h1]
  unfold qsg cz1
  dsimp only
  rw [if_pos ⟨by omega,by omega⟩,List.length_replicate]
  omega
end Go.Proofs.Ytncmmbacoknefaa

/- Cn: rebuild.Constants. -/
namespace Go.Proofs.Ytncmmbacoknefaa
open Go Go.RowKit Sx
set_option linter.unusedVariables false
set_option linter.unusedSimpArgs false
theorem all1_rep (n:Nat) (v:Int):all1 (List.replicate n (Value.int .i64 v)) = true:=by
 induction n with
 | zero=>rfl
 | succ n ih=>rw [List.replicate_succ]; exact ih
theorem cz1_yes {c:Int × Int} (h:1≤c.1∧c.1≤1073741824) {n:Nat} (hn:c.1 = (n:Int)):cz1 c = List.replicate n c.2:=by
 unfold cz1
 rw [if_pos h,hn,Int.toNat_natCast]
theorem cz1_no {c:Int × Int} (h:¬ (1≤c.1∧c.1≤1073741824)):cz1 c = []:=if_neg h
def ZB (w:World) (zs:List Int) (en:Ending) (w':World):Prop:=∃ v,en = .returned v∧w'.ownsRow w.heap.size 2 1 v zs.length (zs.map (Value.int .i64))∧Below w.heap.size w w'
set_option maxRecDepth 100000 in
set_option maxHeartbeats 1000000 in
theorem gx_consts {w:World} {v:Value} {cs:Smps} (h:SlS w v cs) (hT:(cz cs).length≤17592186044416):Calls Try.prog 38 #[v] w (ZB w (cz cs)):=by
 obtain ⟨a,cap,rfl,h1,h2,h3,h4⟩:=id h
 have h2':=h2
 simp only [maxLen] at h2'
 refine (enterX Try.func38 rebuild_Constants.ok (args:=[.slice a cs.length cap]) (R:=fun u X=>∃ L,X = kX w.heap.size L∧rowOf L 2 1 u (cz cs).length ((cz cs).map (Value.int .i64))) (by simp) ?run).mono ?fin
 case fin =>
  rintro e w' ⟨u,X,rfl,⟨L,rfl,hr⟩,hX,hbl,-⟩
  exact ⟨u,rfl,hr.own hX,hbl⟩
 case run =>
  repeat' (first | simp (disch:=omega) only [sxE,rebuild_Constants.E,Nat.reduceAdd,Nat.reduceEqDiff,Nat.reduceMul,Nat.reduceSub,Int.reduceAdd,Int.reduceSub,Int.reduceMul,Int.reduceNeg,Int.reduceLT,Int.reduceLE,Int.reduceEq,Int.reduceToNat,↓reduceIte,Int.reducePow,Nat.reduceLeDiff,Nat.reduceLT,ne_eq,eq_self,List.length_cons,List.length_nil] | (with_reducible refine cregF ?_))
  rw [rebuild_Constants.p2_l]
  refine LX_inv (fun x:Nat × Value=>⟨0,[(3,.v x.2),(6,.v (.slice a cs.length cap)),(7,.v (.int .i64 cs.length)),(8,.v (.int .i64 (x.1:Int)))],[],kX w.heap.size [.g (wK 2 1 x.2 (cz (cs.take x.1)).length ((cz (cs.take x.1)).map (Value.int .i64)))]⟩) (fun x=>x.1≤cs.length) (fun x=>cs.length - x.1) ?round (0,.slice none 0 0) (Nat.zero_le _) ?start
  case start =>
   have c0:((0:Nat):Int) = 0:=rfl
   simp (disch:=omega) only [sxE,rebuild_Constants.E,Nat.reduceAdd,Nat.reduceEqDiff,Nat.reduceMul,Nat.reduceSub,Int.reduceAdd,Int.reduceSub,Int.reduceMul,Int.reduceNeg,Int.reduceLT,Int.reduceLE,Int.reduceEq,Int.reduceToNat,↓reduceIte,Int.reducePow,Nat.reduceLeDiff,Nat.reduceLT,ne_eq,eq_self,List.length_cons,List.length_nil,c0]
   rw [kX_nil w.heap.size]
   refine extS_of (L:=[]) fun k hk=>?_
   rw [List.mem_singleton.1 hk]
   exact .inr ⟨rfl,fun W=>wK_nil _ _ _ W⟩
  case round =>
   rintro ⟨i,v⟩ hi
   try dsimp only at hi ⊢
   by_cases hlt:i < cs.length
   ·obtain ⟨b',off,rfl,-,-⟩:=h4 (by omega)
    have e0:(i:Int) + 1 = ((i + 1:Nat):Int):=by omega
    have ecz:=cz_take hlt
    have hle:(cz (cs.take (i + 1))).length≤17592186044416:=Nat.le_trans (cz_le _) hT
    have hc:=smp_i64 h3 i
    generalize hcc:cs.getD i (0,0) = c at *
    obtain ⟨c1,c2⟩:=c
    have hx1:(cs.getD i (0,0)).1 = c1:=by rw [hcc]
    have hx2:(cs.getD i (0,0)).2 = c2:=by rw [hcc]
    generalize hls:cz (cs.take i) = ls at *
    
    by_cases hcr:1≤c1∧c1≤1073741824
    ·obtain ⟨hc1,hc2⟩:=hcr
     obtain ⟨n,rfl⟩:∃ n:Nat,c1 = (n:Int):=⟨c1.toNat,by omega⟩
     rw [cz1_yes (c:=((n:Int),c2)) ⟨hc1,hc2⟩ rfl] at ecz
     have hlen:ls.length + n≤17592186044416:=by
      rw [ecz,List.length_append,List.length_replicate] at hle
      exact hle
     repeat' (first | simp (disch:=omega) only [sxE,rebuild_Constants.E,Nat.reduceAdd,Nat.reduceEqDiff,Nat.reduceMul,Nat.reduceSub,Int.reduceAdd,Int.reduceSub,Int.reduceMul,Int.reduceNeg,Int.reduceLT,Int.reduceLE,Int.reduceEq,Int.reduceToNat,↓reduceIte,Int.reducePow,Nat.reduceLeDiff,Nat.reduceLT,ne_eq,eq_self,List.length_cons,List.length_nil,hx1,hx2] | (with_reducible refine ldP_blk b' ?_; refine ldP_S2 i h ?_ hlt ?_; omega) | (with_reducible refine cregF ?_))
     refine genA_c (L:=[.g (wK 2 1 v ls.length (ls.map (Value.int .i64)))]) (cs:=[.int .i64 c2]) (T:=2) (fun b=>.slice (some ⟨b,0,none⟩) 1 1) rfl (fun W=>by kernel_rfl) fun b2 hb2=>?_
     clear hb2
     repeat' (first | simp (disch:=omega) only [sxE,rebuild_Constants.E,Nat.reduceAdd,Nat.reduceEqDiff,Nat.reduceMul,Nat.reduceSub,Int.reduceAdd,Int.reduceSub,Int.reduceMul,Int.reduceNeg,Int.reduceLT,Int.reduceLE,Int.reduceEq,Int.reduceToNat,↓reduceIte,Int.reducePow,Nat.reduceLeDiff,Nat.reduceLT,ne_eq,eq_self,List.length_cons,List.length_nil] | (with_reducible refine cregF ?_))
     refine asks_kn (ι:=Nat) (L:=[.g (cK b2 [.int .i64 c2]),.g (wK 2 1 v ls.length (ls.map (Value.int .i64)))]) (gs:=[]) (fun g=>.slice (some ⟨g,0,none⟩) n n) (fun g=>[.g (cK g (List.replicate n (.int .i64 c2))),.g (wK 2 1 v ls.length (ls.map (Value.int .i64)))]) en_rept rfl (fun x hx=>by cases hx) (fun W hok x hx=>by cases hx) (fun W hW hok=>?rep) fun g=>?_
     case rep =>
      have k1:(cK b2 [.int .i64 c2]).ok w.heap.size W:=hok _ List.mem_cons_self
      refine (rep_any (w:=W) (b:=b2) (cap:=1) (n:=n) (v:=c2) k1.2 (by omega) (by omega)).mono fun e w' ⟨g,h1,h2,h3,h4⟩=>⟨g,h1,moves_below h2,fun k hk=>?_⟩
      rcases List.mem_cons.1 hk with rfl | hk
      ·refine .inr ⟨⟨Nat.le_trans hW.size h3,h4⟩,fun c hc=>.inr ?_⟩
       rw [cK_bs.1 hc]
       exact h3
      ·exact .inl ⟨List.mem_cons_of_mem _ hk,fun _ _ h=>by cases h⟩
     repeat' (first | simp (disch:=omega) only [sxE,rebuild_Constants.E,Nat.reduceAdd,Nat.reduceEqDiff,Nat.reduceMul,Nat.reduceSub,Int.reduceAdd,Int.reduceSub,Int.reduceMul,Int.reduceNeg,Int.reduceLT,Int.reduceLE,Int.reduceEq,Int.reduceToNat,↓reduceIte,Int.reducePow,Nat.reduceLeDiff,Nat.reduceLT,ne_eq,eq_self,List.length_cons,List.length_nil] | (with_reducible refine cregF ?_))
     refine genA_lit rfl [] elt_int64 rfl (.inr (List.mem_cons_of_mem _ (List.mem_singleton.2 rfl))) (.inl fun _ h=>h) List.mem_cons_self (by rw [List.length_replicate,Nat.mul_one]) (by omega) (all1_rep n c2) (by simp only [maxLen]; omega) (by omega) (fun k hk=>by cases hk) fun g3 cap3 _ _ _ _=>?_
     repeat' (first | simp (disch:=omega) only [sxE,rebuild_Constants.E,Nat.reduceAdd,Nat.reduceEqDiff,Nat.reduceMul,Nat.reduceSub,Int.reduceAdd,Int.reduceSub,Int.reduceMul,Int.reduceNeg,Int.reduceLT,Int.reduceLE,Int.reduceEq,Int.reduceToNat,↓reduceIte,Int.reducePow,Nat.reduceLeDiff,Nat.reduceLT,ne_eq,eq_self,List.length_cons,List.length_nil] | (with_reducible refine cregF ?_))
     rw [e0]
     refine ⟨(i + 1,.slice (some ⟨g3,0,none⟩) (ls.length + n) cap3),by dsimp only; omega,by dsimp only; omega,⟨rfl,rfl⟩,.inl ?_⟩
     dsimp only
     rw [ecz,List.length_append,List.map_append,List.length_replicate,List.map_replicate]
    ·rw [cz1_no hcr,List.append_nil] at ecz
     by_cases hc1:1≤c1
     ·have hc2:¬ c1≤1073741824:=fun h=>hcr ⟨hc1,h⟩
      repeat' (first | simp (disch:=omega) only [sxE,rebuild_Constants.E,Nat.reduceAdd,Nat.reduceEqDiff,Nat.reduceMul,Nat.reduceSub,Int.reduceAdd,Int.reduceSub,Int.reduceMul,Int.reduceNeg,Int.reduceLT,Int.reduceLE,Int.reduceEq,Int.reduceToNat,↓reduceIte,Int.reducePow,Nat.reduceLeDiff,Nat.reduceLT,ne_eq,eq_self,List.length_cons,List.length_nil,hx1,hx2] | (with_reducible refine ldP_blk b' ?_; refine ldP_S2 i h ?_ hlt ?_; omega) | (with_reducible refine cregF ?_))
      rw [e0]
      refine ⟨(i + 1,v),by dsimp only; omega,by dsimp only; omega,?_⟩
      dsimp only
      rw [ecz]
      exact ⟨⟨rfl,rfl⟩,.inl rfl⟩
     ·repeat' (first | simp (disch:=omega) only [sxE,rebuild_Constants.E,Nat.reduceAdd,Nat.reduceEqDiff,Nat.reduceMul,Nat.reduceSub,Int.reduceAdd,Int.reduceSub,Int.reduceMul,Int.reduceNeg,Int.reduceLT,Int.reduceLE,Int.reduceEq,Int.reduceToNat,↓reduceIte,Int.reducePow,Nat.reduceLeDiff,Nat.reduceLT,ne_eq,eq_self,List.length_cons,List.length_nil,hx1,hx2] | (with_reducible refine ldP_blk b' ?_; refine ldP_S2 i h ?_ hlt ?_; omega) | (with_reducible refine cregF ?_))
      rw [e0]
      refine ⟨(i + 1,v),by dsimp only; omega,by dsimp only; omega,?_⟩
      dsimp only
      rw [ecz]
      exact ⟨⟨rfl,rfl⟩,.inl rfl⟩
   ·obtain rfl:i = cs.length:=by omega
    rw [List.take_length]
    repeat' (first | simp (disch:=omega) only [sxE,rebuild_Constants.E,Nat.reduceAdd,Nat.reduceEqDiff,Nat.reduceMul,Nat.reduceSub,Int.reduceAdd,Int.reduceSub,Int.reduceMul,Int.reduceNeg,Int.reduceLT,Int.reduceLE,Int.reduceEq,Int.reduceToNat,↓reduceIte,Int.reducePow,Nat.reduceLeDiff,Nat.reduceLT,ne_eq,eq_self,List.length_cons,List.length_nil] | (with_reducible refine cregF ?_))
    exact ⟨_,rfl,.inr (List.mem_singleton.2 rfl)⟩
end Go.Proofs.Ytncmmbacoknefaa

/- CdRb: MADE BY PROGRAM (sxgen.py): the small code of some functions, points of it and their equations. -/
namespace Go.Proofs.Ytncmmbacoknefaa
open Go Go.RowKit Sx Sx.Q
set_option linter.unusedVariables false
variable (C:Cx) (R L1 L2 L3 L4:St→Prop)
namespace r20_Constants
abbrev r0:List G:=[e 2 (.mv (.const (.slice none 0 0)))]
abbrev q0:=[0,3]
abbrev r1:List G:=[e 3 (.mv (.const (.slice none 0 0)))]
abbrev q1:=[0,3,4]
abbrev r2:List G:=[Mi 4 0]
abbrev q2:=[0,3,4,9]
abbrev r3:List G:=[m 6 4,m 7 0,e 8 (.len false (t 7)),b 9 .lss 6 8]
abbrev q3:=[0,3,4,5]
abbrev r5:List G:=[Mi 5 0]
abbrev q4:=[0,3,4,5,26]
abbrev r6:List G:=[m 12 5,m 13 0,m 14 4,j 15 2 13 14,a 16 0 15,l 17 16,b 18 .lss 12 17,m 19 18,ym 20 19 0,ym 21 19 4,y 22 19 (.is 2 (t 20) (t 21)),ya 23 19 0 22,yl 24 19 23,y 25 19 (.bin .leq (t 24) (i 1073741824)),w 26 19 25]
abbrev r8:List G:=[m 29 3,m 30 0,m 31 4,j 32 2 30 31,a 33 1 32,l 34 33,e 35 (.gen false (.bsl 22 1 [0]) [(t 34)]),e 36 (.gen false (.bi .append [22,22] 22 [false,false]) [(t 29),(t 35)]),m 3 36]
abbrev r7:List G:=[m 27 5,bi 28 .add 27 1,m 5 28]
abbrev r4:List G:=[m 10 4,bi 11 .add 10 1,m 4 11]
abbrev r9:List G:=[m 37 3,m 2 37]
abbrev c:MC:=sq [g r0 [0],g r1 q0,sq [g r2 q1,.block 0 (.loop (sq [sq [g r3 q2,ci 9 .skip (.exit 0)],.block 1 (sq [g r5 q3,.block 2 (.loop (sq [sq [g r6 q4,ci 26 .skip (.exit 2)],.block 3 (g r8 q3),g r7 q3]))]),g r4 q1]))],g r9 [2],.ret]
theorem ok:compF Try.prog Try.f39 (an [0,1,2,3,5,6,8,7,4,9] c []) = some (38,c,[(2,none)]):=by kernel_rfl
abbrev p1:=P C r9 [2] R
abbrev p3:=P C r4 q1 L1
abbrev p5:=P C r7 q3 L2
abbrev p6:=P C r8 q3 (p5 C L2)
abbrev p7:=cd (t 26) (p6 C L2) (p3 C L1)
abbrev p8:=P C r6 q4 (p7 C L1 L2)
def p4 (S:St):Prop:=LX C (fun L2=>(p8 C L1 L2)) S
theorem p4_l (S:St):p4 C L1 S = LX C (fun L2=>(p8 C L1 L2)) S:=rfl
abbrev p9:=P C r5 q3 (p4 C L1)
abbrev p10:=cd (t 9) (p9 C L1) (p1 C R)
abbrev p11:=P C r3 q2 (p10 C R L1)
def p2 (S:St):Prop:=LX C (fun L1=>(p11 C R L1)) S
theorem p2_l (S:St):p2 C R S = LX C (fun L1=>(p11 C R L1)) S:=rfl
abbrev p12:=P C r2 q1 (p2 C R)
abbrev p13:=P C r1 q0 (p12 C R)
abbrev p14:=P C r0 [0] (p13 C R)
theorem s (S:St):X C c (retK R) S = p14 C R S:=by kernel_rfl
theorem E:type_of% @s:=@s
end r20_Constants
end Go.Proofs.Ytncmmbacoknefaa

/- Cr: The reference's Constants. -/
namespace Go.Proofs.Ytncmmbacoknefaa
open Go Go.RowKit Sx
set_option linter.unusedVariables false
set_option linter.unusedSimpArgs false
set_option maxRecDepth 100000 in
set_option maxHeartbeats 1000000 in
theorem rx_consts {w:World} {v:Value} {cs:Smps} (h:SlS w v cs) (hT:(cz cs).length≤17592186044416):Calls Try.prog 39 #[v] w (ZB w (cz cs)):=by
 obtain ⟨a,cap,rfl,h1,h2,h3,h4⟩:=id h
 have h2':=h2
 simp only [maxLen] at h2'
 refine (enterX Try.func39 r20_Constants.ok (args:=[.slice a cs.length cap]) (R:=fun u X=>∃ L,X = kX w.heap.size L∧rowOf L 2 1 u (cz cs).length ((cz cs).map (Value.int .i64))) (by simp) ?run).mono ?fin
 case fin =>
  rintro e w' ⟨u,X,rfl,⟨L,rfl,hr⟩,hX,hbl,-⟩
  exact ⟨u,rfl,hr.own hX,hbl⟩
 case run =>
  repeat' (first | simp (disch:=omega) only [sxE,r20_Constants.E,Nat.reduceAdd,Nat.reduceEqDiff,Nat.reduceMul,Nat.reduceSub,Int.reduceAdd,Int.reduceSub,Int.reduceMul,Int.reduceNeg,Int.reduceLT,Int.reduceLE,Int.reduceEq,Int.reduceToNat,↓reduceIte,Int.reducePow,Nat.reduceLeDiff,Nat.reduceLT,ne_eq,eq_self,List.length_cons,List.length_nil] | (with_reducible refine cregF ?_))
  rw [r20_Constants.p2_l]
  refine LX_inv (fun x:Nat × Value=>⟨0,[(0,.v (.slice a cs.length cap)),(3,.v x.2),(4,.v (.int .i64 (x.1:Int)))],[],kX w.heap.size [.g (wK 2 1 x.2 (cz (cs.take x.1)).length ((cz (cs.take x.1)).map (Value.int .i64)))]⟩) (fun x=>x.1≤cs.length) (fun x=>cs.length - x.1) ?round (0,.slice none 0 0) (Nat.zero_le _) ?start
  case start =>
   have c0:((0:Nat):Int) = 0:=rfl
   simp (disch:=omega) only [sxE,r20_Constants.E,Nat.reduceAdd,Nat.reduceEqDiff,Nat.reduceMul,Nat.reduceSub,Int.reduceAdd,Int.reduceSub,Int.reduceMul,Int.reduceNeg,Int.reduceLT,Int.reduceLE,Int.reduceEq,Int.reduceToNat,↓reduceIte,Int.reducePow,Nat.reduceLeDiff,Nat.reduceLT,ne_eq,eq_self,List.length_cons,List.length_nil,c0]
   rw [kX_nil w.heap.size]
   refine extS_of (L:=[]) fun k hk=>?_
   rw [List.mem_singleton.1 hk]
   exact .inr ⟨rfl,fun W=>wK_nil _ _ _ W⟩
  case round =>
   rintro ⟨i,v⟩ hi
   try dsimp only at hi ⊢
   by_cases hlt:i < cs.length
   ·obtain ⟨b',off,rfl,-,-⟩:=h4 (by omega)
    have e0:(i:Int) + 1 = ((i + 1:Nat):Int):=by omega
    have ecz:=cz_take hlt
    have hle:(cz (cs.take (i + 1))).length≤17592186044416:=Nat.le_trans (cz_le _) hT
    have hc:=smp_i64 h3 i
    generalize hcc:cs.getD i (0,0) = c at *
    obtain ⟨c1,c2⟩:=c
    have hx1:(cs.getD i (0,0)).1 = c1:=by rw [hcc]
    have hx2:(cs.getD i (0,0)).2 = c2:=by rw [hcc]
    generalize hls:cz (cs.take i) = ls at *
    rw [ecz,List.length_append] at hle
    obtain ⟨N,hN,hin⟩:∃ N:Nat,cz1 (c1,c2) = List.replicate N c2∧((1≤c1∧c1≤1073741824∧c1 = (N:Int))∨(N = 0∧¬ (1≤c1∧c1≤1073741824))):=by
     by_cases hcr:1≤c1∧c1≤1073741824
     ·exact ⟨c1.toNat,if_pos hcr,.inl ⟨hcr.1,hcr.2,by omega⟩⟩
     ·exact ⟨0,if_neg hcr,.inr ⟨rfl,hcr⟩⟩
    rw [hN] at ecz
    rw [hN,List.length_replicate] at hle
    have hc1:=hc.1.2
    clear hN hcc hc
    
    repeat' (first | simp (disch:=omega) only [sxE,r20_Constants.E,Nat.reduceAdd,Nat.reduceEqDiff,Nat.reduceMul,Nat.reduceSub,Int.reduceAdd,Int.reduceSub,Int.reduceMul,Int.reduceNeg,Int.reduceLT,Int.reduceLE,Int.reduceEq,Int.reduceToNat,↓reduceIte,Int.reducePow,Nat.reduceLeDiff,Nat.reduceLT,ne_eq,eq_self,List.length_cons,List.length_nil] | (with_reducible refine cregF ?_))
    rw [r20_Constants.p4_l]
    refine LX_inv (fun x:Nat × Value=>⟨0,[(0,.v (.slice (some ⟨b',off,none⟩) cs.length cap)),(3,.v x.2),(4,.v (.int .i64 (i:Int))),(5,.v (.int .i64 (x.1:Int)))],[],kX w.heap.size [.g (wK 2 1 x.2 (ls.length + x.1) (ls.map (Value.int .i64) ++ List.replicate x.1 (Value.int .i64 c2)))]⟩) (fun x=>x.1≤N) (fun x=>N - x.1) ?round2 (0,v) (Nat.zero_le _) ?start2
    case start2 =>
     have c0:((0:Nat):Int) = 0:=rfl
     simp (disch:=omega) only [sxE,r20_Constants.E,Nat.reduceAdd,Nat.reduceEqDiff,Nat.reduceMul,Nat.reduceSub,Int.reduceAdd,Int.reduceSub,Int.reduceMul,Int.reduceNeg,Int.reduceLT,Int.reduceLE,Int.reduceEq,Int.reduceToNat,↓reduceIte,Int.reducePow,Nat.reduceLeDiff,Nat.reduceLT,ne_eq,eq_self,List.length_cons,List.length_nil,c0]
     rw [Nat.add_zero,List.replicate_zero,List.append_nil]
     exact .inl rfl
    case round2 =>
     rintro ⟨k,u⟩ hk
     try dsimp only at hk ⊢
     have ek:(k:Int) + 1 = ((k + 1:Nat):Int):=by omega
     by_cases hkN:k < N
     ·obtain ⟨q1,q2,q3⟩:1≤c1∧c1≤1073741824∧c1 = (N:Int):=by
       rcases hin with h | ⟨h,-⟩
       ·exact h
       ·omega
      have hkc:(k:Int) < c1:=by omega
      clear hin
      repeat' (first | simp (disch:=omega) only [sxE,r20_Constants.E,Nat.reduceAdd,Nat.reduceEqDiff,Nat.reduceMul,Nat.reduceSub,Int.reduceAdd,Int.reduceSub,Int.reduceMul,Int.reduceNeg,Int.reduceLT,Int.reduceLE,Int.reduceEq,Int.reduceToNat,↓reduceIte,Int.reducePow,Nat.reduceLeDiff,Nat.reduceLT,ne_eq,eq_self,List.length_cons,List.length_nil,hx1,hx2] | (with_reducible refine ldP_blk b' ?_; refine ldP_ST i h (by omega) hlt ?_) | (with_reducible refine ldP_blk b' ?_; refine ldP_SV i h (by omega) hlt ?_) | (with_reducible refine cregF ?_))
      refine genA_c (L:=[.g (wK 2 1 u (ls.length + k) (ls.map (Value.int .i64) ++ List.replicate k (Value.int .i64 c2)))]) (cs:=[.int .i64 c2]) (T:=2) (fun b=>.slice (some ⟨b,0,none⟩) 1 1) rfl (fun W=>by kernel_rfl) fun b2 hb2=>?_
      clear hb2
      repeat' (first | simp (disch:=omega) only [sxE,r20_Constants.E,Nat.reduceAdd,Nat.reduceEqDiff,Nat.reduceMul,Nat.reduceSub,Int.reduceAdd,Int.reduceSub,Int.reduceMul,Int.reduceNeg,Int.reduceLT,Int.reduceLE,Int.reduceEq,Int.reduceToNat,↓reduceIte,Int.reducePow,Nat.reduceLeDiff,Nat.reduceLT,ne_eq,eq_self,List.length_cons,List.length_nil] | (with_reducible refine cregF ?_))
      refine genA_lit rfl [] elt_int64 rfl (.inr (List.mem_cons_of_mem _ (List.mem_singleton.2 rfl))) (.inl fun _ h=>h) List.mem_cons_self rfl (by omega) rfl (by simp only [maxLen]; omega) (by omega) (fun k hk=>by cases hk) fun g3 cap3 _ _ _ _=>?_
      repeat' (first | simp (disch:=omega) only [sxE,r20_Constants.E,Nat.reduceAdd,Nat.reduceEqDiff,Nat.reduceMul,Nat.reduceSub,Int.reduceAdd,Int.reduceSub,Int.reduceMul,Int.reduceNeg,Int.reduceLT,Int.reduceLE,Int.reduceEq,Int.reduceToNat,↓reduceIte,Int.reducePow,Nat.reduceLeDiff,Nat.reduceLT,ne_eq,eq_self,List.length_cons,List.length_nil] | (with_reducible refine cregF ?_))
      rw [ek]
      refine ⟨(k + 1,.slice (some ⟨g3,0,none⟩) (ls.length + k + 1) cap3),by dsimp only; omega,by dsimp only; omega,⟨rfl,rfl⟩,.inl ?_⟩
      dsimp only
      rw [List.replicate_succ',List.append_assoc]
      rfl
     ·obtain rfl:k = N:=by omega
      
      by_cases hkc:(k:Int) < c1
      ·have hbig:¬ c1≤1073741824:=by
        rcases hin with ⟨-,-,h⟩ | ⟨h,h2⟩
        ·omega
        ·intro h3
         exact h2 ⟨by omega,h3⟩
       repeat' (first | simp (disch:=omega) only [sxE,r20_Constants.E,Nat.reduceAdd,Nat.reduceEqDiff,Nat.reduceMul,Nat.reduceSub,Int.reduceAdd,Int.reduceSub,Int.reduceMul,Int.reduceNeg,Int.reduceLT,Int.reduceLE,Int.reduceEq,Int.reduceToNat,↓reduceIte,Int.reducePow,Nat.reduceLeDiff,Nat.reduceLT,ne_eq,eq_self,List.length_cons,List.length_nil,hx1,hx2] | (with_reducible refine ldP_blk b' ?_; refine ldP_ST i h (by omega) hlt ?_) | (with_reducible refine cregF ?_))
       rw [e0]
       refine ⟨(i + 1,u),by dsimp only; omega,by dsimp only; omega,⟨rfl,rfl⟩,.inl ?_⟩
       dsimp only
       rw [ecz,List.length_append,List.map_append,List.length_replicate,List.map_replicate]
      ·repeat' (first | simp (disch:=omega) only [sxE,r20_Constants.E,Nat.reduceAdd,Nat.reduceEqDiff,Nat.reduceMul,Nat.reduceSub,Int.reduceAdd,Int.reduceSub,Int.reduceMul,Int.reduceNeg,Int.reduceLT,Int.reduceLE,Int.reduceEq,Int.reduceToNat,↓reduceIte,Int.reducePow,Nat.reduceLeDiff,Nat.reduceLT,ne_eq,eq_self,List.length_cons,List.length_nil,hx1,hx2] | (with_reducible refine ldP_blk b' ?_; refine ldP_ST i h (by omega) hlt ?_) | (with_reducible refine cregF ?_))
       rw [e0]
       refine ⟨(i + 1,u),by dsimp only; omega,by dsimp only; omega,⟨rfl,rfl⟩,.inl ?_⟩
       dsimp only
       rw [ecz,List.length_append,List.map_append,List.length_replicate,List.map_replicate]
   ·obtain rfl:i = cs.length:=by omega
    rw [List.take_length]
    repeat' (first | simp (disch:=omega) only [sxE,r20_Constants.E,Nat.reduceAdd,Nat.reduceEqDiff,Nat.reduceMul,Nat.reduceSub,Int.reduceAdd,Int.reduceSub,Int.reduceMul,Int.reduceNeg,Int.reduceLT,Int.reduceLE,Int.reduceEq,Int.reduceToNat,↓reduceIte,Int.reducePow,Nat.reduceLeDiff,Nat.reduceLT,ne_eq,eq_self,List.length_cons,List.length_nil] | (with_reducible refine cregF ?_))
    exact ⟨_,rfl,.inr (List.mem_singleton.2 rfl)⟩
end Go.Proofs.Ytncmmbacoknefaa

/- Ws: Rows of the call's own that are overwritten; append of a caller's slice; equality of lists of numbers. -/
namespace Go.Proofs.Ytncmmbacoknefaa
open Go Go.RowKit Sx
set_option linter.unusedVariables false
set_option linter.unusedSimpArgs false
theorem append_src {P:Program} {W:World} (base:Nat) {t e:TypeId} {size bytes:Nat} (hE:ElT P t e size bytes) {v:Value} {n:Nat} {xs:List Value} (hown:W.ownsRow base e size v n xs)
  {a2:Option Addr} {m c2:Nat} {ys:List Value} (hl:ys.length = m * size) (hsrc:0 < m→∃ b o,a2 = some ⟨b,o,none⟩∧∀ (j:Nat) u,ys[j]? = some u→W.cell? ⟨b,o + j,none⟩ = some u) (h1:all1 ys = true) (h63:n + m≤maxLen) (hbytes:(n + m) * bytes≤140737488355328) (hbase:base≤W.heap.size) :
  ∃ a cap w',(Builtin.append_ #[t,t] t #[v,.slice a2 m c2]).run P W = .ok (.slice a (n + m) cap) w'∧w'.ownsRow base e size (.slice a (n + m) cap) (n + m) (xs ++ ys)∧W.grownBy w' v.ownBlock∧∀ g,(Value.slice a (n + m) cap).ownBlock = some g→v.ownBlock = some g∨W.heap.size≤g:=by
 rcases Nat.eq_zero_or_pos m with h0 | hpos
 ·obtain ⟨a,cap,e1,hc,-,-⟩:=row_form hown
  have hys:ys = []:=List.eq_nil_of_length_eq_zero (by rw [hl,h0,Nat.zero_mul])
  obtain ⟨ht,⟨i,z,hi,hz,hsize,hby,hzs⟩,hsz⟩:=hE
  have hsrc:Src P i.size t (.slice a2 0 c2) 0 [] W:=by
   cases a2 with
   | none =>
    refine ⟨.inl ⟨e,ht⟩,fun _=>?_,rfl,rfl,by simp,by simp⟩
    rfl
   | some a2=>exact Src.ofSlice W ht a2 0 c2 [] (by simp) (fun j u hj=>by simp at hj) (fun u hu=>by cases hu)
  refine ⟨a,cap,W,?_,?_,gt_refl _ _,fun g hg=>.inl ?_⟩
  ·rw [e1,h0]
   exact run_append_nothing W t t t e i ht hi a n cap hc _ hsrc
  ·rw [hys,List.append_nil,h0,Nat.add_zero,← e1]
   exact hown
  ·rw [h0,Nat.add_zero] at hg
   rw [e1]; exact hg
 ·obtain ⟨b,o,rfl,hc⟩:=hsrc hpos
  obtain ⟨g,cap,w',hr,ho,hg,hgg⟩:=append_any (ty:=t) base hE v n xs hown b o m c2 ys hl hpos hc (cells1_of_all h1) h63 hbytes hbase
  exact ⟨_,cap,w',hr,ho,hg,fun g' hg'=>by cases hg'; exact hgg⟩
namespace Sx
variable {C:Cx} {S:St} {K:St→Prop} {d:Option Nat}
theorem genA_appS {P:Program} (hP:C.P = P) {L:List Kn} (R:List Kn) {t e:TypeId} {size bytes:Nat} (hE:ElT P t e size bytes) {v:Value} {n m c2:Nat} {a2:Option Addr} {xs ys:List Value} {cs:List Bool}
  (hT:S.T = kX C.w0.heap.size L) (hv:rowOf L e size v n xs) (hl:ys.length = m * size) (hsrc:∀ W,Below C.w0.heap.size C.w0 W→(∀ k∈L,k.ok C.w0.heap.size W)→0 < m→∃ b o,a2 = some ⟨b,o,none⟩∧∀ (j:Nat) u,ys[j]? = some u→W.cell? ⟨b,o + j,none⟩ = some u)
  (hmv:(∀ x∈S.T.bs,x∈C.mv S)∨∀ g,v.ownBlock = some g→g∈C.mv S) (h1:all1 ys = true) (h63:n + m≤maxLen) (hbytes:(n + m) * bytes≤140737488355328)
  (hR:∀ k∈R,k∈L∧∀ x∈k.bs,v.ownBlock≠some x)
  (hk:∀ a cap,n + m≤cap→cap≤maxLen→(0 < n + m→∃ g,a = some ⟨g,0,none⟩)→(∀ g,(Value.slice a (n + m) cap).ownBlock = some g→C.w0.heap.size≤g∧∀ k∈R,g ∉ k.bs) →
   K (St.put ⟨S.n,S.E,S.H,kX C.w0.heap.size (.g (wK e size (.slice a (n + m) cap) (n + m) (xs ++ ys)) :: R)⟩ d (.v (.slice a (n + m) cap)))):genA C (.bi .append [t,t] t cs) [v,.slice a2 m c2] d K S:=by
 subst hP
 refine genA_T (ι:={x:Option Addr × Nat // n + m≤x.2∧x.2≤maxLen∧(0 < n + m→∃ g,x.1 = some ⟨g,0,none⟩)∧∀ g,(Value.slice x.1 (n + m) x.2).ownBlock = some g→C.w0.heap.size≤g∧∀ k∈R,g ∉ k.bs}) (fun x=>.slice x.1.1 (n + m) x.1.2) (fun x=>kX C.w0.heap.size (.g (wK e size (.slice x.1.1 (n + m) x.1.2) (n + m) (xs ++ ys)) :: R)) (fun W hW hok hbs=>⟨?_⟩) (fun x=>hk _ _ x.2.1 x.2.2.1 x.2.2.2.1 x.2.2.2.2)
 rw [hT] at hok
 obtain ⟨a,cap,w',hr,ho,hg,hgg⟩:=append_src (P:=C.P) C.w0.heap.size hE (hv.own hok) hl (hsrc W hW hok) h1 h63 hbytes hW.size (c2:=c2)
 have hr':(genRun (.bi .append [t,t] t cs) [v,.slice a2 m c2]).run C.P W = .ok (.value (.slice a (n + m) cap)) w':=by
  show (do let x ← Builtin.append_ #[t,t] t #[v,.slice a2 m c2]; pure (Next.value x)).run C.P W = _
  rw [run_bind_ok hr]; rfl
 rw [hr']
 obtain ⟨a',cap',e',q1,q2,q3⟩:=row_form ho
 cases e'
 have hmem:∀ g,v.ownBlock = some g→g∈S.T.bs:=fun g hg=>by
  obtain ⟨k,hk,hx⟩:=hv.blk hg
  rw [hT]
  exact kX_bs.2 ⟨k,hk,hx⟩
 refine ⟨⟨(a,cap),q1,q2,q3,fun g hgo=>⟨(ho.lt g hgo).1,fun k hk hgk=>?_⟩⟩,rfl,⟨hg.os,hg.tape,hg.output,hg.size,fun j hj hn=>hg.block j hj fun e=>hn (hmv.elim (fun h=>h _ (hmem j e.symm)) fun h=>h _ e.symm)⟩,?_,kX_stab C _,?_⟩
 ·obtain ⟨hkL,hkb⟩:=hR k hk
  rcases hgg g hgo with h | h
  ·exact hkb g hgk h
  ·have:=((hok k hkL).lt g hgk).2
   omega
 ·intro k hk
  rcases List.mem_cons.1 hk with rfl | hk
  ·exact ho
  ·obtain ⟨hkL,hb⟩:=hR k hk
   exact (hok k hkL).keep hg.size (fun b hbb=>hg.block b ((hok k hkL).lt b hbb).2 fun e=>hb b hbb e.symm) fun b hbn hbl=>hg.block b hbl fun e=>by have:=(hbs b (hmem b e.symm)).1; omega
 ·intro x hx
  obtain ⟨k,hk,hx⟩:=kX_bs.1 hx
  rcases List.mem_cons.1 hk with rfl | hk
  ·have hxg:(Value.slice a (n + m) cap).ownBlock = some x:=by
    have:x∈(Value.slice a (n + m) cap).ownBlock.toList:=hx
    simpa using this
   exact ⟨(hgg x hxg).elim (fun e=>.inl (hmem x e)) .inr,(ho.lt x hxg).2⟩
  ·obtain ⟨hkL,hb⟩:=hR k hk
   exact ⟨.inl (by rw [hT]; exact kX_bs.2 ⟨k,hkL,hx⟩),Nat.lt_of_lt_of_le ((hok k hkL).lt x hx).2 hg.size⟩
theorem stP_w {L R:List Kn} {e:TypeId} {s n g cap o:Nat} {xs:List Value} {x:Value} (hT:S.T = kX C.w0.heap.size L) (hm:.g (wK e s (.slice (some ⟨g,0,none⟩) n cap) n xs)∈L) (hR:∀ k∈R,k∈L∧g ∉ k.bs) (ho:o < xs.length) (h1:one x = true)
  (hk:K ⟨S.n,S.E,S.H,kX C.w0.heap.size (.g (wK e s (.slice (some ⟨g,0,none⟩) n cap) n (xs.set o x)) :: R)⟩):stP C ⟨g,o,none⟩ x K S:=by
 have hg:g∈S.T.bs:=by rw [hT]; exact kX_bs.2 ⟨_,hm,wK_bs.2 rfl⟩
 refine stP_is (kX C.w0.heap.size (.g (wK e s (.slice (some ⟨g,0,none⟩) n cap) n (xs.set o x)) :: R)) (fun W hW hok=>?_) (kX_stab C _) (fun c hc=>?_) h1 hk
 ·rw [hT] at hok
  have hr:W.ownsRow C.w0.heap.size e s (.slice (some ⟨g,0,none⟩) n cap) n xs:=hok _ hm
  refine ⟨hg,⟨xs[o],?_⟩,World.ownsRow.frozenAt hr o,fun k hk=>?_⟩
  ·have:=hr.cells (g:=g) rfl o xs[o] (List.getElem?_eq_getElem ho)
   rwa [Addr.add_lit,Nat.zero_add] at this
  rcases List.mem_cons.1 hk with rfl | hk
  ·exact (World.ownsRow.stored hr o x).1
  ·obtain ⟨hkL,hkb⟩:=hR k hk
   exact (hok k hkL).keep (by rw [World.size_setCell]; exact Nat.le_refl _) (fun c hcc=>Below.heap_setCell W _ _ c fun e=>hkb (by rw [← show c = g from e]; exact hcc)) fun c hcn hcl=>Below.heap_setCell W _ _ c fun e=>by
    have h0:=(hr.lt g rfl).1
    rw [show c = g from e] at hcn
    omega
 ·obtain ⟨k,hk,hc⟩:=kX_bs.1 hc
  rcases List.mem_cons.1 hk with rfl | hk
  ·rw [show c = g by have:=wK_bs.1 hc; cases this; rfl]
   exact hg
  ·rw [hT]
   exact kX_bs.2 ⟨k,(hR k hk).1,hc⟩
end Sx
theorem sls_cells {W:World} {a:Option Addr} {n cap:Nat} {ss:Smps} (h:SlS W (.slice a n cap) ss) (h0:0 < ss.length):∃ b o,a = some ⟨b,o,none⟩∧b < W.heap.size∧∀ (j:Nat) u,(scells ss)[j]? = some u→W.cell? ⟨b,o + j,none⟩ = some u:=by
 obtain ⟨a',cap',e,h1,h2,h3,h4⟩:=h
 cases e
 obtain ⟨b,o,rfl,hb,hc⟩:=h4 h0
 refine ⟨b,o,rfl,hb,fun j u hj=>?_⟩
 have hj':j < ss.length * 2:=by
  have:=(List.getElem?_eq_some_iff.1 hj).1
  rwa [scells_len] at this
 have hat:=scells_at ss (j / 2) (by omega)
 obtain ⟨c1,c2⟩:=hc (j / 2) (by omega)
 rcases Nat.mod_two_eq_zero_or_one j with e | e
 ·have ej:j = 2 * (j / 2):=by omega
  rw [ej] at hj ⊢
  rw [hat.1] at hj
  cases hj
  rw [show o + 2 * (j / 2) = o + j / 2 * 2 by omega]
  exact c1
 ·have ej:j = 2 * (j / 2) + 1:=by omega
  rw [ej] at hj ⊢
  rw [hat.2] at hj
  cases hj
  rw [show o + (2 * (j / 2) + 1) = o + j / 2 * 2 + 1 by omega]
  exact c2
theorem sls_row {W:World} {base:Nat} {e:TypeId} {v:Value} {ss:Smps} (h:W.ownsRow base e 2 v ss.length (scells ss)) (hz:∀ s∈ss,I64 s.1∧I64 s.2):SlS W v ss:=by
 obtain ⟨a,cap,rfl,h1,h2,hc⟩:=own_slice h (by rw [scells_len])
 refine ⟨a,cap,rfl,h1,h2,hz,fun hl=>?_⟩
 obtain ⟨g,rfl,_,hg,hcs⟩:=hc hl
 refine ⟨g,0,rfl,hg,fun i hi=>?_⟩
 have hs:=scells_at ss i hi
 rw [Nat.mul_comm] at hs
 exact ⟨by rw [Nat.zero_add]; exact hcs _ _ hs.1,by rw [Nat.zero_add]; exact hcs _ _ hs.2⟩
theorem ldP_zr {C:Sx.Cx} {S:Sx.St} {K:Sx.St→Prop} {d:Option Nat} {e:TypeId} {base g n cap o:Nat} {zs:List Int} (i:Nat) (h:C.w0.ownsRow base e 1 (.slice (some ⟨g,0,none⟩) n cap) n (zs.map (Value.int .i64))) (ho:o = i) (hi:i < zs.length)
  (hk:K (S.put d (.v (.int .i64 (zs.getD i 0))))):Sx.ldP C false 1 ⟨g,o,none⟩ d K S:=by
 subst ho
 refine ldP_own (b:=false) (l:=[.int .i64 (zs.getD o 0)]) h rfl (fun j v hj=>?_) hk
 match j,hj with
 | 0,hj=>cases hj; rw [Nat.add_zero,List.getElem?_map,List.getElem?_eq_getElem hi,List.getD_eq_getElem?_getD,List.getElem?_eq_getElem hi]; rfl
set_option maxRecDepth 100000 in
theorem rx_same10 {w:World} {v v':Value} {zs:List Int} {B B':Nat} (h:w.ownsRow B 2 1 v zs.length (zs.map (Value.int .i64))) (h':w.ownsRow B' 2 1 v' zs.length (zs.map (Value.int .i64))):Calls Try.prog 37 #[v,v'] w fun e w'=>e = .returned (.bool true)∧Below w.heap.size w w':=by
 obtain ⟨a,cap,rfl,c1,c2,c3⟩:=row_form h
 obtain ⟨a',cap',rfl,d1,d2,d3⟩:=row_form h'
 simp only [maxLen] at c2
 refine known_of (enter Try.func37 r10_Same.ok (args:=[_,_]) (by simp) ?_)
 repeat' (first | simp (disch:=omega) only [sxE,r10_Same.E,Nat.reduceAdd,Nat.reduceEqDiff,Nat.reduceMul,Nat.reduceSub,Int.reduceAdd,Int.reduceSub,Int.reduceMul,Int.reduceNeg,Int.reduceLT,Int.reduceLE,Int.reduceEq,Int.reduceToNat,↓reduceIte,Int.reducePow,Nat.reduceLeDiff,Nat.reduceLT,ne_eq,eq_self,List.length_cons,List.length_nil,beq_self_eq_true,Bool.not_true] | (with_reducible refine cregF ?_))
 rw [r10_Same.p2_l]
 refine LX_inv (fun i:Nat=>⟨0,[(0,.v (.slice a zs.length cap)),(1,.v (.slice a' zs.length cap')),(5,.v (.int .i64 (i:Int)))],[],ext0⟩) (fun i=>i≤zs.length) (fun i=>zs.length - i) ?round 0 (Nat.zero_le _) ?start
 case start =>
  have c0:((0:Nat):Int) = 0:=rfl
  simp (disch:=omega) only [sxE,r10_Same.E,Nat.reduceAdd,Nat.reduceEqDiff,Nat.reduceMul,Nat.reduceSub,Int.reduceAdd,Int.reduceSub,Int.reduceMul,Int.reduceNeg,Int.reduceLT,Int.reduceLE,Int.reduceEq,Int.reduceToNat,↓reduceIte,Int.reducePow,Nat.reduceLeDiff,Nat.reduceLT,ne_eq,eq_self,List.length_cons,List.length_nil,c0]
 case round =>
  intro i hi
  by_cases hlt:i < zs.length
  ·obtain ⟨g,rfl⟩:=c3 (by omega)
   obtain ⟨g',rfl⟩:=d3 (by omega)
   have e0:(i:Int) + 1 = ((i + 1:Nat):Int):=by omega
   repeat' (first | simp (disch:=omega) only [sxE,r10_Same.E,Nat.reduceAdd,Nat.reduceEqDiff,Nat.reduceMul,Nat.reduceSub,Int.reduceAdd,Int.reduceSub,Int.reduceMul,Int.reduceNeg,Int.reduceLT,Int.reduceLE,Int.reduceEq,Int.reduceToNat,↓reduceIte,Int.reducePow,Nat.reduceLeDiff,Nat.reduceLT,ne_eq,eq_self,List.length_cons,List.length_nil,beq_self_eq_true,Bool.not_true] | (with_reducible refine ldP_self false 1 g ?_; refine ldP_zr i h ?_ hlt ?_; omega) | (with_reducible refine ldP_self false 1 g' ?_; refine ldP_zr i h' ?_ hlt ?_; omega) | (with_reducible refine cregF ?_))
   rw [e0]
   exact ⟨i + 1,by omega,by omega,rfl⟩
  ·obtain rfl:i = zs.length:=by omega
   repeat' (first | simp (disch:=omega) only [sxE,r10_Same.E,Nat.reduceAdd,Nat.reduceEqDiff,Nat.reduceMul,Nat.reduceSub,Int.reduceAdd,Int.reduceSub,Int.reduceMul,Int.reduceNeg,Int.reduceLT,Int.reduceLE,Int.reduceEq,Int.reduceToNat,↓reduceIte,Int.reducePow,Nat.reduceLeDiff,Nat.reduceLT,ne_eq,eq_self,List.length_cons,List.length_nil] | (with_reducible refine cregF ?_))
end Go.Proofs.Ytncmmbacoknefaa

/- Bk: What the bound of an UptoSaid gives; a slice of constants as an argument. -/
namespace Go.Proofs.Ytncmmbacoknefaa.bulks
theorem one_le {H:Type} (d:DataW H):1≤Rows.uptoBulk d:=by
 cases d with
 | lit l=>cases l <;> simp [Rows.uptoBulk]
 | nil=>simp [Rows.uptoBulk]
 | ptr d=>simp [Rows.uptoBulk]
 | slice elems spare=>simp [Rows.uptoBulk]
 | agg parts=>simp [Rows.uptoBulk]
 | iface t d=>simp [Rows.uptoBulk]
 | map entries=>simp [Rows.uptoBulk]
 | held h=>simp [Rows.uptoBulk]
theorem part_le {H:Type} {d:DataW H} {l:List (DataW H)} (h:d∈l):Rows.uptoBulk d≤Rows.uptoBulkAll l:=by
 induction l with
 | nil=>cases h
 | cons x r ih =>
  simp only [Rows.uptoBulkAll]
  cases List.mem_cons.1 h with
  | inl e=>subst e; omega
  | inr e=>have:=ih e; omega
theorem length_le {H:Type} (l:List (DataW H)):l.length≤Rows.uptoBulkAll l:=by
 induction l with
 | nil=>simp [Rows.uptoBulkAll]
 | cons x r ih=>have:=one_le x; simp only [Rows.uptoBulkAll,List.length_cons]; omega
theorem slice_le {H:Type} (elems spare:List (DataW H)):elems.length + spare.length + 1≤Rows.uptoBulk (.slice elems spare):=by
 have h1:=length_le elems
 have h2:=length_le spare
 simp only [Rows.uptoBulk]
 omega
theorem bound {H:Type} {l:List (DataW H)} (hk:Rows.uptoSmall H l = true):Rows.uptoBulkAll l≤1048576:=of_decide_eq_true hk
end Go.Proofs.Ytncmmbacoknefaa.bulks
namespace Go.Proofs.Ytncmmbacoknefaa
open Go.ChangeShapes Go.WideShapes Go.ChangeAt Go.RowKit
set_option maxRecDepth 100000 in
theorem open_slcn {H:Type} {enc:TypeId × Value→H} {v:Value} {d:DataW H} {ps:List MemPlace} {W:World} {base:Nat} (hv:Value.okWide Try.prog W .any base 29 v) (h:DataW.Trod enc Try.prog W 0 (fun _=>true) true 29 v d ps) (hlt:∀ x∈ps,x.block < W.heap.size):∃ ss,SlS W v ss∧(ss = []∨∃ es sp,d = .slice es sp∧es.length = ss.length) :=
 open_pairs Try.underlying29 Try.underlying34 Try.underlying3 Try.underlying2 (by kernel_rfl) rfl rfl (by kernel_rfl) (by kernel_rfl) hv h hlt
end Go.Proofs.Ytncmmbacoknefaa

/- CdI: MADE BY PROGRAM (sxgen.py): the small code of some functions, points of it and their equations. -/
namespace Go.Proofs.Ytncmmbacoknefaa
open Go Go.RowKit Sx Sx.Q
set_option linter.unusedVariables false
variable (C:Cx) (R L1 L2 L3 L4:St→Prop)
namespace wide_Int64
abbrev r0:List G:=[e 1 (.box true 5 (t 0)),Mi 2 0,Mb 3 false]
abbrev r1:List G:=[L 5 5 1,K1 6 138 5,V 5 1 6]
abbrev q0:=[1,4]
abbrev r2:List G:=[a 7 1 1,e 8 (.ia 4 1 (t 7) (i 0)),l 9 8,m 4 9]
abbrev q1:=[1,4,10]
abbrev r3:List G:=[a 11 1 1,L 12 4 11,m 13 4,e 14 (.bd [.int .u64 0,.int .u64 0,.int .u64 0,.int .u64 0] [(0,1,(t 13))]),e 15 (.eqg true 36 (t 12) (t 14)),m 16 15,nm 17 16 4,n 18 16 (.bin .gtr (t 17) (u 9223372036854775808)),o 19 16 18,m 20 19,nm 21 20 4,n 22 20 (.bin .eql (t 21) (u 9223372036854775808)),nm 23 20 22,ya 24 23 0 1,yl 25 23 24,y 26 23 (.un .not (t 25)),n 27 20 (.pick (t 23) (t 26) bf),o 28 20 27,m 10 28]
abbrev q2:=[2,3]
abbrev r4:List G:=[Mi 2 0,Mb 3 false]
abbrev q3:=[4,29]
abbrev r5:List G:=[a 30 0 1,l 31 30,m 29 31]
abbrev r6:List G:=[m 32 4,e 33 (.un .neg (t 32)),e 34 (.cv .i64 (t 33)),m 2 34,Mb 3 true]
abbrev r7:List G:=[m 35 4,e 36 (.cv .i64 (t 35)),m 2 36,Mb 3 true]
abbrev c:MC:=sq [g r0 [1],g r1 [1],g r2 q0,.block 0 (sq [g r3 q1,ci 10 (sq [g r4 q2,.ret]) (sq [g r5 q3,ci 29 (sq [g r6 q2,.ret]) .skip])]),g r7 q2,.ret]
theorem ok:compF Try.prog Try.f86 (an (rg 8) c []) = some (37,c,[(2,none),(3,none)]):=by kernel_rfl
abbrev p1:=P C r7 q2 R
abbrev p3:=P C r4 q2 R
abbrev p5:=P C r6 q2 R
abbrev p4:=cd (t 29) (p5 C R) (p1 C R)
abbrev p6:=P C r5 q3 (p4 C R)
abbrev p2:=cd (t 10) (p3 C R) (p6 C R)
abbrev p7:=P C r3 q1 (p2 C R)
abbrev p8:=P C r2 q0 (p7 C R)
abbrev p9:=P C r1 [1] (p8 C R)
abbrev p10:=P C r0 [1] (p9 C R)
theorem s (S:St):X C c (retK R) S = p10 C R S:=by kernel_rfl
theorem E:type_of% @s:=@s
end wide_Int64
end Go.Proofs.Ytncmmbacoknefaa

/- Wi: Int64 of both, for all Wides. -/
namespace Go.Proofs.Ytncmmbacoknefaa
open Go Go.RowKit Sx
set_option linter.unusedVariables false
set_option linter.unusedSimpArgs false
def i6b (z:Int):Bool:=decide (-9223372036854775808≤z∧z≤9223372036854775807)
def i6v (z:Int):Int:=if i6b z then z else 0
theorem meq_low {m:Int} (h:A4 m):meq (lb0 m) (lb1 m) (lb2 m) (lb3 m) (lb0 m) 0 0 0 = decide (m < 18446744073709551616):=by
 have h4:=mv_me h
 have b0:=lb0_in m
 have b1:=lb1_in m
 have b2:=lb2_in m
 have b3:=lb3_in m
 rw [Bool.eq_iff_iff,decide_eq_true_eq]
 unfold meq
 generalize lb0 m = a at *
 generalize lb1 m = b at *
 generalize lb2 m = c at *
 generalize lb3 m = d at *
 unfold MV at h4
 obtain ⟨a1,a2⟩:=b0
 obtain ⟨c1,c2⟩:=b1
 obtain ⟨d1,d2⟩:=b2
 obtain ⟨e1,e2⟩:=b3
 simp only [beq_self_eq_true,Bool.true_and,Bool.and_eq_true,beq_iff_eq]
 omega
theorem wr_lo {m:Int} (h0:0≤m) (h:m < 9223372036854775808):IntKind.i64.wrap m = m:=wrap_i64_lo m h0 h
theorem wr_neg {m:Int} (h0:0 < m) (h:m≤9223372036854775808):IntKind.u64.wrap (0 - m) = 18446744073709551616 - m∧IntKind.i64.wrap (18446744073709551616 - m) = -m:=by
 refine ⟨by unfold IntKind.wrap; simp [IntKind.signed,IntKind.bits]; omega,?_⟩
 rw [wrap_i64_hi _ (by omega) (by omega)]
 omega
set_option maxRecDepth 100000 in
set_option maxHeartbeats 1000000 in
theorem g_int64 {v:Value} {z:Int} (h:IsW v z) (W:World):Gives Try.prog 86 [v] W (· = .tuple #[.int .i64 (i6v z),.bool (i6b z)]):=by
 obtain ⟨n,m,rfl,am,hab,hz,hn⟩:=h.me
 refine gives_known en_wide_Int64 ?_
 have p1:cn n (lb0 m) (lb1 m) (lb2 m) (lb3 m) = decide (z < 0):=hn
 obtain ⟨k1,k2⟩:=ab_of_sv (n:=n) hab
 have ml:=meq_low am
 have am0:=am.1
 clear h hn hz hab
 have no:i6b z = false→i6v z = 0:=fun e=>by unfold i6v; rw [e]; rfl
 have yes:i6b z = true→i6v z = z:=fun e=>by unfold i6v; rw [e]; rfl
 by_cases hlt:m < 18446744073709551616
 ·have u3:lb0 m = m:=Int.emod_eq_of_lt am0 hlt
  rw [decide_eq_true hlt] at ml
  by_cases hneg:z < 0
  ·have hzm:=k1 (decide_eq_true hneg)
   rw [decide_eq_true hneg] at p1
   by_cases hb:m≤9223372036854775808
   ·have u1:i6b z = true:=decide_eq_true (by omega)
    rw [yes u1,u1]
    obtain ⟨w1,w2⟩:=wr_neg (m:=m) (by omega) hb
    rw [← u3] at w1 w2
    have hb':¬ 9223372036854775808 < lb0 m:=by omega
    clear k1 k2 u1 hneg am no yes
    have hzm':z = -lb0 m:=by omega
    rw [hzm']
    clear hzm hzm' u3
    by_cases he:lb0 m = 9223372036854775808
    ·have d1:(lb0 m == 9223372036854775808) = true:=beq_iff_eq.2 he
     refine known_of (enter Try.func86 wide_Int64.ok (args:=[WV n (lb0 m) (lb1 m) (lb2 m) (lb3 m)]) (by simp) ?_)
     repeat' (first | simp (disch:=omega) only [sxE,wide_Int64.E,Nat.reduceAdd,Nat.reduceEqDiff,Nat.reduceMul,Nat.reduceSub,Int.reduceAdd,Int.reduceSub,Int.reduceMul,Int.reduceNeg,Int.reduceLT,Int.reduceLE,Int.reduceEq,Int.reduceToNat,↓reduceIte,Int.reducePow,Nat.reduceLeDiff,Nat.reduceLT,ne_eq,eq_self,List.length_cons,List.length_nil,p1,ml,d1,w1,w2] | (with_reducible refine Sx.call_at (f:=138) (fun W hW=>g_clean _ _ _ _ _ W) ?_) | (with_reducible refine eq_is (fun W=>by exact eqm_run _ _ _ _ _ _ _ _ W) ?_) | (with_reducible refine cregF ?_))
    ·have d1:(lb0 m == 9223372036854775808) = false:=beq_eq_false_iff_ne.2 he
     refine known_of (enter Try.func86 wide_Int64.ok (args:=[WV n (lb0 m) (lb1 m) (lb2 m) (lb3 m)]) (by simp) ?_)
     repeat' (first | simp (disch:=omega) only [sxE,wide_Int64.E,Nat.reduceAdd,Nat.reduceEqDiff,Nat.reduceMul,Nat.reduceSub,Int.reduceAdd,Int.reduceSub,Int.reduceMul,Int.reduceNeg,Int.reduceLT,Int.reduceLE,Int.reduceEq,Int.reduceToNat,↓reduceIte,Int.reducePow,Nat.reduceLeDiff,Nat.reduceLT,ne_eq,eq_self,List.length_cons,List.length_nil,p1,ml,d1,w1,w2] | (with_reducible refine Sx.call_at (f:=138) (fun W hW=>g_clean _ _ _ _ _ W) ?_) | (with_reducible refine eq_is (fun W=>by exact eqm_run _ _ _ _ _ _ _ _ W) ?_) | (with_reducible refine cregF ?_))
   ·have u1:i6b z = false:=decide_eq_false (by omega)
    rw [no u1,u1]
    have hb':9223372036854775808 < lb0 m:=by omega
    clear k1 k2 u1 hneg am no yes u3
    refine known_of (enter Try.func86 wide_Int64.ok (args:=[WV n (lb0 m) (lb1 m) (lb2 m) (lb3 m)]) (by simp) ?_)
    repeat' (first | simp (disch:=omega) only [sxE,wide_Int64.E,Nat.reduceAdd,Nat.reduceEqDiff,Nat.reduceMul,Nat.reduceSub,Int.reduceAdd,Int.reduceSub,Int.reduceMul,Int.reduceNeg,Int.reduceLT,Int.reduceLE,Int.reduceEq,Int.reduceToNat,↓reduceIte,Int.reducePow,Nat.reduceLeDiff,Nat.reduceLT,ne_eq,eq_self,List.length_cons,List.length_nil,p1,ml] | (with_reducible refine Sx.call_at (f:=138) (fun W hW=>g_clean _ _ _ _ _ W) ?_) | (with_reducible refine eq_is (fun W=>by exact eqm_run _ _ _ _ _ _ _ _ W) ?_) | (with_reducible refine cregF ?_))
  ·have hzm:=k2 (decide_eq_false hneg)
   rw [decide_eq_false hneg] at p1
   by_cases hb:m < 9223372036854775808
   ·have u1:i6b z = true:=decide_eq_true (by omega)
    rw [yes u1,u1]
    have w1:=wr_lo (m:=lb0 m) (by omega) (by omega)
    have hb':¬ 9223372036854775808 < lb0 m:=by omega
    have d1:(lb0 m == 9223372036854775808) = false:=beq_eq_false_iff_ne.2 (by omega)
    have hzm':z = lb0 m:=by omega
    clear k1 k2 u1 hneg am no yes
    rw [hzm']
    clear hzm hzm' u3
    refine known_of (enter Try.func86 wide_Int64.ok (args:=[WV n (lb0 m) (lb1 m) (lb2 m) (lb3 m)]) (by simp) ?_)
    repeat' (first | simp (disch:=omega) only [sxE,wide_Int64.E,Nat.reduceAdd,Nat.reduceEqDiff,Nat.reduceMul,Nat.reduceSub,Int.reduceAdd,Int.reduceSub,Int.reduceMul,Int.reduceNeg,Int.reduceLT,Int.reduceLE,Int.reduceEq,Int.reduceToNat,↓reduceIte,Int.reducePow,Nat.reduceLeDiff,Nat.reduceLT,ne_eq,eq_self,List.length_cons,List.length_nil,p1,ml,d1,w1] | (with_reducible refine Sx.call_at (f:=138) (fun W hW=>g_clean _ _ _ _ _ W) ?_) | (with_reducible refine eq_is (fun W=>by exact eqm_run _ _ _ _ _ _ _ _ W) ?_) | (with_reducible refine cregF ?_))
   ·have u1:i6b z = false:=decide_eq_false (by omega)
    rw [no u1,u1]
    clear k1 k2 u1 hneg am no yes
    by_cases he:lb0 m = 9223372036854775808
    ·have hb':¬ 9223372036854775808 < lb0 m:=by omega
     have d1:(lb0 m == 9223372036854775808) = true:=beq_iff_eq.2 he
     refine known_of (enter Try.func86 wide_Int64.ok (args:=[WV n (lb0 m) (lb1 m) (lb2 m) (lb3 m)]) (by simp) ?_)
     repeat' (first | simp (disch:=omega) only [sxE,wide_Int64.E,Nat.reduceAdd,Nat.reduceEqDiff,Nat.reduceMul,Nat.reduceSub,Int.reduceAdd,Int.reduceSub,Int.reduceMul,Int.reduceNeg,Int.reduceLT,Int.reduceLE,Int.reduceEq,Int.reduceToNat,↓reduceIte,Int.reducePow,Nat.reduceLeDiff,Nat.reduceLT,ne_eq,eq_self,List.length_cons,List.length_nil,p1,ml,d1] | (with_reducible refine Sx.call_at (f:=138) (fun W hW=>g_clean _ _ _ _ _ W) ?_) | (with_reducible refine eq_is (fun W=>by exact eqm_run _ _ _ _ _ _ _ _ W) ?_) | (with_reducible refine cregF ?_))
    ·have hb':9223372036854775808 < lb0 m:=by omega
     refine known_of (enter Try.func86 wide_Int64.ok (args:=[WV n (lb0 m) (lb1 m) (lb2 m) (lb3 m)]) (by simp) ?_)
     repeat' (first | simp (disch:=omega) only [sxE,wide_Int64.E,Nat.reduceAdd,Nat.reduceEqDiff,Nat.reduceMul,Nat.reduceSub,Int.reduceAdd,Int.reduceSub,Int.reduceMul,Int.reduceNeg,Int.reduceLT,Int.reduceLE,Int.reduceEq,Int.reduceToNat,↓reduceIte,Int.reducePow,Nat.reduceLeDiff,Nat.reduceLT,ne_eq,eq_self,List.length_cons,List.length_nil,p1,ml] | (with_reducible refine Sx.call_at (f:=138) (fun W hW=>g_clean _ _ _ _ _ W) ?_) | (with_reducible refine eq_is (fun W=>by exact eqm_run _ _ _ _ _ _ _ _ W) ?_) | (with_reducible refine cregF ?_))
 ·have u1:i6b z = false:=decide_eq_false (by
   cases hd:decide (z < 0) <;> simp only [hd,true_implies,reduceCtorEq,false_implies] at k1 k2 <;> omega)
  rw [decide_eq_false hlt] at ml
  rw [no u1,u1]
  clear k1 k2 u1 am no yes
  refine known_of (enter Try.func86 wide_Int64.ok (args:=[WV n (lb0 m) (lb1 m) (lb2 m) (lb3 m)]) (by simp) ?_)
  repeat' (first | simp (disch:=omega) only [sxE,wide_Int64.E,Nat.reduceAdd,Nat.reduceEqDiff,Nat.reduceMul,Nat.reduceSub,Int.reduceAdd,Int.reduceSub,Int.reduceMul,Int.reduceNeg,Int.reduceLT,Int.reduceLE,Int.reduceEq,Int.reduceToNat,↓reduceIte,Int.reducePow,Nat.reduceLeDiff,Nat.reduceLT,ne_eq,eq_self,List.length_cons,List.length_nil,p1,ml] | (with_reducible refine Sx.call_at (f:=138) (fun W hW=>g_clean _ _ _ _ _ W) ?_) | (with_reducible refine eq_is (fun W=>by exact eqm_run _ _ _ _ _ _ _ _ W) ?_) | (with_reducible refine cregF ?_))
end Go.Proofs.Ytncmmbacoknefaa

/- Va: What Value of rebuild and of its reference returns. (Printed by gen/value.py.) -/
namespace Go.Proofs.Ytncmmbacoknefaa
open Go Go.RowKit Sx
set_option linter.unusedVariables false
set_option linter.unusedSimpArgs false
def vz (z:Int):Int:=if ab z < 340282366920938463463374607431768211456 then z else 0
def vl (s:Int):Int:=if s < -9223372036854775808 then -9223372036854775808 else if 9223372036854775807 < s then 9223372036854775807 else s
theorem small128 {z:Int} (h:Fits z):ab z < 340282366920938463463374607431768211456↔lb3 (ab z) = 0∧lb2 (ab z) = 0:=by
 have h0:=ab_nonneg z
 have h4:=mv_me (z:=ab z) ⟨h0,(fits_lt z).1 h⟩
 have b0:=lb0_in (ab z)
 have b1:=lb1_in (ab z)
 have b2:=lb2_in (ab z)
 have b3:=lb3_in (ab z)
 generalize lb0 (ab z) = a at *
 generalize lb1 (ab z) = b at *
 generalize lb2 (ab z) = c at *
 generalize lb3 (ab z) = d at *
 unfold MV at h4
 obtain ⟨a1,a2⟩:=b0
 obtain ⟨c1,c2⟩:=b1
 obtain ⟨d1,d2⟩:=b2
 obtain ⟨e1,e2⟩:=b3
 omega
theorem vz_fits {z a:Int} (hz:ab (vz z) < 340282366920938463463374607431768211456) (ha:Bd 194 a):Fits (vz z + a):=by
 have b0:Bd 128 (vz z):=hz
 have b1:Bd 195 (vz z + a):=bd_add b0 ha (by decide) (by decide)
 exact b1.fits
theorem vz_small (z:Int):ab (vz z) < 340282366920938463463374607431768211456:=by
 unfold vz
 split
 ·assumption
 ·decide
theorem bd_at {p q n:Int} (h:Fq p q) (hn:U64 n):Bd 194 (atq p q n):=by
 have b1:=bd_mul h.bp (bd_u64 hn)
 have b3:Bd 194 (2 * (p * n) + q):=bd_add (bd_mul bd_two b1) h.bq (by decide) (by decide)
 exact bd_of_le b3 (ab_fdiv_le _ (by have:=h.pos; omega))
theorem bd_fits' {z:Int} (h:ab z < 340282366920938463463374607431768211456):Fits z:=by
 have b0:Bd 128 z:=h
 exact b0.fits
set_option maxRecDepth 100000 in
set_option maxHeartbeats 4000000 in
theorem gx_value {b s:Value} {t:Bool} {z p q dt:Int} (h:RW b t z) (hq:CQ s p q) (hd:U64 dt) (W:World):Gives Try.prog 34 [b,s,.int .u64 dt] W (· = .int .i64 (vl (vz z + atq p q dt))):=by
 have at1:=fun W=>gx_rat hq hd W
 have f:=hq.fq
 have ba:=bd_at f hd
 have fa:=ba.fits
 have v1:=fun W=>gy_valid h W
 obtain ⟨s0,s1,s2,s3,s4,s5,s6,s7,s8,s9,rfl⟩:=hq.ten
 clear hq f
 have fs:=vz_fits (z:=z) (vz_small z) ba
 have n1:=fun W=>g_int64 fs.is W
 have n2:=fun W=>gx_sign fs W
 have ad:∀ W,Gives Try.prog 84 [WX (vz z),WX (atq p q dt)] W (· = .tuple #[WX (vz z + atq p q dt),.bool true]):=fun W=>gx_add (bd_fits' (vz_small z)) fa fs W
 have ad0:∀ W,Gives Try.prog 84 [NZ,WX (atq p q dt)] W (· = .tuple #[WX (0 + atq p q dt),.bool true]):=fun W=>by
  have h1:Fits (0 + atq p q dt):=by rw [Int.zero_add]; exact fa
  exact gives_eq (g_add nz_is fa.is W) (tup2 (by rw [cl_fit h1]; rfl) (by rw [fb_fit h1]))
 have e0:vz 0 = 0:=by decide
 have eN:ab z < 340282366920938463463374607431768211456→vz z = z:=fun e=>by unfold vz; rw [if_pos e]
 have eB:¬ ab z < 340282366920938463463374607431768211456→vz z = 0:=fun e=>by unfold vz; rw [if_neg e]
 refine gives_known en_rebuild_Value ?_
 have fin:(i6b (vz z + atq p q dt) = true∧i6v (vz z + atq p q dt) = vl (vz z + atq p q dt))∨(i6b (vz z + atq p q dt) = false∧i6v (vz z + atq p q dt) = 0∧cm (vz z + atq p q dt) 0 < 0∧sg (vz z + atq p q dt) = true∧vl (vz z + atq p q dt) = -9223372036854775808)∨(i6b (vz z + atq p q dt) = false∧i6v (vz z + atq p q dt) = 0∧¬ cm (vz z + atq p q dt) 0 < 0∧sg (vz z + atq p q dt) = false∧vl (vz z + atq p q dt) = 9223372036854775807):=by
  generalize vz z + atq p q dt = S
  unfold i6v i6b vl sg
  rw [km_lt]
  by_cases g1:S < -9223372036854775808
  ·rw [decide_eq_false (show ¬ (-9223372036854775808≤S∧S≤9223372036854775807) by omega),if_pos g1,decide_eq_true (show S < 0 by omega)]
   exact .inr (.inl ⟨rfl,rfl,by omega,rfl,rfl⟩)
  ·by_cases g2:9223372036854775807 < S
   ·rw [decide_eq_false (show ¬ (-9223372036854775808≤S∧S≤9223372036854775807) by omega),if_neg g1,if_pos g2,decide_eq_false (show ¬ S < 0 by omega)]
    exact .inr (.inr ⟨rfl,rfl,by omega,rfl,rfl⟩)
   ·rw [decide_eq_true (show -9223372036854775808≤S∧S≤9223372036854775807 by omega),if_neg g1,if_neg g2]
    exact .inl ⟨rfl,rfl⟩
 rcases h with ⟨rfl,rfl,h⟩ | ⟨rfl,rfl,rfl⟩
 ·have hs:=small128 h
  by_cases hz:ab z < 340282366920938463463374607431768211456
  ·obtain ⟨k3,k2⟩:=hs.1 hz
   have d3:(lb3 (ab z) == 0) = true:=beq_iff_eq.2 k3
   have d2:(lb2 (ab z) == 0) = true:=beq_iff_eq.2 k2
   simp only [eN hz] at ad n1 n2 fin ⊢
   clear hs hz eN eB ad0 e0 fs ba
   generalize hS:z + atq p q dt = S at *
   generalize atq p q dt = A at *
   rcases fin with ⟨g1,g2⟩ | ⟨g1,g2,g3,g4,g5⟩ | ⟨g1,g2,g3,g4,g5⟩
   ·refine known_of (enter Try.func34 rebuild_Value.ok (args:=[_,_,_]) (by simp) ?_)
    repeat' (first | simp (disch:=omega) only [sxE,rebuild_Value.E,Nat.reduceAdd,Nat.reduceEqDiff,Nat.reduceMul,Nat.reduceSub,Int.reduceAdd,Int.reduceSub,Int.reduceMul,Int.reduceNeg,Int.reduceLT,Int.reduceLE,Int.reduceEq,Int.reduceToNat,↓reduceIte,Int.reducePow,Nat.reduceLeDiff,Nat.reduceLT,ne_eq,eq_self,List.length_cons,List.length_nil,qxE,d3,d2,g1,g2,beq_self_eq_true] | (with_reducible refine Sx.call_at (f:=107) (fun W hW=>v1 W) ?_) | (with_reducible refine Sx.call_at (f:=85) (fun W hW=>at1 W) ?_) | (with_reducible refine Sx.call_at (f:=84) (fun W hW=>ad W) ?_) | (with_reducible refine Sx.call_at (f:=86) (fun W hW=>n1 W) ?_) | (with_reducible refine Sx.call_at (f:=87) (fun W hW=>n2 W) ?_) | (with_reducible refine cregF ?_))
   ·refine known_of (enter Try.func34 rebuild_Value.ok (args:=[_,_,_]) (by simp) ?_)
    repeat' (first | simp (disch:=omega) only [sxE,rebuild_Value.E,Nat.reduceAdd,Nat.reduceEqDiff,Nat.reduceMul,Nat.reduceSub,Int.reduceAdd,Int.reduceSub,Int.reduceMul,Int.reduceNeg,Int.reduceLT,Int.reduceLE,Int.reduceEq,Int.reduceToNat,↓reduceIte,Int.reducePow,Nat.reduceLeDiff,Nat.reduceLT,ne_eq,eq_self,List.length_cons,List.length_nil,qxE,d3,d2,g1,g2,g5,beq_self_eq_true] | (with_reducible refine Sx.call_at (f:=107) (fun W hW=>v1 W) ?_) | (with_reducible refine Sx.call_at (f:=85) (fun W hW=>at1 W) ?_) | (with_reducible refine Sx.call_at (f:=84) (fun W hW=>ad W) ?_) | (with_reducible refine Sx.call_at (f:=86) (fun W hW=>n1 W) ?_) | (with_reducible refine Sx.call_at (f:=87) (fun W hW=>n2 W) ?_) | (with_reducible refine cregF ?_))
   ·refine known_of (enter Try.func34 rebuild_Value.ok (args:=[_,_,_]) (by simp) ?_)
    repeat' (first | simp (disch:=omega) only [sxE,rebuild_Value.E,Nat.reduceAdd,Nat.reduceEqDiff,Nat.reduceMul,Nat.reduceSub,Int.reduceAdd,Int.reduceSub,Int.reduceMul,Int.reduceNeg,Int.reduceLT,Int.reduceLE,Int.reduceEq,Int.reduceToNat,↓reduceIte,Int.reducePow,Nat.reduceLeDiff,Nat.reduceLT,ne_eq,eq_self,List.length_cons,List.length_nil,qxE,d3,d2,g1,g2,g5,beq_self_eq_true] | (with_reducible refine Sx.call_at (f:=107) (fun W hW=>v1 W) ?_) | (with_reducible refine Sx.call_at (f:=85) (fun W hW=>at1 W) ?_) | (with_reducible refine Sx.call_at (f:=84) (fun W hW=>ad W) ?_) | (with_reducible refine Sx.call_at (f:=86) (fun W hW=>n1 W) ?_) | (with_reducible refine Sx.call_at (f:=87) (fun W hW=>n2 W) ?_) | (with_reducible refine cregF ?_))
  ·simp only [eB hz] at ad n1 n2 fin ⊢
   have hn:lb3 (ab z)≠0∨lb2 (ab z)≠0:=by
    rcases Decidable.em (lb3 (ab z) = 0) with e | e
    ·exact .inr fun e'=>hz (hs.2 ⟨e,e'⟩)
    ·exact .inl e
   clear hs hz eN eB ad0 e0 fs ba
   generalize hS:0 + atq p q dt = S at *
   generalize atq p q dt = A at *
   rcases fin with ⟨g1,g2⟩ | ⟨g1,g2,g3,g4,g5⟩ | ⟨g1,g2,g3,g4,g5⟩
   ·by_cases k3:lb3 (ab z) = 0
    ·have d3:(lb3 (ab z) == 0) = true:=beq_iff_eq.2 k3
     by_cases k2:lb2 (ab z) = 0
     ·exact absurd hn (by simp [k3,k2])
     ·have d2:(lb2 (ab z) == 0) = false:=beq_eq_false_iff_ne.2 k2
      refine known_of (enter Try.func34 rebuild_Value.ok (args:=[_,_,_]) (by simp) ?_)
      repeat' (first | simp (disch:=omega) only [sxE,rebuild_Value.E,Nat.reduceAdd,Nat.reduceEqDiff,Nat.reduceMul,Nat.reduceSub,Int.reduceAdd,Int.reduceSub,Int.reduceMul,Int.reduceNeg,Int.reduceLT,Int.reduceLE,Int.reduceEq,Int.reduceToNat,↓reduceIte,Int.reducePow,Nat.reduceLeDiff,Nat.reduceLT,ne_eq,eq_self,List.length_cons,List.length_nil,qxE,d3,d2,g1,g2,beq_self_eq_true] | (with_reducible refine Sx.call_at (f:=107) (fun W hW=>v1 W) ?_) | (with_reducible refine Sx.call_at (f:=85) (fun W hW=>at1 W) ?_) | (with_reducible refine Sx.call_at (f:=84) (fun W hW=>ad W) ?_) | (with_reducible refine Sx.call_at (f:=86) (fun W hW=>n1 W) ?_) | (with_reducible refine Sx.call_at (f:=87) (fun W hW=>n2 W) ?_) | (with_reducible refine cregF ?_))
    ·have d3:(lb3 (ab z) == 0) = false:=beq_eq_false_iff_ne.2 k3
     by_cases k2:lb2 (ab z) = 0
     ·have d2:(lb2 (ab z) == 0) = true:=beq_iff_eq.2 k2
      refine known_of (enter Try.func34 rebuild_Value.ok (args:=[_,_,_]) (by simp) ?_)
      repeat' (first | simp (disch:=omega) only [sxE,rebuild_Value.E,Nat.reduceAdd,Nat.reduceEqDiff,Nat.reduceMul,Nat.reduceSub,Int.reduceAdd,Int.reduceSub,Int.reduceMul,Int.reduceNeg,Int.reduceLT,Int.reduceLE,Int.reduceEq,Int.reduceToNat,↓reduceIte,Int.reducePow,Nat.reduceLeDiff,Nat.reduceLT,ne_eq,eq_self,List.length_cons,List.length_nil,qxE,d3,d2,g1,g2,beq_self_eq_true] | (with_reducible refine Sx.call_at (f:=107) (fun W hW=>v1 W) ?_) | (with_reducible refine Sx.call_at (f:=85) (fun W hW=>at1 W) ?_) | (with_reducible refine Sx.call_at (f:=84) (fun W hW=>ad W) ?_) | (with_reducible refine Sx.call_at (f:=86) (fun W hW=>n1 W) ?_) | (with_reducible refine Sx.call_at (f:=87) (fun W hW=>n2 W) ?_) | (with_reducible refine cregF ?_))
     ·have d2:(lb2 (ab z) == 0) = false:=beq_eq_false_iff_ne.2 k2
      refine known_of (enter Try.func34 rebuild_Value.ok (args:=[_,_,_]) (by simp) ?_)
      repeat' (first | simp (disch:=omega) only [sxE,rebuild_Value.E,Nat.reduceAdd,Nat.reduceEqDiff,Nat.reduceMul,Nat.reduceSub,Int.reduceAdd,Int.reduceSub,Int.reduceMul,Int.reduceNeg,Int.reduceLT,Int.reduceLE,Int.reduceEq,Int.reduceToNat,↓reduceIte,Int.reducePow,Nat.reduceLeDiff,Nat.reduceLT,ne_eq,eq_self,List.length_cons,List.length_nil,qxE,d3,d2,g1,g2,beq_self_eq_true] | (with_reducible refine Sx.call_at (f:=107) (fun W hW=>v1 W) ?_) | (with_reducible refine Sx.call_at (f:=85) (fun W hW=>at1 W) ?_) | (with_reducible refine Sx.call_at (f:=84) (fun W hW=>ad W) ?_) | (with_reducible refine Sx.call_at (f:=86) (fun W hW=>n1 W) ?_) | (with_reducible refine Sx.call_at (f:=87) (fun W hW=>n2 W) ?_) | (with_reducible refine cregF ?_))
   ·by_cases k3:lb3 (ab z) = 0
    ·have d3:(lb3 (ab z) == 0) = true:=beq_iff_eq.2 k3
     by_cases k2:lb2 (ab z) = 0
     ·exact absurd hn (by simp [k3,k2])
     ·have d2:(lb2 (ab z) == 0) = false:=beq_eq_false_iff_ne.2 k2
      refine known_of (enter Try.func34 rebuild_Value.ok (args:=[_,_,_]) (by simp) ?_)
      repeat' (first | simp (disch:=omega) only [sxE,rebuild_Value.E,Nat.reduceAdd,Nat.reduceEqDiff,Nat.reduceMul,Nat.reduceSub,Int.reduceAdd,Int.reduceSub,Int.reduceMul,Int.reduceNeg,Int.reduceLT,Int.reduceLE,Int.reduceEq,Int.reduceToNat,↓reduceIte,Int.reducePow,Nat.reduceLeDiff,Nat.reduceLT,ne_eq,eq_self,List.length_cons,List.length_nil,qxE,d3,d2,g1,g2,g5,beq_self_eq_true] | (with_reducible refine Sx.call_at (f:=107) (fun W hW=>v1 W) ?_) | (with_reducible refine Sx.call_at (f:=85) (fun W hW=>at1 W) ?_) | (with_reducible refine Sx.call_at (f:=84) (fun W hW=>ad W) ?_) | (with_reducible refine Sx.call_at (f:=86) (fun W hW=>n1 W) ?_) | (with_reducible refine Sx.call_at (f:=87) (fun W hW=>n2 W) ?_) | (with_reducible refine cregF ?_))
    ·have d3:(lb3 (ab z) == 0) = false:=beq_eq_false_iff_ne.2 k3
     by_cases k2:lb2 (ab z) = 0
     ·have d2:(lb2 (ab z) == 0) = true:=beq_iff_eq.2 k2
      refine known_of (enter Try.func34 rebuild_Value.ok (args:=[_,_,_]) (by simp) ?_)
      repeat' (first | simp (disch:=omega) only [sxE,rebuild_Value.E,Nat.reduceAdd,Nat.reduceEqDiff,Nat.reduceMul,Nat.reduceSub,Int.reduceAdd,Int.reduceSub,Int.reduceMul,Int.reduceNeg,Int.reduceLT,Int.reduceLE,Int.reduceEq,Int.reduceToNat,↓reduceIte,Int.reducePow,Nat.reduceLeDiff,Nat.reduceLT,ne_eq,eq_self,List.length_cons,List.length_nil,qxE,d3,d2,g1,g2,g5,beq_self_eq_true] | (with_reducible refine Sx.call_at (f:=107) (fun W hW=>v1 W) ?_) | (with_reducible refine Sx.call_at (f:=85) (fun W hW=>at1 W) ?_) | (with_reducible refine Sx.call_at (f:=84) (fun W hW=>ad W) ?_) | (with_reducible refine Sx.call_at (f:=86) (fun W hW=>n1 W) ?_) | (with_reducible refine Sx.call_at (f:=87) (fun W hW=>n2 W) ?_) | (with_reducible refine cregF ?_))
     ·have d2:(lb2 (ab z) == 0) = false:=beq_eq_false_iff_ne.2 k2
      refine known_of (enter Try.func34 rebuild_Value.ok (args:=[_,_,_]) (by simp) ?_)
      repeat' (first | simp (disch:=omega) only [sxE,rebuild_Value.E,Nat.reduceAdd,Nat.reduceEqDiff,Nat.reduceMul,Nat.reduceSub,Int.reduceAdd,Int.reduceSub,Int.reduceMul,Int.reduceNeg,Int.reduceLT,Int.reduceLE,Int.reduceEq,Int.reduceToNat,↓reduceIte,Int.reducePow,Nat.reduceLeDiff,Nat.reduceLT,ne_eq,eq_self,List.length_cons,List.length_nil,qxE,d3,d2,g1,g2,g5,beq_self_eq_true] | (with_reducible refine Sx.call_at (f:=107) (fun W hW=>v1 W) ?_) | (with_reducible refine Sx.call_at (f:=85) (fun W hW=>at1 W) ?_) | (with_reducible refine Sx.call_at (f:=84) (fun W hW=>ad W) ?_) | (with_reducible refine Sx.call_at (f:=86) (fun W hW=>n1 W) ?_) | (with_reducible refine Sx.call_at (f:=87) (fun W hW=>n2 W) ?_) | (with_reducible refine cregF ?_))
   ·by_cases k3:lb3 (ab z) = 0
    ·have d3:(lb3 (ab z) == 0) = true:=beq_iff_eq.2 k3
     by_cases k2:lb2 (ab z) = 0
     ·exact absurd hn (by simp [k3,k2])
     ·have d2:(lb2 (ab z) == 0) = false:=beq_eq_false_iff_ne.2 k2
      refine known_of (enter Try.func34 rebuild_Value.ok (args:=[_,_,_]) (by simp) ?_)
      repeat' (first | simp (disch:=omega) only [sxE,rebuild_Value.E,Nat.reduceAdd,Nat.reduceEqDiff,Nat.reduceMul,Nat.reduceSub,Int.reduceAdd,Int.reduceSub,Int.reduceMul,Int.reduceNeg,Int.reduceLT,Int.reduceLE,Int.reduceEq,Int.reduceToNat,↓reduceIte,Int.reducePow,Nat.reduceLeDiff,Nat.reduceLT,ne_eq,eq_self,List.length_cons,List.length_nil,qxE,d3,d2,g1,g2,g5,beq_self_eq_true] | (with_reducible refine Sx.call_at (f:=107) (fun W hW=>v1 W) ?_) | (with_reducible refine Sx.call_at (f:=85) (fun W hW=>at1 W) ?_) | (with_reducible refine Sx.call_at (f:=84) (fun W hW=>ad W) ?_) | (with_reducible refine Sx.call_at (f:=86) (fun W hW=>n1 W) ?_) | (with_reducible refine Sx.call_at (f:=87) (fun W hW=>n2 W) ?_) | (with_reducible refine cregF ?_))
    ·have d3:(lb3 (ab z) == 0) = false:=beq_eq_false_iff_ne.2 k3
     by_cases k2:lb2 (ab z) = 0
     ·have d2:(lb2 (ab z) == 0) = true:=beq_iff_eq.2 k2
      refine known_of (enter Try.func34 rebuild_Value.ok (args:=[_,_,_]) (by simp) ?_)
      repeat' (first | simp (disch:=omega) only [sxE,rebuild_Value.E,Nat.reduceAdd,Nat.reduceEqDiff,Nat.reduceMul,Nat.reduceSub,Int.reduceAdd,Int.reduceSub,Int.reduceMul,Int.reduceNeg,Int.reduceLT,Int.reduceLE,Int.reduceEq,Int.reduceToNat,↓reduceIte,Int.reducePow,Nat.reduceLeDiff,Nat.reduceLT,ne_eq,eq_self,List.length_cons,List.length_nil,qxE,d3,d2,g1,g2,g5,beq_self_eq_true] | (with_reducible refine Sx.call_at (f:=107) (fun W hW=>v1 W) ?_) | (with_reducible refine Sx.call_at (f:=85) (fun W hW=>at1 W) ?_) | (with_reducible refine Sx.call_at (f:=84) (fun W hW=>ad W) ?_) | (with_reducible refine Sx.call_at (f:=86) (fun W hW=>n1 W) ?_) | (with_reducible refine Sx.call_at (f:=87) (fun W hW=>n2 W) ?_) | (with_reducible refine cregF ?_))
     ·have d2:(lb2 (ab z) == 0) = false:=beq_eq_false_iff_ne.2 k2
      refine known_of (enter Try.func34 rebuild_Value.ok (args:=[_,_,_]) (by simp) ?_)
      repeat' (first | simp (disch:=omega) only [sxE,rebuild_Value.E,Nat.reduceAdd,Nat.reduceEqDiff,Nat.reduceMul,Nat.reduceSub,Int.reduceAdd,Int.reduceSub,Int.reduceMul,Int.reduceNeg,Int.reduceLT,Int.reduceLE,Int.reduceEq,Int.reduceToNat,↓reduceIte,Int.reducePow,Nat.reduceLeDiff,Nat.reduceLT,ne_eq,eq_self,List.length_cons,List.length_nil,qxE,d3,d2,g1,g2,g5,beq_self_eq_true] | (with_reducible refine Sx.call_at (f:=107) (fun W hW=>v1 W) ?_) | (with_reducible refine Sx.call_at (f:=85) (fun W hW=>at1 W) ?_) | (with_reducible refine Sx.call_at (f:=84) (fun W hW=>ad W) ?_) | (with_reducible refine Sx.call_at (f:=86) (fun W hW=>n1 W) ?_) | (with_reducible refine Sx.call_at (f:=87) (fun W hW=>n2 W) ?_) | (with_reducible refine cregF ?_))
 ·simp only [e0] at ad n1 n2 fin ⊢
  clear eN eB e0 fs ba
  generalize hS:0 + atq p q dt = S at *
  generalize atq p q dt = A at *
  rcases fin with ⟨g1,g2⟩ | ⟨g1,g2,g3,g4,g5⟩ | ⟨g1,g2,g3,g4,g5⟩
  ·refine known_of (enter Try.func34 rebuild_Value.ok (args:=[_,_,_]) (by simp) ?_)
   repeat' (first | simp (disch:=omega) only [sxE,rebuild_Value.E,Nat.reduceAdd,Nat.reduceEqDiff,Nat.reduceMul,Nat.reduceSub,Int.reduceAdd,Int.reduceSub,Int.reduceMul,Int.reduceNeg,Int.reduceLT,Int.reduceLE,Int.reduceEq,Int.reduceToNat,↓reduceIte,Int.reducePow,Nat.reduceLeDiff,Nat.reduceLT,ne_eq,eq_self,List.length_cons,List.length_nil,qxE,g1,g2,beq_self_eq_true] | (with_reducible refine Sx.call_at (f:=107) (fun W hW=>v1 W) ?_) | (with_reducible refine Sx.call_at (f:=85) (fun W hW=>at1 W) ?_) | (with_reducible refine Sx.call_at (f:=84) (fun W hW=>ad W) ?_) | (with_reducible refine Sx.call_at (f:=84) (fun W hW=>ad0 W) ?_) | (with_reducible refine Sx.call_at (f:=86) (fun W hW=>n1 W) ?_) | (with_reducible refine Sx.call_at (f:=87) (fun W hW=>n2 W) ?_) | (with_reducible refine cregF ?_))
  ·refine known_of (enter Try.func34 rebuild_Value.ok (args:=[_,_,_]) (by simp) ?_)
   repeat' (first | simp (disch:=omega) only [sxE,rebuild_Value.E,Nat.reduceAdd,Nat.reduceEqDiff,Nat.reduceMul,Nat.reduceSub,Int.reduceAdd,Int.reduceSub,Int.reduceMul,Int.reduceNeg,Int.reduceLT,Int.reduceLE,Int.reduceEq,Int.reduceToNat,↓reduceIte,Int.reducePow,Nat.reduceLeDiff,Nat.reduceLT,ne_eq,eq_self,List.length_cons,List.length_nil,qxE,g1,g2,g5,beq_self_eq_true] | (with_reducible refine Sx.call_at (f:=107) (fun W hW=>v1 W) ?_) | (with_reducible refine Sx.call_at (f:=85) (fun W hW=>at1 W) ?_) | (with_reducible refine Sx.call_at (f:=84) (fun W hW=>ad W) ?_) | (with_reducible refine Sx.call_at (f:=84) (fun W hW=>ad0 W) ?_) | (with_reducible refine Sx.call_at (f:=86) (fun W hW=>n1 W) ?_) | (with_reducible refine Sx.call_at (f:=87) (fun W hW=>n2 W) ?_) | (with_reducible refine cregF ?_))
  ·refine known_of (enter Try.func34 rebuild_Value.ok (args:=[_,_,_]) (by simp) ?_)
   repeat' (first | simp (disch:=omega) only [sxE,rebuild_Value.E,Nat.reduceAdd,Nat.reduceEqDiff,Nat.reduceMul,Nat.reduceSub,Int.reduceAdd,Int.reduceSub,Int.reduceMul,Int.reduceNeg,Int.reduceLT,Int.reduceLE,Int.reduceEq,Int.reduceToNat,↓reduceIte,Int.reducePow,Nat.reduceLeDiff,Nat.reduceLT,ne_eq,eq_self,List.length_cons,List.length_nil,qxE,g1,g2,g5,beq_self_eq_true] | (with_reducible refine Sx.call_at (f:=107) (fun W hW=>v1 W) ?_) | (with_reducible refine Sx.call_at (f:=85) (fun W hW=>at1 W) ?_) | (with_reducible refine Sx.call_at (f:=84) (fun W hW=>ad W) ?_) | (with_reducible refine Sx.call_at (f:=84) (fun W hW=>ad0 W) ?_) | (with_reducible refine Sx.call_at (f:=86) (fun W hW=>n1 W) ?_) | (with_reducible refine Sx.call_at (f:=87) (fun W hW=>n2 W) ?_) | (with_reducible refine cregF ?_))
end Go.Proofs.Ytncmmbacoknefaa

/- L20: known of the statements about rebuild. -/
namespace Go.Proofs.Ytncmmbacoknefaa
open Go Go.RowKit Sx
set_option linter.unusedVariables false
set_option linter.unusedSimpArgs false
theorem fq_of20 {p q:Int} (h:rok true p q = true):Fq p q:=(rok_iff.1 h).2
set_option maxRecDepth 100000 in
set_option maxHeartbeats 1000000 in
theorem g_known20 (W:World):Gives Try.prog 33 [] W (· = .bool true):=by
 have i0:I64 0:=⟨by decide,by decide⟩
 have i1:I64 1:=⟨by decide,by decide⟩
 have i2:I64 2:=⟨by decide,by decide⟩
 have im:I64 9223372036854775807:=⟨by decide,by decide⟩
 have o0:=fun W=>rx_of i0 W
 have o1:=fun W=>rx_of i1 W
 have o2:=fun W=>rx_of i2 W
 have om:=fun W=>rx_of im W
 have f0:=(bd_i64 i0).fits
 have fm:=(bd_i64 im).fits
 have mk:=fun W=>rx_make (z:=1) (y:=2) (bd_i64 i1).fits (bd_i64 i2).fits W
 rw [mkV_yes (by decide +kernel),show mn 1 2 = 1 by decide +kernel,show mD 1 2 = 2 by decide +kernel] at mk
 have fh:Fq 1 2:=fq_of20 (by decide +kernel)
 have f1:Fq 1 1:=fq_of20 (by decide +kernel)
 have r1:=fun W=>rx_rof i1 W
 have v1:=fun W=>gx_value f0.rw fh.cq (dt:=3) ⟨by decide,by decide⟩ W
 have v2:=fun W=>gx_value fm.rw f1.cq (dt:=5) ⟨by decide,by decide⟩ W
 rw [show vl (vz 0 + atq 1 2 3) = 2 by decide +kernel] at v1
 rw [show vl (vz 9223372036854775807 + atq 1 1 5) = 9223372036854775807 by decide +kernel] at v2
 refine gives_known en_w20_known ?_
 refine known_of (enter Try.func33 w20_known.ok (args:=[]) (by simp) ?_)
 repeat' (first | simp (disch:=omega) only [sxE,w20_known.E,Nat.reduceAdd,Nat.reduceEqDiff,Nat.reduceMul,Nat.reduceSub,Int.reduceAdd,Int.reduceSub,Int.reduceMul,Int.reduceNeg,Int.reduceLT,Int.reduceLE,Int.reduceEq,Int.reduceToNat,↓reduceIte,Int.reducePow,Nat.reduceLeDiff,Nat.reduceLT,ne_eq,eq_self,List.length_cons,List.length_nil,qxE,beq_self_eq_true] | (with_reducible refine Sx.call_at (f:=20) (fun W hW=>o0 W) ?_) | (with_reducible refine Sx.call_at (f:=20) (fun W hW=>o1 W) ?_) | (with_reducible refine Sx.call_at (f:=20) (fun W hW=>o2 W) ?_) | (with_reducible refine Sx.call_at (f:=20) (fun W hW=>om W) ?_) | (with_reducible refine Sx.call_at (f:=81) (fun W hW=>mk W) ?_) | (with_reducible refine Sx.call_at (f:=82) (fun W hW=>r1 W) ?_) | (with_reducible refine Sx.call_at (f:=34) (fun W hW=>v1 W) ?_) | (with_reducible refine Sx.call_at (f:=34) (fun W hW=>v2 W) ?_) | (with_reducible refine cregF ?_))
 refine genA_c (L:=[]) (cs:=[.int .i64 2,.int .i64 9]) (T:=34) (fun b=>.slice (some ⟨b,0,none⟩) 1 1) (kX_nil _) (fun W=>by kernel_rfl) fun b hb=>?_
 clear hb
 repeat' (first | simp (disch:=omega) only [sxE,w20_known.E,Nat.reduceAdd,Nat.reduceEqDiff,Nat.reduceMul,Nat.reduceSub,Int.reduceAdd,Int.reduceSub,Int.reduceMul,Int.reduceNeg,Int.reduceLT,Int.reduceLE,Int.reduceEq,Int.reduceToNat,↓reduceIte,Int.reducePow,Nat.reduceLeDiff,Nat.reduceLT,ne_eq,eq_self,List.length_cons,List.length_nil,qxE] | (with_reducible refine cregF ?_))
 refine asks_kn (ι:=Nat × Nat) (L:=[.g (cK b [.int .i64 2,.int .i64 9])]) (gs:=[]) (fun x=>.slice (some ⟨x.1,0,none⟩) 2 x.2) (fun _=>[.g (cK b [.int .i64 2,.int .i64 9])]) en_rebuild_Constants rfl (fun x hx=>by cases hx) (fun W hok x hx=>by cases hx) (fun W' hW hok=>?con) fun x=>?_
 case con =>
  have k1:(cK b [.int .i64 2,.int .i64 9]).ok W.heap.size W':=hok _ (List.mem_singleton.2 rfl)
  exact (const_two (w:=W') (b:=b) k1.2).mono fun e w' ⟨x,h1,h2⟩=>⟨x,h1,moves_below h2,fun k hk=>.inl ⟨hk,fun _ _ h=>by cases h⟩⟩
 repeat' (first | simp (disch:=omega) only [sxE,w20_known.E,Nat.reduceAdd,Nat.reduceEqDiff,Nat.reduceMul,Nat.reduceSub,Int.reduceAdd,Int.reduceSub,Int.reduceMul,Int.reduceNeg,Int.reduceLT,Int.reduceLE,Int.reduceEq,Int.reduceToNat,↓reduceIte,Int.reducePow,Nat.reduceLeDiff,Nat.reduceLT,ne_eq,eq_self,List.length_cons,List.length_nil,qxE,beq_self_eq_true] | (with_reducible refine cregF ?_))
end Go.Proofs.Ytncmmbacoknefaa
