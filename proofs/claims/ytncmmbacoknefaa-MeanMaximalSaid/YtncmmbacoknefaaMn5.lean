/- Several texts in one: Mj, CdM1, Mh, Mk, Ts, Mi, Open, OpM, Ms, Mo, Sli. -/
import Derived.ProofKit
import Derived.Handy
import Derived.Deep.Upon
import Derived.Test.YtncmmbacoknefaaProg
import Derived.Test.YtncmmbacoknefaaRows
import Derived.OpenShut
import Derived.SizedLaws
import Derived.Laws.IdiomArrays
import Derived.Deep.Strs
import Derived.Laws.Slices
import Derived.Test.YtncmmbacoknefaaMn2
import Derived.Test.YtncmmbacoknefaaMn3
import Derived.Test.YtncmmbacoknefaaMn4
set_option linter.defProp false

/- Mj: mean: segment.Divider's All over mean's step and rest. -/
namespace Go.Proofs.Ytncmmbacoknefaa
open Go Go.RowKit Go.Shelf Sx Sx.Q
set_option linter.unusedVariables false
set_option linter.unusedSimpArgs false
attribute [local go_sem] Oper.semAt_some
namespace Sx
theorem genA_asks {C:Cx} {S:St} {K:St→Prop} {d:Option Nat} {F:FuncId} {l:List Value} (h:asks C F l d K S):genA C .fv (.func (.func F) #[] #[] :: l) d K S:=by
 obtain ⟨ι,v,X,h1,h2⟩:=h
 refine ⟨ι,v,X,fun A W hW=>⟨?_⟩,h2⟩
 have e:(genRun .fv (.func (.func F) #[] #[] :: l)).run C.P W = (callFunc F l.toArray).run C.P W:=by
  show (do let d ← Deferred.ofValue (.func (.func F) #[] #[]) l.toArray; invoke d.target d.args:Sem Next).run C.P W = _
  have h1:(Deferred.ofValue (.func (.func F) #[] #[]) l.toArray).run C.P W = .ok { target:=.fn (.func F) #[],args:=#[] ++ l.toArray } W:=rfl
  rw [run_bind_ok h1]
  show (callFunc F (#[] ++ l.toArray ++ #[])).run C.P W = _
  rw [Array.append_empty,Array.empty_append]
 rw [e]
 exact (h1 A W hW).out
def nK (p:St→Prop):Exit→St→Prop
 | .normal,S=>p S
 | _,_=>False
theorem ok_start {P:Program} {w W:World} {l:List Value} {L:List Kn} (hb:Below w.heap.size w W) (hL:∀ k∈L,k.ok w.heap.size W):Ok (cx P w l.length) (fun _=>0) ⟨0,initE l 0,[],kX w.heap.size L⟩ { tmps:=l.toArray,defers:=[] } W:=by
 refine ⟨⟨rfl,by simp,fun t x hx=>?_,fun t x hx=>?_⟩,⟨hb,fun k cs e=>(by cases e),fun k cs e=>(by cases e),fun k cs e=>(by cases e),fun k k' cs cs' e=>(by cases e),hL,kX_stab (Sx.cx P w l.length) L,fun k cs e=>(by cases e),fun b hb=>kX_lt hL b hb⟩⟩
 ·obtain ⟨v,rfl,-,hv⟩:=gt_initE hx
  have hv':l[t]? = some v:=by simpa using hv
  show l.toArray.getD t undef = v
  rw [Array.getD_eq_getD_getElem?,List.getElem?_toArray,hv']
  rfl
 ·obtain ⟨v,rfl,-,hv⟩:=gt_initE hx
  exact Nat.le_refl _
end Sx
theorem hb_own {X Y:World} {row:Option Nat} {b:Nat} {cs:Array Value} (h:HB X b cs) (hg:X.grownBy Y row) (hr:∀ r,row = some r→∃ o:Obj,X.heap[r]? = some o∧o.isCells = false):HB Y b cs:=by
 obtain ⟨T,h⟩:=h
 refine ⟨T,(hg.block b (Array.getElem?_eq_some_iff.1 h).1 (fun e=>?_)).trans h⟩
 obtain ⟨o,ho,hc⟩:=hr b e.symm
 rw [h] at ho; cases ho; cases hc
theorem row_own {X Y:World} {row:Option Nat} {base size k:Nat} {e:TypeId} {v:Value} {xs:List Value} (h:X.ownsRow base e size v k xs) (hg:X.grownBy Y row) (hr:∀ r,row = some r→∃ o:Obj,X.heap[r]? = some o∧o.isCells = false):Y.ownsRow base e size v k xs:=by
 refine h.kept hg ?_
 rcases h.2 with ⟨rfl,_⟩ | ⟨g,cap,cur,rfl,_,hgb,_⟩
 ·exact .inl rfl
 ·refine .inr fun e'=>?_
  obtain ⟨o,ho,hc⟩:=hr g (by simpa [Value.ownBlock] using e'.symm)
  rw [hgb] at ho; cases ho; cases hc
theorem row_cells {X:World} {base size k g:Nat} {e:TypeId} {v:Value} {xs:List Value} (h:X.ownsRow base e size v k xs) (hg:v.ownBlock = some g):∀ o,X.heap[g]? = some o→o.isCells = true:=fun o ho=>by
 rcases h.2 with ⟨rfl,_⟩ | ⟨g',cap,cur,rfl,_,hgb,_⟩
 ·cases hg
 ·obtain rfl:g' = g:=by simpa [Value.ownBlock] using hg
  rw [hgb] at ho; cases ho; rfl
theorem hb_cells {X:World} {b:Nat} {cs:Array Value} (h:HB X b cs):∀ o,X.heap[b]? = some o→o.isCells = true:=fun o ho=>by
 obtain ⟨T,h⟩:=h
 rw [h] at ho; cases ho; rfl
theorem row_keeps {X Y:World} {base size k:Nat} {e:TypeId} {v:Value} {xs:List Value} (h:X.ownsRow base e size v k xs) (hg:X.grownBy Y v.ownBlock):KeepsOthers X Y :=
 KeepsOthers.of_grownBy hg fun j o ej hj=>row_cells h ej o hj
theorem wpList_append_run {P:Program} {ops:Array Oper} {rest:List Oper} {o:Oper} {a:Act} {w w':World} {Q:Exit→Act→World→Prop} (hgd:o.guard = none) (s x:Operand) (t:TypeId)
  (ho:o.op = .call { callee:=.builtin .append,args:=#[s,x],argTypes:=#[t,t] }) (v xv v':Value) (hs:a.eval s = v) (hx:a.eval x = xv) (hrun:(Builtin.append_ #[t,t] o.type #[v,xv]).run P w = .ok v' w') (h:wpList P ops Q rest (a.put o.dst v') w') :
  wpList P ops Q (o :: rest) a w :=
 wpList_plain hgd fun K hK=>by
  unfold Oper.wp
  simp [execOp,ho,resolve,invoke,builtin,hs,hx,hrun,Result.andThen]
  exact hK _ _ h
def noPanic (Q:Exit→Act→World→Prop):Exit→Act→World→Prop
 | .panic _,_,_=>False
 | .normal,a,w=>Q .normal a w
 | .ret,a,w=>Q .ret a w
 | .exit i,a,w=>Q (.exit i) a w
 | .goto t,a,w=>Q (.goto t) a w
 | .outgrown,a,w=>Q .outgrown a w
theorem noPanic_le {Q:Exit→Act→World→Prop}:∀ e a w,noPanic Q e a w→Q e a w
 | .panic _,_,_,h=>h.elim
 | .normal,_,_,h=>h
 | .ret,_,_,h=>h
 | .exit _,_,_,h=>h
 | .goto _,_,_,h=>h
 | .outgrown,_,_,h=>h
abbrev ints (l:List I6):List Int:=l.map Subtype.val
theorem ints_in (l:List I6):∀ z∈ints l,I64 z:=by
 intro z hz
 obtain ⟨x,_,rfl⟩:=List.mem_map.1 hz
 exact x.2
abbrev mdS:Value:=.func (.func 67) #[] #[]
abbrev mdR:Value:=.func (.func 68) #[] #[]
abbrev mcs (s:MeS):List Value:=[.int .i64 s.t,.int .i64 s.n,.int .i64 s.lo,.int .i64 s.hi,.bool (sg s.S),.int .u64 (lb0 (ab s.S)),.int .u64 (lb1 (ab s.S)),.int .u64 (lb2 (ab s.S)),.int .u64 (lb3 (ab s.S))]
namespace mdv
abbrev z0:List Value:=[.int .i64 0,.int .i64 0,.int .i64 0,.int .i64 0,.bool false,.int .u64 0,.int .u64 0,.int .u64 0,.int .u64 0]
abbrev r4:List G:=[a 14 0 3,l 15 14,L 16 9 4,m 17 8,e 18 (.gen false .fv [t 15,t 16,t 17]),m 13 18,x 19 13 0,x 20 13 1,e 9 (.new z0),V 9 9 19,m 10 20]
abbrev r5:List G:=[L 21 9 9,m 23 10]
abbrev t5:GT:=br 22 (.ld false 1 (t 7)) (br 24 (.gen false (.bi .append [29,29] 29 [false,false]) [t 22,t 23]) (.br none none (.st true 9 (t 4) (t 21)) (.br none none (.st false 1 (t 7) (t 24)) .fin .no) .no) .no) .no
abbrev c:MC:=.block 1 (.seq (.reg r4 (some [4,7,9,10])) (.hreg r5 t5 [9] (some [])))
theorem s (C:Cx) (R S):X C c (nK R) S = P C r4 [4,7,9,10] (Ph C r5 t5 [9] [] R) S:=rfl
theorem E:type_of% @s:=@s
end mdv
def MI (t:Int) (w:World) (pre:List I6) (W:World):Prop :=
 ∃ v,HB W w.heap.size #[mdS,mdR]∧HB W (w.heap.size + 1) (mcs (mef t (ints pre)).1).toArray∧HB W (w.heap.size + 1 + 1) #[v]∧W.ownsRow w.heap.size 34 2 v (mef t (ints pre)).2.length (scells (mef t (ints pre)).2) ∧
  (∀ g,v.ownBlock = some g→w.heap.size + 1 + 1 < g)∧Below w.heap.size w W
theorem MI_own {t:Int} {w:World} {B:Nat} (hle:w.heap.size≤B):OwnFrom B (MI t w):=by
 rintro s X Y row ⟨v,h1,h2,h3,h4,h5,h6⟩ hg hr
 have hr':∀ r,row = some r→∃ o:Obj,X.heap[r]? = some o∧o.isCells = false:=fun r e=>(hr r e).2
 exact ⟨v,hb_own h1 hg hr',hb_own h2 hg hr',hb_own h3 hg hr',row_own h4 hg hr',h5,ownFrom_below (β:=Unit) (Nat.le_refl _) hle () X Y row h6 hg hr⟩
theorem mei_pre {t:Int} (ht:tolz t = true) (pre:List I6) (hl:pre.length≤1073741824):MeI t pre.length (mef t (ints pre)):=by
 have:=mei_at ht (ints_in pre) (by simpa using hl) (ints pre).length (Nat.le_refl _)
 rw [List.take_length] at this
 simpa using this
theorem slice_row {W:World} {base size n:Nat} {e:TypeId} {v:Value} {xs:List Value} (h:W.ownsRow base e size v n xs):∃ a c,v = .slice a n c:=by
 obtain ⟨a,c,h,-⟩:=row_form h
 exact ⟨a,c,h⟩
set_option maxRecDepth 100000 in
set_option maxHeartbeats 2000000 in
theorem md_round {t:Int} (ht:tolz t = true) (w:World) (l N len B:Nat) (hlen:len≤1073741824) (pre:List I6) (x:I6) (W:World) (hI:MI t w pre W) (hlt:pre.length < len) (v0 v1 v2 v6 v11:Value) {c:Code}
  (hc:compC Try.prog 31 (an [4,5] mdv.c [(5,99998,[0,2],[],[9])]) c = some mdv.c) (hm:inM c mdv.c = true) :
  c.wpIn (Fence.wide.inRound l) N Try.prog (ownPostG B (Below w.heap.size) (MI t w) (fun _ _ _=>False) (pre ++ [x]) W)
   { tmps:=#[v0,v1,v2,.pointer (some ⟨w.heap.size,0,none⟩),.pointer (some ⟨w.heap.size + 1,0,none⟩),undef,v6,.pointer (some ⟨w.heap.size + 1 + 1,0,none⟩),.int .i64 x.1,undef,undef,v11,.int .i64 x.1,undef,undef,undef,undef,undef,undef,undef,undef,undef,undef,undef,undef,undef,undef,undef,undef,undef,undef],defers:=[] } W:=by
 obtain ⟨v,hD,hS,hO,hrow,hge,hB⟩:=hI
 have M:=mei_pre ht pre (by omega)
 have hmf:mef t (ints (pre ++ [x])) = mea (mef t (ints pre)) x.1:=by rw [show ints (pre ++ [x]) = ints pre ++ [x.1] by simp [ints]]; exact mef_snoc _ _ _
 obtain ⟨Ix,hIx⟩:∃ Ix,Ix = (fun W'=>MI t w (pre ++ [x]) W'):=⟨_,rfl⟩
 have hIx':∀ W',Ix W'↔∃ v,HB W' w.heap.size #[mdS,mdR]∧HB W' (w.heap.size + 1) (mcs (mea (mef t (ints pre)) x.1).1).toArray∧HB W' (w.heap.size + 1 + 1) #[v]∧W'.ownsRow w.heap.size 34 2 v (mea (mef t (ints pre)) x.1).2.length (scells (mea (mef t (ints pre)) x.1).2)∧(∀ g,v.ownBlock = some g→w.heap.size + 1 + 1 < g)∧Below w.heap.size w W':=fun W'=>by
  rw [hIx,← hmf]
  exact Iff.rfl
 have hst:∀ W':World,Calls Try.prog 67 #[mev (mef t (ints pre)).1,.int .i64 x.1] W' fun en w'=>∃ u,en = .returned (.tuple #[mev (men (mef t (ints pre)).1 x.1),u])∧w'.ownsRow W'.heap.size 34 2 u (mee (mef t (ints pre)).1 x.1).length (scells (mee (mef t (ints pre)).1 x.1))∧Below W'.heap.size W' w':=fun W'=>gx_mstp M.g (by have:=M.n; omega) x.2
 have hlen':=M.len
 have hle2:=mee_len (mef t (ints pre)).1 x.1
 clear M hmf
 unfold mea at hIx'
 generalize mef t (ints pre) = A at *
 obtain ⟨s,ls⟩:=A
 dsimp only at *
 generalize mee s x.1 = es at *
 generalize men s x.1 = s' at *
 obtain ⟨ex,hex⟩:∃ ex,ex = [w.heap.size,w.heap.size + 1,w.heap.size + 1 + 1] ++ v.ownBlock.toList:=⟨_,rfl⟩
 have hsz:=hB.size
 obtain ⟨L,hL⟩:∃ L:List Kn,L = [.g (wK 34 2 v ls.length (scells ls)),.g (cK w.heap.size [mdS,mdR]),.g (cK (w.heap.size + 1) (mcs s)),.g (cK (w.heap.size + 1 + 1) [v]),.g (xW W w.heap.size ex)]:=⟨_,rfl⟩
 have hok:∀ k∈L,k.ok w.heap.size W:=by
  intro k hk
  rw [hL] at hk
  simp only [List.mem_cons,List.not_mem_nil,or_false] at hk
  rcases hk with rfl | rfl | rfl | rfl | rfl
  ·exact hrow
  ·exact ⟨Nat.le_refl _,hD⟩
  ·exact ⟨Nat.le_succ _,hS⟩
  ·exact ⟨by omega,hO⟩
  ·exact xW_start hsz
 have keep:∀ W',(Kn.g (xW W w.heap.size ex)).ok w.heap.size W'→Below w.heap.size w W'→KeepsFrom B W W'∧Below w.heap.size W W':=by
  rintro W' ⟨-,-,h3,h4⟩ hb
  have hin:∀ i o,W.heap[i]? = some o→o.isCells = false→i ∉ ex:=by
   intro i o ho hcc hi
   rw [hex] at hi
   simp only [List.cons_append,List.nil_append,List.mem_cons] at hi
   have key:o.isCells = true:=by
    rcases hi with rfl | rfl | rfl | hi
    ·exact hb_cells hD o ho
    ·exact hb_cells hS o ho
    ·exact hb_cells hO o ho
    ·exact row_cells hrow (by simpa using hi) o ho
   rw [hcc] at key; cases key
  have hk:KeepsOthers W W':=⟨h3,fun i o ho hcc=>by
   rw [h4 i (Array.getElem?_eq_some_iff.1 ho).1 (hin i o ho hcc)]; exact ho⟩
  refine ⟨hk.from _,⟨hb.os.trans hB.os.symm,hb.tape.trans hB.tape.symm,hb.output.trans hB.output.symm,h3,fun i hi=>(hb.block i hi).trans (hB.block i hi).symm⟩⟩
 obtain ⟨av,cv,rfl⟩:=slice_row hrow
 have hbx:∀ b∈(Kn.g (xW W w.heap.size ex)).bs,b ∉ ex:=fun b hb=>(xW_bs.1 hb).2
 refine wpIn_mono (X_in (C:=cx Try.prog w 31) rfl hc hm (K:=nK fun T=>∃ v' c',T.T = kX w.heap.size [.g (cK (w.heap.size + 1 + 1) [.slice v' (ls.length + es.length) c']),.g (cK (w.heap.size + 1) (mcs s')),.g (wK 34 2 (.slice v' (ls.length + es.length) c') (ls.length + es.length) (scells ls ++ scells es)),.g (cK w.heap.size [mdS,mdR]),.g (xW W w.heap.size ex)]∧∀ g,(Value.slice v' (ls.length + es.length) c').ownBlock = some g→w.heap.size≤g∧g≠w.heap.size∧g≠w.heap.size + 1∧g≠w.heap.size + 1 + 1) ?run ((ok_start (l:=[v0,v1,v2,.pointer (some ⟨w.heap.size,0,none⟩),.pointer (some ⟨w.heap.size + 1,0,none⟩),undef,v6,.pointer (some ⟨w.heap.size + 1 + 1,0,none⟩),.int .i64 x.1,undef,undef,v11,.int .i64 x.1,undef,undef,undef,undef,undef,undef,undef,undef,undef,undef,undef,undef,undef,undef,undef,undef,undef,undef]) hB hok).sub (T:=⟨0,[(3,.v (.pointer (some ⟨w.heap.size,0,none⟩))),(4,.v (.pointer (some ⟨w.heap.size + 1,0,none⟩))),(7,.v (.pointer (some ⟨w.heap.size + 1 + 1,0,none⟩))),(8,.v (.int .i64 x.1))],[],kX w.heap.size L⟩) (subS.sub ⟨Nat.le_refl _,⟨⟨rfl,Nat.le_refl _⟩,⟨rfl,Nat.le_refl _⟩,⟨rfl,Nat.le_refl _⟩,⟨rfl,Nat.le_refl _⟩,trivial⟩,trivial,.inl rfl⟩))) ?fin
 case fin =>
  rintro e a' W' ⟨he,A',S',hok',hK⟩
  cases e with
  | normal =>
   obtain ⟨v',c',hT,hg⟩:=hK
   have hk:=hok'.2.tk
   rw [hT] at hk
   have k1:(Kn.g (cK (w.heap.size + 1 + 1) [.slice v' (ls.length + es.length) c'])).ok w.heap.size W':=hk _ (by simp)
   have k2:(Kn.g (cK (w.heap.size + 1) (mcs s'))).ok w.heap.size W':=hk _ (by simp)
   have k3:(Kn.g (wK 34 2 (.slice v' (ls.length + es.length) c') (ls.length + es.length) (scells ls ++ scells es))).ok w.heap.size W':=hk _ (by simp)
   have k4:(Kn.g (cK w.heap.size [mdS,mdR])).ok w.heap.size W':=hk _ (by simp)
   have k5:(Kn.g (xW W w.heap.size ex)).ok w.heap.size W':=hk _ (by simp)
   obtain ⟨q1,q2⟩:=keep W' k5 hok'.2.bl
   refine ⟨q1,q2,?_⟩
   have:Ix W':=(hIx' W').2 ⟨_,k4.2,k2.2,k1.2,by rw [List.length_append,scells_ap]; exact k3,fun g hg'=>by
    obtain ⟨g1,g2,g3,g4⟩:=hg g hg'
    omega,hok'.2.bl⟩
   rw [hIx] at this
   exact this
  | ret=>exact hK.elim
  | exit i=>exact hK.elim
  | _=>cases he
 case run =>
  rw [hL]
  clear hIx hIx' keep hok hL hD hS hO hB
  repeat' (first | simp (disch:=omega) only [sxE,mdv.E,Nat.reduceAdd,Nat.reduceEqDiff,Nat.reduceMul,Nat.reduceSub,Int.reduceAdd,Int.reduceSub,Int.reduceMul,Int.reduceNeg,Int.reduceLT,Int.reduceLE,Int.reduceEq,Int.reduceToNat,↓reduceIte,Int.reducePow,Nat.reduceLeDiff,Nat.reduceLT,ne_eq,eq_self,List.length_cons,List.length_nil,qxE] | (with_reducible refine ldP_blk w.heap.size ?_; refine ldP_k (b:=w.heap.size) rfl (by first | exact List.mem_cons_self | exact List.mem_cons_of_mem _ List.mem_cons_self | exact List.mem_cons_of_mem _ (List.mem_cons_of_mem _ List.mem_cons_self) | exact List.mem_cons_of_mem _ (List.mem_cons_of_mem _ (List.mem_cons_of_mem _ List.mem_cons_self)) | exact List.mem_cons_of_mem _ (List.mem_cons_of_mem _ (List.mem_cons_of_mem _ (List.mem_cons_of_mem _ List.mem_cons_self)))) rfl ?_) | (with_reducible refine ldP_blk (w.heap.size + 1) ?_; refine ldP_k (b:=(w.heap.size + 1)) rfl (by first | exact List.mem_cons_self | exact List.mem_cons_of_mem _ List.mem_cons_self | exact List.mem_cons_of_mem _ (List.mem_cons_of_mem _ List.mem_cons_self) | exact List.mem_cons_of_mem _ (List.mem_cons_of_mem _ (List.mem_cons_of_mem _ List.mem_cons_self)) | exact List.mem_cons_of_mem _ (List.mem_cons_of_mem _ (List.mem_cons_of_mem _ (List.mem_cons_of_mem _ List.mem_cons_self)))) rfl ?_) | (with_reducible refine cregF ?_))
  refine genA_asks (asks_rowB (L:=[.g (wK 34 2 (.slice av ls.length cv) ls.length (scells ls)),.g (cK w.heap.size [mdS,mdR]),.g (cK (w.heap.size + 1) (mcs s)),.g (cK (w.heap.size + 1 + 1) [.slice av ls.length cv]),.g (xW W w.heap.size ex)]) (e:=34) (s:=2) (ι:=Unit) (fun _=>True) (fun _=>es.length) (fun _=>scells es) (fun _ v=>.tuple #[mev s',v]) en_mean_step rfl (fun W hW hok=>(hst W).mono fun e w' ⟨u,q1,q2,q3⟩=>⟨(),u,trivial,q1,q2,q3⟩) ?_)
  rintro - a5 c5 - - - - hn5
  clear hst
  obtain ⟨st,sn,sl,sh,sS⟩:=s'
  repeat' (first | simp (disch:=omega) only [sxE,mdv.E,Nat.reduceAdd,Nat.reduceEqDiff,Nat.reduceMul,Nat.reduceSub,Int.reduceAdd,Int.reduceSub,Int.reduceMul,Int.reduceNeg,Int.reduceLT,Int.reduceLE,Int.reduceEq,Int.reduceToNat,↓reduceIte,Int.reducePow,Nat.reduceLeDiff,Nat.reduceLT,ne_eq,eq_self,List.length_cons,List.length_nil,qxE] | (with_reducible refine ldP_blk w.heap.size ?_; refine ldP_k (b:=w.heap.size) rfl (by first | exact List.mem_cons_self | exact List.mem_cons_of_mem _ List.mem_cons_self | exact List.mem_cons_of_mem _ (List.mem_cons_of_mem _ List.mem_cons_self) | exact List.mem_cons_of_mem _ (List.mem_cons_of_mem _ (List.mem_cons_of_mem _ List.mem_cons_self)) | exact List.mem_cons_of_mem _ (List.mem_cons_of_mem _ (List.mem_cons_of_mem _ (List.mem_cons_of_mem _ List.mem_cons_self)))) rfl ?_) | (with_reducible refine ldP_blk (w.heap.size + 1 + 1) ?_; refine ldP_k (b:=(w.heap.size + 1 + 1)) rfl (by first | exact List.mem_cons_self | exact List.mem_cons_of_mem _ List.mem_cons_self | exact List.mem_cons_of_mem _ (List.mem_cons_of_mem _ List.mem_cons_self) | exact List.mem_cons_of_mem _ (List.mem_cons_of_mem _ (List.mem_cons_of_mem _ List.mem_cons_self)) | exact List.mem_cons_of_mem _ (List.mem_cons_of_mem _ (List.mem_cons_of_mem _ (List.mem_cons_of_mem _ List.mem_cons_self)))) rfl ?_) | (with_reducible refine cregF ?_))
  
  
  
  
  
  
  have hx0:w.heap.size ∉ (Kn.g (xW W w.heap.size ex)).bs:=fun h=>hbx _ h (by rw [hex]; simp)
  have hx1:w.heap.size + 1 ∉ (Kn.g (xW W w.heap.size ex)).bs:=fun h=>hbx _ h (by rw [hex]; simp)
  have hx2:w.heap.size + 1 + 1 ∉ (Kn.g (xW W w.heap.size ex)).bs:=fun h=>hbx _ h (by rw [hex]; simp)
  refine genA_appR rfl [.g (cK w.heap.size [mdS,mdR]),.g (cK (w.heap.size + 1) (mcs s)),.g (cK (w.heap.size + 1 + 1) [.slice av ls.length cv]),.g (xW W w.heap.size ex)] elt_const rfl (.inr (List.mem_cons_of_mem _ List.mem_cons_self)) (.inr List.mem_cons_self) (.inl fun _ h=>h) (scells_1 _) (by simp only [maxLen]; omega) (by omega) (fun k hk=>?_) fun a3 c3 _ _ _ hg3=>?_
  ·simp only [List.mem_cons,List.not_mem_nil,or_false] at hk
   rcases hk with rfl | rfl | rfl | rfl
   ·exact ⟨by simp,fun x hx e=>by have:=hge x e; have:=cK_bs.1 hx; omega⟩
   ·exact ⟨by simp,fun x hx e=>by have:=hge x e; have:=cK_bs.1 hx; omega⟩
   ·exact ⟨by simp,fun x hx e=>by have:=hge x e; have:=cK_bs.1 hx; omega⟩
   ·exact ⟨by simp,fun x hx e=>hbx x hx (by rw [hex,e]; simp)⟩
  have g0:(Value.slice a3 (ls.length + es.length) c3).ownBlock≠some w.heap.size:=fun e=>(hg3 _ e).2 (.g (cK w.heap.size [mdS,mdR])) (by simp) (cK_bs.2 rfl)
  have g1:(Value.slice a3 (ls.length + es.length) c3).ownBlock≠some (w.heap.size + 1):=fun e=>(hg3 _ e).2 (.g (cK (w.heap.size + 1) (mcs s))) (by simp) (cK_bs.2 rfl)
  have g2:(Value.slice a3 (ls.length + es.length) c3).ownBlock≠some (w.heap.size + 1 + 1):=fun e=>(hg3 _ e).2 (.g (cK (w.heap.size + 1 + 1) [.slice av ls.length cv])) (by simp) (cK_bs.2 rfl)
  have n1:∀ k∈([.g (wK 34 2 (.slice a3 (ls.length + es.length) c3) (ls.length + es.length) (scells ls ++ scells es)),.g (cK w.heap.size [mdS,mdR]),.g (cK (w.heap.size + 1 + 1) [.slice av ls.length cv]),.g (xW W w.heap.size ex)]:List Kn),k∈([.g (wK 34 2 (.slice a3 (ls.length + es.length) c3) (ls.length + es.length) (scells ls ++ scells es)),.g (cK w.heap.size [mdS,mdR]),.g (cK (w.heap.size + 1) (mcs s)),.g (cK (w.heap.size + 1 + 1) [.slice av ls.length cv]),.g (xW W w.heap.size ex)]:List Kn)∧w.heap.size + 1 ∉ k.bs:=fun k hk=>by
   simp only [List.mem_cons,List.not_mem_nil,or_false] at hk
   rcases hk with rfl | rfl | rfl | rfl
   ·exact ⟨by simp,fun h=>g1 (wK_bs.1 h)⟩
   ·exact ⟨by simp,fun h=>by have:=cK_bs.1 h; omega⟩
   ·exact ⟨by simp,fun h=>by have:=cK_bs.1 h; omega⟩
   ·exact ⟨by simp,hx1⟩
  have n2:∀ k∈([.g (cK (w.heap.size + 1) (mcs ⟨st,sn,sl,sh,sS⟩)),.g (wK 34 2 (.slice a3 (ls.length + es.length) c3) (ls.length + es.length) (scells ls ++ scells es)),.g (cK w.heap.size [mdS,mdR]),.g (xW W w.heap.size ex)]:List Kn),k∈([.g (cK (w.heap.size + 1) (mcs ⟨st,sn,sl,sh,sS⟩)),.g (wK 34 2 (.slice a3 (ls.length + es.length) c3) (ls.length + es.length) (scells ls ++ scells es)),.g (cK w.heap.size [mdS,mdR]),.g (cK (w.heap.size + 1 + 1) [.slice av ls.length cv]),.g (xW W w.heap.size ex)]:List Kn)∧w.heap.size + 1 + 1 ∉ k.bs:=fun k hk=>by
   simp only [List.mem_cons,List.not_mem_nil,or_false] at hk
   rcases hk with rfl | rfl | rfl | rfl
   ·exact ⟨by simp,fun h=>by have:=cK_bs.1 h; omega⟩
   ·exact ⟨by simp,fun h=>g2 (wK_bs.1 h)⟩
   ·exact ⟨by simp,fun h=>by have:=cK_bs.1 h; omega⟩
   ·exact ⟨by simp,hx2⟩
  have hfin:∀ g,(Value.slice a3 (ls.length + es.length) c3).ownBlock = some g→w.heap.size≤g∧g≠w.heap.size∧g≠w.heap.size + 1∧g≠w.heap.size + 1 + 1:=fun g hg=>⟨(hg3 g hg).1,fun e=>g0 (e ▸ hg),fun e=>g1 (e ▸ hg),fun e=>g2 (e ▸ hg)⟩
  clear hg3 hge hbx hx0 hx1 hx2 g0 g1 g2 hn5 hex
  repeat' (first | simp (disch:=omega) only [sxE,mdv.E,Nat.reduceAdd,Nat.reduceEqDiff,Nat.reduceMul,Nat.reduceSub,Int.reduceAdd,Int.reduceSub,Int.reduceMul,Int.reduceNeg,Int.reduceLT,Int.reduceLE,Int.reduceEq,Int.reduceToNat,↓reduceIte,Int.reducePow,Nat.reduceLeDiff,Nat.reduceLT,ne_eq,eq_self,List.length_cons,List.length_nil,qxE,x_stq,x_cSl] | (with_reducible refine And.intro ?_ ?_) | (with_reducible refine stP_blk (w.heap.size + 1) ?_; refine stP_c (b:=(w.heap.size + 1)) (R:=[.g (wK 34 2 (.slice a3 (ls.length + es.length) c3) (ls.length + es.length) (scells ls ++ scells es)),.g (cK w.heap.size [mdS,mdR]),.g (cK (w.heap.size + 1 + 1) [.slice av ls.length cv]),.g (xW W w.heap.size ex)]) rfl (by first | exact List.mem_cons_self | exact List.mem_cons_of_mem _ List.mem_cons_self | exact List.mem_cons_of_mem _ (List.mem_cons_of_mem _ List.mem_cons_self) | exact List.mem_cons_of_mem _ (List.mem_cons_of_mem _ (List.mem_cons_of_mem _ List.mem_cons_self)) | exact List.mem_cons_of_mem _ (List.mem_cons_of_mem _ (List.mem_cons_of_mem _ (List.mem_cons_of_mem _ List.mem_cons_self)))) n1 rfl rfl ?_) | (with_reducible refine stL_blk (w.heap.size + 1) ?_; refine stL_c (b:=(w.heap.size + 1)) (R:=[.g (wK 34 2 (.slice a3 (ls.length + es.length) c3) (ls.length + es.length) (scells ls ++ scells es)),.g (cK w.heap.size [mdS,mdR]),.g (cK (w.heap.size + 1 + 1) [.slice av ls.length cv]),.g (xW W w.heap.size ex)]) rfl (by first | exact List.mem_cons_self | exact List.mem_cons_of_mem _ List.mem_cons_self | exact List.mem_cons_of_mem _ (List.mem_cons_of_mem _ List.mem_cons_self) | exact List.mem_cons_of_mem _ (List.mem_cons_of_mem _ (List.mem_cons_of_mem _ List.mem_cons_self)) | exact List.mem_cons_of_mem _ (List.mem_cons_of_mem _ (List.mem_cons_of_mem _ (List.mem_cons_of_mem _ List.mem_cons_self)))) n1 rfl rfl ?_) | (with_reducible refine stP_blk (w.heap.size + 1 + 1) ?_; refine stP_c (b:=(w.heap.size + 1 + 1)) (R:=[.g (cK (w.heap.size + 1) (mcs ⟨st,sn,sl,sh,sS⟩)),.g (wK 34 2 (.slice a3 (ls.length + es.length) c3) (ls.length + es.length) (scells ls ++ scells es)),.g (cK w.heap.size [mdS,mdR]),.g (xW W w.heap.size ex)]) rfl (by first | exact List.mem_cons_self | exact List.mem_cons_of_mem _ List.mem_cons_self | exact List.mem_cons_of_mem _ (List.mem_cons_of_mem _ List.mem_cons_self) | exact List.mem_cons_of_mem _ (List.mem_cons_of_mem _ (List.mem_cons_of_mem _ List.mem_cons_self)) | exact List.mem_cons_of_mem _ (List.mem_cons_of_mem _ (List.mem_cons_of_mem _ (List.mem_cons_of_mem _ List.mem_cons_self)))) n2 rfl rfl ?_) | (with_reducible refine stL_blk (w.heap.size + 1 + 1) ?_; refine stL_c (b:=(w.heap.size + 1 + 1)) (R:=[.g (cK (w.heap.size + 1) (mcs ⟨st,sn,sl,sh,sS⟩)),.g (wK 34 2 (.slice a3 (ls.length + es.length) c3) (ls.length + es.length) (scells ls ++ scells es)),.g (cK w.heap.size [mdS,mdR]),.g (xW W w.heap.size ex)]) rfl (by first | exact List.mem_cons_self | exact List.mem_cons_of_mem _ List.mem_cons_self | exact List.mem_cons_of_mem _ (List.mem_cons_of_mem _ List.mem_cons_self) | exact List.mem_cons_of_mem _ (List.mem_cons_of_mem _ (List.mem_cons_of_mem _ List.mem_cons_self)) | exact List.mem_cons_of_mem _ (List.mem_cons_of_mem _ (List.mem_cons_of_mem _ (List.mem_cons_of_mem _ List.mem_cons_self)))) n2 rfl rfl ?_) | (with_reducible refine cregF ?_))
  exact ⟨a3,c3,rfl,hfin⟩
set_option maxRecDepth 100000 in
set_option maxHeartbeats 4000000 in
theorem md_any {t:Int} (ht:tolz t = true) (Bs len cap:Nat) (a:Option Addr) (f:Nat→I6) (hlen:len≤1073741824) (w:World) (hBs:Bs < w.heap.size) (hc:w.cell? ⟨Bs,0,none⟩ = some (.slice a len cap))
  (hI:0 < len→∃ b off,a = some ⟨b,off,none⟩∧b < w.heap.size∧∀ j,j < len→w.cell? ⟨b,off + j,none⟩ = some (.int .i64 (f j).1)) :
  Calls Try.prog 69 #[.agg #[mdS,mdR],meZ t,.func (.func 126) #[] #[.pointer (some ⟨Bs,0,none⟩)]] w fun e W' =>
   ∃ v,e = .returned v∧W'.ownsRow w.heap.size 34 2 v (meall t (ints (upto f len))).length (scells (meall t (ints (upto f len))))∧Below w.heap.size w W':=by
 refine (callsIn_wide (n:=6)).1 ?_
 refine callsIn_of_wp_marks Try.func69 rfl trivial ?_ rfl
 simp only [Try.ntmps69,List.size_toArray,List.length_cons,List.length_nil,Nat.reduceAdd,Nat.reduceSub,Array.replicate_succ,Array.replicate_zero,List.push_toArray,List.append_toArray,List.nil_append,List.cons_append]
 gi_wp2
 
 have hB0:Below w.heap.size w (((w.alloc (.cells #[mdS,mdR] 106)).alloc (.cells #[.int .i64 t,.int .i64 0,.int .i64 0,.int .i64 0,.bool false,.int .u64 0,.int .u64 0,.int .u64 0,.int .u64 0] 68)).alloc (.cells #[.slice none 0 0] 29)):=((((Below.refl _ w).alloc (Nat.le_refl _) _).alloc (by simp) _).alloc (by simp; omega) _)
 have hb1:HB (((w.alloc (.cells #[mdS,mdR] 106)).alloc (.cells #[.int .i64 t,.int .i64 0,.int .i64 0,.int .i64 0,.bool false,.int .u64 0,.int .u64 0,.int .u64 0,.int .u64 0] 68)).alloc (.cells #[.slice none 0 0] 29)) w.heap.size #[mdS,mdR]:=HB.old (by simp; omega) (HB.old (by simp) (HB.new _ _ _ rfl))
 have hb2:HB (((w.alloc (.cells #[mdS,mdR] 106)).alloc (.cells #[.int .i64 t,.int .i64 0,.int .i64 0,.int .i64 0,.bool false,.int .u64 0,.int .u64 0,.int .u64 0,.int .u64 0] 68)).alloc (.cells #[.slice none 0 0] 29)) (w.heap.size + 1) #[.int .i64 t,.int .i64 0,.int .i64 0,.int .i64 0,.bool false,.int .u64 0,.int .u64 0,.int .u64 0,.int .u64 0]:=HB.old (by simp) (HB.new _ _ _ (by simp))
 have hb3:HB (((w.alloc (.cells #[mdS,mdR] 106)).alloc (.cells #[.int .i64 t,.int .i64 0,.int .i64 0,.int .i64 0,.bool false,.int .u64 0,.int .u64 0,.int .u64 0,.int .u64 0] 68)).alloc (.cells #[.slice none 0 0] 29)) (w.heap.size + 1 + 1) #[.slice none 0 0]:=HB.new _ _ _ (by simp)
 refine wpIn_rangeFunc_ownG rfl (by omega) (gf:=126) (lb:=#[.pointer (some ⟨Bs,0,none⟩)]) rfl trivial (enters_of Try.func126 (by kernel_rfl) rfl)
  (values_stops Fence.wide (6 - 1) trivial rfl (by omega) Bs w.heap.size len cap a f (by omega) w hBs (Nat.le_refl _) hc hI) belowK_t (belowK_b (by simp; omega)) hB0 (fun _=>rfl)
  (MI t w) (fun _ _ _=>False) (MI_own (by simp; omega)) (fun _ _ _ _ _ hs _ _=>hs)
  ⟨.slice none 0 0,hb1,hb2,hb3,World.ownsRow_nil _ _ _ _,fun g hg=>(by cases hg),hB0⟩
  (fun x=>{ tmps:=#[.agg #[mdS,mdR],meZ t,.func (.func 126) #[] #[.pointer (some ⟨Bs,0,none⟩)],.pointer (some ⟨w.heap.size,0,none⟩),.pointer (some ⟨w.heap.size + 1,0,none⟩),undef,.slice none 0 0,.pointer (some ⟨w.heap.size + 1 + 1,0,none⟩),.int .i64 x.1,undef,undef,.func (.func 126) #[] #[.pointer (some ⟨Bs,0,none⟩)],.int .i64 x.1,undef,undef,undef,undef,undef,undef,undef,undef,undef,undef,undef,undef,undef,undef,undef,undef,undef,undef],defers:=[] }) ?assign ?body ?done ?stop
 case assign =>
  intro l x W K hK
  gi_wp2
  exact hK
 case body =>
  rintro l pre x W hM hlt
  exact md_round ht w l _ len _ hlen pre x W hM hlt _ _ _ _ _ (by kernel_rfl) (by kernel_rfl)
 case stop =>
  rintro D c pre W _ _ h _
  exact h.elim
 case done =>
  rintro D ys V hDD rfl ⟨v,hD,hS,hO,hrow,hge,hB⟩ hK
  have hpl:(upto f len).length = len:=by simp [upto]
  have M:=mei_pre ht (upto f len) (by omega)
  have hml:meall t (ints (upto f len)) = (mef t (ints (upto f len))).2 ++ mel (mef t (ints (upto f len))).1:=rfl
  generalize mef t (ints (upto f len)) = A at *
  obtain ⟨s,os⟩:=A
  dsimp only at *
  have HML:=hid hml
  clear hml
  obtain ⟨av,cv,rfl⟩:=slice_row hrow
  have hrest:∀ W':World,Calls Try.prog 68 #[mev s] W' (MrB W' (mel s)):=fun W'=>gx_mrest M.g.n.1 M.g.n.2 M.g.S
  have hlen':=M.len
  have hml1:=mel_len s
  clear M hc hI hB0 hb1 hb2 hb3
  generalize mel s = es at *
  obtain ⟨st,sn,sl,sh,sS⟩:=s
  dsimp only at *
  obtain ⟨B1,B1c,B1f,B1l⟩:=Bx.of hD
  obtain ⟨B2,B2c,B2f,B2l⟩:=Bx.of hS
  obtain ⟨B3,B3c,B3f,B3l⟩:=Bx.of hO
  gi_wp2
  refine wpIn_wide.2 (Code.wp_mono noPanic_le ?_)
  
  (refine wp_region_dq (row:=none) (S:=(fun Wz=>Below V.heap.size V Wz∧V.heap.size≤Wz.heap.size∧Bx Wz (w.heap.size) (#[mdS,mdR])∧Bx Wz (w.heap.size + 1) (#[.int .i64 st,.int .i64 sn,.int .i64 sl,.int .i64 sh,.bool (sg sS),.int .u64 (lb0 (ab sS)),.int .u64 (lb1 (ab sS)),.int .u64 (lb2 (ab sS)),.int .u64 (lb3 (ab sS))])∧Bx Wz (w.heap.size + 1 + 1) (#[.slice av os.length cv]))) (n0:=V.heap.size) 5 [] [(0,0),(1,0),(2,0),(3,0),(4,1)] [] (by kernel_rfl) (by kernel_rfl) (fun _ _ d _ _ h=>by cases d <;> exact h) ⟨by (repeat' (first | (with_reducible assumption) | (with_reducible exact Below.refl _ _) | (with_reducible refine Below.alloc ?_ ?_ _) | (with_reducible refine Below.setCell ?_ ?_ _) | (with_reducible refine Below.drew ?_) | (with_reducible refine below_more ?_ (by with_reducible assumption)) | go_size | omega | (with_reducible refine below_drewN ?_))),(by first | go_size | omega),Bx.of (by (repeat' (first | (with_reducible assumption) | ((with_reducible refine HB.new _ _ _ ?_) <;> (go_size; done)) | (with_reducible refine HB.old (by go_size) ?_) | (with_reducible refine HB.drew ?_) | (with_reducible refine HB.over5 ?_) | (with_reducible refine HB.over4 ?_) | (with_reducible refine HB.setne (by first | go_size | (dsimp only; omega)) ?_) | (with_reducible refine HN.set ?_) | (with_reducible refine HN.setne (by first | go_size | (dsimp only; omega)) ?_) | (with_reducible refine HN.drew ?_) | (with_reducible refine HN.old (by go_size) ?_) | (with_reducible exact HN.of5 (by assumption)) | (with_reducible exact HN.new5 _ _ (by go_size)) | (with_reducible exact HN.of4 (by assumption)) | (with_reducible exact HN.new4 _ _ (by go_size))))),Bx.of (by (repeat' (first | (with_reducible assumption) | ((with_reducible refine HB.new _ _ _ ?_) <;> (go_size; done)) | (with_reducible refine HB.old (by go_size) ?_) | (with_reducible refine HB.drew ?_) | (with_reducible refine HB.over5 ?_) | (with_reducible refine HB.over4 ?_) | (with_reducible refine HB.setne (by first | go_size | (dsimp only; omega)) ?_) | (with_reducible refine HN.set ?_) | (with_reducible refine HN.setne (by first | go_size | (dsimp only; omega)) ?_) | (with_reducible refine HN.drew ?_) | (with_reducible refine HN.old (by go_size) ?_) | (with_reducible exact HN.of5 (by assumption)) | (with_reducible exact HN.new5 _ _ (by go_size)) | (with_reducible exact HN.of4 (by assumption)) | (with_reducible exact HN.new4 _ _ (by go_size))))),Bx.of (by (repeat' (first | (with_reducible assumption) | ((with_reducible refine HB.new _ _ _ ?_) <;> (go_size; done)) | (with_reducible refine HB.old (by go_size) ?_) | (with_reducible refine HB.drew ?_) | (with_reducible refine HB.over5 ?_) | (with_reducible refine HB.over4 ?_) | (with_reducible refine HB.setne (by first | go_size | (dsimp only; omega)) ?_) | (with_reducible refine HN.set ?_) | (with_reducible refine HN.setne (by first | go_size | (dsimp only; omega)) ?_) | (with_reducible refine HN.drew ?_) | (with_reducible refine HN.old (by go_size) ?_) | (with_reducible exact HN.of5 (by assumption)) | (with_reducible exact HN.new5 _ _ (by go_size)) | (with_reducible exact HN.of4 (by assumption)) | (with_reducible exact HN.new4 _ _ (by go_size)))))⟩ (fun _ _ h g=>keep3 h (below_gt g) rfl) (fun _ h=>h.2.1) (fun _ h=>by cases h) (by simp) ?_)
  refine' dq_pure (by rfl) (by rfl) ?hv1 ?rest1
  case hv1=>(intro w hw; (try dsimp only at hw); go_split_ands; go_simp; try with_reducible rfl)
  case' rest1=>try simp only [Act.put,List.setIfInBounds_toArray,List.set_cons_zero,List.set_cons_succ]
  refine' dq_pure (by rfl) (by rfl) ?hv2 ?rest2
  case hv2=>(intro w hw; (try dsimp only at hw); go_split_ands; go_simp; try with_reducible rfl)
  case' rest2=>try simp only [Act.put,List.setIfInBounds_toArray,List.set_cons_zero,List.set_cons_succ]
  refine' dq_pure (by rfl) (by rfl) ?hv3 ?rest3
  case hv3=>(intro w hw; (try dsimp only at hw); go_split_ands; go_simp; try with_reducible rfl)
  case' rest3=>try simp only [Act.put,List.setIfInBounds_toArray,List.set_cons_zero,List.set_cons_succ]
  refine' dq_pure (by rfl) (by rfl) ?hv4 ?rest4
  case hv4=>(intro w hw; (try dsimp only at hw); go_split_ands; go_simp; try with_reducible rfl)
  case' rest4=>try simp only [Act.put,List.setIfInBounds_toArray,List.set_cons_zero,List.set_cons_succ]
  refine' dq_ask (R:=(fun vv Wz=>Wz.ownsRow V.heap.size 34 2 vv es.length (scells es))) (by rfl) (by rfl) ?hv5 ?hc5 ?rest5 (fun _ _ h g=>keep3 h (below_gt g) rfl)
  case hv5=>(intro w; go_simp; exact ⟨rfl,rfl⟩)
  case hc5=>exact (fun wq hsq htq=>(hrest wq).mono fun e w' ⟨vv,he,hr,hb⟩=>⟨vv,he,own_base hr hsq.2.1,gt_below hb _⟩)
  case' rest5=>try simp only [Act.put,List.setIfInBounds_toArray,List.set_cons_zero,List.set_cons_succ]
  intro vr wr hsr hgr hE
  refine dq_nil ?_
  simp only [fa,List.drop_succ_cons,List.drop_zero]
  rintro W ⟨⟨hb0,hn0,⟨B1,B1c,B1f,B1l⟩,⟨B2,B2c,B2f,B2l⟩,⟨B3,B3c,B3f,B3l⟩⟩,hgl⟩ hbs
  clear hbs
  have hE2:=hE.kept hgl (Classical.em _)
  have hrowW:=hrow.kept (gt_below hb0 none) (Classical.em _)
  have hVs:=hB.size
  have hKO:KeepsOthers V W:=KeepsOthers.of_grownBy (gt_below hb0 none) (fun j o ej=>by cases ej)
  have hKW:=hKO.same D _ hK rfl
  obtain ⟨a',cap',w2,hrun,hown',hgrow,-⟩:=append_row (P:=Try.prog) w.heap.size elt_const hrowW (own_base hE2 hVs) (scells_1 es) (by unfold maxLen; omega) (by omega) (by have:=hb0.size; omega)
  have hKW2:=(row_keeps hrowW hgrow).same D _ hKW rfl
  have hb2:Below w.heap.size w w2:=(hB.trans (hb0.mono hB.size)).trans ((Below.refl w.heap.size W).grown hgrow (by have:=hb0.size; omega) fun j ej=>(hrowW.lt j ej).1)
  refine wpList_append_run rfl _ _ 29 rfl _ _ _ rfl rfl hrun ?_
  (repeat' (first | go_values | go_skip | go_guarded | go_step | go_upon | (simp only [Int.not_lt,Int.not_le] at *; go_simp) | (go_values <;> (try go_simp)) | (go_ite <;> go_prune <;> (try go_simp)) | (split <;> (first | (rename_i hx; exact (hx _ rfl).elim) | go_prune))))
  simp only [noPanic]
  gi_wp2
  refine ⟨by simp,.inl ⟨_,_,rfl,run_takeDeferred hKW2,?_⟩⟩
  refine ⟨_,results_tmp rfl _ _ _,.slice a' (os.length + es.length) cap',rfl,?_,hb2.trans (belowK_b (w:=w) (Nat.le_refl _) w2 D _ _ (by simp at hDD; omega) hKW2 rfl rfl)⟩
  rw [HML.out,List.length_append,scells_ap]
  exact ownsRow_putObj hown' _ hKW2 rfl
end Go.Proofs.Ytncmmbacoknefaa

/- CdM1: MADE BY PROGRAM (sxgen.py): the small code of some functions, points of it and their equations. -/
namespace Go.Proofs.Ytncmmbacoknefaa
open Go Go.RowKit Sx Sx.Q
set_option linter.unusedVariables false
variable (C:Cx) (R L1 L2 L3 L4:St→Prop)
namespace w16_known
abbrev r0:List G:=[Mb 0 false]
abbrev q0:=[1,2]
abbrev r1:List G:=[e 6 (.gen false (.bsl 22 4 [0,1,2,3]) [(i 0),(i 0),(i 0),(i 4)]),e 7 (.call false 19 [(t 6),(i 2)]),m 5 7,x 8 5 0,x 9 5 1,m 1 8,m 2 9]
abbrev q1:=[1,2,3,4]
abbrev r2:List G:=[e 11 (.gen false (.bsl 22 2 [0,1]) [(i 0),(i 3)]),e 12 (.call false 19 [(t 11),(i 2)]),m 10 12,x 13 10 0,x 14 10 1,m 3 13,m 4 14]
abbrev r3:List G:=[m 15 2,bi 16 .eql 15 0,m 17 16,ym 18 17 4,y 19 17 (.bin .eql (t 18) (i 0)),w 20 17 19,m 21 20,ym 22 21 1,y 23 21 (.len false (t 22)),y 24 21 (.bin .eql (t 23) (i 2)),w 25 21 24,m 26 25,ym 27 26 1,y 28 26 (.is 2 (t 27) (i 0)),y 29 26 (.ld true 2 (t 28)),y 30 26 (.bd [.int .i64 0,.int .i64 0] [(0,1,(i 3))]),y 31 26 (.eqg false 34 (t 29) (t 30)),w 32 26 31,m 33 32,ym 34 33 3,y 35 33 (.len false (t 34)),y 36 33 (.bin .eql (t 35) (i 1)),w 37 33 36,m 38 37,ym 39 38 3,y 40 38 (.is 2 (t 39) (i 0)),y 41 38 (.ld true 2 (t 40)),y 42 38 (.bd [.int .i64 0,.int .i64 0] [(0,1,(i 2)),(1,1,(i 1))]),y 43 38 (.eqg false 34 (t 41) (t 42)),w 44 38 43,m 0 44]
abbrev c:MC:=sq [g r0 [],g r1 q0,g r2 q1,g r3 [0],.ret]
theorem ok:compF Try.prog Try.f24 (an (rg 4) c []) = some (45,c,[(0,none)]):=by kernel_rfl
abbrev p1:=P C r3 [0] R
abbrev p2:=P C r2 q1 (p1 C R)
abbrev p3:=P C r1 q0 (p2 C R)
abbrev p4:=P C r0 [] (p3 C R)
theorem s (S:St):X C c (retK R) S = p4 C R S:=by kernel_rfl
theorem E:type_of% @s:=@s
end w16_known
namespace w16_state
abbrev q0:=[0,2]
abbrev z0:List Value:=[.int .i64 0,.int .i64 0,.int .i64 0,.int .i64 0,.bool false,.int .u64 0,.int .u64 0,.int .u64 0,.int .u64 0]
abbrev r0:List G:=[e 2 (.new z0),Mi 3 0]
abbrev q1:=[0,2,4]
abbrev r1:List G:=[m 9 0,K1 10 17 9,K1 11 45 10,m 8 11,x 12 8 0,x 13 8 1,e 4 (.new z0),V 9 4 12,m 5 13]
abbrev q2:=[0,2,4,6]
abbrev r2:List G:=[m 14 0,e 15 (.call false 18 [(t 14),(i 12)]),m 6 15]
abbrev q3:=[0,2,4,6,7]
abbrev r3:List G:=[Mi 7 0]
abbrev q4:=[0,2,4,6,7,20]
abbrev r4:List G:=[m 16 7,bi 17 .add 16 1,m 18 6,e 19 (.len false (t 18)),b 20 .lss 17 19]
abbrev r6:List G:=[L 24 9 4,m 25 6,m 26 7,j 27 1 25 26,l 28 27,K2 29 79 24 28,m 23 29,x 30 23 0,x 31 23 1,x 32 23 2]
abbrev t6:List G:=[V 9 4 30]
abbrev r5:List G:=[m 21 7,bi 22 .add 21 1,m 7 22]
abbrev q5:=[0,2,4,6,35]
abbrev r7:List G:=[m 33 6,e 34 (.len false (t 33)),bi 35 .eql 34 0]
abbrev q6:=[2,3]
abbrev r8:List G:=[L 36 9 4,m 37 0,K1 38 32 37]
abbrev t8:List G:=[V 9 2 36,m 3 38]
abbrev r9:List G:=[L 39 9 4,m 40 6,m 41 6,e 42 (.len false (t 41)),bi 43 .sub 42 1]
abbrev t9:GT:=br 44 (.is 1 (t 40) (t 43)) (br 45 (.ld false 1 (t 44)) (.br none none (.st true 9 (t 2) (t 39)) (br 3 (.mv (t 45)) .fin .no) .no) (.br none none (.st true 9 (t 2) (t 39)) (br 45 (.ld false 1 (t 44)) (br 3 (.mv (t 45)) .fin .no) .no) .no)) (.br none none (.st true 9 (t 2) (t 39)) (br 44 (.is 1 (t 40) (t 43)) (br 45 (.ld false 1 (t 44)) (br 3 (.mv (t 45)) .fin .no) .no) .no) .no)
abbrev c:MC:=sq [g r0 q0,g r1 q1,g r2 q2,sq [g r3 q3,.block 0 (.loop (sq [sq [g r4 q4,ci 20 .skip (.exit 0)],.block 1 (gk true false r6 t6 q3),g r5 q3]))],sq [g r7 q5,ci 35 (sq [gk false false r8 t8 q6,.ret]) .skip],gh r9 t9 [4,6] q6,.ret]
theorem ok:compF Try.prog Try.f43 (an [0,1,2,3,4,6,5,7,8,9] c [(6,200010,[8,9],(up 5 ++ [(5,1),(6,0),(7,0),(8,2),(9,2)]),[]),(8,300003,[],[(0,0),(1,0),(2,1)],[]),(9,99998,[0,1,2,3,4],[],[4,6])]) = some (46,c,[(2,some (true,9)),(3,none)]):=by kernel_rfl
abbrev p1:=Ph C r9 t9 [4,6] q6 R
abbrev p3:=Pc C false false r8 t8 q6 R
abbrev p2:=cd (t 35) (p3 C R) (p1 C R)
abbrev p4:=P C r7 q5 (p2 C R)
abbrev p6:=P C r5 q3 L1
abbrev p7:=Pc C true false r6 t6 q3 (p6 C L1)
abbrev p8:=cd (t 20) (p7 C L1) (p4 C R)
abbrev p9:=P C r4 q4 (p8 C R L1)
def p5 (S:St):Prop:=LX C (fun L1=>(p9 C R L1)) S
theorem p5_l (S:St):p5 C R S = LX C (fun L1=>(p9 C R L1)) S:=rfl
abbrev p10:=P C r3 q3 (p5 C R)
abbrev p11:=P C r2 q2 (p10 C R)
abbrev p12:=P C r1 q1 (p11 C R)
abbrev p13:=P C r0 q0 (p12 C R)
theorem s (S:St):X C c (retK R) S = p13 C R S:=by kernel_rfl
theorem E:type_of% @s:=@s
end w16_state
namespace w16_alike
abbrev q0:=[1,2]
abbrev r0:List G:=[e 2 (.box true 9 (t 0)),Mb 4 false]
abbrev q1:=[1,2,5,6,7]
abbrev z0:List Value:=[.int .i64 0,.int .i64 0,.int .i64 0,.int .i64 0,.bool false,.int .u64 0,.int .u64 0,.int .u64 0,.int .u64 0]
abbrev r1:List G:=[L 16 9 2,m 17 1,K2 18 96 16 17,m 15 18,x 19 15 0,x 20 15 1,x 21 15 2,e 5 (.new z0),V 9 5 19,m 6 20,m 7 21]
abbrev q2:=[2,5,6,7,8,9,10]
abbrev r2:List G:=[L 23 9 2,m 24 1,K2 25 79 23 24,m 22 25,x 26 22 0,x 27 22 1,x 28 22 2,e 8 (.new z0),V 9 8 26,m 9 27,m 10 28]
abbrev q3:=[2,5,6,7,8,9,10,11,12]
abbrev r3:List G:=[L 30 9 2,K1 31 97 30,m 29 31,x 32 29 0,x 33 29 1,m 11 32,m 12 33]
abbrev q4:=[2,5,6,7,8,9,10,11,12,13,14]
abbrev r4:List G:=[L 35 9 2,K1 36 80 35,m 34 36,x 37 34 0,x 38 34 1,m 13 37,m 14 38]
abbrev r5:List G:=[L 39 9 2,k1 40 98 39,L 41 9 2,k1 42 99 41,e 43 (.bq false (t 40) (t 42)),m 44 43,ym 45 44 7,ym 46 44 10,y 47 44 (.bin .eql (t 45) (t 46)),w 48 44 47,m 49 48,y 50 49 (.ld true 9 (t 5)),y 51 49 (.ld true 9 (t 8)),y 52 49 (.eqg false 68 (t 50) (t 51)),w 53 49 52,m 54 53,ym 55 54 6,ym 56 54 9,y 57 54 (.call true 27 [(t 55),(t 56)]),w 58 54 57,m 59 58,ym 60 59 12,ym 61 59 14,y 62 59 (.bin .eql (t 60) (t 61)),w 63 59 62,m 64 63,ym 65 64 11,ym 66 64 13,y 67 64 (.call true 27 [(t 65),(t 66)]),w 68 64 67]
abbrev t5:List G:=[m 4 68]
abbrev c:MC:=sq [g r0 q0,g r1 q1,g r2 q2,g r3 q3,g r4 q4,gd r5 t5 [4],.ret]
theorem ok:compF Try.prog Try.f46 (an (rg 6) c [(5,30,[],(up 30),[])]) = some (69,c,[(4,none)]):=by kernel_rfl
abbrev p1:=Pd C r5 t5 [4] R
abbrev p2:=P C r4 q4 (p1 C R)
abbrev p3:=P C r3 q3 (p2 C R)
abbrev p4:=P C r2 q2 (p3 C R)
abbrev p5:=P C r1 q1 (p4 C R)
abbrev p6:=P C r0 q0 (p5 C R)
theorem s (S:St):X C c (retK R) S = p6 C R S:=by kernel_rfl
theorem E:type_of% @s:=@s
end w16_alike
end Go.Proofs.Ytncmmbacoknefaa

/- Mh: mean: equality of lists of constants; raw states; what law 16 compares. -/
namespace Go.Proofs.Ytncmmbacoknefaa
open Go Go.RowKit Sx
set_option linter.unusedVariables false
set_option linter.unusedSimpArgs false
theorem guardT_const:Try.prog.eqGuardType Try.prog.depth 34 = false:=by kernel_rfl
theorem eqconst_run {ng:Bool} {xo yo:Operand} (a b:Int) (W:World) :
  ((do eqGuard (if ng then .neq else .eql) 34 xo yo (.agg #[.int .i64 a,.int .i64 b]) (.agg #[.int .i64 a,.int .i64 b]); binOp (if ng then .neq else .eql) 34 (.agg #[.int .i64 a,.int .i64 b]) (.agg #[.int .i64 a,.int .i64 b])):Sem Value).run Try.prog W = .ok (.bool (!ng)) W :=
 (eqb_run (ng:=ng) (xo:=xo) (yo:=yo) (b:=true) guardT_const (by simp [go_sem])).trans (by cases ng <;> rfl)
theorem ldP_oC {C:Sx.Cx} {S:Sx.St} {K:Sx.St→Prop} {d:Option Nat} {e:TypeId} {base g n cap o:Nat} {ls:Smps} (i:Nat) (h:C.w0.ownsRow base e 2 (.slice (some ⟨g,0,none⟩) n cap) n (scells ls)) (ho:o = 2 * i) (hi:i < ls.length)
  (hk:K (S.put d (.v (Sx.mk true [.int .i64 (ls.getD i (0,0)).1,.int .i64 (ls.getD i (0,0)).2])))):Sx.ldP C true 2 ⟨g,o,none⟩ d K S:=by
 subst ho
 refine ldP_own (b:=true) (l:=[.int .i64 (ls.getD i (0,0)).1,.int .i64 (ls.getD i (0,0)).2]) h rfl (fun j v hj=>?_) hk
 have hs:=scells_at ls i hi
 match j,hj with
 | 0,hj=>exact hs.1.trans hj
 | 1,hj=>exact hs.2.trans hj
set_option maxRecDepth 100000 in
theorem rx_same15 {w:World} {v v':Value} {ls:Smps} {B B':Nat} (h:w.ownsRow B 34 2 v ls.length (scells ls)) (h':w.ownsRow B' 34 2 v' ls.length (scells ls)):Calls Try.prog 27 #[v,v'] w fun e w'=>e = .returned (.bool true)∧Below w.heap.size w w':=by
 obtain ⟨a,cap,rfl,c1,c2,c3⟩:=row_form h
 obtain ⟨a',cap',rfl,d1,d2,d3⟩:=row_form h'
 simp only [maxLen] at c2
 refine known_of (enter Try.func27 r15_Same.ok (args:=[_,_]) (by simp) ?_)
 repeat' (first | simp (disch:=omega) only [sxE,r15_Same.E,Nat.reduceAdd,Nat.reduceEqDiff,Nat.reduceMul,Nat.reduceSub,Int.reduceAdd,Int.reduceSub,Int.reduceMul,Int.reduceNeg,Int.reduceLT,Int.reduceLE,Int.reduceEq,Int.reduceToNat,↓reduceIte,Int.reducePow,Nat.reduceLeDiff,Nat.reduceLT,ne_eq,eq_self,List.length_cons,List.length_nil,qxE,beq_self_eq_true,Bool.not_true] | (with_reducible refine cregF ?_))
 rw [r15_Same.p2_l]
 refine LX_inv (fun i:Nat=>⟨0,[(0,.v (.slice a ls.length cap)),(1,.v (.slice a' ls.length cap')),(5,.v (.int .i64 (i:Int)))],[],ext0⟩) (fun i=>i≤ls.length) (fun i=>ls.length - i) ?round 0 (Nat.zero_le _) ?start
 case start =>
  have c0:((0:Nat):Int) = 0:=rfl
  simp (disch:=omega) only [sxE,r15_Same.E,Nat.reduceAdd,Nat.reduceEqDiff,Nat.reduceMul,Nat.reduceSub,Int.reduceAdd,Int.reduceSub,Int.reduceMul,Int.reduceNeg,Int.reduceLT,Int.reduceLE,Int.reduceEq,Int.reduceToNat,↓reduceIte,Int.reducePow,Nat.reduceLeDiff,Nat.reduceLT,ne_eq,eq_self,List.length_cons,List.length_nil,c0]
 case round =>
  intro i hi
  by_cases hlt:i < ls.length
  ·obtain ⟨g,rfl⟩:=c3 (by omega)
   obtain ⟨g',rfl⟩:=d3 (by omega)
   have e0:(i:Int) + 1 = ((i + 1:Nat):Int):=by omega
   repeat' (first | simp (disch:=omega) only [sxE,r15_Same.E,Nat.reduceAdd,Nat.reduceEqDiff,Nat.reduceMul,Nat.reduceSub,Int.reduceAdd,Int.reduceSub,Int.reduceMul,Int.reduceNeg,Int.reduceLT,Int.reduceLE,Int.reduceEq,Int.reduceToNat,↓reduceIte,Int.reducePow,Nat.reduceLeDiff,Nat.reduceLT,ne_eq,eq_self,List.length_cons,List.length_nil,qxE,Bool.not_true] | (with_reducible refine ldP_self true 2 g ?_; refine ldP_oC i h ?_ hlt ?_; omega) | (with_reducible refine ldP_self true 2 g' ?_; refine ldP_oC i h' ?_ hlt ?_; omega) | (with_reducible refine eq_is (fun W=>by exact eqconst_run _ _ W) ?_) | (with_reducible refine cregF ?_))
   rw [e0]
   exact ⟨i + 1,by omega,by omega,rfl⟩
  ·obtain rfl:i = ls.length:=by omega
   repeat' (first | simp (disch:=omega) only [sxE,r15_Same.E,Nat.reduceAdd,Nat.reduceEqDiff,Nat.reduceMul,Nat.reduceSub,Int.reduceAdd,Int.reduceSub,Int.reduceMul,Int.reduceNeg,Int.reduceLT,Int.reduceLE,Int.reduceEq,Int.reduceToNat,↓reduceIte,Int.reducePow,Nat.reduceLeDiff,Nat.reduceLT,ne_eq,eq_self,List.length_cons,List.length_nil,qxE] | (with_reducible refine cregF ?_))
structure MVal (v:Value) (b:Bool):Prop where
 v1:∀ W,Gives Try.prog 98 [v] W (· = .bool b)
 v2:∀ W,Gives Try.prog 99 [v] W (· = .bool b)
 cells:∃ (t N L H:Int) (o:Bool) (a b c d:Int),v = .agg #[.int .i64 t,.int .i64 N,.int .i64 L,.int .i64 H,.bool o,.int .u64 a,.int .u64 b,.int .u64 c,.int .u64 d]
 is:b = true→∃ s,MeG s∧v = mev s
theorem mval_s {s:MeS} (it:I64 s.t) (hl:I64 s.lo) (hh:I64 s.hi) (hS:Fits s.S):MVal (mev s) (vdm s) :=
 ⟨fun W=>gx_mvalid hl hh hS W,fun W=>rx_mvalid it hl hh hS W,⟨_,_,_,_,_,_,_,_,_,rfl⟩,fun h=>⟨s,⟨h,hl,hh,hS⟩,rfl⟩⟩
theorem mval_ok {s:MeS} (h:MeG s):MVal (mev s) true:=by
 have:=mval_s h.it h.lo h.hi h.S
 rw [h.vd] at this
 exact this
set_option maxRecDepth 100000 in
theorem mval_nz {t N L H:Int} (it:I64 t):MVal (.agg #[.int .i64 t,.int .i64 N,.int .i64 L,.int .i64 H,.bool true,.int .u64 0,.int .u64 0,.int .u64 0,.int .u64 0]) false:=by
 have q1:=fun W=>gx_mtol t W
 have q2:=fun W=>rx_tol it W
 rw [show decide (0≤t∧t≤4611686018427387904) = tolz t by unfold tolz; rw [Bool.decide_and]] at q2
 have z1:=fun W=>gx_valid0 W
 have z2:=fun W=>rx_valid0 W
 generalize tolz t = b at *
 refine ⟨fun W=>gives_known en_mean_Valid ?_,fun W=>gives_known en_r16_Valid ?_,⟨_,_,_,_,_,_,_,_,_,rfl⟩,fun h=>by cases h⟩
 ·refine known_of (enter Try.func98 mean_Valid.ok (args:=[_]) (by simp) ?_)
  cases b <;> repeat' (first | simp (disch:=omega) only [sxE,mean_Valid.E,Nat.reduceAdd,Nat.reduceEqDiff,Nat.reduceMul,Nat.reduceSub,Int.reduceAdd,Int.reduceSub,Int.reduceMul,Int.reduceNeg,Int.reduceLT,Int.reduceLE,Int.reduceEq,Int.reduceToNat,↓reduceIte,Int.reducePow,Nat.reduceLeDiff,Nat.reduceLT,ne_eq,eq_self,List.length_cons,List.length_nil,qxE,Bool.not_true,Bool.not_false] | (with_reducible refine Sx.call_at (f:=94) (fun W hW=>q1 W) ?_) | (with_reducible refine Sx.call_at (f:=107) (fun W hW=>z1 W) ?_) | (with_reducible refine cregF ?_))
 ·refine known_of (enter Try.func99 r16_Valid.ok (args:=[_]) (by simp) ?_)
  cases b <;> repeat' (first | simp (disch:=omega) only [sxE,r16_Valid.E,Nat.reduceAdd,Nat.reduceEqDiff,Nat.reduceMul,Nat.reduceSub,Int.reduceAdd,Int.reduceSub,Int.reduceMul,Int.reduceNeg,Int.reduceLT,Int.reduceLE,Int.reduceEq,Int.reduceToNat,↓reduceIte,Int.reducePow,Nat.reduceLeDiff,Nat.reduceLT,ne_eq,eq_self,List.length_cons,List.length_nil,qxE,Bool.not_true,Bool.not_false] | (with_reducible refine Sx.call_at (f:=95) (fun W hW=>q2 W) ?_) | (with_reducible refine Sx.call_at (f:=88) (fun W hW=>z2 W) ?_) | (with_reducible refine cregF ?_))
theorem mstz_form (s:MeS) (v:Int):∃ (t N L H:Int) (o:Bool) (a b c d:Int),(mstz s v).1 = .agg #[.int .i64 t,.int .i64 N,.int .i64 L,.int .i64 H,.bool o,.int .u64 a,.int .u64 b,.int .u64 c,.int .u64 d]:=by
 unfold mstz
 split
 ·exact ⟨_,_,_,_,_,_,_,_,_,rfl⟩
 ·exact ⟨_,_,_,_,_,_,_,_,_,rfl⟩
theorem eqmst_run {ng:Bool} {xo yo:Operand} (t N L H:Int) (o:Bool) (a b c d:Int) (W:World) :
  ((do eqGuard (if ng then .neq else .eql) 68 xo yo (.agg #[.int .i64 t,.int .i64 N,.int .i64 L,.int .i64 H,.bool o,.int .u64 a,.int .u64 b,.int .u64 c,.int .u64 d]) (.agg #[.int .i64 t,.int .i64 N,.int .i64 L,.int .i64 H,.bool o,.int .u64 a,.int .u64 b,.int .u64 c,.int .u64 d]); binOp (if ng then .neq else .eql) 68 (.agg #[.int .i64 t,.int .i64 N,.int .i64 L,.int .i64 H,.bool o,.int .u64 a,.int .u64 b,.int .u64 c,.int .u64 d]) (.agg #[.int .i64 t,.int .i64 N,.int .i64 L,.int .i64 H,.bool o,.int .u64 a,.int .u64 b,.int .u64 c,.int .u64 d])):Sem Value).run Try.prog W = .ok (.bool (!ng)) W :=
 (eqb_run (ng:=ng) (xo:=xo) (yo:=yo) (b:=true) guardT_mstate ((eq_mst _ _ _ _ _ _ _ _ _ _ _ _ _ _ _ _ _ W).trans (by rw [weq_self]; simp))).trans (by cases ng <;> rfl)
set_option maxRecDepth 100000 in
set_option maxHeartbeats 2000000 in
theorem g_alike16 {v:Value} {r:Bool} (hv:MVal v r) {xv:Int} (hxv:I64 xv) (w:World):Calls Try.prog 46 #[v,.int .i64 xv] w fun e w'=>e = .returned (.bool true)∧Below w.heap.size w w':=by
 have v1:=hv.v1
 have v2:=hv.v2
 cases r
 ·obtain ⟨t,N,L,H,o,a,b,c,d,rfl⟩:=hv.cells
  clear hv
  have st1:∀ W,Gives Try.prog 96 [.agg #[.int .i64 t,.int .i64 N,.int .i64 L,.int .i64 H,.bool o,.int .u64 a,.int .u64 b,.int .u64 c,.int .u64 d],.int .i64 xv] W (· = .tuple #[meZ 0,.slice none 0 0,.int .i64 1]):=fun W=>by
   refine gives_known en_mean_Step ?_
   refine known_of (enter Try.func96 mean_Step.ok (args:=[_,_]) (by simp) ?_)
   repeat' (first | simp (disch:=omega) only [sxE,mean_Step.E,Nat.reduceAdd,Nat.reduceEqDiff,Nat.reduceMul,Nat.reduceSub,Int.reduceAdd,Int.reduceSub,Int.reduceMul,Int.reduceNeg,Int.reduceLT,Int.reduceLE,Int.reduceEq,Int.reduceToNat,↓reduceIte,Int.reducePow,Nat.reduceLeDiff,Nat.reduceLT,ne_eq,eq_self,List.length_cons,List.length_nil,qxE,Bool.not_false] | (with_reducible refine Sx.call_at (f:=98) (fun W hW=>v1 W) ?_) | (with_reducible refine cregF ?_))
  have st2:∀ W,Gives Try.prog 79 [.agg #[.int .i64 t,.int .i64 N,.int .i64 L,.int .i64 H,.bool o,.int .u64 a,.int .u64 b,.int .u64 c,.int .u64 d],.int .i64 xv] W (· = .tuple #[meZ 0,.slice none 0 0,.int .i64 1]):=fun W=>by
   refine gives_known en_r16_Step ?_
   refine known_of (enter Try.func79 r16_Step.ok (args:=[_,_]) (by simp) ?_)
   repeat' (first | simp (disch:=omega) only [sxE,r16_Step.E,Nat.reduceAdd,Nat.reduceEqDiff,Nat.reduceMul,Nat.reduceSub,Int.reduceAdd,Int.reduceSub,Int.reduceMul,Int.reduceNeg,Int.reduceLT,Int.reduceLE,Int.reduceEq,Int.reduceToNat,↓reduceIte,Int.reducePow,Nat.reduceLeDiff,Nat.reduceLT,ne_eq,eq_self,List.length_cons,List.length_nil,qxE,Bool.not_false] | (with_reducible refine Sx.call_at (f:=99) (fun W hW=>v2 W) ?_) | (with_reducible refine cregF ?_))
  have fn1:∀ W,Gives Try.prog 97 [.agg #[.int .i64 t,.int .i64 N,.int .i64 L,.int .i64 H,.bool o,.int .u64 a,.int .u64 b,.int .u64 c,.int .u64 d]] W (· = .tuple #[.slice none 0 0,.int .i64 1]):=fun W=>by
   refine gives_known en_mean_Finish ?_
   refine known_of (enter Try.func97 mean_Finish.ok (args:=[_]) (by simp) ?_)
   repeat' (first | simp (disch:=omega) only [sxE,mean_Finish.E,Nat.reduceAdd,Nat.reduceEqDiff,Nat.reduceMul,Nat.reduceSub,Int.reduceAdd,Int.reduceSub,Int.reduceMul,Int.reduceNeg,Int.reduceLT,Int.reduceLE,Int.reduceEq,Int.reduceToNat,↓reduceIte,Int.reducePow,Nat.reduceLeDiff,Nat.reduceLT,ne_eq,eq_self,List.length_cons,List.length_nil,qxE,Bool.not_false] | (with_reducible refine Sx.call_at (f:=98) (fun W hW=>v1 W) ?_) | (with_reducible refine cregF ?_))
  have fn2:∀ W,Gives Try.prog 80 [.agg #[.int .i64 t,.int .i64 N,.int .i64 L,.int .i64 H,.bool o,.int .u64 a,.int .u64 b,.int .u64 c,.int .u64 d]] W (· = .tuple #[.slice none 0 0,.int .i64 1]):=fun W=>by
   refine gives_known en_r16_Finish ?_
   refine known_of (enter Try.func80 r16_Finish.ok (args:=[_]) (by simp) ?_)
   repeat' (first | simp (disch:=omega) only [sxE,r16_Finish.E,Nat.reduceAdd,Nat.reduceEqDiff,Nat.reduceMul,Nat.reduceSub,Int.reduceAdd,Int.reduceSub,Int.reduceMul,Int.reduceNeg,Int.reduceLT,Int.reduceLE,Int.reduceEq,Int.reduceToNat,↓reduceIte,Int.reducePow,Nat.reduceLeDiff,Nat.reduceLT,ne_eq,eq_self,List.length_cons,List.length_nil,qxE,Bool.not_false] | (with_reducible refine Sx.call_at (f:=99) (fun W hW=>v2 W) ?_) | (with_reducible refine cregF ?_))
  have sm:∀ W,Gives Try.prog 27 [.slice none 0 0,.slice none 0 0] W (· = .bool true):=fun W=>gives_known en_r15_Same (rx_same15 (ls:=[]) (B:=0) (B':=0) (World.ownsRow_nil _ _ _ _) (World.ownsRow_nil _ _ _ _))
  refine known_of (enter Try.func46 w16_alike.ok (args:=[_,_]) (by simp) ?_)
  repeat' (first | simp (disch:=omega) only [sxE,w16_alike.E,Nat.reduceAdd,Nat.reduceEqDiff,Nat.reduceMul,Nat.reduceSub,Int.reduceAdd,Int.reduceSub,Int.reduceMul,Int.reduceNeg,Int.reduceLT,Int.reduceLE,Int.reduceEq,Int.reduceToNat,↓reduceIte,Int.reducePow,Nat.reduceLeDiff,Nat.reduceLT,ne_eq,eq_self,List.length_cons,List.length_nil,qxE,beq_self_eq_true,Bool.not_false] | (with_reducible refine Sx.call_at (f:=96) (fun W hW=>st1 W) ?_) | (with_reducible refine Sx.call_at (f:=79) (fun W hW=>st2 W) ?_) | (with_reducible refine Sx.call_at (f:=97) (fun W hW=>fn1 W) ?_) | (with_reducible refine Sx.call_at (f:=80) (fun W hW=>fn2 W) ?_) | (with_reducible refine Sx.call_at (f:=98) (fun W hW=>v1 W) ?_) | (with_reducible refine Sx.call_at (f:=99) (fun W hW=>v2 W) ?_) | (with_reducible refine Sx.call_at (f:=27) (fun W hW=>sm W) ?_) | (with_reducible refine eq_is (fun W=>by exact eqmst_run _ _ _ _ _ _ _ _ _ W) ?_) | (with_reducible refine cregF ?_))
 ·obtain ⟨s,hs,rfl⟩:=hv.is rfl
  clear hv
  obtain ⟨Z,hZ⟩:∃ Z,mstz s xv = Z:=⟨_,rfl⟩
  obtain ⟨t,N,L,H,o,a,b,c,d,hF⟩:=mstz_form s xv
  have S1:=fun W=>gx_mstep (w:=W) hs hxv
  have S2:=fun W=>rx_mstep (w:=W) hs hxv
  have F1:=fun W=>gx_mfin (w:=W) hs
  have F2:=fun W=>rx_mfin (w:=W) hs
  rw [hZ] at S1 S2 hF
  obtain ⟨Z1,ls,er⟩:=Z
  dsimp only at hF
  subst hF
  generalize mel s = es at *
  clear hZ hs hxv
  obtain ⟨st,sn,sl,sh,sS⟩:=s
  try dsimp only at *
  
  
  
  refine known_of (enter Try.func46 w16_alike.ok (args:=[_,_]) (by simp) ?_)
  repeat' (first | simp (disch:=omega) only [sxE,w16_alike.E,Nat.reduceAdd,Nat.reduceEqDiff,Nat.reduceMul,Nat.reduceSub,Int.reduceAdd,Int.reduceSub,Int.reduceMul,Int.reduceNeg,Int.reduceLT,Int.reduceLE,Int.reduceEq,Int.reduceToNat,↓reduceIte,Int.reducePow,Nat.reduceLeDiff,Nat.reduceLT,ne_eq,eq_self,List.length_cons,List.length_nil,qxE] | (with_reducible refine cregF ?_))
  refine asks_rowB (L:=[]) (e:=34) (s:=2) (ι:=Unit) (fun _=>True) (fun _=>ls.length) (fun _=>scells ls) (fun _ v=>.tuple #[.agg #[.int .i64 t,.int .i64 N,.int .i64 L,.int .i64 H,.bool o,.int .u64 a,.int .u64 b,.int .u64 c,.int .u64 d],v,.int .i64 er]) en_mean_Step (kX_nil _) (fun W hW hok=>?_) ?_
  ·refine (S1 W).mono ?_
   exact fun e w' ⟨v,h1,h2,h3⟩=>⟨(),v,trivial,h1,h2,h3⟩
  rintro - y1 k1 - - - - -
  repeat' (first | simp (disch:=omega) only [sxE,w16_alike.E,Nat.reduceAdd,Nat.reduceEqDiff,Nat.reduceMul,Nat.reduceSub,Int.reduceAdd,Int.reduceSub,Int.reduceMul,Int.reduceNeg,Int.reduceLT,Int.reduceLE,Int.reduceEq,Int.reduceToNat,↓reduceIte,Int.reducePow,Nat.reduceLeDiff,Nat.reduceLT,ne_eq,eq_self,List.length_cons,List.length_nil,qxE] | (with_reducible refine cregF ?_))
  refine asks_rowB (e:=34) (s:=2) (ι:=Unit) (fun _=>True) (fun _=>ls.length) (fun _=>scells ls) (fun _ v=>.tuple #[.agg #[.int .i64 t,.int .i64 N,.int .i64 L,.int .i64 H,.bool o,.int .u64 a,.int .u64 b,.int .u64 c,.int .u64 d],v,.int .i64 er]) en_r16_Step rfl (fun W hW hok=>?_) ?_
  ·refine (S2 W).mono ?_
   exact fun e w' ⟨v,h1,h2,h3⟩=>⟨(),v,trivial,h1,h2,h3⟩
  rintro - y2 k2 - - - - -
  repeat' (first | simp (disch:=omega) only [sxE,w16_alike.E,Nat.reduceAdd,Nat.reduceEqDiff,Nat.reduceMul,Nat.reduceSub,Int.reduceAdd,Int.reduceSub,Int.reduceMul,Int.reduceNeg,Int.reduceLT,Int.reduceLE,Int.reduceEq,Int.reduceToNat,↓reduceIte,Int.reducePow,Nat.reduceLeDiff,Nat.reduceLT,ne_eq,eq_self,List.length_cons,List.length_nil,qxE] | (with_reducible refine cregF ?_))
  refine asks_rowB (e:=34) (s:=2) (ι:=Unit) (fun _=>True) (fun _=>es.length) (fun _=>scells es) (fun _ v=>.tuple #[v,.int .i64 0]) en_mean_Finish rfl (fun W hW hok=>?_) ?_
  ·refine (F1 W).mono ?_
   exact fun e w' ⟨v,h1,h2,h3⟩=>⟨(),v,trivial,h1,h2,h3⟩
  rintro - y3 k3 - - - - -
  repeat' (first | simp (disch:=omega) only [sxE,w16_alike.E,Nat.reduceAdd,Nat.reduceEqDiff,Nat.reduceMul,Nat.reduceSub,Int.reduceAdd,Int.reduceSub,Int.reduceMul,Int.reduceNeg,Int.reduceLT,Int.reduceLE,Int.reduceEq,Int.reduceToNat,↓reduceIte,Int.reducePow,Nat.reduceLeDiff,Nat.reduceLT,ne_eq,eq_self,List.length_cons,List.length_nil,qxE] | (with_reducible refine cregF ?_))
  refine asks_rowB (e:=34) (s:=2) (ι:=Unit) (fun _=>True) (fun _=>es.length) (fun _=>scells es) (fun _ v=>.tuple #[v,.int .i64 0]) en_r16_Finish rfl (fun W hW hok=>?_) ?_
  ·refine (F2 W).mono ?_
   exact fun e w' ⟨v,h1,h2,h3⟩=>⟨(),v,trivial,h1,h2,h3⟩
  rintro - y4 k4 - - - - -
  
  
  
  
  repeat' (first | simp (disch:=omega) only [sxE,w16_alike.E,Nat.reduceAdd,Nat.reduceEqDiff,Nat.reduceMul,Nat.reduceSub,Int.reduceAdd,Int.reduceSub,Int.reduceMul,Int.reduceNeg,Int.reduceLT,Int.reduceLE,Int.reduceEq,Int.reduceToNat,↓reduceIte,Int.reducePow,Nat.reduceLeDiff,Nat.reduceLT,ne_eq,eq_self,List.length_cons,List.length_nil,qxE,beq_self_eq_true,Bool.not_false] | (with_reducible refine Sx.call_at (f:=98) (fun W hW=>v1 W) ?_) | (with_reducible refine Sx.call_at (f:=99) (fun W hW=>v2 W) ?_) | (with_reducible refine eq_is (fun W=>by exact eqmst_run _ _ _ _ _ _ _ _ _ W) ?_) | (with_reducible refine cregF ?_))
  refine known_ext (fun W hW hok=>gives_known en_r15_Same (rx_same15 (hok (.g (wK 34 2 (.slice y1 ls.length k1) ls.length (scells ls))) (by repeat (first | with_reducible exact List.mem_cons_self | refine List.mem_cons_of_mem _ ?_))) (hok (.g (wK 34 2 (.slice y2 ls.length k2) ls.length (scells ls))) (by repeat (first | with_reducible exact List.mem_cons_self | refine List.mem_cons_of_mem _ ?_))))) ?_
  repeat' (first | simp (disch:=omega) only [sxE,w16_alike.E,Nat.reduceAdd,Nat.reduceEqDiff,Nat.reduceMul,Nat.reduceSub,Int.reduceAdd,Int.reduceSub,Int.reduceMul,Int.reduceNeg,Int.reduceLT,Int.reduceLE,Int.reduceEq,Int.reduceToNat,↓reduceIte,Int.reducePow,Nat.reduceLeDiff,Nat.reduceLT,ne_eq,eq_self,List.length_cons,List.length_nil,qxE,beq_self_eq_true] | (with_reducible refine cregF ?_))
  refine known_ext (fun W hW hok=>gives_known en_r15_Same (rx_same15 (hok (.g (wK 34 2 (.slice y3 es.length k3) es.length (scells es))) (by repeat (first | with_reducible exact List.mem_cons_self | refine List.mem_cons_of_mem _ ?_))) (hok (.g (wK 34 2 (.slice y4 es.length k4) es.length (scells es))) (by repeat (first | with_reducible exact List.mem_cons_self | refine List.mem_cons_of_mem _ ?_))))) ?_
  repeat' (first | simp (disch:=omega) only [sxE,w16_alike.E,Nat.reduceAdd,Nat.reduceEqDiff,Nat.reduceMul,Nat.reduceSub,Int.reduceAdd,Int.reduceSub,Int.reduceMul,Int.reduceNeg,Int.reduceLT,Int.reduceLE,Int.reduceEq,Int.reduceToNat,↓reduceIte,Int.reducePow,Nat.reduceLeDiff,Nat.reduceLT,ne_eq,eq_self,List.length_cons,List.length_nil,qxE,beq_self_eq_true] | (with_reducible refine cregF ?_))
end Go.Proofs.Ytncmmbacoknefaa

/- Mk: mean.All; law 16's known. -/
namespace Go.Proofs.Ytncmmbacoknefaa
open Go Go.RowKit Sx
set_option linter.unusedVariables false
set_option linter.unusedSimpArgs false
theorem en_values1 (l:Array Value) (W:World):(callFunc 70 l).run Try.prog W = .ok (.enter 70 l) W:=Sx.en_of Try.func70 (by kernel_rfl) (by kernel_rfl) l W
theorem ints_upto {zs:List Int} (f:Nat→I6) (h:∀ j,(f j).1 = zs.getD j 0):ints (upto f zs.length) = zs:=by
 apply List.ext_getElem
 ·simp [upto]
 ·intro i h1 h2
  simp [upto,h,h2]
theorem x_evF (S:St) (f:FuncId):S.ev (.func f) = some (.v (.func (.func f) #[] #[])):=rfl
theorem x_vF (f:FuncId):cellsV (some (.v (.func (.func f) #[] #[]))) = some [.func (.func f) #[] #[]]:=rfl
set_option maxRecDepth 100000 in
set_option maxHeartbeats 2000000 in
theorem gx_mall {w:World} {v:Value} {zs:List Int} {t:Int} (h:SlZ w .i64 v zs) (hi:I64 t):Calls Try.prog 19 #[v,.int .i64 t] w (MlB w (meanz t zs) (merz t zs)):=by
 obtain ⟨a,len,cap,rfl,hlen0,h1,h2,h3,h4⟩:=id h
 subst hlen0
 have h2':=h2
 simp only [maxLen] at h2'
 have hz:∀ z∈zs,I64 z:=fun z hz=>I64.of_wf (h3 z hz)
 refine (enterX Try.func19 mean_All.ok (args:=[.slice a zs.length cap,.int .i64 t]) (R:=fun u X=>∃ v L,u = .tuple #[v,.int .i64 (merz t zs)]∧X = kX w.heap.size L∧rowOf L 34 2 v (meanz t zs).length (scells (meanz t zs))) (by simp) ?run).mono ?fin
 case fin =>
  rintro e w' ⟨u,X,rfl,⟨v,L,rfl,rfl,hr⟩,hX,hbl,-⟩
  exact ⟨v,rfl,hr.own hX,hbl⟩
 case run =>
  have k1:=fun W=>gx_mstart t W
  by_cases ht:tolz t = true
  ·rw [if_pos ht] at k1
   by_cases hl:zs.length≤1073741824
   ·have e1:merz t zs = 0:=by unfold merz; rw [if_pos ht,if_pos hl]
    have e2:meanz t zs = meall t zs:=by unfold meanz; rw [if_pos e1]
    rw [e1,e2]
    clear e1 e2
    repeat' (first | simp (disch:=omega) only [sxE,mean_All.E,Nat.reduceAdd,Nat.reduceEqDiff,Nat.reduceMul,Nat.reduceSub,Int.reduceAdd,Int.reduceSub,Int.reduceMul,Int.reduceNeg,Int.reduceLT,Int.reduceLE,Int.reduceEq,Int.reduceToNat,↓reduceIte,Int.reducePow,Nat.reduceLeDiff,Nat.reduceLT,ne_eq,eq_self,List.length_cons,List.length_nil,qxE,x_evF,x_vF] | (with_reducible refine Sx.call_at (f:=44) (fun W hW=>k1 W) ?_) | (with_reducible refine cregF ?_))
    refine asks_kn (ι:=Nat) (L:=[]) (gs:=[]) (fun x=>.func (.func 126) #[] #[.pointer (some ⟨x,0,none⟩)]) (fun x=>[.g (cK x [.slice a zs.length cap])]) ?he ?hT (fun g hg=>by cases hg) (fun W hok g hg=>by cases hg) (fun W hW hok=>?hC) (fun x=>?hK)
    case he=>exact en_values1
    case hT=>exact kX_nil _
    case hC =>
     refine (values_fn a zs.length cap W).mono ?_
     rintro e w' ⟨rfl,rfl⟩
     have hb:Below W.heap.size W (W.alloc (.cells #[.slice a zs.length cap] 22)):=(Below.refl _ _).alloc (Nat.le_refl _) _
     refine ⟨W.heap.size,rfl,⟨hb.os,hb.tape,hb.output,hb.size,fun j hj _=>hb.block j hj⟩,fun k hk=>?_⟩
     rw [List.mem_singleton.1 hk]
     exact .inr ⟨⟨hW.size,HB.new _ _ _ rfl⟩,fun b hb=>.inr (by rw [cK_bs.1 hb]; exact Nat.le_refl _)⟩
    repeat' (first | simp (disch:=omega) only [sxE,mean_All.E,Nat.reduceAdd,Nat.reduceEqDiff,Nat.reduceMul,Nat.reduceSub,Int.reduceAdd,Int.reduceSub,Int.reduceMul,Int.reduceNeg,Int.reduceLT,Int.reduceLE,Int.reduceEq,Int.reduceToNat,↓reduceIte,Int.reducePow,Nat.reduceLeDiff,Nat.reduceLT,ne_eq,eq_self,List.length_cons,List.length_nil,qxE] | (with_reducible refine cregF ?_))
    refine asks_rowB (L:=[.g (cK x [.slice a zs.length cap])]) (e:=34) (s:=2) (ι:=Unit) (fun _=>True) (fun _=>(meall t zs).length) (fun _=>scells (meall t zs)) (fun _ v=>v) en_api_Constant___All rfl (fun W hW hok=>?_) ?_
    ·obtain ⟨f,hf⟩:∃ f:Nat→I6,∀ j,(f j).1 = zs.getD j 0:=⟨fun j=>⟨zs.getD j 0,zget hz j⟩,fun j=>rfl⟩
     have hfz:=ints_upto f hf
     have hc:(cK x [.slice a zs.length cap]).ok w.heap.size W:=hok _ List.mem_cons_self
     have hB:=Bx.of hc.2
     have:=md_any ht x zs.length cap a f hl W hB.2.2.2 (by rw [hB.2.1]; rfl) fun h0=>by
      obtain ⟨b,off,rfl,hb,hcs⟩:=h4 h0
      exact ⟨b,off,rfl,Nat.lt_of_lt_of_le hb hW.size,fun j hj=>by rw [hf j]; exact (hW.cell (p:=⟨b,off + j,none⟩) hb).trans (hcs j hj)⟩
     rw [hfz] at this
     exact this.mono fun e w' ⟨v,h1,h2,h3⟩=>⟨(),v,trivial,h1,h2,h3⟩
    rintro - a2 c2 - - - - -
    repeat' (first | simp (disch:=omega) only [sxE,mean_All.E,Nat.reduceAdd,Nat.reduceEqDiff,Nat.reduceMul,Nat.reduceSub,Int.reduceAdd,Int.reduceSub,Int.reduceMul,Int.reduceNeg,Int.reduceLT,Int.reduceLE,Int.reduceEq,Int.reduceToNat,↓reduceIte,Int.reducePow,Nat.reduceLeDiff,Nat.reduceLT,ne_eq,eq_self,List.length_cons,List.length_nil,qxE] | (with_reducible refine cregF ?_))
    exact ⟨_,_,rfl,rfl,.inr List.mem_cons_self⟩
   ·have e1:merz t zs = 3:=by unfold merz; rw [if_pos ht,if_neg hl]
    have e2:meanz t zs = []:=by unfold meanz; rw [e1]; rfl
    rw [e1,e2]
    clear e1 e2
    repeat' (first | simp (disch:=omega) only [sxE,mean_All.E,Nat.reduceAdd,Nat.reduceEqDiff,Nat.reduceMul,Nat.reduceSub,Int.reduceAdd,Int.reduceSub,Int.reduceMul,Int.reduceNeg,Int.reduceLT,Int.reduceLE,Int.reduceEq,Int.reduceToNat,↓reduceIte,Int.reducePow,Nat.reduceLeDiff,Nat.reduceLT,ne_eq,eq_self,List.length_cons,List.length_nil,qxE] | (with_reducible refine Sx.call_at (f:=44) (fun W hW=>k1 W) ?_) | (with_reducible refine cregF ?_))
    exact ⟨.slice none 0 0,[],rfl,kX_nil _,.inl ⟨rfl,rfl,rfl⟩⟩
  ·have e1:merz t zs = 9:=by unfold merz; rw [if_neg ht]
   have e2:meanz t zs = []:=by unfold meanz; rw [e1]; rfl
   rw [if_neg ht] at k1
   rw [e1,e2]
   clear e1 e2
   repeat' (first | simp (disch:=omega) only [sxE,mean_All.E,Nat.reduceAdd,Nat.reduceEqDiff,Nat.reduceMul,Nat.reduceSub,Int.reduceAdd,Int.reduceSub,Int.reduceMul,Int.reduceNeg,Int.reduceLT,Int.reduceLE,Int.reduceEq,Int.reduceToNat,↓reduceIte,Int.reducePow,Nat.reduceLeDiff,Nat.reduceLT,ne_eq,eq_self,List.length_cons,List.length_nil,qxE] | (with_reducible refine Sx.call_at (f:=44) (fun W hW=>k1 W) ?_) | (with_reducible refine cregF ?_))
   exact ⟨.slice none 0 0,[],rfl,kX_nil _,.inl ⟨rfl,rfl,rfl⟩⟩
abbrev A16:List Int:=[0,0,0,4]
abbrev B16:List Int:=[0,3]
theorem A16_in:∀ z∈A16,I64 z:=by unfold I64; decide
theorem B16_in:∀ z∈B16,I64 z:=by unfold I64; decide
theorem k16:meanz 2 A16 = [(3,0),(1,4)]∧merz 2 A16 = 0∧meanz 2 B16 = [(2,1)]∧merz 2 B16 = 0:=⟨by kernel_rfl,by kernel_rfl,by kernel_rfl,by kernel_rfl⟩
set_option maxRecDepth 100000 in
set_option maxHeartbeats 1000000 in
theorem g_known16 (w:World):Calls Try.prog 24 #[] w fun e w'=>e = .returned (.bool true)∧Below w.heap.size w w':=by
 obtain ⟨e1,e2,e3,e4⟩:=k16
 refine known_of (enter Try.func24 w16_known.ok (args:=[]) (by simp) ?_)
 repeat' (first | simp (disch:=omega) only [sxE,w16_known.E,Nat.reduceAdd,Nat.reduceEqDiff,Nat.reduceMul,Nat.reduceSub,Int.reduceAdd,Int.reduceSub,Int.reduceMul,Int.reduceNeg,Int.reduceLT,Int.reduceLE,Int.reduceEq,Int.reduceToNat,↓reduceIte,Int.reducePow,Nat.reduceLeDiff,Nat.reduceLT,ne_eq,eq_self,List.length_cons,List.length_nil,qxE] | (with_reducible refine cregF ?_))
 refine genA_c (L:=[]) (cs:=A16.map (Value.int .i64)) (T:=2) (fun b=>.slice (some ⟨b,0,none⟩) 4 4) (kX_nil _) (fun W=>by kernel_rfl) fun b _=>?_
 repeat' (first | simp (disch:=omega) only [sxE,w16_known.E,Nat.reduceAdd,Nat.reduceEqDiff,Nat.reduceMul,Nat.reduceSub,Int.reduceAdd,Int.reduceSub,Int.reduceMul,Int.reduceNeg,Int.reduceLT,Int.reduceLE,Int.reduceEq,Int.reduceToNat,↓reduceIte,Int.reducePow,Nat.reduceLeDiff,Nat.reduceLT,ne_eq,eq_self,List.length_cons,List.length_nil,qxE] | (with_reducible refine cregF ?_))
 refine asks_rowB (L:=[.g (cK b (A16.map (Value.int .i64)))]) (e:=34) (s:=2) (ι:=Unit) (fun _=>True) (fun _=>2) (fun _=>scells [(3,0),(1,4)]) (fun _ v=>.tuple #[v,.int .i64 0]) en_mean_All rfl (fun W hW hok=>?_) ?_
 ·have hb:(cK b (A16.map (Value.int .i64))).ok w.heap.size W:=hok _ List.mem_cons_self
  refine (gx_mall (t:=2) (slz_cK hb.2 A16_in (by decide)) ⟨by decide,by decide⟩).mono ?_
  rw [e1,e2]
  exact fun e w' ⟨v,h1,h2,h3⟩=>⟨(),v,trivial,h1,h2,h3⟩
 rintro - a1 c1 - - - hg1 -
 obtain ⟨g1,rfl⟩:=hg1 (by decide)
 repeat' (first | simp (disch:=omega) only [sxE,w16_known.E,Nat.reduceAdd,Nat.reduceEqDiff,Nat.reduceMul,Nat.reduceSub,Int.reduceAdd,Int.reduceSub,Int.reduceMul,Int.reduceNeg,Int.reduceLT,Int.reduceLE,Int.reduceEq,Int.reduceToNat,↓reduceIte,Int.reducePow,Nat.reduceLeDiff,Nat.reduceLT,ne_eq,eq_self,List.length_cons,List.length_nil,qxE] | (with_reducible refine cregF ?_))
 
 refine genA_c (L:=[.g (wK 34 2 (.slice (some ⟨g1,0,none⟩) 2 c1) 2 (scells [(3,0),(1,4)])),.g (cK b (A16.map (Value.int .i64)))]) (cs:=B16.map (Value.int .i64)) (T:=2) (fun b=>.slice (some ⟨b,0,none⟩) 2 2) rfl (fun W=>by kernel_rfl) fun b' _=>?_
 repeat' (first | simp (disch:=omega) only [sxE,w16_known.E,Nat.reduceAdd,Nat.reduceEqDiff,Nat.reduceMul,Nat.reduceSub,Int.reduceAdd,Int.reduceSub,Int.reduceMul,Int.reduceNeg,Int.reduceLT,Int.reduceLE,Int.reduceEq,Int.reduceToNat,↓reduceIte,Int.reducePow,Nat.reduceLeDiff,Nat.reduceLT,ne_eq,eq_self,List.length_cons,List.length_nil,qxE] | (with_reducible refine cregF ?_))
 refine asks_rowB (L:=[.g (cK b' (B16.map (Value.int .i64))),.g (wK 34 2 (.slice (some ⟨g1,0,none⟩) 2 c1) 2 (scells [(3,0),(1,4)])),.g (cK b (A16.map (Value.int .i64)))]) (e:=34) (s:=2) (ι:=Unit) (fun _=>True) (fun _=>1) (fun _=>scells [(2,1)]) (fun _ v=>.tuple #[v,.int .i64 0]) en_mean_All rfl (fun W hW hok=>?_) ?_
 ·have hb:(cK b' (B16.map (Value.int .i64))).ok w.heap.size W:=hok _ List.mem_cons_self
  refine (gx_mall (t:=2) (slz_cK hb.2 B16_in (by decide)) ⟨by decide,by decide⟩).mono ?_
  rw [e3,e4]
  exact fun e w' ⟨v,h1,h2,h3⟩=>⟨(),v,trivial,h1,h2,h3⟩
 rintro - a2 c2 - - - hg2 -
 obtain ⟨g2,rfl⟩:=hg2 (by decide)
 repeat' (first | simp (disch:=omega) only [sxE,w16_known.E,Nat.reduceAdd,Nat.reduceEqDiff,Nat.reduceMul,Nat.reduceSub,Int.reduceAdd,Int.reduceSub,Int.reduceMul,Int.reduceNeg,Int.reduceLT,Int.reduceLE,Int.reduceEq,Int.reduceToNat,↓reduceIte,Int.reducePow,Nat.reduceLeDiff,Nat.reduceLT,ne_eq,eq_self,List.length_cons,List.length_nil,qxE,List.getD_cons_zero,beq_self_eq_true] | (with_reducible refine ldP_self true 2 g1 ?_; refine ldP_s2 (g:=g1) 0 rfl (by repeat (first | with_reducible exact List.mem_cons_self | refine List.mem_cons_of_mem _ ?_)) rfl (by decide) ?_) | (with_reducible refine ldP_self true 2 g2 ?_; refine ldP_s2 (g:=g2) 0 rfl (by repeat (first | with_reducible exact List.mem_cons_self | refine List.mem_cons_of_mem _ ?_)) rfl (by decide) ?_) | (with_reducible refine eq_is (fun W=>by exact eqconst_run _ _ W) ?_) | (with_reducible refine cregF ?_))
end Go.Proofs.Ytncmmbacoknefaa

/- Ts: The tape's Some: at least one sample. -/
namespace Go.Proofs.Ytncmmbacoknefaa
open Go Go.RowKit Sx
set_option linter.unusedVariables false
set_option linter.unusedSimpArgs false
theorem hK_bs {w:World} {tb B Bm g:Nat}:g∈(Kn.g (hK w tb B Bm)).bs↔tb≤g∧g < w.heap.size:=by
 show g∈List.range' tb (w.heap.size - tb)↔_
 rw [List.mem_range']
 constructor
 ·rintro ⟨i,hi,rfl⟩; omega
 ·rintro h; exact ⟨g - tb,by omega,by omega⟩
end Go.Proofs.Ytncmmbacoknefaa

/- Mi: mean: a state that the tape makes. -/
namespace Go.Proofs.Ytncmmbacoknefaa
open Go Go.RowKit Sx
set_option linter.unusedVariables false
set_option linter.unusedSimpArgs false
set_option maxRecDepth 100000 in
set_option maxHeartbeats 2000000 in
theorem t_state16 (tb:Nat):TpC 43 [.pointer (some ⟨tb,0,none⟩)] tb (fun x:MeS × Int=>MeG x.1∧I64 x.2) (fun x=>.tuple #[mev x.1,.int .i64 x.2]):=by
 intro B Bm w ht
 have hle:=Nat.le_of_lt ht.lt
 refine Calls.mono (enterG Try.func43 w16_state.ok (args:=[.pointer (some ⟨tb,0,none⟩)]) (w0:=cut w tb) (T:=kX (cut w tb).heap.size [.g (hK w tb B Bm)]) (R:=fun v X=>∃ x:MeS × Int,∃ L,(MeG x.1∧I64 x.2)∧v = .tuple #[mev x.1,.int .i64 x.2]∧X = kX (cut w tb).heap.size L∧.g (hK w tb B Bm)∈L) (by simp) (below_cut hle) (hK_start ht).1 (kX_stab (Sx.cx _ (cut w tb) _) _) (hK_start ht).2 ?run) ?fin
 case fin =>
  rintro e w' ⟨v,X,rfl,⟨x,L,hP,rfl,rfl,m1⟩,hX,hbl,-⟩
  obtain ⟨h1,h2⟩:=hK_end hX m1 hbl
  exact ⟨x,hP,rfl,h1,h2⟩
 case run =>
  have hk:=tpk_h' ht
  have htb:tb∈(Kn.g (hK w tb B Bm)).bs:=hK_bs.2 ⟨Nat.le_refl _,ht.lt⟩
  have hin:∀ b,b ∉ (kX (cut w tb).heap.size [.g (hK w tb B Bm)]).bs→b ∉ (Kn.g (hK w tb B Bm)).bs:=fun b h h'=>h (kX_bs.2 ⟨_,List.mem_singleton.2 rfl,h'⟩)
  repeat' (first | simp (disch:=omega) only [sxE,w16_state.E,Nat.reduceAdd,Nat.reduceEqDiff,Nat.reduceMul,Nat.reduceSub,Int.reduceAdd,Int.reduceSub,Int.reduceMul,Int.reduceNeg,Int.reduceLT,Int.reduceLE,Int.reduceEq,Int.reduceToNat,↓reduceIte,Int.reducePow,Nat.reduceLeDiff,Nat.reduceLT,ne_eq,eq_self,List.length_cons,List.length_nil,qxE] | (with_reducible refine cregF ?_))
  refine asks_tc rfl hk (t_tol tb) en_m_Tape__Tolerance rfl (List.mem_singleton.2 rfl) rfl (fun j hj=>.inl (List.mem_singleton.1 hj)) ?_
  rintro t ⟨t0,t1⟩
  have hz:tolz t = true:=tolz_iff.2 ⟨t0,t1⟩
  have k1:=fun W=>rx_mstart (t:=t) ⟨by omega,by omega⟩ W
  rw [if_pos hz] at k1
  repeat' (first | simp (disch:=omega) only [sxE,w16_state.E,Nat.reduceAdd,Nat.reduceEqDiff,Nat.reduceMul,Nat.reduceSub,Int.reduceAdd,Int.reduceSub,Int.reduceMul,Int.reduceNeg,Int.reduceLT,Int.reduceLE,Int.reduceEq,Int.reduceToNat,↓reduceIte,Int.reducePow,Nat.reduceLeDiff,Nat.reduceLT,ne_eq,eq_self,List.length_cons,List.length_nil,qxE] | (with_reducible refine Sx.call_at (f:=45) (fun W hW=>k1 W) ?_) | (with_reducible refine cregF ?_))
  refine asks_rowT (L:=[.g (hK w tb B Bm)]) (e:=2) (s:=1) (fun zs:List Int=>I64s zs∧(zs.length:Int)≤12) (fun zs=>zs.length) (fun zs=>zs.map (Value.int .i64)) (fun zs v=>v) hk en_m_Tape__Values rfl (List.mem_singleton.2 rfl) htb rfl (fun j hj=>.inl (List.mem_singleton.1 hj)) (fun W hW=>by
   refine (values_any tb 12 (by decide) (by decide) W hW).mono ?_
   rintro e w' ⟨v,zs,h1,h2,h3,h4,h5⟩
   exact ⟨zs,v,h1,h2,h3,h4,h5⟩) ?_
  rintro zs al cl_ ⟨hsm,hs⟩ hcl - hal hnb
  have hnb':∀ b∈(Value.slice al zs.length cl_).ownBlock.toList,b ∉ (Kn.g (hK w tb B Bm)).bs:=fun b hb=>hin b (hnb b hb)
  have hin':∀ z∈zs,I64 z:=hsm
  have mS:(Kn.g (wK 2 1 (.slice al zs.length cl_) zs.length (zs.map (Value.int .i64))))∈([.g (wK 2 1 (.slice al zs.length cl_) zs.length (zs.map (Value.int .i64))),.g (hK w tb B Bm)]:List Kn):=List.mem_cons_self
  have htb':∀ j∈[Kn.g (wK 2 1 (.slice al zs.length cl_) zs.length (zs.map (Value.int .i64))),.g (hK w tb B Bm)],j = .g (hK w tb B Bm)∨tb ∉ j.bs:=fun j hj=>by
   rcases List.mem_cons.1 hj with rfl | hj
   ·exact .inr fun h=>hnb' tb (by have:=wK_bs.1 h; rw [show (Value.slice al zs.length cl_).ownBlock = some tb from this]; exact List.mem_singleton.2 rfl) htb
   ·exact .inl (List.mem_singleton.1 hj)
  repeat' (first | simp (disch:=omega) only [sxE,w16_state.E,Nat.reduceAdd,Nat.reduceEqDiff,Nat.reduceMul,Nat.reduceSub,Int.reduceAdd,Int.reduceSub,Int.reduceMul,Int.reduceNeg,Int.reduceLT,Int.reduceLE,Int.reduceEq,Int.reduceToNat,↓reduceIte,Int.reducePow,Nat.reduceLeDiff,Nat.reduceLT,ne_eq,eq_self,List.length_cons,List.length_nil,qxE] | (with_reducible refine cregF ?_))
  rw [w16_state.p5_l]
  have HI:=fun i hi=>mei_at hz hin' (by omega) i hi
  refine LX_inv (fun i:Nat=>⟨2,[(0,.v (.pointer (some ⟨tb,0,none⟩))),(2,.p 0 0),(4,.p 1 0),(6,.v (.slice al zs.length cl_)),(7,.v (.int .i64 (i:Int)))],[(1,[.int .i64 (mef t (zs.take i)).1.t,.int .i64 (mef t (zs.take i)).1.n,.int .i64 (mef t (zs.take i)).1.lo,.int .i64 (mef t (zs.take i)).1.hi,.bool (sg (mef t (zs.take i)).1.S),.int .u64 (lb0 (ab (mef t (zs.take i)).1.S)),.int .u64 (lb1 (ab (mef t (zs.take i)).1.S)),.int .u64 (lb2 (ab (mef t (zs.take i)).1.S)),.int .u64 (lb3 (ab (mef t (zs.take i)).1.S))]),(0,[.int .i64 0,.int .i64 0,.int .i64 0,.int .i64 0,.bool false,.int .u64 0,.int .u64 0,.int .u64 0,.int .u64 0])],kX (cut w tb).heap.size [.g (wK 2 1 (.slice al zs.length cl_) zs.length (zs.map (Value.int .i64))),.g (hK w tb B Bm)]⟩) (fun i=>i = 0∨i + 1≤zs.length) (fun i=>zs.length - i) ?round 0 (.inl rfl) ?start
  case start =>
   have c0:((0:Nat):Int) = 0:=rfl
   simp (disch:=omega) only [sxE,w16_state.E,Nat.reduceAdd,Nat.reduceEqDiff,Nat.reduceMul,Nat.reduceSub,Int.reduceAdd,Int.reduceSub,Int.reduceMul,Int.reduceNeg,Int.reduceLT,Int.reduceLE,Int.reduceEq,Int.reduceToNat,↓reduceIte,Int.reducePow,Nat.reduceLeDiff,Nat.reduceLT,ne_eq,eq_self,List.length_cons,List.length_nil,c0]
   exact (congrArg (fun v:Value=>v.cells.toList) (mev_0 t)).symm
  case round =>
   intro i hi
   try dsimp only at hi ⊢
   have hsi:=HI i (by omega)
   have hG:=hsi.g
   have hx:=zget hin' i
   by_cases hlt:i + 1 < zs.length
   ·obtain ⟨b,rfl⟩:=hal (by omega)
    have enx:mef t (zs.take (i + 1)) = mea (mef t (zs.take i)) (zs.getD i 0):=by rw [ztake (by omega),mef_snoc]
    have hst:=mstz_ok (s:=(mef t (zs.take i)).1) (v:=zs.getD i 0) (by have:=hsi.n; omega)
    have e0:(i:Int) + 1 = ((i + 1:Nat):Int):=by omega
    unfold mea at enx
    generalize hA:mef t (zs.take i) = A at *
    obtain ⟨⟨st,sn,sl,sh,sS⟩,ls⟩:=A
    clear hA hsi HI
    dsimp only at hG enx hst ⊢
    generalize hes:mee ⟨st,sn,sl,sh,sS⟩ (zs.getD i 0) = es at *
    generalize hs':men ⟨st,sn,sl,sh,sS⟩ (zs.getD i 0) = s' at *
    obtain ⟨st',sn',sl',sh',sS'⟩:=s'
    repeat' (first | simp (disch:=omega) only [sxE,w16_state.E,Nat.reduceAdd,Nat.reduceEqDiff,Nat.reduceMul,Nat.reduceSub,Int.reduceAdd,Int.reduceSub,Int.reduceMul,Int.reduceNeg,Int.reduceLT,Int.reduceLE,Int.reduceEq,Int.reduceToNat,↓reduceIte,Int.reducePow,Nat.reduceLeDiff,Nat.reduceLT,ne_eq,eq_self,List.length_cons,List.length_nil,qxE] | (with_reducible refine ldP_self false 1 b ?_; refine ldP_i i rfl mS ?_ ?_ ?_; omega; omega) | (with_reducible refine cregF ?_))
    refine asks_rowB (L:=[.g (wK 2 1 (.slice (some ⟨b,0,none⟩) zs.length cl_) zs.length (zs.map (Value.int .i64))),.g (hK w tb B Bm)]) (e:=34) (s:=2) (ι:=Unit) (fun _=>True) (fun _=>es.length) (fun _=>scells es) (fun _ v=>.tuple #[mev ⟨st',sn',sl',sh',sS'⟩,v,.int .i64 0]) en_r16_Step rfl (fun W hW hok=>?_) ?_
    ·have:=rx_mstep (w:=W) hG hx
     rw [hst] at this
     exact this.mono fun e w' ⟨v,h1,h2,h3⟩=>⟨(),v,trivial,h1,h2,h3⟩
    rintro - a2 c2 - - - - -
    repeat' (first | simp (disch:=omega) only [sxE,w16_state.E,Nat.reduceAdd,Nat.reduceEqDiff,Nat.reduceMul,Nat.reduceSub,Int.reduceAdd,Int.reduceSub,Int.reduceMul,Int.reduceNeg,Int.reduceLT,Int.reduceLE,Int.reduceEq,Int.reduceToNat,↓reduceIte,Int.reducePow,Nat.reduceLeDiff,Nat.reduceLT,ne_eq,eq_self,List.length_cons,List.length_nil,qxE] | (with_reducible refine cregF ?_))
    rw [e0]
    refine ⟨i + 1,.inr (by omega),by omega,rfl,?_,?_⟩
    ·rw [enx]
    ·exact extS_kn fun k hk=>List.mem_cons_of_mem _ hk
   ·by_cases h0:zs.length = 0
    ·have hi0:i = 0:=by omega
     generalize (mef t (zs.take i)).1 = A at *
     obtain ⟨st,sn,sl,sh,sS⟩:=A
     have c0:((zs.length:Nat):Int) = 0:=by omega
     clear hsi HI
     repeat' (first | simp (disch:=omega) only [sxE,w16_state.E,Nat.reduceAdd,Nat.reduceEqDiff,Nat.reduceMul,Nat.reduceSub,Int.reduceAdd,Int.reduceSub,Int.reduceMul,Int.reduceNeg,Int.reduceLT,Int.reduceLE,Int.reduceEq,Int.reduceToNat,↓reduceIte,Int.reducePow,Nat.reduceLeDiff,Nat.reduceLT,ne_eq,eq_self,List.length_cons,List.length_nil,qxE,c0,beq_self_eq_true] | (with_reducible refine cregF ?_))
     refine asks_tc rfl hk (t_int tb) en_m_Tape__Int rfl (List.mem_cons_of_mem _ (List.mem_singleton.2 rfl)) rfl htb' ?_
     intro T hT
     repeat' (first | simp (disch:=omega) only [sxE,w16_state.E,Nat.reduceAdd,Nat.reduceEqDiff,Nat.reduceMul,Nat.reduceSub,Int.reduceAdd,Int.reduceSub,Int.reduceMul,Int.reduceNeg,Int.reduceLT,Int.reduceLE,Int.reduceEq,Int.reduceToNat,↓reduceIte,Int.reducePow,Nat.reduceLeDiff,Nat.reduceLT,ne_eq,eq_self,List.length_cons,List.length_nil,qxE] | (with_reducible refine cregF ?_))
     exact ⟨(⟨st,sn,sl,sh,sS⟩,T),_,⟨hG,hT⟩,rfl,rfl,List.mem_cons_of_mem _ (List.mem_singleton.2 rfl)⟩
    ·obtain ⟨b,rfl⟩:=hal (by omega)
     have hx:=zget hin' (zs.length - 1)
     generalize (mef t (zs.take i)).1 = A at *
     obtain ⟨st,sn,sl,sh,sS⟩:=A
     clear HI
     have hn0:((zs.length:Int) == 0) = false:=beq_eq_false_iff_ne.2 (by omega)
     repeat' (first | simp (disch:=omega) only [sxE,w16_state.E,Nat.reduceAdd,Nat.reduceEqDiff,Nat.reduceMul,Nat.reduceSub,Int.reduceAdd,Int.reduceSub,Int.reduceMul,Int.reduceNeg,Int.reduceLT,Int.reduceLE,Int.reduceEq,Int.reduceToNat,↓reduceIte,Int.reducePow,Nat.reduceLeDiff,Nat.reduceLT,ne_eq,eq_self,List.length_cons,List.length_nil,qxE,hn0] | (with_reducible refine ldP_self false 1 b ?_; refine ldP_i (zs.length - 1) rfl mS ?_ ?_ ?_; omega; omega) | (with_reducible refine And.intro ?_ ?_) | (with_reducible refine cregF ?_))
     all_goals exact ⟨(⟨st,sn,sl,sh,sS⟩,_),_,⟨hG,hx⟩,rfl,rfl,List.mem_cons_of_mem _ (List.mem_singleton.2 rfl)⟩
end Go.Proofs.Ytncmmbacoknefaa

/- Open: Opening arguments that are structs: samples and Wides. -/
namespace Go.Proofs.Ytncmmbacoknefaa
open Go.ChangeShapes Go.WideShapes Go.ChangeAt Go.RowKit
set_option linter.unusedVariables false
set_option linter.unusedSimpArgs false
section
variable {H:Type} {enc:TypeId × Value→H} {P:Program}
theorem list5 {l:List Value} (h:l.length = 5):∃ x y z u v,l = [x,y,z,u,v]:=by
 match l,h with
 | [x,y,z,u,v],_=>exact ⟨x,y,z,u,v,rfl⟩
theorem cells_wid {t e:TypeId} {f0 f1:Field} {n:Nat} {y:DataW H} {l:List Value} {W:World} (ht:P.underlying t = some (.struct #[f0,f1])) (k0:P.underlying f0.type = some .bool) (k1:P.underlying f1.type = some (.array 4 e)) (ke:P.underlying e = some (.int .u64)) (o0:f0.offset = 0) (o1:f1.offset = 1)
  (c0:P.cellsOf f0.type = 1) (c1:P.cellsOf f1.type = 4) (ce:P.cellsOf e = 1) (hl:l.length = 5) {ps:List MemPlace} (hf:DataW.trod enc P W 0 (fun _=>true) true n t l = some (y,ps)):∃ nb a b c d',l = [.bool nb,.int .u64 a,.int .u64 b,.int .u64 c,.int .u64 d']∧U64 a∧U64 b∧U64 c∧U64 d':=by
 obtain ⟨y0,y1,m0,_,hlen,e0,e1⟩:=trod_struct2 ht hf
 obtain ⟨x,y',z,u,v,rfl⟩:=list5 hl
 rw [o0,c0] at e0
 rw [o1,c1] at e1
 obtain ⟨nb,en,-⟩:=DataW.trod_bool k0 e0
 have e1':DataW.trod enc P W 0 (fun _=>true) true m0 f1.type [y',z,u,v] = some y1:=by simpa [Value.cells] using e1
 obtain ⟨z0,z1,z2,z3,m,_,g0,g1,g2,g3⟩:=trod_array4 k1 ce e1'
 obtain ⟨a0,r0,-,w0⟩:=DataW.trod_int ke g0
 obtain ⟨a1,r1,-,w1⟩:=DataW.trod_int ke g1
 obtain ⟨a2,r2,-,w2⟩:=DataW.trod_int ke g2
 obtain ⟨a3,r3,-,w3⟩:=DataW.trod_int ke g3
 simp [Value.cells] at en r0 r1 r2 r3
 subst en; subst r0; subst r1; subst r2; subst r3
 exact ⟨nb,a0,a1,a2,a3,rfl,U64.of_wf w0,U64.of_wf w1,U64.of_wf w2,U64.of_wf w3⟩
end
end Go.Proofs.Ytncmmbacoknefaa

/- OpM: mean: raw states, opened. -/
namespace Go.Proofs.Ytncmmbacoknefaa
open Go Go.ChangeShapes Go.WideShapes Go.ChangeAt Go.RowKit Sx
set_option linter.unusedVariables false
set_option linter.unusedSimpArgs false
theorem mv_raw {t N L H:Int} (it:I64 t) (hl:I64 L) (hh:I64 H) (o:Bool) {a b c d:Int} (ha:U64 a) (hb:U64 b) (hc:U64 c) (hd:U64 d):∃ r,MVal (.agg #[.int .i64 t,.int .i64 N,.int .i64 L,.int .i64 H,.bool o,.int .u64 a,.int .u64 b,.int .u64 c,.int .u64 d]) r:=by
 obtain ⟨x,z,h⟩:=rw_raw o ha hb hc hd
 rcases h with ⟨-,e,f⟩ | ⟨-,e,-⟩
 ·have e2:=congrArg (fun v:Value=>Value.agg (.int .i64 t :: .int .i64 N :: .int .i64 L :: .int .i64 H :: v.cells.toList).toArray) e
  have e3:Value.agg #[.int .i64 t,.int .i64 N,.int .i64 L,.int .i64 H,.bool o,.int .u64 a,.int .u64 b,.int .u64 c,.int .u64 d] = mev ⟨t,N,L,H,z⟩:=e2
  rw [e3]
  exact ⟨_,mval_s (s:=⟨t,N,L,H,z⟩) it hl hh f⟩
 ·have e2:=congrArg (fun v:Value=>Value.agg (.int .i64 t :: .int .i64 N :: .int .i64 L :: .int .i64 H :: v.cells.toList).toArray) e
  have e3:Value.agg #[.int .i64 t,.int .i64 N,.int .i64 L,.int .i64 H,.bool o,.int .u64 a,.int .u64 b,.int .u64 c,.int .u64 d] = .agg #[.int .i64 t,.int .i64 N,.int .i64 L,.int .i64 H,.bool true,.int .u64 0,.int .u64 0,.int .u64 0,.int .u64 0]:=e2
  rw [e3]
  exact ⟨_,mval_nz it⟩
section
variable {H:Type} {enc:TypeId × Value→H}
theorem list9 {l:List Value} (h:l.length = 9):∃ x0 x1 x2 x3 x4 x5 x6 x7 x8,l = [x0,x1,x2,x3,x4,x5,x6,x7,x8]:=by
 match l,h with
 | [x0,x1,x2,x3,x4,x5,x6,x7,x8],_=>exact ⟨x0,x1,x2,x3,x4,x5,x6,x7,x8,rfl⟩
theorem trod_struct5 {P:Program} {w:World} {base:Nat} {spare:Nat→Bool} {held:Bool} {t:TypeId} {f0 f1 f2 f3 f4:Field} {fuel:Nat} {cs:List Value} {x:DataW H × List MemPlace} (ht:P.underlying t = some (.struct #[f0,f1,f2,f3,f4])) (h:DataW.trod enc P w base spare held fuel t cs = some x) :
  ∃ y0 y1 y2 y3 y4 n,DataW.trod enc P w base spare held n f0.type ((cs.drop f0.offset).take (P.cellsOf f0.type)) = some y0∧DataW.trod enc P w base spare held n f1.type ((cs.drop f1.offset).take (P.cellsOf f1.type)) = some y1∧DataW.trod enc P w base spare held n f2.type ((cs.drop f2.offset).take (P.cellsOf f2.type)) = some y2∧DataW.trod enc P w base spare held n f3.type ((cs.drop f3.offset).take (P.cellsOf f3.type)) = some y3∧DataW.trod enc P w base spare held n f4.type ((cs.drop f4.offset).take (P.cellsOf f4.type)) = some y4:=by
 obtain ⟨xs,n,_,rfl,hl,hlen,hf⟩:=DataW.trod_struct ht h
 match xs,hlen with
 | [y0,y1,y2,y3,y4],_=>exact ⟨y0,y1,y2,y3,y4,n,by simpa using hf 0 f0 rfl,by simpa using hf 1 f1 rfl,by simpa using hf 2 f2 rfl,by simpa using hf 3 f3 rfl,by simpa using hf 4 f4 rfl⟩
end
set_option maxRecDepth 100000 in
theorem open_mest {H:Type} {enc:TypeId × Value→H} {v:Value} {d:DataW H} {ps:List MemPlace} {W:World} {base:Nat} (hv:Value.okWide Try.prog W .any base 68 v) (h:DataW.Trod enc Try.prog W 0 (fun _=>true) true 68 v d ps):∃ r,MVal v r:=by
 obtain ⟨cs,rfl,hsz⟩:=okWide_struct Try.underlying68 hv
 obtain ⟨fuel,hf⟩:=h
 obtain ⟨z0,z1,z2,z3,z4,n,e0,e1,e2,e3,e4⟩:=trod_struct5 Try.underlying68 hf
 have ct:Try.prog.cellsOf 68 = 9:=by kernel_rfl
 have c0:Try.prog.cellsOf 2 = 1:=by kernel_rfl
 have c1:Try.prog.cellsOf 3 = 1:=by kernel_rfl
 have c3:Try.prog.cellsOf 38 = 5:=by kernel_rfl
 have hl:cs.toList.length = 9:=by rw [Array.length_toList,hsz,ct]
 obtain ⟨x0,x1,x2,x3,x4,x5,x6,x7,x8,hxy⟩:=list9 hl
 have hcs:cs = #[x0,x1,x2,x3,x4,x5,x6,x7,x8]:=by rw [← Array.toArray_toList (xs:=cs),hxy]
 subst hcs
 simp only [c0,c1,c3] at e0 e1 e2 e3 e4
 have k0:DataW.trod enc Try.prog W 0 (fun _=>true) true n 2 [x0] = some z0:=by simpa [Value.cells] using e0
 have k1:DataW.trod enc Try.prog W 0 (fun _=>true) true n 3 [x1] = some z1:=by simpa [Value.cells] using e1
 have k2:DataW.trod enc Try.prog W 0 (fun _=>true) true n 2 [x2] = some z2:=by simpa [Value.cells] using e2
 have k3:DataW.trod enc Try.prog W 0 (fun _=>true) true n 2 [x3] = some z3:=by simpa [Value.cells] using e3
 have k4:DataW.trod enc Try.prog W 0 (fun _=>true) true n 38 [x4,x5,x6,x7,x8] = some z4:=by simpa [Value.cells] using e4
 obtain ⟨t,r0,-,w0⟩:=DataW.trod_int Try.underlying2 k0
 obtain ⟨N,r1,-,w1⟩:=DataW.trod_int Try.underlying3 k1
 obtain ⟨L,r2,-,w2⟩:=DataW.trod_int Try.underlying2 k2
 obtain ⟨M,r3,-,w3⟩:=DataW.trod_int Try.underlying2 k3
 obtain ⟨o,a,b,c,d,rc,u1,u2,u3,u4⟩:=cells_wid Try.underlying38 Try.underlying4 Try.underlying36 Try.underlying35 rfl rfl (by kernel_rfl) (by kernel_rfl) (by kernel_rfl) rfl k4
 cases r0
 cases r1
 cases r2
 cases r3
 cases rc
 exact mv_raw (I64.of_wf w0) (I64.of_wf w2) (I64.of_wf w3) o u1 u2 u3 u4
end Go.Proofs.Ytncmmbacoknefaa

/- Ms: mean: the segments, plain. -/
namespace Go.Proofs.Ytncmmbacoknefaa
open Go Go.RowKit Sx
set_option linter.unusedVariables false
set_option linter.unusedSimpArgs false
def zsum (zs:List Int) (a:Nat):Nat→Int
 | 0=>0
 | j + 1=>zsum zs a j + zs.getD (a + j) 0
def zmi (zs:List Int) (a:Nat):Nat→Int
 | 0=>zs.getD a 0
 | j + 1=>mi (zmi zs a j) (zs.getD (a + (j + 1)) 0)
def zma (zs:List Int) (a:Nat):Nat→Int
 | 0=>zs.getD a 0
 | j + 1=>ma (zma zs a j) (zs.getD (a + (j + 1)) 0)
def mst (t:Int) (zs:List Int) (a m:Nat):MeS:=⟨t,(m:Int) + 1,zmi zs a m,zma zs a m,zsum zs a (m + 1)⟩
def mgb (t:Int) (zs:List Int) (a m:Nat):Bool:=nrm (mst t zs a (m + 1))
def zmean (zs:List Int) (a m:Nat):Int:=zsum zs a (m + 1) / ((m:Int) + 1)
theorem mex_mst (t:Int) (zs:List Int) (a m:Nat):mex (mst t zs a m) (zs.getD (a + (m + 1)) 0) = mst t zs a (m + 1):=by
 show (⟨t,(m:Int) + 1 + 1,mi (zmi zs a m) (zs.getD (a + (m + 1)) 0),ma (zma zs a m) (zs.getD (a + (m + 1)) 0),zsum zs a (m + 1) + zs.getD (a + (m + 1)) 0⟩:MeS) = ⟨t,((m + 1:Nat):Int) + 1,_,_,_⟩
 rw [show ((m + 1:Nat):Int) + 1 = (m:Int) + 1 + 1 by omega]
 rfl
theorem mex_meb (t:Int) (zs:List Int) (a:Nat):meb t (zs.getD a 0) = mst t zs a 0:=by
 show (⟨t,1,_,_,_⟩:MeS) = ⟨t,((0:Nat):Int) + 1,zs.getD a 0,zs.getD a 0,0 + zs.getD (a + 0) 0⟩
 rw [Int.zero_add,Nat.add_zero]
 rfl
theorem meg_mst (t:Int) (zs:List Int) (a m:Nat):meg (mst t zs a m) (zs.getD (a + (m + 1)) 0) = mgb t zs a m:=by
 unfold meg mgb
 rw [mex_mst,show decide (0 < (mst t zs a m).n) = true from decide_eq_true (by show (0:Int) < (m:Int) + 1; omega),Bool.true_and]
def msg (zs:List Int) (a m:Nat):Int × Int:=((m:Int) + 1,i6v (zmean zs a m))
theorem mel_mst (t:Int) (zs:List Int) (a m:Nat):mel (mst t zs a m) = [msg zs a m]:=by
 unfold mel
 rw [if_neg (show ¬ (mst t zs a m).n = 0 by show ¬ (m:Int) + 1 = 0; omega)]
 rfl
def MCl (t:Int) (zs:List Int):Nat→Smps→Nat→Prop
 | a,[],e=>a = e
 | a,x :: l,e=>∃ m,x = msg zs a m∧nrm (mst t zs a m) = true∧mgb t zs a m = false∧MCl t zs (a + m + 1) l e
def MOk (t:Int) (zs:List Int):Nat→Smps→Nat→Prop
 | a,[],e=>a = e
 | a,x :: l,e=>∃ m,x = msg zs a m∧a + m + 1≤e∧nrm (mst t zs a m) = true∧(l≠[]→a + m + 1 < e∧mgb t zs a m = false)∧MOk t zs (a + m + 1) l e
theorem MCl.le {t:Int} {zs:List Int}:∀ {l:Smps} {a e:Nat},MCl t zs a l e→a≤e
 | [],a,e,h=>Nat.le_of_eq h
 | x :: l,a,e,⟨m,_,_,_,h⟩=>by have:=MCl.le h; omega
theorem MCl.snoc {t:Int} {zs:List Int} {b m:Nat} (hf:nrm (mst t zs b m) = true) (hb:mgb t zs b m = false):∀ {l:Smps} {a:Nat},MCl t zs a l b→MCl t zs a (l ++ [msg zs b m]) (b + m + 1)
 | [],a,h=>by
  have h:a = b:=h
  subst h
  exact ⟨m,rfl,hf,hb,rfl⟩
 | x :: l,a,⟨n,h1,h2,h3,h⟩=>⟨n,h1,h2,h3,MCl.snoc hf hb h⟩
theorem MCl.last {t:Int} {zs:List Int} {b m:Nat} (hf:nrm (mst t zs b m) = true):∀ {l:Smps} {a:Nat},MCl t zs a l b→MOk t zs a (l ++ [msg zs b m]) (b + m + 1)
 | [],a,h=>by
  have h:a = b:=h
  subst h
  exact ⟨m,rfl,Nat.le_refl _,hf,fun h=>absurd rfl h,rfl⟩
 | x :: l,a,⟨n,h1,h2,h3,h⟩=>⟨n,h1,by have:=h.le; omega,h2,fun _=>⟨by have:=h.le; omega,h3⟩,MCl.last hf h⟩
theorem MOk.len {t:Int} {zs:List Int}:∀ {l:Smps} {a e:Nat},MOk t zs a l e→a + l.length≤e
 | [],a,e,h=>Nat.le_of_eq h
 | x :: l,a,e,⟨m,_,_,_,_,h⟩=>by have:=MOk.len h; rw [List.length_cons]; omega
theorem zsum_bd {zs:List Int} (hz:∀ z∈zs,I64 z) (a:Nat):∀ j:Nat,-(9223372036854775808 * (j:Int))≤zsum zs a j∧zsum zs a j≤9223372036854775807 * (j:Int)
 | 0=>⟨by show _≤(0:Int); omega,by show (0:Int)≤_; omega⟩
 | j + 1=>by
  obtain ⟨h1,h2⟩:=zsum_bd hz a j
  have h3:=zget hz (a + j)
  have h4:=h3.1
  have h5:=h3.2
  have e:zsum zs a (j + 1) = zsum zs a j + zs.getD (a + j) 0:=rfl
  rw [e]
  constructor <;> omega
theorem zmean_in {zs:List Int} (hz:∀ z∈zs,I64 z) (a m:Nat):I64 (zmean zs a m):=by
 obtain ⟨h1,h2⟩:=zsum_bd hz a (m + 1)
 unfold zmean
 have e:((m + 1:Nat):Int) = (m:Int) + 1:=by omega
 rw [e] at h1 h2
 refine ⟨Int.le_ediv_of_mul_le (by omega) (by omega),?_⟩
 have:zsum zs a (m + 1) / ((m:Int) + 1) < 9223372036854775807 + 1:=Int.ediv_lt_of_lt_mul (by omega) (by omega)
 omega
theorem i6_id {z:Int} (h:I64 z):i6v z = z∧i6b z = true:=by
 have h1:=h.1
 have h2:=h.2
 have hb:i6b z = true:=decide_eq_true (p := -9223372036854775808≤z∧z≤9223372036854775807) ⟨h1,h2⟩
 exact ⟨by unfold i6v; rw [if_pos hb],hb⟩
theorem nrm_mst {t:Int} {zs:List Int} (hz:∀ z∈zs,I64 z) (a m:Nat):nrm (mst t zs a m) = (nr (zmean zs a m) (zmi zs a m) t && nr (zmean zs a m) (zma zs a m) t):=by
 obtain ⟨e1,e2⟩:=i6_id (zmean_in hz a m)
 show (i6b (zmean zs a m) && (nr (i6v (zmean zs a m)) (zmi zs a m) t && nr (i6v (zmean zs a m)) (zma zs a m) t)) = _
 rw [e1,e2,Bool.true_and]
theorem zmi_le {zs:List Int} {a:Nat}:∀ {m j:Nat},j≤m→zmi zs a m≤zs.getD (a + j) 0∧zs.getD (a + j) 0≤zma zs a m
 | 0,j,h=>by
  obtain rfl:j = 0:=by omega
  exact ⟨Int.le_refl _,Int.le_refl _⟩
 | m + 1,j,h=>by
  have e1:zmi zs a (m + 1) = mi (zmi zs a m) (zs.getD (a + (m + 1)) 0):=rfl
  have e2:zma zs a (m + 1) = ma (zma zs a m) (zs.getD (a + (m + 1)) 0):=rfl
  rw [e1,e2]
  by_cases hj:j = m + 1
  ·subst hj
   unfold mi ma
   constructor <;> split <;> omega
  ·obtain ⟨q1,q2⟩:=zmi_le (zs:=zs) (a:=a) (m:=m) (j:=j) (by omega)
   unfold mi ma
   constructor <;> split <;> omega
theorem zmi_is (zs:List Int) (a:Nat):∀ m:Nat,(∃ j,j≤m∧zs.getD (a + j) 0 = zmi zs a m)∧∃ j,j≤m∧zs.getD (a + j) 0 = zma zs a m
 | 0=>⟨⟨0,Nat.le_refl _,rfl⟩,⟨0,Nat.le_refl _,rfl⟩⟩
 | m + 1=>by
  obtain ⟨⟨j,h1,h2⟩,⟨k,h3,h4⟩⟩:=zmi_is zs a m
  have e1:zmi zs a (m + 1) = mi (zmi zs a m) (zs.getD (a + (m + 1)) 0):=rfl
  have e2:zma zs a (m + 1) = ma (zma zs a m) (zs.getD (a + (m + 1)) 0):=rfl
  rw [e1,e2]
  unfold mi ma
  constructor
  ·split
   ·exact ⟨m + 1,Nat.le_refl _,rfl⟩
   ·exact ⟨j,by omega,h2⟩
  ·split
   ·exact ⟨m + 1,Nat.le_refl _,rfl⟩
   ·exact ⟨k,by omega,h4⟩
theorem nr_iff {a b t:Int}:nr a b t = true↔a - b≤t∧b - a≤t:=by
 unfold nr ab
 rw [decide_eq_true_iff]
 split <;> omega
theorem nrm_zero {t:Int} {zs:List Int} (hz:∀ z∈zs,I64 z) (ht:0≤t) (a:Nat):nrm (mst t zs a 0) = true:=by
 rw [nrm_mst hz]
 have e:zmean zs a 0 = zs.getD a 0:=by
  unfold zmean
  show (0 + zs.getD (a + 0) 0) / ((0:Nat) + 1:Int) = _
  rw [Int.zero_add,Nat.add_zero]
  simp
 rw [e]
 have:nr (zs.getD a 0) (zs.getD a 0) t = true:=nr_iff.2 ⟨by omega,by omega⟩
 show (nr (zs.getD a 0) (zs.getD a 0) t && nr (zs.getD a 0) (zs.getD a 0) t) = true
 rw [this]
 rfl
theorem seg_near {t:Int} {zs:List Int} (hz:∀ z∈zs,I64 z) {a m j:Nat} (h:nrm (mst t zs a m) = true) (hj:j≤m):nr (zs.getD (a + j) 0) (zmean zs a m) t = true:=by
 rw [nrm_mst hz,Bool.and_eq_true] at h
 obtain ⟨h1,h2⟩:=h
 rw [nr_iff] at h1 h2 ⊢
 obtain ⟨q1,q2⟩:=zmi_le (zs:=zs) (a:=a) hj
 omega
theorem seg_far {t:Int} {zs:List Int} (hz:∀ z∈zs,I64 z) {a m:Nat} (h:nrm (mst t zs a m) = false):∃ j,j≤m∧nr (zs.getD (a + j) 0) (zmean zs a m) t = false:=by
 rw [nrm_mst hz] at h
 obtain ⟨⟨j,h1,h2⟩,⟨k,h3,h4⟩⟩:=zmi_is zs a m
 have sy:∀ x y:Int,nr x y t = nr y x t:=fun x y=>by
  rw [Bool.eq_iff_iff,nr_iff,nr_iff]
  omega
 cases h5:nr (zmean zs a m) (zmi zs a m) t
 ·exact ⟨j,h1,by rw [h2,sy]; exact h5⟩
 ·rw [h5,Bool.true_and] at h
  exact ⟨k,h3,by rw [h4,sy]; exact h⟩
theorem mej_at {t:Int} {zs:List Int} (hz:∀ z∈zs,I64 z) (ht:0≤t):∀ i,i + 1≤zs.length→∃ a m,a + m = i∧MCl t zs 0 (mef t (zs.take (i + 1))).2 a∧(mef t (zs.take (i + 1))).1 = mst t zs a m∧nrm (mst t zs a m) = true
 | 0,h=>by
  have e1:mef t (zs.take (0 + 1)) = (meb t (zs.getD 0 0),[]):=by
   rw [ztake (by omega),mef_snoc]
   rfl
  rw [e1]
  exact ⟨0,0,rfl,rfl,mex_meb t zs 0,nrm_zero hz ht 0⟩
 | i + 1,h=>by
  obtain ⟨a,m,h1,h2,h3,h4⟩:=mej_at hz ht i (by omega)
  rw [ztake (by omega),mef_snoc]
  generalize mef t (zs.take (i + 1)) = A at *
  obtain ⟨s,l⟩:=A
  dsimp only at h2 h3
  subst h3
  have hi:i + 1 = a + (m + 1):=by omega
  have hm:=meg_mst t zs a m
  rw [← hi] at hm
  show ∃ a' m',a' + m' = i + 1∧MCl t zs 0 (l ++ mee (mst t zs a m) (zs.getD (i + 1) 0)) a'∧men (mst t zs a m) (zs.getD (i + 1) 0) = mst t zs a' m'∧nrm (mst t zs a' m') = true
  cases hb:mgb t zs a m
  ·rw [hb] at hm
   refine ⟨i + 1,0,rfl,?_,?_,nrm_zero hz ht _⟩
   ·unfold mee
    rw [hm,if_neg (by decide),mel_mst,show i + 1 = a + m + 1 by omega]
    exact h2.snoc h4 hb
   ·unfold men
    rw [hm,if_neg (by decide)]
    exact mex_meb t zs (i + 1)
  ·rw [hb] at hm
   refine ⟨a,m + 1,by omega,?_,?_,hb⟩
   ·unfold mee
    rw [hm,if_pos rfl,List.append_nil]
    exact h2
   ·unfold men
    rw [hm,if_pos rfl,hi]
    exact mex_mst t zs a m
theorem meall_ok {t:Int} {zs:List Int} (hz:∀ z∈zs,I64 z) (ht:0≤t):MOk t zs 0 (meall t zs) zs.length:=by
 cases hn:zs.length with
 | zero =>
  obtain rfl:zs = []:=List.eq_nil_of_length_eq_zero hn
  rfl
 | succ i =>
  obtain ⟨a,m,h1,h2,h3,h4⟩:=mej_at (t:=t) hz ht i (by omega)
  rw [show zs.take (i + 1) = zs by rw [← hn]; exact List.take_length] at h2 h3
  have e:meall t zs = (mef t zs).2 ++ [msg zs a m]:=by
   unfold meall
   rw [h3,mel_mst]
  rw [e,← h1]
  exact h2.last h4
def nrA (zs:List Int) (a:Nat) (v t:Int):Nat→Bool
 | 0=>true
 | j + 1=>nrA zs a v t j && nr (zs.getD (a + j) 0) v t
theorem nrA_no {zs:List Int} {a:Nat} {v t:Int} {j:Nat} (h:nr (zs.getD (a + j) 0) v t = false):∀ {n:Nat},j < n→nrA zs a v t n = false
 | 0,hn=>absurd hn (Nat.not_lt_zero _)
 | n + 1,hn=>by
  show (nrA zs a v t n && nr (zs.getD (a + n) 0) v t) = false
  by_cases e:j = n
  ·rw [← e,h,Bool.and_false]
  ·rw [nrA_no h (by omega),Bool.false_and]
theorem seg_max {t:Int} {zs:List Int} (hz:∀ z∈zs,I64 z) {a m:Nat} (h:mgb t zs a m = false):nrA zs a (zmean zs a (m + 1)) t (m + 2) = false:=by
 obtain ⟨j,h1,h2⟩:=seg_far hz h
 exact nrA_no h2 (by omega)
theorem zsum_fits {zs:List Int} (hz:∀ z∈zs,I64 z) (hl:zs.length≤1073741824) (a:Nat) {j:Nat} (hj:j≤1073741825):Fits (zsum zs a j):=by
 obtain ⟨h1,h2⟩:=zsum_bd hz a j
 refine Bd.fits (k:=100) ?_
 unfold Bd ab
 have e:((2 ^ 100:Nat):Int) = 1267650600228229401496703205376:=by decide
 rw [e]
 split <;> omega
end Go.Proofs.Ytncmmbacoknefaa

/- Mo: What mean's laws share. -/
namespace Go.Proofs.Ytncmmbacoknefaa
open Go Go.RowKit Sx
set_option linter.unusedVariables false
set_option linter.unusedSimpArgs false
theorem drop_at {α:Type} (d:α) {l:List α} {i:Nat} (h:i < l.length):l.drop i = l.getD i d :: l.drop (i + 1):=by
 rw [List.drop_eq_getElem_cons h,List.getD_eq_getElem?_getD,List.getElem?_eq_getElem h]
 rfl
theorem merz_ok {t:Int} {zs:List Int} (ht:tolz t = true) (hl:zs.length≤1073741824):merz t zs = 0∧meanz t zs = meall t zs:=by
 have e:merz t zs = 0:=by unfold merz; rw [if_pos ht,if_pos hl]
 exact ⟨e,by unfold meanz; rw [if_pos e]⟩
end Go.Proofs.Ytncmmbacoknefaa

/- Sli: Slice expressions in a symbolic run. -/
namespace Go.Proofs.Ytncmmbacoknefaa
open Go Go.RowKit
set_option linter.unusedVariables false
set_option linter.unusedSimpArgs false
theorem ElT.sizeRun {P:Program} {t e:TypeId} {size bytes:Nat} (hE:ElT P t e size bytes) (W:World):P.underlying t = some (.slice (P.elem t))∧(sizeOf (P.elem t)).run P W = .ok size W:=by
 obtain ⟨ht,⟨i,z,hi,hz,hsize,hby,hzs⟩,hsz⟩:=hE
 have he:P.elem t = e:=by simp [Program.elem,ht]
 rw [he]
 refine ⟨ht,?_⟩
 simp [sizeOf,typeInfo,go_sem,hi,hsize]
def slA (a:Option Addr) (l cap s:Nat):Option Addr:=if cap = l then a else a.map (·.add (l * s))
theorem slA_0 (a:Option Addr) (cap s:Nat):slA a 0 cap s = a:=by
 unfold slA
 split
 ·rfl
 ·cases a with
  | none=>rfl
  | some a=>show some (a.add (0 * s)) = some a; rw [Nat.zero_mul,Addr.add_zero']
theorem run_slh {P:Program} {t e:TypeId} {size bytes:Nat} (hE:ElT P t e size bytes) (a:Option Addr) (len cap h:Nat) (hc:h≤cap) (W:World):(Instr.sliceAt t (.slice a len cap) none (some (.int .i64 (h:Int))) none).run P W = .ok (.slice a h cap) W:=by
 obtain ⟨h1,h2⟩:=hE.sizeRun W
 rw [run_sliceAt_slice W t _ _ _ _ h1,run_slice_h W t a len cap h1 .i64 (h:Int) (by omega) (by omega),h2]
 show Result.ok (Value.slice (slA a 0 cap size) ((h:Int).toNat - 0) (cap - 0)) W = _
 rw [slA_0,Int.toNat_natCast,Nat.sub_zero,Nat.sub_zero]
namespace Sx
variable {C:Cx} {S:St} {K:St→Prop} {d:Option Nat}
theorem genA_slh {P:Program} (hP:C.P = P) {t e:TypeId} {size bytes:Nat} (hE:ElT P t e size bytes) {a:Option Addr} {len cap:Nat} {h:Int} (n:Nat) (hn:h = (n:Int)) (hc:n≤cap) (hk:K (S.put d (.v (.slice a n cap)))):genA C (.sl t false true false) [.slice a len cap,.int .i64 h] d K S:=by
 subst hP
 subst hn
 refine genA_is _ (fun W=>?_) hk
 show (do let x ← Instr.sliceAt t (.slice a len cap) none (some (.int .i64 (n:Int))) none; pure (Next.value x)).run C.P W = _
 rw [run_bind_ok (run_slh hE a len cap n hc W)]
 rfl
end Sx
theorem take_slz {W:World} {a:Option Addr} {n cap m:Nat} {zs:List Int} (h:SlZ W .i64 (.slice a n cap) zs) (hm:m≤n):SlZ W .i64 (.slice a m cap) (zs.take m):=by
 obtain ⟨a9,l9,c9,e9,h1,h2,h3,h4,h5⟩:=h
 cases e9
 refine ⟨a,m,cap,rfl,by rw [List.length_take]; omega,by omega,h3,fun z hz=>h4 z (List.mem_of_mem_take hz),fun h0=>?_⟩
 obtain ⟨g,off,h6,h7,h8⟩:=h5 (by omega)
 refine ⟨g,off,h6,h7,fun i hi=>?_⟩
 rw [h8 i (by omega),List.getD_eq_getElem?_getD,List.getD_eq_getElem?_getD,List.getElem?_take_of_lt hi]
end Go.Proofs.Ytncmmbacoknefaa
