/- Several texts in one: SxC, SxS, SxN, CdY, WPlain, RPlain, Shelf, Wide, WideB, Slice, SxU, DvP, DvQ, DvR, CdW, RefA. -/
import Derived.IntWalk
import Derived.Test.YtncmmbacoknefaaGreatProg
import Derived.Test.YtncmmbacoknefaaGreatRows
import Derived.Shelf.Small.Bits
import Derived.Shelf.Strconv.Itoa0
import Derived.Shelf.Bits.Mul64
import Derived.WalkKit
import Derived.ProofKit
import Derived.WalkLawsBesides
import Derived.WalkSpells
import Derived.ChangeKeysEq
import Derived.Laws.Externs
import Derived.RegionTactic
import Derived.ChangeAlike
import Derived.BigRegion
import Derived.Outline
import Derived.Handy
import Derived.Deep.QuietTactic
import Derived.BigQuiet
import Derived.Deep.RegionWith
import Derived.Deep.RegionHeld3
import Derived.StillTailTactics
import Derived.Maps.AppendAt
import Derived.OwnWalk
import Derived.Laws.OwnMore
import Derived.Laws.MathBits
import Derived.Lib.BitFns
import Derived.Lib.ItoaNum
import Derived.Test.YtncmmbacoknefaaGreatRg21
set_option linter.defProp false

/- SxC: A symbolic run: code and functions. -/
namespace Go.Proofs.YtncmmbacoknefaaGreat
open Go Go.RowKit
set_option linter.unusedVariables false
set_option linter.unusedSimpArgs false
namespace Sx
inductive MC where
 | skip
 | seq (a b:MC)
 | cond (x:Operand) (a b:MC)
 | block (id:Nat) (a:MC)
 | loop (a:MC)
 | exit (id:Nat)
 | ret
 | reg (l:List G) (kp:Option (List Nat))
 | dreg (hs tl:List G) (kp:Option (List Nat))
 | creg (m nb:Bool) (hs tl:List G) (kp:Option (List Nat))
 | areg (als:List Nat) (os:List (List G)) (kp:Option (List Nat))
 | hreg (hs:List G) (tl:GT) (ks:List Nat) (kp:Option (List Nat))
abbrev Ann:=List (Nat × (Option (List Nat) × Nat × List Nat × List (Nat × Nat) × List Nat))
def compReg (P:Program) (N:Nat) (l:List Oper) (draw:Bool):Option (Option (List Nat) × Nat × List Nat × List (Nat × Nat) × List Nat)→Option MC
 | none=>match draw,compL P l.toArray N l with
  | false,some gl=>some (.reg gl none)
  | _,_=>none
 | some (kp,n,lp,sch,bi)=>match draw with
  | false=>match compL P l.toArray N l with
   | some gl=>some (.reg gl kp)
   | none=>none
  | true=>if n = 99999 then (match compA P l N with
    | some os=>some (.areg lp os kp)
    | none=>none) else if n = 99998 then (match compHr P l N lp with
    | some (hs,tl)=>some (.hreg hs tl bi kp)
    | none=>none) else if 200000≤n then (match compCr P l N (if 300000≤n then n - 300000 else n - 200000) lp sch bi with
    | some (nb,hs,tl)=>some (.creg (decide (n < 300000)) nb hs tl kp)
    | none=>none) else match compD P l N n lp sch bi with
   | some (hs,tl)=>some (.dreg hs tl kp)
   | none=>none
def compC (P:Program) (N:Nat) (ann:Ann):Code→Option MC
 | .skip=>some .skip
 | .region id l draw=>compReg P N l.toList draw (gt ann id)
 | .seq a b=>match compC P N ann a,compC P N ann b with
  | some x,some y=>some (.seq x y)
  | _,_=>none
 | .cond c a b=>match compC P N ann a,compC P N ann b with
  | some x,some y=>some (.cond c x y)
  | _,_=>none
 | .block id a=>match compC P N ann a with
  | some x=>some (.block id x)
  | none=>none
 | .loop a=>match compC P N ann a with
  | some x=>some (.loop x)
  | none=>none
 | .exit id=>some (.exit id)
 | .scope a=>compC P N ann a
 | .ret=>some .ret
 | _=>none
def extS (C:Cx) (X Y:Ext):Prop:=X = Y∨(Stab C Y∧(∀ W,X.ok W→Y.ok W)∧∀ b∈Y.bs,b∈X.bs)
structure Sub (C:Cx) (S T:St):Prop where
 n:T.n≤S.n
 E:∀ t x,gt T.E t = some x→gt S.E t = some x∧x.nm≤T.n
 H:∀ k cs,gt T.H k = some cs→gt S.H k = some cs∧k < T.n
 T:extS C S.T T.T
theorem Ok.sub {C:Cx} {A:Nat→Nat} {S T:St} {a:Act} {W:World} (h:Ok C A S a W) (s:Sub C S T):Ok C A T a W:=by
  have ht:T.T.ok W∧Stab C T.T∧∀ b∈T.T.bs,b∈S.T.bs:=by
    rcases s.T with e | ⟨h1,h2,h3⟩
    · exact ⟨e ▸ h.2.tk,e ▸ h.2.ts,fun b hb=>by rw [e]; exact hb⟩
    · exact ⟨h2 W h.2.tk,h1,h3⟩
  exact ⟨⟨h.1.df,h.1.sz,fun t x e=>h.1.sl t x (s.E t x e).1,fun t x e=>(s.E t x e).2⟩,
   ⟨h.2.bl,fun k cs e=>h.2.hb k cs (s.H k cs e).1,fun k cs e=>h.2.ge k cs (s.H k cs e).1,fun k cs e=>(s.H k cs e).2,fun k k' cs cs' e e'=>h.2.inj k k' cs cs' (s.H k cs e).1 (s.H k' cs' e').1,
    ht.1,ht.2.1,fun k cs e hb=>h.2.tn k cs (s.H k cs e).1 (ht.2.2 _ hb),fun b hb=>h.2.tb b (ht.2.2 b hb)⟩⟩
def subE (n:Nat) (E:List (Nat × SV)):List (Nat × SV)→Prop
 | []=>True
 | (t,x) :: r=>(gt E t = some x∧x.nm≤n)∧subE n E r
def subH (n:Nat) (H:List (Nat × List Value)):List (Nat × List Value)→Prop
 | []=>True
 | (k,cs) :: r=>(gt H k = some cs∧k < n)∧subH n H r
theorem subE_spec {n:Nat} {E:List (Nat × SV)}:∀ {l:List (Nat × SV)},subE n E l→∀ t x,gt l t = some x→gt E t = some x∧x.nm≤n
 | [],_,t,x,h=>by cases h
 | (u,y) :: r,hs,t,x,h=>by
  obtain ⟨h1,h2⟩:=hs
  unfold gt at h
  by_cases e:u = t
  ·subst e; rw [if_pos rfl] at h; cases h; exact h1
  ·rw [if_neg e] at h; exact subE_spec h2 t x h
theorem subH_spec {n:Nat} {H:List (Nat × List Value)}:∀ {l:List (Nat × List Value)},subH n H l→∀ t x,gt l t = some x→gt H t = some x∧t < n
 | [],_,t,x,h=>by cases h
 | (u,y) :: r,hs,t,x,h=>by
  obtain ⟨h1,h2⟩:=hs
  unfold gt at h
  by_cases e:u = t
  ·subst e; rw [if_pos rfl] at h; cases h; exact h1
  ·rw [if_neg e] at h; exact subH_spec h2 t x h
def subS (C:Cx) (S T:St):Prop:=T.n≤S.n∧subE T.n S.E T.E∧subH T.n S.H T.H∧extS C S.T T.T
theorem subS.sub {C:Cx} {S T:St} (h:subS C S T):Sub C S T:=⟨h.1,subE_spec h.2.1,subH_spec h.2.2.1,h.2.2.2⟩
def areAll (C:Cx) (T:St):List (Option St)→Prop
 | []=>True
 | some U :: r=>subS C U T∧areAll C T r
 | none :: _=>False
def areP (C:Cx) (p:St→Prop):List (Option St)→Prop
 | some T :: r=>areAll C T r∧p T
 | _=>False
def exAll (als:List Nat) (base:Nat) (S:St):List (List G)→List (Option St)
 | []=>[]
 | g :: r=>exs als base g S :: exAll als base S r
def areX (C:Cx) (als:List Nat) (os:List (List G)) (p:St→Prop) (S:St):Prop:=areP C p (exAll als S.n ⟨S.n + als.length,S.E,S.H,S.T⟩ os)
theorem exAll_mem {als:List Nat} {base:Nat} {S:St} {g:List G}:∀ {os:List (List G)},g∈os→exs als base g S∈exAll als base S os
 | [],h=>by cases h
 | k :: os,h=>by
  rcases List.mem_cons.1 h with rfl | h
  ·exact List.mem_cons_self
  ·exact List.mem_cons_of_mem _ (exAll_mem h)
theorem areAll_mem {C:Cx} {T:St} {x:Option St}:∀ {l:List (Option St)},areAll C T l→x∈l→∃ U,x = some U∧subS C U T
 | [],_,h=>by cases h
 | some U :: r,ha,h=>by
  rcases List.mem_cons.1 h with rfl | h
  ·exact ⟨U,rfl,ha.1⟩
  ·exact areAll_mem ha.2 h
 | none :: r,ha,h=>ha.elim
theorem areg_sound {C:Cx} {A:Nat→Nat} {S:St} {a:Act} {W:World} {id:Nat} {l:List Oper} {als:List Nat} {os:List (List G)} {p:St→Prop} {Q:Exit→Act→World→Prop} (hC:C.fr = none) (h1:compA C.P l C.N = some os) (h':areX C als os p S) (hok:Ok C A S a W)
  (hp:∀ A S a W,Ok C A S a W→p S→Q .normal a W):(Code.region id l.toArray true).wp C.P Q a W:=by
 unfold compA at h1
 split at h1
 ·rename_i hf
  have hok':Ok C A ⟨S.n + als.length,S.E,S.H,S.T⟩ a W.drew:=⟨⟨hok.1.df,hok.1.sz,hok.1.sl,fun t x hx=>Nat.le_add_right_of_le (hok.1.nm t x hx)⟩,
   ⟨hok.2.bl.drew,fun k cs hk=>(hok.2.hb k cs hk).drew,hok.2.ge,fun k cs hk=>Nat.lt_of_lt_of_le (hok.2.kn k cs hk) (Nat.le_add_right _ _),hok.2.inj,hok.2.drew.tk,hok.2.ts,hok.2.tn,hok.2.tb⟩⟩
  refine wp_region_draw fun t=>?_
  rw [hf]
  obtain ⟨g,hg,hg1⟩:=compAs_mem h1 _ (schedule_mem l.toArray t)
  unfold areX areP at h'
  split at h'
  ·rename_i T r hT
   have hx:=exAll_mem (als:=als) (base:=S.n) (S:=⟨S.n + als.length,S.E,S.H,S.T⟩) hg
   rw [hT] at hx
   have:∃ U,exs als S.n g ⟨S.n + als.length,S.E,S.H,S.T⟩ = some U∧(∀ A a W,Ok C A U a W→Ok C A T a W):=by
    rcases List.mem_cons.1 hx with hx | hx
    ·exact ⟨T,hx,fun A a W h=>h⟩
    ·obtain ⟨U,hU,hs⟩:=areAll_mem h'.1 hx
     exact ⟨U,hU,fun A a W h=>h.sub hs.sub⟩
   obtain ⟨U,hU,hs⟩:=this
   exact exs_sound hC (fun A' a' W' hok2=>hp A' T a' W' (hs _ _ _ hok2) h'.2) hg1 hU (Nat.le_refl _) hok'
  ·exact h'.elim
 ·cases h1
inductive LX (C:Cx) (B:(St→Prop)→St→Prop):St→Prop
 | intro (S S':St) (L:St→Prop) (hs:Sub C S S') (h:∀ T,L T→LX C B T) (hb:B L S'):LX C B S
def thenK (p:St→Prop) (K:Exit→St→Prop):Exit→St→Prop
 | .normal,S=>p S
 | e,S=>K e S
def blockK (id:Nat) (K:Exit→St→Prop):Exit→St→Prop
 | .exit i,S=>if i = id then K .normal S else K (.exit i) S
 | e,S=>K e S
def condT (t:Bool) (p q:St→Prop) (S:St):Prop:=if t then p S else q S
def condX (x:Option SV) (p q:St→Prop) (S:St):Prop :=
 match x with
 | some (.v (.bool t))=>condT t p q S
 | _=>False
def X (C:Cx):MC→(Exit→St→Prop)→St→Prop
 | .skip,K,S=>K .normal S
 | .seq a b,K,S=>X C a (thenK (X C b K) K) S
 | .cond x a b,K,S=>condX (S.ev x) (X C a K) (X C b K) S
 | .block id a,K,S=>X C a (blockK id K) S
 | .loop a,K,S=>LX C (fun L=>X C a (thenK L K)) S
 | .exit id,K,S=>K (.exit id) S
 | .ret,K,S=>K .ret S
 | .reg l kp,K,S=>Sx.ops C l (fun T=>K .normal (T.keep kp)) S
 | .dreg hs tl kp,K,S=>Sx.ops C hs (Sx.ops C tl (fun T=>K .normal (T.keep kp))) S
 | .areg als os kp,K,S=>areX C als os (fun T=>K .normal (T.keep kp)) S
 | .hreg hs tl ks kp,K,S=>hregX C hs tl ks (fun T=>K .normal (T.keep kp)) S
 | .creg m nb hs tl kp,K,S=>cregX C m nb hs tl (fun T=>K .normal (T.keep kp)) S
def okE:Exit→Bool
 | .normal=>true
 | .ret=>true
 | .exit _=>true
 | _=>false
def okQ (C:Cx) (K:Exit→St→Prop) (e:Exit) (a:Act) (W:World):Prop:=okE e = true∧∃ A S,Ok C A S a W∧K e S
theorem X_sound {C:Cx} {ann:Ann} (hC:C.fr = none):∀ {c:Code} {mc:MC},compC C.P C.N ann c = some mc→∀ {K:Exit→St→Prop} {S:St} {A:Nat→Nat} {a:Act} {W:World},X C mc K S→Ok C A S a W→c.wp C.P (okQ C K) a W
 | .skip,mc,hc,K,S,A,a,W,h,hok=>by
  cases hc
  exact wp_skip ⟨rfl,A,S,hok,h⟩
 | .region id l draw,mc,hc,K,S,A,a,W,h,hok=>by
  have hp:∀ kp,∀ A S a W,Ok C A S a W→K .normal (S.keep kp)→okQ C K .normal a W:=fun kp A S a W hok h=>⟨rfl,A,S.keep kp,⟨hok.1.keep kp,hok.2.keep kp⟩,h⟩
  have e:l = l.toList.toArray:=by simp
  unfold compC at hc
  unfold compReg at hc
  split at hc
  ·split at hc
   ·rename_i gl h1
    cases hc
    rw [e]
    exact wp_region_lit (ops_sound hC (hp none) h1 h hok)
   ·cases hc
  ·split at hc
   ·split at hc
    ·rename_i gl h1
     cases hc
     rw [e]
     exact wp_region_lit (ops_sound hC (hp _) h1 h hok)
    ·cases hc
   ·split at hc
    ·split at hc
     ·rename_i os h1
      cases hc
      rw [e]
      exact areg_sound hC h1 h hok (hp _)
     ·cases hc
    ·split at hc
     ·split at hc
      ·rename_i hs tl h1
       cases hc
       rw [e]
       exact hreg_sound hC h1 h hok (hp _) (fun c a d v w hq=>by cases hq.1)
      ·cases hc
     ·split at hc
      ·split at hc
       ·rename_i nb hs tl h1
        cases hc
        rw [e]
        exact creg_sound hC h1 h hok (hp _) (fun c a d v w hq=>by cases hq.1)
       ·cases hc
      ·split at hc
       ·rename_i hs tl h1
        cases hc
        rw [e]
        exact dreg_sound hC h1 h hok (hp _) (fun c a d v w hq=>by cases hq.1)
       ·cases hc
 | .seq x y,mc,hc,K,S,A,a,W,h,hok=>by
  unfold compC at hc
  split at hc
  ·rename_i mx my h1 h2
   cases hc
   refine wp_seq (wp_mono (X_sound hC h1 h hok) fun e a W ⟨he,A',S',hok',hK⟩=>?_)
   cases e with
   | normal=>exact X_sound hC h2 hK hok'
   | exit i=>exact ⟨he,A',S',hok',hK⟩
   | ret=>exact ⟨he,A',S',hok',hK⟩
   | _=>cases he
  ·cases hc
 | .cond x y z,mc,hc,K,S,A,a,W,h,hok=>by
  unfold compC at hc
  split at hc
  ·rename_i my mz h1 h2
   cases hc
   have h':condX (S.ev x) (X C my K) (X C mz K) S:=h
   unfold condX at h'
   split at h'
   ·rename_i t hx
    have ht:=hok.1.ev hx
    unfold condT at h'
    cases t with
    | true=>exact wp_cond_true ht (X_sound hC h1 (by simpa using h') hok)
    | false=>exact wp_cond_false ht (X_sound hC h2 (by simpa using h') hok)
   ·exact h'.elim
  ·cases hc
 | .block id x,mc,hc,K,S,A,a,W,h,hok=>by
  unfold compC at hc
  split at hc
  ·rename_i mx h1
   cases hc
   refine wp_block (wp_mono (X_sound hC h1 h hok) fun e a W ⟨he,A',S',hok',hK⟩=>?_)
   cases e with
   | normal=>exact ⟨rfl,A',S',hok',hK⟩
   | exit i =>
    have hK':(if i = id then K .normal S' else K (.exit i) S'):=hK
    show if i = id then okQ C K .normal a W else okQ C K (.exit i) a W
    by_cases e:i = id
    ·rw [if_pos e] at hK' ⊢; exact ⟨rfl,A',S',hok',hK'⟩
    ·rw [if_neg e] at hK' ⊢; exact ⟨rfl,A',S',hok',hK'⟩
   | ret=>exact ⟨he,A',S',hok',hK⟩
   | _=>cases he
  ·cases hc
 | .loop x,mc,hc,K,S,A,a,W,h,hok=>by
  unfold compC at hc
  split at hc
  ·rename_i mx h1
   cases hc
   have body:∀ L S A a W,X C mx (thenK L K) S→Ok C A S a W→x.wp C.P (okQ C (thenK L K)) a W:=fun L S A a W h hok=>X_sound hC h1 h hok
   have h':LX C (fun L=>X C mx (thenK L K)) S:=h
   intro b k cs
   have key:∀ S,LX C (fun L=>X C mx (thenK L K)) S→∀ A a W,Ok C A S a W→∃ e a' w',okQ C K e a' w'∧Arrives C.P (lone (b.at a (.code x :: .inLoop x :: k)) cs W) b k cs e a' w':=by
    intro S hS
    induction hS with
    | intro S S' L hs _ hb ih =>
     intro A a W hok
     obtain ⟨e,a₁,w₁,⟨he,A',T,hok',hK⟩,harr⟩:=body L S' A a W hb (hok.sub hs) b (.inLoop x :: k) cs
     cases e with
     | normal =>
      obtain ⟨e₂,a₂,w₂,hq₂,harr₂⟩:=ih T hK A' a₁ w₁ hok'
      exact ⟨e₂,a₂,w₂,hq₂,.of_steps (Steps.trans harr (.one step_inLoop)) harr₂⟩
     | exit id=>exact ⟨_,a₁,w₁,⟨he,A',T,hok',hK⟩,.pass (x:=.inLoop x) rfl (fun _ _=>.inl (by simp)) harr⟩
     | ret=>exact ⟨_,a₁,w₁,⟨he,A',T,hok',hK⟩,.pass (x:=.inLoop x) rfl (fun _ _=>.inl (by simp)) harr⟩
     | _=>cases he
   obtain ⟨e,a',w',hq,harr⟩:=key S h' A a W hok
   exact ⟨e,a',w',hq,.of_steps (.one step_loop) harr⟩
  ·cases hc
 | .exit id,mc,hc,K,S,A,a,W,h,hok=>by
  cases hc
  exact wp_exit ⟨rfl,A,S,hok,h⟩
 | .scope x,mc,hc,K,S,A,a,W,h,hok=>by
  unfold compC at hc
  refine wp_scope_straight (wp_mono (X_sound hC hc h hok) fun e a W hq=>?_)
  cases e <;> first | exact hq | cases hq.1
 | .ret,mc,hc,K,S,A,a,W,h,hok=>by
  cases hc
  exact wp_ret ⟨rfl,A,S,hok,h⟩
 | .rangeFunc _ _ _ _,mc,hc,K,S,A,a,W,h,hok=>by cases hc
 | .label _,mc,hc,K,S,A,a,W,h,hok=>by cases hc
 | .goto _,mc,hc,K,S,A,a,W,h,hok=>by cases hc
 | .refuse _,mc,hc,K,S,A,a,W,h,hok=>by cases hc
theorem LX_inv {C:Cx} {B:(St→Prop)→St→Prop} {α:Type} (F:α→St) (I:α→Prop) (μ:α→Nat) (round:∀ x,I x→B (fun T=>∃ y,I y∧μ y < μ x∧subS C T (F y)) (F x)) {S:St} (x:α) (hx:I x) (hs:subS C S (F x)):LX C B S:=by
 have key:∀ n x,μ x = n→I x→∀ S,subS C S (F x)→LX C B S:=by
  intro n
  induction n using Nat.strongRecOn with
  | _ n ih =>
   intro x hn hx S hs
   refine .intro S (F x) _ hs.sub (fun T ⟨y,hy,hlt,hT⟩=>ih (μ y) (hn ▸ hlt) y rfl hy T hT) (round x hx)
 exact key _ x rfl hx S hs
theorem LX_round {C:Cx} {B:(St→Prop)→St→Prop} {S:St} (hs:subS C S S) (h:B (LX C B) S):LX C B S:=.intro S S (LX C B) hs.sub (fun _ h=>h) h
abbrev Res:=List (Nat × Option (Bool × Nat))
def compR (P:Program):List ResultVar→Option Res
 | []=>some []
 | .tmp t :: l=>match compR P l with
  | some r=>some ((t,none) :: r)
  | none=>none
 | .cell t ty :: l=>match gmOf P ty,compR P l with
  | some g,some r=>some ((t,some g) :: r)
  | _,_=>none
def resH (g:Bool) (m o:Nat):Option (List Value)→Option Value
 | some cs=>match sub cs o m with
  | some l=>some (mk g l)
  | none=>none
 | none=>none
def res1 (S:St):Nat × Option (Bool × Nat)→Option Value
 | (t,none)=>match gt S.E t with
  | some (.v v)=>some v
  | _=>none
 | (t,some (g,m))=>match gt S.E t with
  | some (.p k o)=>resH g m o (gt S.H k)
  | _=>none
def resL (S:St):Res→Option (List Value)
 | []=>some []
 | r :: l=>ovcV (res1 S r) (resL S l)
where ovcV:Option Value→Option (List Value)→Option (List Value)
 | some v,some l=>some (v :: l)
 | _,_=>none
def tup:Option (List Value)→Option Value
 | some [v]=>some v
 | some l=>some (.tuple l.toArray)
 | none=>none
def fin1 (R:Value→Prop):Option Value→Prop
 | some v=>R v
 | none=>False
def fin (rs:Res) (R:Value→Prop) (S:St):Prop:=fin1 R (tup (resL S rs))
def retK (p:St→Prop):Exit→St→Prop
 | .normal,S=>p S
 | .ret,S=>p S
 | _,_=>False
def initE:List Value→Nat→List (Nat × SV)
 | [],_=>[]
 | v :: l,i=>(i,.v v) :: initE l (i + 1)
theorem gt_initE:∀ {l:List Value} {i t:Nat} {x:SV},gt (initE l i) t = some x→∃ v,x = .v v∧i≤t∧l[t - i]? = some v
 | [],i,t,x,h=>by cases h
 | v :: l,i,t,x,h=>by
  unfold initE gt at h
  by_cases e:i = t
  ·subst e
   rw [if_pos rfl] at h
   cases h
   exact ⟨v,rfl,Nat.le_refl _,by simp⟩
  ·rw [if_neg e] at h
   obtain ⟨u,hu,h1,h2⟩:=gt_initE h
   refine ⟨u,hu,by omega,?_⟩
   rw [show t - i = (t - (i + 1)) + 1 by omega,List.getElem?_cons_succ]
   exact h2
def resRun (a:Act):ResultVar→Sem Value
 | .tmp t=>pure (a.tmps.getD t undef)
 | .cell x t=>do loadVar t (← asAddr (a.tmps.getD x undef))
theorem results_eq (fn:Func) (a:Act):results fn a.tmps = (do let vs ← fn.results.mapM (resRun a); pure (if h:vs.size = 1 then vs[0] else .tuple vs)):=by
 unfold results
 congr 1
theorem run_res1 {C:Cx} {A:Nat→Nat} {S:St} {a:Act} {W:World} (hok:Ok C A S a W) {rv:ResultVar} {r:Nat × Option (Bool × Nat)} (hc:compR C.P [rv] = some [r]) {v:Value} (h:res1 S r = some v) :
  (resRun a rv).run C.P W = .ok v W:=by
 cases rv with
 | tmp t =>
  cases hc
  unfold res1 at h
  simp only at h
  split at h
  ·rename_i u hu
   cases h
   have:=hok.1.sl t _ hu
   have h2:a.tmps.getD t undef = v:=this
   rw [← h2]; rfl
  ·cases h
 | cell t ty =>
  unfold compR at hc
  cases hg:gmOf C.P ty with
  | none=>rw [hg] at hc; cases hc
  | some g =>
   obtain ⟨g,m⟩:=g
   rw [hg] at hc
   cases hc
   unfold res1 at h
   simp only at h
   split at h
   ·rename_i k o hu
    unfold resH at h
    split at h
    ·rename_i cs hcs
     split at h
     ·rename_i l hl
      cases h
      have h2:a.tmps.getD t undef = .pointer (some ⟨A k,o,none⟩):=hok.1.sl t _ hu
      show Sem.run C.P (asAddr (a.tmps.getD t undef) >>= fun x=>loadVar ty x) W = _
      rw [h2]
      exact run_ld hg (sub_get hl).1 (cell_of (hok.2.hb k cs hcs) hl)
     ·cases h
    ·cases h
   ·cases h
theorem run_resL {C:Cx} {A:Nat→Nat} {S:St} {a:Act} {W:World} (hok:Ok C A S a W):∀ {rv:List ResultVar} {rs:Res} {vs:List Value},compR C.P rv = some rs→resL S rs = some vs →
  (rv.mapM (resRun a)).run C.P W = .ok vs W
 | [],rs,vs,hc,h=>by cases hc; cases h; rfl
 | r :: rv,rs,vs,hc,h=>by
  have:∃ r1 rs1,rs = r1 :: rs1∧compR C.P [r] = some [r1]∧compR C.P rv = some rs1:=by
   cases r with
   | tmp t =>
    unfold compR at hc
    split at hc
    ·rename_i r' hr; cases hc; exact ⟨_,_,rfl,rfl,hr⟩
    ·cases hc
   | cell t ty =>
    unfold compR at hc
    split at hc
    ·rename_i g r' hg hr
     cases hc
     refine ⟨_,_,rfl,?_,hr⟩
     unfold compR
     rw [hg]
     rfl
    ·cases hc
  obtain ⟨r1,rs1,rfl,h1,h2⟩:=this
  unfold resL at h
  cases hv:res1 S r1 with
  | none=>rw [hv] at h; cases h
  | some v =>
   cases hl:resL S rs1 with
   | none=>rw [hv,hl] at h; cases h
   | some l =>
    rw [hv,hl] at h
    cases h
    rw [List.mapM_cons,run_bind_ok (run_res1 hok h1 hv),run_bind_ok (run_resL hok h2 hl)]
    rfl
theorem fin_results {C:Cx} {A:Nat→Nat} {S:St} {a:Act} {W:World} {fn:Func} {rs:Res} {R:Value→Prop} (hok:Ok C A S a W) (hc:compR C.P fn.results.toList = some rs) (h:fin rs R S):∃ v,(results fn a.tmps).run C.P W = .ok v W∧R v:=by
 unfold fin at h
 cases hl:resL S rs with
 | none=>rw [hl] at h; exact h.elim
 | some vs =>
  rw [hl] at h
  have hm:=run_resL hok hc hl
  have hm2:(fn.results.mapM (resRun a)).run C.P W = .ok vs.toArray W:=by
   rw [Array.mapM_eq_mapM_toList]
   show Sem.run C.P (_ >>= _) W = _
   rw [run_bind_ok hm]
   rfl
  refine ⟨if h:vs.toArray.size = 1 then vs.toArray[0] else .tuple vs.toArray,?_,?_⟩
  ·rw [results_eq,run_bind_ok hm2]
   rfl
  ·rcases vs with _ | ⟨v,_ | ⟨u,l⟩⟩
   ·exact h
   ·exact h
   ·have e:¬ (v :: u :: l).toArray.size = 1:=by simp
    rw [dif_neg e]
    exact h
def compF (P:Program) (fn:Func) (ann:Ann):Option (Nat × MC × Res) :=
 match fn.body with
 | some c=>match compC P fn.ntmps ann c,compR P fn.results.toList with
  | some mc,some rs=>some (fn.ntmps,mc,rs)
  | _,_=>none
 | none=>none
def finT (rs:Res) (R:Value→Ext→Prop) (S:St):Prop:=fin rs (fun v=>R v S.T) S
def cut (w:World) (g:Nat):World:={ w with heap:=w.heap.extract 0 g }
theorem cut_size {w:World} {g:Nat} (h:g≤w.heap.size):(cut w g).heap.size = g:=by
 show (w.heap.extract 0 g).size = g
 rw [Array.size_extract]; omega
theorem below_cut {w:World} {g:Nat} (h:g≤w.heap.size):Below (cut w g).heap.size (cut w g) w:=by
 refine ⟨rfl,rfl,rfl,by rw [cut_size h]; exact h,fun k hk=>?_⟩
 rw [cut_size h] at hk
 show _ = (w.heap.extract 0 g)[k]?
 rw [Array.getElem?_extract,if_pos (by omega),Nat.zero_add]
theorem enterG {P:Program} {f:FuncId} {fn:Func} {ann:Ann} {N:Nat} {mc:MC} {rs:Res} {args:List Value} {w w0:World} {T:Ext} {R:Value→Ext→Prop} (hf:P.funcs[f]? = some fn) (hc:compF P fn ann = some (N,mc,rs)) (hn:args.length≤N)
  (h0:Below w0.heap.size w0 w) (hT:T.ok w) (hs:Stab (cx P w0 N) T) (hb:∀ b∈T.bs,w0.heap.size≤b∧b < w.heap.size)
  (h:X (cx P w0 N) mc (retK (finT rs R)) ⟨0,initE args 0,[],T⟩):Calls P f args.toArray w fun e w'=>∃ v Y,e = .returned v∧R v Y∧Y.ok w'∧Below w0.heap.size w0 w'∧∀ b∈Y.bs,w0.heap.size≤b∧b < w'.heap.size:=by
 unfold compF at hc
 split at hc
 ·rename_i c hb'
  split at hc
  ·rename_i mc' rs' h1 h2
   cases hc
   refine calls_of_wp hf hb' ?_
   have hok:Ok (cx P w0 fn.ntmps) (fun _=>0) ⟨0,initE args 0,[],T⟩ { tmps:=args.toArray ++ Array.replicate (fn.ntmps - args.toArray.size) undef,defers:=[] } w:=by
    refine ⟨⟨rfl,by simp; omega,fun t x hx=>?_,fun t x hx=>?_⟩,⟨h0,fun k cs e=>(by cases e),fun k cs e=>(by cases e),fun k cs e=>(by cases e),fun k k' cs cs' e=>(by cases e),hT,hs,fun k cs e=>(by cases e),hb⟩⟩
    ·obtain ⟨v,rfl,-,hv⟩:=gt_initE hx
     show (args.toArray ++ Array.replicate (fn.ntmps - args.toArray.size) undef).getD t undef = v
     have hv':args[t]? = some v:=by simpa using hv
     have hlt:t < args.length:=by
      rcases Nat.lt_or_ge t args.length with h | h
      ·exact h
      ·rw [List.getElem?_eq_none h] at hv'; cases hv'
     rw [Array.getD_eq_getD_getElem?,Array.getElem?_append_left (by simpa using hlt),List.getElem?_toArray,hv']
     rfl
    ·obtain ⟨v,rfl,-,hv⟩:=gt_initE hx
     exact Nat.le_refl _
   refine wp_mono (X_sound (C:=(cx P w0 fn.ntmps)) rfl h1 h hok) fun e a W ⟨he,A,S,hok',hK⟩=>?_
   have done:finT rs R S→∃ v,(results fn a.tmps).run P W = .ok v W∧∃ u Y,Ending.returned v = .returned u∧R u Y∧Y.ok W∧Below w0.heap.size w0 W∧∀ b∈Y.bs,w0.heap.size≤b∧b < W.heap.size:=fun hK=>by
    obtain ⟨v,hv,hR⟩:=fin_results hok' h2 hK
    exact ⟨v,hv,v,S.T,rfl,hR,hok'.2.tk,hok'.2.bl,hok'.2.tb⟩
   cases e with
   | normal=>obtain ⟨v,hv,hr⟩:=done hK; exact ⟨hok'.1.df,v,hv,hr⟩
   | ret=>obtain ⟨v,hv,hr⟩:=done hK; exact ⟨hok'.1.df,v,hv,hr⟩
   | exit i=>exact hK.elim
   | _=>cases he
  ·cases hc
 ·cases hc
theorem enterX {P:Program} {f:FuncId} {fn:Func} {ann:Ann} {N:Nat} {mc:MC} {rs:Res} {args:List Value} {w:World} {R:Value→Ext→Prop} (hf:P.funcs[f]? = some fn) (hc:compF P fn ann = some (N,mc,rs)) (hn:args.length≤N)
  (h:X (cx P w N) mc (retK (finT rs R)) ⟨0,initE args 0,[],ext0⟩):Calls P f args.toArray w fun e w'=>∃ v Y,e = .returned v∧R v Y∧Y.ok w'∧Below w.heap.size w w'∧∀ b∈Y.bs,w.heap.size≤b∧b < w'.heap.size :=
 enterG hf hc hn (Below.refl _ _) trivial (stab0 _) (fun b hb=>by cases hb) h
theorem enter {P:Program} {f:FuncId} {fn:Func} {ann:Ann} {N:Nat} {mc:MC} {rs:Res} {args:List Value} {w:World} {R:Value→Prop} (hf:P.funcs[f]? = some fn) (hc:compF P fn ann = some (N,mc,rs)) (hn:args.length≤N)
  (h:X (cx P w N) mc (retK (fin rs R)) ⟨0,initE args 0,[],ext0⟩):Calls P f args.toArray w fun e w'=>∃ v,e = .returned v∧R v∧Below w.heap.size w w' :=
 (enterX (R:=fun v _=>R v) hf hc hn h).mono fun e w' ⟨v,Y,h1,h2,h3,h4,h5⟩=>⟨v,h1,h2,h4⟩
def kq (ts:List Nat) (p:St→Prop) (S:St):Prop:=p (S.keep (some ts))
def zW:List Value:=[.bool false,.int .u64 0,.int .u64 0,.int .u64 0,.int .u64 0]
def zR:List Value:=[.bool false,.int .u64 0,.int .u64 0,.int .u64 0,.int .u64 0,.bool false,.int .u64 0,.int .u64 0,.int .u64 0,.int .u64 0]
end Sx
namespace Sx
def cd (x:Operand) (p q:St→Prop) (S:St):Prop:=condX (S.ev x) p q S
end Sx
namespace Sx.Q
abbrev t:=Operand.tmp
abbrev i (n:Int):Operand:=.const (.int .i64 n)
abbrev u (n:Int):Operand:=.const (.int .u64 n)
abbrev bt:Operand:=.const (.bool true)
abbrev bf:Operand:=.const (.bool false)
abbrev e (d:Nat) (m:M):G:=(some d,none,m)
abbrev z (m:M):G:=(none,none,m)
abbrev y (d g:Nat) (m:M):G:=(some d,some (g,true),m)
abbrev n (d g:Nat) (m:M):G:=(some d,some (g,false),m)
abbrev m (d s:Nat):G:=(some d,none,.mv (.tmp s))
abbrev a (d k s:Nat):G:=(some d,none,.fa k (.tmp s))
abbrev l (d s:Nat):G:=(some d,none,.ld false 1 (.tmp s))
abbrev L (d m s:Nat):G:=(some d,none,.ld true m (.tmp s))
abbrev x (d s i:Nat):G:=(some d,none,.ex (.tmp s) i)
abbrev b (d:Nat) (o:BinOp) (s t:Nat):G:=(some d,none,.bin o (.tmp s) (.tmp t))
abbrev j (d k s t:Nat):G:=(some d,none,.is k (.tmp s) (.tmp t))
abbrev o (d s t:Nat):G:=(some d,none,.pick (.tmp s) (.const (.bool true)) (.tmp t))
abbrev w (d s t:Nat):G:=(some d,none,.pick (.tmp s) (.tmp t) (.const (.bool false)))
abbrev k0 (d f:Nat):G:=(some d,none,.call true f [])
abbrev k1 (d f s:Nat):G:=(some d,none,.call true f [.tmp s])
abbrev k2 (d f s t:Nat):G:=(some d,none,.call true f [.tmp s,.tmp t])
abbrev k3 (d f s t u:Nat):G:=(some d,none,.call true f [.tmp s,.tmp t,.tmp u])
abbrev k4 (d f s t u v:Nat):G:=(some d,none,.call true f [.tmp s,.tmp t,.tmp u,.tmp v])
abbrev K0 (d f:Nat):G:=(some d,none,.call false f [])
abbrev K1 (d f s:Nat):G:=(some d,none,.call false f [.tmp s])
abbrev K2 (d f s t:Nat):G:=(some d,none,.call false f [.tmp s,.tmp t])
abbrev K3 (d f s t u:Nat):G:=(some d,none,.call false f [.tmp s,.tmp t,.tmp u])
abbrev v (s t:Nat):G:=(none,none,.st false 1 (.tmp s) (.tmp t))
abbrev V (m s t:Nat):G:=(none,none,.st true m (.tmp s) (.tmp t))
abbrev br (d:Nat) (m:M) (s x:GT):GT:=.br (some d) none m s x
abbrev g (r:List G) (q:List Nat):MC:=.reg r (some q)
abbrev gd (r t:List G) (q:List Nat):MC:=.dreg r t (some q)
abbrev gh (r:List G) (t:GT) (k q:List Nat):MC:=.hreg r t k (some q)
abbrev gk (a b:Bool) (r t:List G) (q:List Nat):MC:=.creg a b r t (some q)
abbrev ga (a:List Nat) (o:List (List G)) (q:List Nat):MC:=.areg a o (some q)
abbrev ci (x:Nat) (a b:MC):MC:=.cond (.tmp x) a b
def sq:List MC→MC
 | []=>.skip
 | [a]=>a
 | a :: l=>.seq a (sq l)
abbrev P (C:Cx) (r:List G) (q:List Nat) (p:St→Prop) (S:St):Prop:=ops C r (kq q p) S
abbrev Pd (C:Cx) (r t:List G) (q:List Nat) (p:St→Prop) (S:St):Prop:=ops C r (ops C t (kq q p)) S
abbrev Ph (C:Cx) (r:List G) (t:GT) (k q:List Nat) (p:St→Prop) (S:St):Prop:=hregX C r t k (kq q p) S
abbrev Pc (C:Cx) (a b:Bool) (r t:List G) (q:List Nat) (p:St→Prop) (S:St):Prop:=cregX C a b r t (kq q p) S
abbrev Pa (C:Cx) (a:List Nat) (o:List (List G)) (q:List Nat) (p:St→Prop) (S:St):Prop:=areX C a o (kq q p) S
def kps:MC→List (List Nat)
 | .seq a b=>kps a ++ kps b
 | .cond _ a b=>kps a ++ kps b
 | .block _ a=>kps a
 | .loop a=>kps a
 | .reg _ (some q)=>[q]
 | .dreg _ _ (some q)=>[q]
 | .hreg _ _ _ (some q)=>[q]
 | .creg _ _ _ _ (some q)=>[q]
 | .areg _ _ (some q)=>[q]
 | _=>[]
def anG (l:List (Nat × (Nat × List Nat × List (Nat × Nat) × List Nat))):List Nat→List (List Nat)→Ann
 | k :: ks,q :: r=>(k,some q,(gt l k).getD (0,[],[],[])) :: anG l ks r
 | _,_=>[]
def an (ks:List Nat) (c:MC) (l:List (Nat × (Nat × List Nat × List (Nat × Nat) × List Nat))):Ann:=anG l ks (kps c)
def rg:=List.range
abbrev bi (d:Nat) (o:BinOp) (s:Nat) (n:Int):G:=(some d,none,.bin o (.tmp s) (.const (.int .i64 n)))
abbrev bu (d:Nat) (o:BinOp) (s:Nat) (n:Int):G:=(some d,none,.bin o (.tmp s) (.const (.int .u64 n)))
abbrev J (d n k s t:Nat):G:=(some d,none,.ia n k (.tmp s) (.tmp t))
abbrev Mi (d:Nat) (n:Int):G:=(some d,none,.mv (.const (.int .i64 n)))
abbrev Mb (d:Nat) (n:Bool):G:=(some d,none,.mv (.const (.bool n)))
abbrev nl (d g s:Nat):G:=(some d,some (g,false),.ld false 1 (.tmp s))
abbrev nm (d g s:Nat):G:=(some d,some (g,false),.mv (.tmp s))
abbrev na (d g k s:Nat):G:=(some d,some (g,false),.fa k (.tmp s))
abbrev yl (d g s:Nat):G:=(some d,some (g,true),.ld false 1 (.tmp s))
abbrev ym (d g s:Nat):G:=(some d,some (g,true),.mv (.tmp s))
abbrev ya (d g k s:Nat):G:=(some d,some (g,true),.fa k (.tmp s))
def up (n:Nat):List (Nat × Nat):=(List.range n).map fun i=>(i,0)
end Sx.Q
end Go.Proofs.YtncmmbacoknefaaGreat

/- SxS: A symbolic run: its rules as equations. -/
namespace Go.Proofs.YtncmmbacoknefaaGreat
open Go Go.RowKit
set_option linter.unusedVariables false
set_option linter.unusedSimpArgs false
namespace Sx
variable (C:Cx) (S:St) (n:Nat) (E:List (Nat × SV)) (H:List (Nat × List Value)) (K p q:St→Prop) (d:Option Nat) (r:List G) (t u w:Nat) (x y z:Operand) (a b:Int) (k k':IntKind) (v v':Value) (T:Ext)
theorem s_ops0:Sx.ops C [] p S = p S:=rfl
theorem s_ops (g:Option (Nat × Bool)) (m:M):Sx.ops C ((d,g,m) :: r) p S = gdX g C m d (Sx.ops C r p) S:=rfl
theorem s_gd0 (m:M):gdX none C m d K S = run1 C m d K S:=rfl
theorem s_gd1 (b:Bool) (m:M):gdX (some (t,b)) C m d K ⟨n,E,H,T⟩ = gdS (gt E t) b C m d K ⟨n,E,H,T⟩:=rfl
theorem s_gds (b c:Bool) (m:M):gdS (some (.v (.bool c))) b C m d K S = gdT c b C m d K S:=rfl
theorem s_gdu (b:Bool) (m:M):gdS (some (.v undef)) b C m d K S = K (S.put d (.v undef)):=rfl
theorem s_gtt (m:M):gdT true true C m d K S = run1 C m d K S:=rfl
theorem s_gff (m:M):gdT false false C m d K S = run1 C m d K S:=rfl
theorem s_gtf (m:M):gdT true false C m d K S = K (S.put d (.v undef)):=rfl
theorem s_gft (m:M):gdT false true C m d K S = K (S.put d (.v undef)):=rfl
theorem s_gnot (c e:Bool) (m:M):gdT (!c) e C m d K S = gdT c (!e) C m d K S:=by cases c <;> cases e <;> rfl
theorem s_mv:run1 C (.mv x) d K S = pX (sv1 (S.ev x)) d K S:=rfl
theorem s_pick:run1 C (.pick x y z) d K S = pX (pickS (S.ev y) (S.ev z) (S.ev x)) d K S:=rfl
theorem s_newr (zs:List Value):run1 C (.new zs) d K S = K (S.new d zs):=rfl
theorem s_box (g:Bool) (m:Nat):run1 C (.box g m x) d K S = boxX (cellsO g (S.ev x)) d K S:=rfl
theorem s_ld (g:Bool) (m:Nat):run1 C (.ld g m x) d K S = ldX C g m (S.ev x) d K S:=rfl
theorem s_st (g:Bool) (m:Nat):run1 C (.st g m x y) d K S = stX C m (S.ev x) (cellsO g (S.ev y)) K S:=rfl
theorem s_gen (b:Bool) (q:GK) (l:List Operand):run1 C (.gen b q l) d K S = genX C b q (evs S l) d K S:=rfl
theorem s_gent (q:GK) (l:List Value):genX C true q (some l) d K S = genK C q l d K S:=rfl
theorem s_genf (q:GK) (l:List Value):genX C false q (some l) d K S = genA C q l d K S:=rfl
theorem s_stq (a:Addr):stX C 1 (some (.v (.pointer (some a)))) (some [v]) K S = stP C a v K S:=rfl
theorem s_stq2 (a:Addr) (m:Nat) (vs:List Value) (h:lenB vs (m + 2) = true):stX C (m + 2) (some (.v (.pointer (some a)))) (some vs) K S = stL C a vs K S:=by
 show (lenB vs (m + 2) = true∧stL C a vs K S) = _
 rw [h]
 exact propext ⟨fun h=>h.2,fun h=>⟨rfl,h⟩⟩
theorem s_nc:run1 C (.nc x) d K S = pX (ncS (S.ev x)) d K S:=rfl
theorem s_ncp (j o:Nat):ncS (some (.p j o)) = some (True,.p j o):=rfl
theorem s_ncq (a:Addr):ncS (some (.v (.pointer (some a)))) = some (True,.v (.pointer (some a))):=rfl
theorem s_fa (o:Nat):run1 C (.fa o x) d K S = pX (faS o (S.ev x)) d K S:=rfl
theorem s_ia (l s:Nat):run1 C (.ia l s x y) d K S = pX (iaS l s (S.ev x) (S.ev y)) d K S:=rfl
theorem s_is (s:Nat):run1 C (.is s x y) d K S = pX (isS s (S.ev x) (S.ev y)) d K S:=rfl
theorem s_fd (g:Bool) (m o:Nat):run1 C (.fd g m o x) d K S = pX (val1 (fdS g m o (S.ev x))) d K S:=rfl
theorem s_ix (l:Nat) (g:Bool) (m:Nat):run1 C (.ix l g m x y) d K S = pX (val1 (ixS l g m (S.ev x) (S.ev y))) d K S:=rfl
theorem s_bin (o:BinOp):run1 C (.bin o x y) d K S = pX (val1 (binS o (S.ev x) (S.ev y))) d K S:=rfl
theorem s_bq (g:Bool):run1 C (.bq g x y) d K S = pX (val1 (bqS g (S.ev x) (S.ev y))) d K S:=rfl
theorem s_eqg (g:Bool) (ty:TypeId):run1 C (.eqg g ty x y) d K S = eqX C g ty x y (S.ev x) (S.ev y) d K S:=rfl
theorem s_un (o:UnOp):run1 C (.un o x) d K S = pX (val1 (unS o (S.ev x))) d K S:=rfl
theorem s_cv:run1 C (.cv k x) d K S = pX (val1 (cvS k (S.ev x))) d K S:=rfl
theorem s_ex (i:Nat):run1 C (.ex x i) d K S = pX (val1 (exS i (S.ev x))) d K S:=rfl
theorem s_len (b:Bool):run1 C (.len b x) d K S = pX (val1 (lenS b (S.ev x))) d K S:=rfl
theorem s_mm (b:Bool):run1 C (.mm b x y) d K S = pX (val1 (mmS b (S.ev x) (S.ev y))) d K S:=rfl
theorem s_call (b:Bool) (f:FuncId) (l:List Operand):run1 C (.call b f l) d K S = callX C b f (evs S l) d K S:=rfl
theorem s_bd (zs:List Value) (ps:List (Nat × Nat × Operand)):run1 C (.bd zs ps) d K S = pX (val1 (bdR (bdS S ps zs))) d K S:=rfl
theorem s_bdS0 (cs:List Value):bdS S [] cs = some cs:=rfl
theorem s_bdS (o m:Nat) (ps:List (Nat × Nat × Operand)) (cs:List Value):bdS S ((o,m,x) :: ps) cs = bd1 m o cs (bdS S ps) (cellsV (S.ev x)):=rfl
theorem s_bd1 (o m:Nat) (cs vs:List Value) (f:List Value→Option (List Value)):bd1 m o cs f (some vs) = bd2 (lenB vs m) o cs vs f:=rfl
def bd3 (f:List Value→Option (List Value)):Option (List Value)→Option (List Value)
 | some cs=>f cs
 | none=>none
theorem s_bd2 (o:Nat) (cs vs:List Value) (f:List Value→Option (List Value)):bd2 true o cs vs f = bd3 f (ovrO cs o vs):=by
 unfold bd2 bd3
 cases ovrO cs o vs <;> rfl
theorem s_bd3 (cs:List Value) (f:List Value→Option (List Value)):bd3 f (some cs) = f cs:=rfl
theorem s_bdR (cs:List Value):bdR (some cs) = some (True,.agg cs.toArray):=rfl
theorem s_cva (cs:List Value):cellsV (some (.v (.agg cs.toArray))) = some cs:=rfl
theorem s_cvb (b:Bool):cellsV (some (.v (.bool b))) = some [.bool b]:=rfl
theorem s_cvi:cellsV (some (.v (.int k a))) = some [.int k a]:=rfl
theorem s_cvs (a:Option Addr) (l c:Nat):cellsV (some (.v (.slice a l c))) = some [.slice a l c]:=rfl
theorem s_trap:run1 C .trap d K S = False:=rfl
theorem s_pXc {c:Prop} (s:SV) (h:c):pX (some (c,s)) d K S = K (S.put d s):=by show (c∧_) = _; rw [eq_true h,true_and]
theorem s_pX1 (s:SV):pX (some (True,s)) d K S = K (S.put d s):=by show (True∧_) = _; rw [true_and]
theorem s_sv1 (s:SV):sv1 (some s) = some (True,s):=rfl
theorem s_val1 (c:Prop):val1 (some (c,v)) = some (c,.v v):=rfl
theorem s_tr:tr (some v) = some (True,v):=rfl
theorem s_pickt (f g:Option SV):pickS f g (some (.v (.bool true))) = sv1 f:=rfl
theorem s_pickf (f g:Option SV):pickS f g (some (.v (.bool false))) = sv1 g:=rfl
theorem s_pickd1 {P:Prop} [Decidable P] (f g:Option SV) (h:P):pickS f g (some (.v (.bool (decide P)))) = sv1 f:=by rw [decide_eq_true h]; rfl
theorem s_pickd2 {P:Prop} [Decidable P] (f g:Option SV) (h:¬ P):pickS f g (some (.v (.bool (decide P)))) = sv1 g:=by rw [decide_eq_false h]; rfl
theorem s_boxX (cs:List Value):boxX (some cs) d K S = K (S.new d cs):=rfl
theorem s_ldp (g:Bool) (m j o:Nat):ldX C g m (some (.p j o)) d K ⟨n,E,H,T⟩ = ldH g m o (gt H j) d K ⟨n,E,H,T⟩:=rfl
theorem s_ldq (g:Bool) (m:Nat) (a:Addr):ldX C g m (some (.v (.pointer (some a)))) d K S = ldP C g m a d K S:=rfl
theorem s_ldH (g:Bool) (m o:Nat) (cs:List Value):ldH g m o (some cs) d K S = ldS g (Sx.sub cs o m) d K S:=rfl
theorem s_ldS (g:Bool) (l:List Value):ldS g (some l) d K S = K (S.put d (.v (mk g l))):=rfl
theorem s_mkt (l:List Value):mk true l = .agg l.toArray:=rfl
theorem s_mkf:mk false [v] = v:=rfl
theorem s_sub00 (l:List Value):Sx.sub l 0 0 = some []:=by cases l <;> rfl
theorem s_sub0 (l:List Value) (m:Nat):Sx.sub (v :: l) 0 (m + 1) = Sx.sub.subc v (Sx.sub l 0 m):=rfl
theorem s_sub1 (l:List Value) (o m:Nat):Sx.sub (v :: l) (o + 1) m = Sx.sub l o m:=by cases m <;> rfl
theorem s_subc (l:List Value):Sx.sub.subc v (some l) = some (v :: l):=rfl
theorem s_stX (m j o:Nat) (vs:Option (List Value)):stX C m (some (.p j o)) vs K ⟨n,E,H,T⟩ = stH m j o (gt H j) vs K ⟨n,E,H,T⟩:=rfl
theorem s_stH (m j o:Nat) (cs vs:List Value):stH m j o (some cs) (some vs) K S = stF (lenB vs m && all1 vs) j (ovrO cs o vs) K S:=rfl
theorem s_stF (j:Nat) (cs:List Value):stF true j (some cs) K ⟨n,E,H,T⟩ = K ⟨n,E,pt H j cs,T⟩:=rfl
theorem s_lenB0:lenB [] 0 = true:=rfl
theorem s_lenB (l:List Value) (m:Nat):lenB (v :: l) (m + 1) = lenB l m:=rfl
theorem s_all0:all1 [] = true:=rfl
theorem s_all (l:List Value):all1 (v :: l) = (one v && all1 l):=rfl
theorem s_oneb (b:Bool):one (.bool b) = true:=rfl
theorem s_onei:one (.int k a) = true:=rfl
theorem s_ones (s:ByteArray):one (.string s) = true:=rfl
theorem s_onep (a:Option Addr):one (.pointer a) = true:=rfl
theorem s_onel (a:Option Addr) (l c:Nat):one (.slice a l c) = true:=rfl
theorem s_onef (f:Fn) (l c:Array Value):one (.func f l c) = true:=rfl
theorem s_onen:one .nilFunc = true:=rfl
theorem s_and1:(true && true) = true:=rfl
theorem s_ovr0 (l:List Value):ovrO l 0 [] = some l:=by cases l <;> rfl
theorem s_ovr1 (c:Value) (l vs:List Value):ovrO (c :: l) 0 (v :: vs) = ovc v (ovrO l 0 vs):=rfl
theorem s_ovr2 (c:Value) (l vs:List Value) (o:Nat):ovrO (c :: l) (o + 1) vs = ovc c (ovrO l o vs):=by cases vs <;> rfl
theorem s_ovc (l:List Value):ovc v (some l) = some (v :: l):=rfl
theorem s_cellst (cs:List Value):cellsO true (some (.v (.agg cs.toArray))) = some cs:=rfl
theorem s_cellsb (b:Bool):cellsO false (some (.v (.bool b))) = some [.bool b]:=rfl
theorem s_cellsi:cellsO false (some (.v (.int k a))) = some [.int k a]:=rfl
theorem s_cellsf:one v = true→cellsO false (some (.v v)) = some [v]:=fun h=>by show (if one v = true then _ else _) = _; rw [if_pos h]
theorem s_evs0:evs S [] = some []:=rfl
theorem s_evs (l:List Operand):evs S (x :: l) = evc (S.ev x) (evs S l):=rfl
theorem s_evc (l:List Value):evc (some (.v v)) (some l) = some (v :: l):=rfl
theorem s_eqX (g:Bool) (ty:TypeId):eqX C g ty x y (some (.v v)) (some (.v v')) d K S = eqC C g ty x y v v' d K S:=rfl
theorem s_fap (o j i:Nat):faS o (some (.p j i)) = some (True,.p j (i + o)):=rfl
theorem s_faq (o g i:Nat):faS o (some (.v (.pointer (some ⟨g,i,none⟩)))) = some (True,.v (.pointer (some ⟨g,i + o,none⟩))):=rfl
theorem s_iaS (l s j o:Nat):iaS l s (some (.p j o)) (some (.v (.int k a))) = some (0≤a∧a < l,.p j (o + a.toNat * s)):=rfl
theorem s_isS (s g o l c:Nat):isS s (some (.v (.slice (some ⟨g,o,none⟩) l c))) (some (.v (.int k a))) = some (0≤a∧a < l,.v (.pointer (some ⟨g,o + a.toNat * s,none⟩))):=rfl
theorem s_fdS (g:Bool) (m o:Nat) (cs:List Value):fdS g m o (some (.v (.agg cs.toArray))) = tr ((Sx.sub cs o m).map (mk g)):=rfl
theorem s_map (g:Bool) (l:List Value):(some l).map (mk g) = some (mk g l):=rfl
theorem s_ixS (l:Nat) (g:Bool) (m:Nat) (cs:List Value):ixS l g m (some (.v (.agg cs.toArray))) (some (.v (.int k a))) = ixC l a (Sx.sub cs (a.toNat * m) m) g:=rfl
theorem s_ixC (l:Nat) (g:Bool) (cs:List Value):ixC l a (some cs) g = some (0≤a∧a < l,mk g cs):=rfl
theorem s_add:binS .add (some (.v (.int k a))) (some (.v (.int k b))) = some (True,.int k (k.wrap (a + b))):=by show (if k = k then _ else _) = _; rw [if_pos rfl]; rfl
theorem s_sub:binS .sub (some (.v (.int k a))) (some (.v (.int k b))) = some (True,.int k (k.wrap (a - b))):=by show (if k = k then _ else _) = _; rw [if_pos rfl]; rfl
theorem s_mul:binS .mul (some (.v (.int k a))) (some (.v (.int k b))) = some (True,.int k (k.wrap (a * b))):=by show (if k = k then _ else _) = _; rw [if_pos rfl]; rfl
theorem s_quo:binS .quo (some (.v (.int k a))) (some (.v (.int k b))) = some (b≠0,.int k (k.wrap (a.tdiv b))):=by show (if k = k then _ else _) = _; rw [if_pos rfl]; rfl
theorem s_rem:binS .rem (some (.v (.int k a))) (some (.v (.int k b))) = some (b≠0,.int k (a.tmod b)):=by show (if k = k then _ else _) = _; rw [if_pos rfl]; rfl
theorem s_band:binS .and (some (.v (.int k a))) (some (.v (.int k b))) = some (True,.int k (k.wrap (BitVec.ofInt k.bits a &&& BitVec.ofInt k.bits b).toNat)):=by show (if k = k then _ else _) = _; rw [if_pos rfl]; rfl
theorem s_bor:binS .or (some (.v (.int k a))) (some (.v (.int k b))) = some (True,.int k (k.wrap (BitVec.ofInt k.bits a ||| BitVec.ofInt k.bits b).toNat)):=by show (if k = k then _ else _) = _; rw [if_pos rfl]; rfl
theorem s_bxor:binS .xor (some (.v (.int k a))) (some (.v (.int k b))) = some (True,.int k (k.wrap (BitVec.ofInt k.bits a ^^^ BitVec.ofInt k.bits b).toNat)):=by show (if k = k then _ else _) = _; rw [if_pos rfl]; rfl
theorem s_eql:binS .eql (some (.v (.int k a))) (some (.v (.int k b))) = some (True,.bool (a == b)):=by show (if k = k then _ else _) = _; rw [if_pos rfl]; rfl
theorem s_neq:binS .neq (some (.v (.int k a))) (some (.v (.int k b))) = some (True,.bool (!(a == b))):=by show (if k = k then _ else _) = _; rw [if_pos rfl]; rfl
theorem s_lss:binS .lss (some (.v (.int k a))) (some (.v (.int k b))) = some (True,.bool (decide (a < b))):=by show (if k = k then _ else _) = _; rw [if_pos rfl]; rfl
theorem s_leq:binS .leq (some (.v (.int k a))) (some (.v (.int k b))) = some (True,.bool (decide (a≤b))):=by show (if k = k then _ else _) = _; rw [if_pos rfl]; rfl
theorem s_gtr:binS .gtr (some (.v (.int k a))) (some (.v (.int k b))) = some (True,.bool (decide (b < a))):=by show (if k = k then _ else _) = _; rw [if_pos rfl]; rfl
theorem s_geq:binS .geq (some (.v (.int k a))) (some (.v (.int k b))) = some (True,.bool (decide (b≤a))):=by show (if k = k then _ else _) = _; rw [if_pos rfl]; rfl
theorem s_shl:binS .shl (some (.v (.int k a))) (some (.v (.int k' b))) = some (¬ b < 0,.int k (k.wrap (a * 2 ^ (min b.toNat k.bits)))):=rfl
theorem s_shr:binS .shr (some (.v (.int k a))) (some (.v (.int k' b))) = some (¬ b < 0,.int k (a.fdiv (2 ^ (min b.toNat k.bits)))):=rfl
theorem s_bq0 (c e:Bool):bqS false (some (.v (.bool c))) (some (.v (.bool e))) = some (True,.bool (c == e)):=rfl
theorem s_bq1 (c e:Bool):bqS true (some (.v (.bool c))) (some (.v (.bool e))) = some (True,.bool (!(c == e))):=rfl
theorem s_not (c:Bool):unS .not (some (.v (.bool c))) = some (True,.bool (!c)):=rfl
theorem s_adds (a b:ByteArray):binS .add (some (.v (.string a))) (some (.v (.string b))) = some (¬ ((a.size + b.size:Nat):Int) > IntKind.i64.max,.string (a ++ b)):=rfl
theorem s_eqls (a b:ByteArray):binS .eql (some (.v (.string a))) (some (.v (.string b))) = some (True,.bool (a.toList == b.toList)):=rfl
theorem s_neg:unS .neg (some (.v (.int k a))) = some (True,.int k (k.wrap (0 - a))):=rfl
theorem s_cvS:cvS k (some (.v (.int k' a))) = some (True,.int k (k.wrap a)):=rfl
theorem s_exS (i:Nat) (l:List Value):exS i (some (.v (.tuple l.toArray))) = tr (nth l i):=rfl
theorem s_nth0 (l:List Value):nth (v :: l) 0 = some v:=rfl
theorem s_nth1 (l:List Value) (i:Nat):nth (v :: l) (i + 1) = nth l i:=rfl
theorem s_lens (g:Option Addr) (l c:Nat):lenS false (some (.v (.slice g l c))) = some (True,.int .i64 l):=rfl
theorem s_lent (s:ByteArray):lenS true (some (.v (.string s))) = some (True,.int .i64 s.size):=rfl
theorem s_min:mmS false (some (.v (.int k a))) (some (.v (.int k' b))) = some (True,.int k (if b < a then b else a)):=rfl
theorem s_max:mmS true (some (.v (.int k a))) (some (.v (.int k' b))) = some (True,.int k (if a < b then b else a)):=rfl
theorem s_gt0 {α:Type}:gt ([]:List (Nat × α)) t = none:=rfl
theorem s_gt {α:Type} (e:α) (l:List (Nat × α)):gt ((t,e) :: l) u = if t = u then some e else gt l u:=rfl
theorem s_pt0 {α:Type} (e:α):pt ([]:List (Nat × α)) t e = [(t,e)]:=rfl
theorem s_pt {α:Type} (e f:α) (l:List (Nat × α)):pt ((t,e) :: l) u f = if t = u then (u,f) :: l else (t,e) :: pt l u f:=rfl
theorem s_kp0 {α:Type} (l:List (Nat × α)):kpE l [] = []:=rfl
theorem s_kp {α:Type} (l:List (Nat × α)) (ts:List Nat):kpE l (t :: ts) = kpE.kpA t (gt l t) (kpE l ts):=rfl
theorem s_kps {α:Type} (e:α) (l:List (Nat × α)):kpE.kpA t (some e) l = (t,e) :: l:=rfl
theorem s_kpn {α:Type} (l:List (Nat × α)):kpE.kpA t none l = l:=rfl
theorem s_put (s:SV):St.put ⟨n,E,H,T⟩ (some t) s = ⟨n,pt E t s,H,T⟩:=rfl
theorem s_putn (s:SV):St.put S none s = S:=rfl
theorem s_evt:St.ev ⟨n,E,H,T⟩ (.tmp t) = gt E t:=rfl
theorem s_evk:St.ev S (.const v) = some (.v v):=rfl
theorem s_keep (ts:List Nat):St.keep ⟨n,E,H,T⟩ (some ts) = St.keep.keepB n (kpE E ts) H T:=rfl
theorem s_kq (ts:List Nat):kq ts p S = p (S.keep (some ts)):=rfl
theorem s_zW:zW = [.bool false,.int .u64 0,.int .u64 0,.int .u64 0,.int .u64 0]:=rfl
theorem s_zR:zR = [.bool false,.int .u64 0,.int .u64 0,.int .u64 0,.int .u64 0,.bool false,.int .u64 0,.int .u64 0,.int .u64 0,.int .u64 0]:=rfl
theorem s_keepB:St.keep.keepB n E H T = ⟨n,E,kpH (nms E) H,T⟩:=rfl
theorem s_nms0:nms [] = []:=rfl
theorem s_nmsv:nms ((t,.v v) :: E) = nms E:=rfl
theorem s_nmsp (j o:Nat):nms ((t,.p j o) :: E) = j :: nms E:=rfl
theorem s_elb0:elb t [] = false:=rfl
theorem s_elb (l:List Nat):elb t (u :: l) = if u = t then true else elb t l:=rfl
theorem s_kpH0 (ns:List Nat):kpH ns [] = []:=rfl
theorem s_kpH (ns:List Nat) (cs:List Value):kpH ns ((t,cs) :: H) = if elb t ns = true then (t,cs) :: kpH ns H else kpH ns H:=rfl
theorem s_new (zs:List Value):St.new ⟨n,E,H,T⟩ (some t) zs = ⟨n + 1,pt E t (.p n 0),(n,zs) :: H,T⟩:=rfl
theorem s_creg (nb:Bool) (hs tl:List G):cregX C true nb hs tl p ⟨n,E,H,T⟩ = Sx.ops (C.dr true T) hs (chk nb T.bs (Sx.ops C tl p)) ⟨n,E,H,T⟩:=rfl
theorem s_hreg (hs:List G) (tl:GT) (ks:List Nat):hregX C hs tl ks p ⟨n,E,H,T⟩ = hregL C hs tl p (kpH (nms (kpE E ks)) H) ⟨n,E,H,T⟩:=rfl
theorem s_hregL (hs:List G) (tl:GT) (H':List (Nat × List Value)):hregL C hs tl p H' ⟨n,E,H,T⟩ = Sx.ops C hs (fun T'=>treeH C n H' tl p ⟨n,T'.E,H,T⟩) ⟨n,E,H',ext0⟩:=rfl
theorem s_tree0:treeH C n H .fin p S = p S:=rfl
theorem s_tree1 (g:Option (Nat × Bool)) (m:M) (s:GT):treeH C n H (.br d g m s .no) p S = gdX g C m d (fun T=>holdH n T.H H∧treeH C n H s p T) S:=and_true _
theorem s_tree2 (d':Option Nat) (g g':Option (Nat × Bool)) (m m':M) (s s' nx:GT):treeH C n H (.br d g m s (.br d' g' m' s' nx)) p S = (gdX g C m d (fun T=>holdH n T.H H∧treeH C n H s p T) S∧treeH C n H (.br d' g' m' s' nx) p S):=rfl
theorem s_holdH0:holdH n H [] = True:=rfl
theorem s_holdH (cs:List Value) (l:List (Nat × List Value)):holdH n H ((t,cs) :: l) = ((gt H t = some cs∧t < n)∧holdH n H l):=rfl
theorem s_chk0 (l:List Nat):chk false l p S = p S:=rfl
theorem s_areX (als:List Nat) (os:List (List G)):areX C als os p ⟨n,E,H,T⟩ = areP C p (exAll als n ⟨n + als.length,E,H,T⟩ os):=rfl
theorem s_exAll0 (als:List Nat):exAll als n S [] = []:=rfl
theorem s_exAll (als:List Nat) (g:List G) (os:List (List G)):exAll als n S (g :: os) = exs als n g S :: exAll als n S os:=rfl
theorem s_areP (T:St) (l:List (Option St)):areP C p (some T :: l) = (areAll C T l∧p T):=rfl
theorem s_areAll0 (T:St):areAll C T [] = True:=rfl
theorem s_areAll (T U:St) (l:List (Option St)):areAll C T (some U :: l) = (subS C U T∧areAll C T l):=rfl
theorem s_exs0 (als:List Nat):exs als n [] S = some S:=rfl
theorem s_exs (als:List Nat) (m:M):exs als n ((d,none,m) :: r) S = (ex1 als n d S m).bind (exs als n r):=rfl
theorem s_bind (T:St) (f:St→Option St):(some T).bind f = f T:=rfl
theorem s_exmv (als:List Nat):ex1 als n d S (.mv x) = exV d S (S.ev x):=rfl
theorem s_exfa (als:List Nat) (o:Nat):ex1 als n d S (.fa o x) = exC d S (faS o (S.ev x)):=rfl
theorem s_exld (als:List Nat) (g:Bool) (m:Nat):ex1 als n d S (.ld g m x) = exL g m d S (S.ev x):=rfl
theorem s_exst (als:List Nat) (g:Bool) (m:Nat):ex1 als n d S (.st g m x y) = exS1 m S (cellsO g (S.ev y)) (S.ev x):=rfl
theorem s_exnew (als:List Nat) (zs:List Value):ex1 als n (some t) S (.new zs) = exNewP n (posn t als) t zs S:=rfl
theorem s_exV (s:SV):exV d S (some s) = some (S.put d s):=rfl
theorem s_exC (c:Prop) (s:SV):exC d S (some (c,s)) = some (S.put d s):=rfl
theorem s_exL (g:Bool) (m j o:Nat):exL g m d ⟨n,E,H,T⟩ (some (.p j o)) = exL2 g m o d ⟨n,E,H,T⟩ (gt H j):=rfl
theorem s_exL2 (g:Bool) (m o:Nat) (cs:List Value):exL2 g m o d S (some cs) = exL1 g d S (Sx.sub cs o m):=rfl
theorem s_exL1 (g:Bool) (cs:List Value):exL1 g d S (some cs) = some (S.put d (.v (mk g cs))):=rfl
theorem s_exS1 (m j o:Nat) (vs:Option (List Value)):exS1 m ⟨n,E,H,T⟩ vs (some (.p j o)) = exS2 m j o ⟨n,E,H,T⟩ (gt H j) vs:=rfl
theorem s_exS2 (m j o:Nat) (cs vs:List Value):exS2 m j o S (some cs) (some vs) = exS3 j S (lenB vs m && all1 vs) (ovrO cs o vs):=rfl
theorem s_exS3 (j:Nat) (cs:List Value):exS3 j ⟨n,E,H,T⟩ true (some cs) = some ⟨n,E,pt H j cs,T⟩:=rfl
theorem s_exNewP (j:Nat) (zs:List Value):exNewP n (some j) t zs ⟨u,E,H,T⟩ = exNew (!elb (n + j) (nms E) && isN (gt H (n + j))) (n + j) t zs ⟨u,E,H,T⟩:=rfl
theorem s_exNew (zs:List Value):exNew true w t zs ⟨u,E,H,T⟩ = some ⟨u,pt E t (.p w 0),(w,zs) :: H,T⟩:=rfl
theorem s_posn (l:List Nat):posn t (u :: l) = if u = t then some 0 else posn.pos1 (posn t l):=rfl
theorem s_pos1 (j:Nat):posn.pos1 (some j) = some (j + 1):=rfl
theorem s_isN0 {α:Type}:isN (none:Option α) = true:=rfl
theorem s_subS (T':Ext) (u:Nat) (E':List (Nat × SV)) (H':List (Nat × List Value)):subS C ⟨n,E,H,T⟩ ⟨u,E',H',T'⟩ = (u≤n∧subE u E E'∧subH u H H'∧extS C T T'):=rfl
theorem s_ext:extS C T T = True:=eq_true (.inl rfl)
theorem s_subE0:subE n E [] = True:=rfl
theorem s_subE (s:SV) (l:List (Nat × SV)):subE n E ((t,s) :: l) = ((gt E t = some s∧s.nm≤n)∧subE n E l):=rfl
theorem s_subH0:subH n H [] = True:=rfl
theorem s_subH (cs:List Value) (l:List (Nat × List Value)):subH n H ((t,cs) :: l) = ((gt H t = some cs∧t < n)∧subH n H l):=rfl
theorem s_nmv:((SV.v v).nm≤n) = True:=eq_true (Nat.zero_le _)
theorem s_nmp (j o:Nat):((SV.p j o).nm≤n) = (j + 1≤n):=rfl
theorem s_some {α:Type} (e f:α):(some e = some f) = (e = f):=by rw [Option.some.injEq]
theorem s_svv:(SV.v v = SV.v v') = (v = v'):=by rw [SV.v.injEq]
theorem s_svp (i o j o':Nat):(SV.p i o = SV.p j o') = (i = j∧o = o'):=by rw [SV.p.injEq]
theorem s_condX (c:Bool):condX (some (.v (.bool c))) p q S = condT c p q S:=rfl
theorem s_cd:cd x p q ⟨n,E,H,T⟩ = condX (St.ev ⟨n,E,H,T⟩ x) p q ⟨n,E,H,T⟩:=rfl
theorem s_ct:condT true p q S = p S:=rfl
theorem s_cf:condT false p q S = q S:=rfl
theorem s_cnot (c:Bool):condT (!c) p q S = condT c q p S:=by cases c <;> rfl
theorem s_fin (rs:Res) (R:Value→Prop):fin rs R S = fin1 R (tup (resL S rs)):=rfl
theorem s_finT (rs:Res) (R:Value→Ext→Prop):finT rs R ⟨n,E,H,T⟩ = fin rs (fun v=>R v T) ⟨n,E,H,T⟩:=rfl
theorem s_fin1 (R:Value→Prop):fin1 R (some v) = R v:=rfl
theorem s_tup1:tup (some [v]) = some v:=rfl
theorem s_tup2 (l:List Value):tup (some (v :: v' :: l)) = some (.tuple (v :: v' :: l).toArray):=rfl
theorem s_tup0:tup (some []) = some (.tuple #[]):=rfl
theorem s_resL0:resL S [] = some []:=rfl
theorem s_resL (g:Nat × Option (Bool × Nat)) (l:Res):resL S (g :: l) = resL.ovcV (res1 S g) (resL S l):=rfl
theorem s_ovcV (l:List Value):resL.ovcV (some v) (some l) = some (v :: l):=rfl
def res1t:Option SV→Option Value
 | some (.v v)=>some v
 | _=>none
def res1c (H:List (Nat × List Value)) (g:Bool) (m:Nat):Option SV→Option Value
 | some (.p k o)=>resH g m o (gt H k)
 | _=>none
theorem s_res1:res1 ⟨n,E,H,T⟩ (t,none) = res1t (gt E t):=by
 unfold res1 res1t
 (try simp only)
 (try (cases gt E t with
  | none=>rfl
  | some s=>cases s <;> rfl))
theorem s_res1t:res1t (some (.v v)) = some v:=rfl
theorem s_res2 (g:Bool) (m:Nat):res1 ⟨n,E,H,T⟩ (t,some (g,m)) = res1c H g m (gt E t):=by
 unfold res1 res1c
 (try simp only)
 (try (cases gt E t with
  | none=>rfl
  | some s=>cases s <;> rfl))
theorem s_res2c (g:Bool) (m j o:Nat):res1c H g m (some (.p j o)) = resH g m o (gt H j):=rfl
def resH1 (g:Bool):Option (List Value)→Option Value
 | some l=>some (mk g l)
 | none=>none
theorem s_resH (g:Bool) (m o:Nat) (cs:List Value):resH g m o (some cs) = resH1 g (Sx.sub cs o m):=by
 unfold resH resH1
 (try simp only)
 (try (cases Sx.sub cs o m <;> rfl))
theorem s_resH1 (g:Bool) (l:List Value):resH1 g (some l) = some (mk g l):=rfl
theorem s_initE0 (i:Nat):initE [] i = []:=rfl
theorem s_initE (l:List Value) (i:Nat):initE (v :: l) i = (i,.v v) :: initE l (i + 1):=rfl
theorem s_tdiv (h:0≤a):a.tdiv b = a / b:=Int.tdiv_eq_ediv_of_nonneg h
theorem s_tmod (h:0≤a):a.tmod b = a % b:=Int.tmod_eq_emod_of_nonneg h
theorem s_bits:IntKind.u64.bits = 64:=rfl
theorem s_bits2:IntKind.i64.bits = 64:=rfl
theorem s_minl {i j:Nat} (h:i≤j):min i j = i:=Nat.min_eq_left h
theorem s_minr {i j:Nat} (h:j≤i):min i j = j:=Nat.min_eq_right h
theorem s_wi (h1 : -9223372036854775808≤a) (h2:a≤9223372036854775807):IntKind.i64.wrap a = a:=IntWalk.i64_in a ⟨h1,h2⟩
theorem s_wu (h1:0≤a) (h2:a≤18446744073709551615):IntKind.u64.wrap a = a:=IntWalk.u64_in a ⟨h1,h2⟩
theorem s_yes {P:Prop} [Decidable P] (h:P):condT (decide P) p q S = p S:=by rw [decide_eq_true h]; rfl
theorem s_no {P:Prop} [Decidable P] (h:¬ P):condT (decide P) p q S = q S:=by rw [decide_eq_false h]; rfl
theorem s_eqy (h:a = b):condT (a == b) p q S = p S:=by rw [beq_iff_eq.2 h]; rfl
theorem s_eqn (h:a≠b):condT (a == b) p q S = q S:=by rw [beq_eq_false_iff_ne.2 h]; rfl
theorem s_gyes {P:Prop} [Decidable P] (h:P) (m:M) (e:Bool):gdT (decide P) e C m d K S = gdT true e C m d K S:=by rw [decide_eq_true h]
theorem s_gno {P:Prop} [Decidable P] (h:¬ P) (m:M) (e:Bool):gdT (decide P) e C m d K S = gdT false e C m d K S:=by rw [decide_eq_false h]
theorem s_geqy (h:a = b) (m:M) (e:Bool):gdT (a == b) e C m d K S = gdT true e C m d K S:=by rw [beq_iff_eq.2 h]
theorem s_geqn (h:a≠b) (m:M) (e:Bool):gdT (a == b) e C m d K S = gdT false e C m d K S:=by rw [beq_eq_false_iff_ne.2 h]
set_option maxRecDepth 20000 in
theorem sxE:type_of% @s_ops0 ∧
 type_of% @s_ops ∧
 type_of% @s_gd0 ∧
 type_of% @s_gd1 ∧
 type_of% @s_gds ∧
 type_of% @s_gdu ∧
 type_of% @s_gtt ∧
 type_of% @s_gff ∧
 type_of% @s_gtf ∧
 type_of% @s_gft ∧
 type_of% @s_gnot ∧
 type_of% @s_mv ∧
 type_of% @s_pick ∧
 type_of% @s_newr ∧
 type_of% @s_box ∧
 type_of% @s_ld ∧
 type_of% @s_st ∧
 type_of% @s_gen ∧
 type_of% @s_gent ∧
 type_of% @s_genf ∧
 type_of% @s_stq ∧
 type_of% @s_stq2 ∧
 type_of% @s_nc ∧
 type_of% @s_ncp ∧
 type_of% @s_ncq ∧
 type_of% @s_fa ∧
 type_of% @s_ia ∧
 type_of% @s_is ∧
 type_of% @s_fd ∧
 type_of% @s_ix ∧
 type_of% @s_bin ∧
 type_of% @s_bq ∧
 type_of% @s_eqg ∧
 type_of% @s_un ∧
 type_of% @s_cv ∧
 type_of% @s_ex ∧
 type_of% @s_len ∧
 type_of% @s_mm ∧
 type_of% @s_call ∧
 type_of% @s_bd ∧
 type_of% @s_bdS0 ∧
 type_of% @s_bdS ∧
 type_of% @s_bd1 ∧
 type_of% @s_bd2 ∧
 type_of% @s_bd3 ∧
 type_of% @s_bdR ∧
 type_of% @s_cva ∧
 type_of% @s_cvb ∧
 type_of% @s_cvi ∧
 type_of% @s_cvs ∧
 type_of% @s_trap ∧
 type_of% @s_pXc ∧
 type_of% @s_pX1 ∧
 type_of% @s_sv1 ∧
 type_of% @s_val1 ∧
 type_of% @s_tr ∧
 type_of% @s_pickt ∧
 type_of% @s_pickf ∧
 type_of% @s_pickd1 ∧
 type_of% @s_pickd2 ∧
 type_of% @s_boxX ∧
 type_of% @s_ldp ∧
 type_of% @s_ldq ∧
 type_of% @s_ldH ∧
 type_of% @s_ldS ∧
 type_of% @s_mkt ∧
 type_of% @s_mkf ∧
 type_of% @s_sub00 ∧
 type_of% @s_sub0 ∧
 type_of% @s_sub1 ∧
 type_of% @s_subc ∧
 type_of% @s_stX ∧
 type_of% @s_stH ∧
 type_of% @s_stF ∧
 type_of% @s_lenB0 ∧
 type_of% @s_lenB ∧
 type_of% @s_all0 ∧
 type_of% @s_all ∧
 type_of% @s_oneb ∧
 type_of% @s_onei ∧
 type_of% @s_ones ∧
 type_of% @s_onep ∧
 type_of% @s_onel ∧
 type_of% @s_onef ∧
 type_of% @s_onen ∧
 type_of% @s_and1 ∧
 type_of% @s_ovr0 ∧
 type_of% @s_ovr1 ∧
 type_of% @s_ovr2 ∧
 type_of% @s_ovc ∧
 type_of% @s_cellst ∧
 type_of% @s_cellsb ∧
 type_of% @s_cellsi ∧
 type_of% @s_cellsf ∧
 type_of% @s_evs0 ∧
 type_of% @s_evs ∧
 type_of% @s_evc ∧
 type_of% @s_eqX ∧
 type_of% @s_fap ∧
 type_of% @s_faq ∧
 type_of% @s_iaS ∧
 type_of% @s_isS ∧
 type_of% @s_fdS ∧
 type_of% @s_map ∧
 type_of% @s_ixS ∧
 type_of% @s_ixC ∧
 type_of% @s_add ∧
 type_of% @s_sub ∧
 type_of% @s_mul ∧
 type_of% @s_quo ∧
 type_of% @s_rem ∧
 type_of% @s_band ∧
 type_of% @s_bor ∧
 type_of% @s_bxor ∧
 type_of% @s_eql ∧
 type_of% @s_neq ∧
 type_of% @s_lss ∧
 type_of% @s_leq ∧
 type_of% @s_gtr ∧
 type_of% @s_geq ∧
 type_of% @s_shl ∧
 type_of% @s_shr ∧
 type_of% @s_bq0 ∧
 type_of% @s_bq1 ∧
 type_of% @s_not ∧
 type_of% @s_adds ∧
 type_of% @s_eqls ∧
 type_of% @s_neg ∧
 type_of% @s_cvS ∧
 type_of% @s_exS ∧
 type_of% @s_nth0 ∧
 type_of% @s_nth1 ∧
 type_of% @s_lens ∧
 type_of% @s_lent ∧
 type_of% @s_min ∧
 type_of% @s_max ∧
 type_of% @s_gt0 ∧
 type_of% @s_gt ∧
 type_of% @s_pt0 ∧
 type_of% @s_pt ∧
 type_of% @s_kp0 ∧
 type_of% @s_kp ∧
 type_of% @s_kps ∧
 type_of% @s_kpn ∧
 type_of% @s_put ∧
 type_of% @s_putn ∧
 type_of% @s_evt ∧
 type_of% @s_evk ∧
 type_of% @s_keep ∧
 type_of% @s_kq ∧
 type_of% @s_zW ∧
 type_of% @s_zR ∧
 type_of% @s_keepB ∧
 type_of% @s_nms0 ∧
 type_of% @s_nmsv ∧
 type_of% @s_nmsp ∧
 type_of% @s_elb0 ∧
 type_of% @s_elb ∧
 type_of% @s_kpH0 ∧
 type_of% @s_kpH ∧
 type_of% @s_new ∧
 type_of% @s_creg ∧
 type_of% @s_hreg ∧
 type_of% @s_hregL ∧
 type_of% @s_tree0 ∧
 type_of% @s_tree1 ∧
 type_of% @s_tree2 ∧
 type_of% @s_holdH0 ∧
 type_of% @s_holdH ∧
 type_of% @s_chk0 ∧
 type_of% @s_areX ∧
 type_of% @s_exAll0 ∧
 type_of% @s_exAll ∧
 type_of% @s_areP ∧
 type_of% @s_areAll0 ∧
 type_of% @s_areAll ∧
 type_of% @s_exs0 ∧
 type_of% @s_exs ∧
 type_of% @s_bind ∧
 type_of% @s_exmv ∧
 type_of% @s_exfa ∧
 type_of% @s_exld ∧
 type_of% @s_exst ∧
 type_of% @s_exnew ∧
 type_of% @s_exV ∧
 type_of% @s_exC ∧
 type_of% @s_exL ∧
 type_of% @s_exL2 ∧
 type_of% @s_exL1 ∧
 type_of% @s_exS1 ∧
 type_of% @s_exS2 ∧
 type_of% @s_exS3 ∧
 type_of% @s_exNewP ∧
 type_of% @s_exNew ∧
 type_of% @s_posn ∧
 type_of% @s_pos1 ∧
 type_of% @s_isN0 ∧
 type_of% @s_subS ∧
 type_of% @s_ext ∧
 type_of% @s_subE0 ∧
 type_of% @s_subE ∧
 type_of% @s_subH0 ∧
 type_of% @s_subH ∧
 type_of% @s_nmv ∧
 type_of% @s_nmp ∧
 type_of% @s_some ∧
 type_of% @s_svv ∧
 type_of% @s_svp ∧
 type_of% @s_condX ∧
 type_of% @s_cd ∧
 type_of% @s_ct ∧
 type_of% @s_cf ∧
 type_of% @s_cnot ∧
 type_of% @s_fin ∧
 type_of% @s_finT ∧
 type_of% @s_fin1 ∧
 type_of% @s_tup1 ∧
 type_of% @s_tup2 ∧
 type_of% @s_tup0 ∧
 type_of% @s_resL0 ∧
 type_of% @s_resL ∧
 type_of% @s_ovcV ∧
 type_of% @s_res1 ∧
 type_of% @s_res1t ∧
 type_of% @s_res2 ∧
 type_of% @s_res2c ∧
 type_of% @s_resH ∧
 type_of% @s_resH1 ∧
 type_of% @s_initE0 ∧
 type_of% @s_initE ∧
 type_of% @s_tdiv ∧
 type_of% @s_tmod ∧
 type_of% @s_bits ∧
 type_of% @s_bits2 ∧
 type_of% @s_minl ∧
 type_of% @s_minr ∧
 type_of% @s_wi ∧
 type_of% @s_wu ∧
 type_of% @s_yes ∧
 type_of% @s_no ∧
 type_of% @s_eqy ∧
 type_of% @s_eqn ∧
 type_of% @s_gyes ∧
 type_of% @s_gno ∧
 type_of% @s_geqy ∧
 type_of% @s_geqn ∧
 type_of% @decide_true ∧
 type_of% @decide_false ∧
 type_of% @true_and ∧
 type_of% @and_true ∧
 type_of% @not_false_eq_true ∧
 type_of% @not_true_eq_false ∧
 type_of% @Bool.not_true ∧
 type_of% @Bool.not_false ∧
 type_of% @Bool.not_not ∧
 type_of% @Int.cast_ofNat_Int ∧
 type_of% @Int.toNat_natCast ∧
 type_of% @and_self ∧
 type_of% @Nat.le_refl ∧
 type_of% @Bool.false_eq_true :=
 ⟨@s_ops0,@s_ops,@s_gd0,@s_gd1,@s_gds,@s_gdu,@s_gtt,@s_gff,@s_gtf,@s_gft,@s_gnot,@s_mv,@s_pick,@s_newr,@s_box,@s_ld,@s_st,@s_gen,@s_gent,@s_genf,@s_stq,@s_stq2,@s_nc,@s_ncp,@s_ncq,@s_fa,@s_ia,@s_is,@s_fd,@s_ix,@s_bin,@s_bq,@s_eqg,@s_un,@s_cv,@s_ex,@s_len,@s_mm,@s_call,@s_bd,@s_bdS0,@s_bdS,@s_bd1,@s_bd2,@s_bd3,@s_bdR,@s_cva,@s_cvb,@s_cvi,@s_cvs,@s_trap,@s_pXc,@s_pX1,@s_sv1,@s_val1,@s_tr,@s_pickt,@s_pickf,@s_pickd1,@s_pickd2,@s_boxX,@s_ldp,@s_ldq,@s_ldH,@s_ldS,@s_mkt,@s_mkf,@s_sub00,@s_sub0,@s_sub1,@s_subc,@s_stX,@s_stH,@s_stF,@s_lenB0,@s_lenB,@s_all0,@s_all,@s_oneb,@s_onei,@s_ones,@s_onep,@s_onel,@s_onef,@s_onen,@s_and1,@s_ovr0,@s_ovr1,@s_ovr2,@s_ovc,@s_cellst,@s_cellsb,@s_cellsi,@s_cellsf,@s_evs0,@s_evs,@s_evc,@s_eqX,@s_fap,@s_faq,@s_iaS,@s_isS,@s_fdS,@s_map,@s_ixS,@s_ixC,@s_add,@s_sub,@s_mul,@s_quo,@s_rem,@s_band,@s_bor,@s_bxor,@s_eql,@s_neq,@s_lss,@s_leq,@s_gtr,@s_geq,@s_shl,@s_shr,@s_bq0,@s_bq1,@s_not,@s_adds,@s_eqls,@s_neg,@s_cvS,@s_exS,@s_nth0,@s_nth1,@s_lens,@s_lent,@s_min,@s_max,@s_gt0,@s_gt,@s_pt0,@s_pt,@s_kp0,@s_kp,@s_kps,@s_kpn,@s_put,@s_putn,@s_evt,@s_evk,@s_keep,@s_kq,@s_zW,@s_zR,@s_keepB,@s_nms0,@s_nmsv,@s_nmsp,@s_elb0,@s_elb,@s_kpH0,@s_kpH,@s_new,@s_creg,@s_hreg,@s_hregL,@s_tree0,@s_tree1,@s_tree2,@s_holdH0,@s_holdH,@s_chk0,@s_areX,@s_exAll0,@s_exAll,@s_areP,@s_areAll0,@s_areAll,@s_exs0,@s_exs,@s_bind,@s_exmv,@s_exfa,@s_exld,@s_exst,@s_exnew,@s_exV,@s_exC,@s_exL,@s_exL2,@s_exL1,@s_exS1,@s_exS2,@s_exS3,@s_exNewP,@s_exNew,@s_posn,@s_pos1,@s_isN0,@s_subS,@s_ext,@s_subE0,@s_subE,@s_subH0,@s_subH,@s_nmv,@s_nmp,@s_some,@s_svv,@s_svp,@s_condX,@s_cd,@s_ct,@s_cf,@s_cnot,@s_fin,@s_finT,@s_fin1,@s_tup1,@s_tup2,@s_tup0,@s_resL0,@s_resL,@s_ovcV,@s_res1,@s_res1t,@s_res2,@s_res2c,@s_resH,@s_resH1,@s_initE0,@s_initE,@s_tdiv,@s_tmod,@s_bits,@s_bits2,@s_minl,@s_minr,@s_wi,@s_wu,@s_yes,@s_no,@s_eqy,@s_eqn,@s_gyes,@s_gno,@s_geqy,@s_geqn,@decide_true,@decide_false,@true_and,@and_true,@not_false_eq_true,@not_true_eq_false,@Bool.not_true,@Bool.not_false,@Bool.not_not,@Int.cast_ofNat_Int,@Int.toNat_natCast,@and_self,@Nat.le_refl,@Bool.false_eq_true⟩
variable {C S K p q d}
theorem en_of {P:Program} {f:FuncId} {fn:Func} (hf:P.funcs[f]? = some fn) (hb:fn.body.isNone = false) (hn:(fn.name == "runtime.NumGoroutine") = false) (l:Array Value) (W:World):(callFunc f l).run P W = .ok (.enter f l) W:=by
 have h1:¬ fn.name = "runtime.NumGoroutine" := by simpa using hn
 have h2:¬ fn.body = none:=fun e=>by rw [e] at hb; cases hb
 unfold callFunc
 simp [go_sem,hf,h1,h2]
theorem gives_calls {P:Program} {f:FuncId} {l:List Value} {W:World} {R:Value→Prop} (he:∀ (l:Array Value) W,(callFunc f l).run P W = .ok (.enter f l) W) (h:Calls P f l.toArray W fun e w'=>∃ v,e = .returned v∧R v∧Below W.heap.size W w'):Gives P f l W R:=by
 refine ⟨?_⟩
 rw [he]
 exact Calls.mono h fun e w' ⟨v,h1,h2,h3⟩=>⟨v,h1,h2,gt_below h3 _⟩
theorem gives_known {P:Program} {f:FuncId} {l:List Value} {W:World} {v:Value} (he:∀ (l:Array Value) W,(callFunc f l).run P W = .ok (.enter f l) W) (h:Calls P f l.toArray W fun e w'=>e = .returned v∧Below W.heap.size W w'):Gives P f l W (· = v) :=
 gives_calls he (h.mono fun e w' ⟨h1,h2⟩=>⟨v,h1,rfl,h2⟩)
theorem moves_gt {bs:List Nat} {W W':World} {row:Option Nat} (g:W.grownBy W' row) (h:∀ r,row = some r→r∈bs):Moves bs W W' :=
 ⟨g.os,g.tape,g.output,g.size,fun i hi hb=>g.block i hi fun e=>hb (h i e.symm)⟩
theorem asks_of {f:FuncId} {l:List Value} {R:Value→Prop} (h:∀ A W,HpOk C A S W→Gives C.P f l W R) (hk:∀ v,R v→K (S.put d (.v v))):asks C f l d K S :=
 ⟨{v // R v},Subtype.val,fun _=>S.T,fun A W hw=>⟨stepIs_mono (h A W hw).out fun u W' ⟨hu,hg⟩=>⟨⟨u,hu⟩,rfl,moves_gt hg (fun r e=>by cases e),(hw.grow hg).tk,hw.ts,fun b hb=>⟨.inl hb,((hw.grow hg).tb b hb).2⟩⟩⟩,fun i=>hk i.1 i.2⟩
theorem givesT_calls {f:FuncId} {l:List Value} {W:World} {ι:Type} {v:ι→Value} {X:ι→Ext} (he:∀ (l:Array Value) W,(callFunc f l).run C.P W = .ok (.enter f l) W) (hst:∀ i,Stab C (X i))
  (h:Calls C.P f l.toArray W fun e w'=>∃ i,e = .returned (v i)∧Moves (C.mv S) W w'∧(X i).ok w'∧∀ b∈(X i).bs,(b∈S.T.bs∨W.heap.size≤b)∧b < w'.heap.size):GivesT C S f l W ι v X:=by
 refine ⟨?_⟩
 rw [he]
 exact Calls.mono h fun e w' ⟨i,h1,h2,h3,h4⟩=>⟨v i,h1,i,rfl,h2,h3,hst i,h4⟩
theorem asks_T {f:FuncId} {l:List Value} {ι:Type} (v:ι→Value) (X:ι→Ext) (h:∀ W,Below C.w0.heap.size C.w0 W→S.T.ok W→(∀ b∈S.T.bs,C.w0.heap.size≤b∧b < W.heap.size)→GivesT C S f l W ι v X) (hk:∀ i,K (St.put ⟨S.n,S.E,S.H,X i⟩ d (.v (v i)))):asks C f l d K S :=
 ⟨ι,v,X,fun _ W hw=>h W hw.bl hw.tk hw.tb,hk⟩
theorem asks_ext {f:FuncId} {l:List Value} {v:Value} (h:∀ W,Below C.w0.heap.size C.w0 W→S.T.ok W→Gives C.P f l W (· = v)) (hk:K (S.put d (.v v))):asks C f l d K S :=
 asks_of (fun _ W hw=>h W hw.bl hw.tk) fun u hu=>by subst hu; exact hk
theorem genA_is {q:GK} {l:List Value} (v:Value) (h:∀ W,(genRun q l).run C.P W = .ok (.value v) W) (hk:K (S.put d (.v v))):genA C q l d K S :=
 ⟨Unit,fun _=>v,fun _=>S.T,fun A W hw=>⟨by rw [h W]; exact ⟨(),rfl,⟨rfl,rfl,rfl,Nat.le_refl _,fun _ _ _=>rfl⟩,hw.tk,hw.ts,fun b hb=>⟨.inl hb,(hw.tb b hb).2⟩⟩⟩,fun _=>hk⟩
theorem genA_T {q:GK} {l:List Value} {ι:Type} (v:ι→Value) (X:ι→Ext) (h:∀ W,Below C.w0.heap.size C.w0 W→S.T.ok W→(∀ b∈S.T.bs,C.w0.heap.size≤b∧b < W.heap.size)→GivesG C S q l W ι v X) (hk:∀ i,K (St.put ⟨S.n,S.E,S.H,X i⟩ d (.v (v i)))):genA C q l d K S :=
 ⟨ι,v,X,fun _ W hw=>h W hw.bl hw.tk hw.tb,hk⟩
theorem stP_is {p:Addr} {v:Value} (X:Ext) (h:∀ W,Below C.w0.heap.size C.w0 W→S.T.ok W→p.block∈S.T.bs∧(∃ x,W.cell? p = some x)∧W.frozen? p = false∧X.ok (W.setCell p v)) (hs:Stab C X) (hb:∀ b∈X.bs,b∈S.T.bs) (ho:one v = true) (hk:K ⟨S.n,S.E,S.H,X⟩):stP C p v K S :=
 ⟨X,fun _ W hw=>h W hw.bl hw.tk,hs,hb,ho,hk⟩
theorem ldP_ext {g:Bool} {m:Nat} {a:Addr} (cs:List Value) (hl:cs.length = m) (h:∀ W,Below C.w0.heap.size C.w0 W→(C.kn S).T.ok W→∀ j v,cs[j]? = some v→W.cell? (a.add j) = some v) (hk:K (S.put d (.v (mk g cs)))):ldP C g m a d K S:=⟨cs,hl,fun _ W hw=>h W hw.bl hw.tk,hk⟩
theorem asks_at {f:FuncId} {l:List Value} {v:Value} (h:∀ W,Below C.w0.heap.size C.w0 W→Gives C.P f l W (· = v)) (hk:K (S.put d (.v v))):asks C f l d K S:=asks_of (fun _ W hw=>h W hw.bl) fun u hu=>by subst hu; exact hk
theorem known_at {f:FuncId} {l:List Value} {v:Value} (h:∀ W,Below C.w0.heap.size C.w0 W→Gives C.P f l W (· = v)) (hk:K (S.put d (.v v))):knownV C f l d K S:=⟨v,fun _ W hw=>h W hw.bl,hk⟩
theorem call_at {b:Bool} {f:FuncId} {l:List Value} {v:Value} (h:∀ W,Below C.w0.heap.size C.w0 W→Gives C.P f l W (· = v)) (hk:K (S.put d (.v v))):callX C b f (some l) d K S:=by
 cases b
 ·exact asks_at h hk
 ·exact known_at h hk
theorem cond_of {t:Bool} (h1:t = true→p S) (h2:t = false→q S):condT t p q S:=by cases t; exact h2 rfl; exact h1 rfl
theorem cond_dec {P:Prop} [Decidable P] (h1:P→p S) (h2:¬ P→q S):condT (decide P) p q S:=by
 by_cases h:P
 ·rw [decide_eq_true h]; exact h1 h
 ·rw [decide_eq_false h]; exact h2 h
theorem cond_beq {a b:Int} (h1:a = b→p S) (h2:a≠b→q S):condT (a == b) p q S:=cond_of (fun h=>h1 (beq_iff_eq.1 h)) (fun h=>h2 (beq_eq_false_iff_ne.1 h))
theorem gd_dec {P:Prop} [Decidable P] {m:M} {w:Bool} (h1:P→gdT true w C m d K S) (h2:¬ P→gdT false w C m d K S):gdT (decide P) w C m d K S:=by
 by_cases h:P
 ·rw [decide_eq_true h]; exact h1 h
 ·rw [decide_eq_false h]; exact h2 h
theorem gd_beq {a b:Int} {m:M} {w:Bool} (h1:a = b→gdT true w C m d K S) (h2:a≠b→gdT false w C m d K S):gdT (a == b) w C m d K S:=by
 by_cases h:a = b
 ·rw [beq_iff_eq.2 h]; exact h1 h
 ·rw [beq_eq_false_iff_ne.2 h]; exact h2 h
theorem gd_of {m:M} {t w:Bool} (h1:t = true→gdT true w C m d K S) (h2:t = false→gdT false w C m d K S):gdT t w C m d K S:=by cases t; exact h2 rfl; exact h1 rfl
theorem eq_is {g:Bool} {ty:TypeId} {x y:Operand} {v v':Value} {b:Bool} (h:∀ W,((do eqGuard (if g then .neq else .eql) ty x y v v'; binOp (if g then .neq else .eql) ty v v'):Sem Value).run C.P W = .ok (.bool b) W) (hk:K (S.put d (.v (.bool b)))):eqC C g ty x y v v' d K S:=⟨b,h,hk⟩
theorem ldP_is {g:Bool} {m:Nat} {a:Addr} (cs:List Value) (hl:cs.length = m) (h:∀ W,Below C.w0.heap.size C.w0 W→∀ j v,cs[j]? = some v→W.cell? (a.add j) = some v) (hk:K (S.put d (.v (mk g cs)))):ldP C g m a d K S:=⟨cs,hl,fun _ W hw=>h W hw.bl,hk⟩
theorem ldP_one {a:Addr} {v:Value} (h:∀ W,Below C.w0.heap.size C.w0 W→W.cell? a = some v) (hk:K (S.put d (.v v))):ldP C false 1 a d K S :=
 ldP_is [v] rfl (fun W hw j u hj=>by
  rcases j with _ | j
  ·rw [Addr.add_zero']; cases hj; exact h W hw
  ·cases hj) hk
theorem known_of {P:Program} {f:FuncId} {args:Array Value} {w:World} {v:Value} (h:Calls P f args w fun e w'=>∃ u,e = .returned u∧u = v∧Below w.heap.size w w'):Calls P f args w fun e w'=>e = .returned v∧Below w.heap.size w w' :=
 h.mono fun e w' ⟨u,h1,h2,h3⟩=>⟨h2 ▸ h1,h3⟩
end Sx
end Go.Proofs.YtncmmbacoknefaaGreat

/- SxN: MADE BY PROGRAM (sxen.py): a call of a function that has a body enters it. -/
namespace Go.Proofs.YtncmmbacoknefaaGreat
open Go Go.RowKit
theorem en_m_New (l:Array Value) (W:World):(callFunc 15 l).run Tryz.prog W = .ok (.enter 15 l) W:=Sx.en_of Tryz.func15 (by kernel_rfl) (by kernel_rfl) l W
theorem en_m_Tape__Samples (l:Array Value) (W:World):(callFunc 16 l).run Tryz.prog W = .ok (.enter 16 l) W:=Sx.en_of Tryz.func16 (by kernel_rfl) (by kernel_rfl) l W
theorem en_m_Tape__Tolerance (l:Array Value) (W:World):(callFunc 17 l).run Tryz.prog W = .ok (.enter 17 l) W:=Sx.en_of Tryz.func17 (by kernel_rfl) (by kernel_rfl) l W
theorem en_r12_Times (l:Array Value) (W:World):(callFunc 19 l).run Tryz.prog W = .ok (.enter 19 l) W:=Sx.en_of Tryz.func19 (by kernel_rfl) (by kernel_rfl) l W
theorem en_m_Tape__Next (l:Array Value) (W:World):(callFunc 20 l).run Tryz.prog W = .ok (.enter 20 l) W:=Sx.en_of Tryz.func20 (by kernel_rfl) (by kernel_rfl) l W
theorem en_m_Tape__Ratio (l:Array Value) (W:World):(callFunc 21 l).run Tryz.prog W = .ok (.enter 21 l) W:=Sx.en_of Tryz.func21 (by kernel_rfl) (by kernel_rfl) l W
theorem en_r10_Same (l:Array Value) (W:World):(callFunc 25 l).run Tryz.prog W = .ok (.enter 25 l) W:=Sx.en_of Tryz.func25 (by kernel_rfl) (by kernel_rfl) l W
theorem en_w20_known (l:Array Value) (W:World):(callFunc 26 l).run Tryz.prog W = .ok (.enter 26 l) W:=Sx.en_of Tryz.func26 (by kernel_rfl) (by kernel_rfl) l W
theorem en_rebuild_Constants (l:Array Value) (W:World):(callFunc 29 l).run Tryz.prog W = .ok (.enter 29 l) W:=Sx.en_of Tryz.func29 (by kernel_rfl) (by kernel_rfl) l W
theorem en_r19_All (l:Array Value) (W:World):(callFunc 31 l).run Tryz.prog W = .ok (.enter 31 l) W:=Sx.en_of Tryz.func31 (by kernel_rfl) (by kernel_rfl) l W
theorem en_w20_groups (l:Array Value) (W:World):(callFunc 32 l).run Tryz.prog W = .ok (.enter 32 l) W:=Sx.en_of Tryz.func32 (by kernel_rfl) (by kernel_rfl) l W
theorem en_rebuild_Groups (l:Array Value) (W:World):(callFunc 33 l).run Tryz.prog W = .ok (.enter 33 l) W:=Sx.en_of Tryz.func33 (by kernel_rfl) (by kernel_rfl) l W
theorem en_r20_Groups (l:Array Value) (W:World):(callFunc 34 l).run Tryz.prog W = .ok (.enter 34 l) W:=Sx.en_of Tryz.func34 (by kernel_rfl) (by kernel_rfl) l W
theorem en_r19_Key (l:Array Value) (W:World):(callFunc 38 l).run Tryz.prog W = .ok (.enter 38 l) W:=Sx.en_of Tryz.func38 (by kernel_rfl) (by kernel_rfl) l W
theorem en_r13_Valid (l:Array Value) (W:World):(callFunc 39 l).run Tryz.prog W = .ok (.enter 39 l) W:=Sx.en_of Tryz.func39 (by kernel_rfl) (by kernel_rfl) l W
theorem en_r13_Through (l:Array Value) (W:World):(callFunc 40 l).run Tryz.prog W = .ok (.enter 40 l) W:=Sx.en_of Tryz.func40 (by kernel_rfl) (by kernel_rfl) l W
theorem en_r19_Base (l:Array Value) (W:World):(callFunc 41 l).run Tryz.prog W = .ok (.enter 41 l) W:=Sx.en_of Tryz.func41 (by kernel_rfl) (by kernel_rfl) l W
theorem en_r01_Distance (l:Array Value) (W:World):(callFunc 42 l).run Tryz.prog W = .ok (.enter 42 l) W:=Sx.en_of Tryz.func42 (by kernel_rfl) (by kernel_rfl) l W
theorem en_r13_Meet (l:Array Value) (W:World):(callFunc 45 l).run Tryz.prog W = .ok (.enter 45 l) W:=Sx.en_of Tryz.func45 (by kernel_rfl) (by kernel_rfl) l W
theorem en_r03_Valid (l:Array Value) (W:World):(callFunc 49 l).run Tryz.prog W = .ok (.enter 49 l) W:=Sx.en_of Tryz.func49 (by kernel_rfl) (by kernel_rfl) l W
theorem en_r02_Of (l:Array Value) (W:World):(callFunc 50 l).run Tryz.prog W = .ok (.enter 50 l) W:=Sx.en_of Tryz.func50 (by kernel_rfl) (by kernel_rfl) l W
theorem en_r02_Add (l:Array Value) (W:World):(callFunc 51 l).run Tryz.prog W = .ok (.enter 51 l) W:=Sx.en_of Tryz.func51 (by kernel_rfl) (by kernel_rfl) l W
theorem en_r03_At (l:Array Value) (W:World):(callFunc 52 l).run Tryz.prog W = .ok (.enter 52 l) W:=Sx.en_of Tryz.func52 (by kernel_rfl) (by kernel_rfl) l W
theorem en_r02_Sub (l:Array Value) (W:World):(callFunc 53 l).run Tryz.prog W = .ok (.enter 53 l) W:=Sx.en_of Tryz.func53 (by kernel_rfl) (by kernel_rfl) l W
theorem en_r02_Compare (l:Array Value) (W:World):(callFunc 54 l).run Tryz.prog W = .ok (.enter 54 l) W:=Sx.en_of Tryz.func54 (by kernel_rfl) (by kernel_rfl) l W
theorem en_r13_Start (l:Array Value) (W:World):(callFunc 55 l).run Tryz.prog W = .ok (.enter 55 l) W:=Sx.en_of Tryz.func55 (by kernel_rfl) (by kernel_rfl) l W
theorem en_r19_Start (l:Array Value) (W:World):(callFunc 58 l).run Tryz.prog W = .ok (.enter 58 l) W:=Sx.en_of Tryz.func58 (by kernel_rfl) (by kernel_rfl) l W
theorem en_pieces_Base (l:Array Value) (W:World):(callFunc 62 l).run Tryz.prog W = .ok (.enter 62 l) W:=Sx.en_of Tryz.func62 (by kernel_rfl) (by kernel_rfl) l W
theorem en_m_Tape__Int (l:Array Value) (W:World):(callFunc 68 l).run Tryz.prog W = .ok (.enter 68 l) W:=Sx.en_of Tryz.func68 (by kernel_rfl) (by kernel_rfl) l W
theorem en_m_Tape__Bool (l:Array Value) (W:World):(callFunc 69 l).run Tryz.prog W = .ok (.enter 69 l) W:=Sx.en_of Tryz.func69 (by kernel_rfl) (by kernel_rfl) l W
theorem en_m_Tape__Word (l:Array Value) (W:World):(callFunc 70 l).run Tryz.prog W = .ok (.enter 70 l) W:=Sx.en_of Tryz.func70 (by kernel_rfl) (by kernel_rfl) l W
theorem en_r12_Check (l:Array Value) (W:World):(callFunc 71 l).run Tryz.prog W = .ok (.enter 71 l) W:=Sx.en_of Tryz.func71 (by kernel_rfl) (by kernel_rfl) l W
theorem en_r02_OfUnsigned (l:Array Value) (W:World):(callFunc 75 l).run Tryz.prog W = .ok (.enter 75 l) W:=Sx.en_of Tryz.func75 (by kernel_rfl) (by kernel_rfl) l W
theorem en_r02_Mul (l:Array Value) (W:World):(callFunc 76 l).run Tryz.prog W = .ok (.enter 76 l) W:=Sx.en_of Tryz.func76 (by kernel_rfl) (by kernel_rfl) l W
theorem en_r03_Make (l:Array Value) (W:World):(callFunc 77 l).run Tryz.prog W = .ok (.enter 77 l) W:=Sx.en_of Tryz.func77 (by kernel_rfl) (by kernel_rfl) l W
theorem en_r03_Of (l:Array Value) (W:World):(callFunc 78 l).run Tryz.prog W = .ok (.enter 78 l) W:=Sx.en_of Tryz.func78 (by kernel_rfl) (by kernel_rfl) l W
theorem en_stamps_Increasing (l:Array Value) (W:World):(callFunc 79 l).run Tryz.prog W = .ok (.enter 79 l) W:=Sx.en_of Tryz.func79 (by kernel_rfl) (by kernel_rfl) l W
theorem en_wide_Of (l:Array Value) (W:World):(callFunc 81 l).run Tryz.prog W = .ok (.enter 81 l) W:=Sx.en_of Tryz.func81 (by kernel_rfl) (by kernel_rfl) l W
theorem en_r10_Increasing (l:Array Value) (W:World):(callFunc 82 l).run Tryz.prog W = .ok (.enter 82 l) W:=Sx.en_of Tryz.func82 (by kernel_rfl) (by kernel_rfl) l W
theorem en_r20_Value (l:Array Value) (W:World):(callFunc 83 l).run Tryz.prog W = .ok (.enter 83 l) W:=Sx.en_of Tryz.func83 (by kernel_rfl) (by kernel_rfl) l W
theorem en_rebuild_Value (l:Array Value) (W:World):(callFunc 84 l).run Tryz.prog W = .ok (.enter 84 l) W:=Sx.en_of Tryz.func84 (by kernel_rfl) (by kernel_rfl) l W
theorem en_r19_Step (l:Array Value) (W:World):(callFunc 89 l).run Tryz.prog W = .ok (.enter 89 l) W:=Sx.en_of Tryz.func89 (by kernel_rfl) (by kernel_rfl) l W
theorem en_r19_Finish (l:Array Value) (W:World):(callFunc 90 l).run Tryz.prog W = .ok (.enter 90 l) W:=Sx.en_of Tryz.func90 (by kernel_rfl) (by kernel_rfl) l W
theorem en_r13_Tolerance (l:Array Value) (W:World):(callFunc 93 l).run Tryz.prog W = .ok (.enter 93 l) W:=Sx.en_of Tryz.func93 (by kernel_rfl) (by kernel_rfl) l W
theorem en_r01_FloorDiv (l:Array Value) (W:World):(callFunc 97 l).run Tryz.prog W = .ok (.enter 97 l) W:=Sx.en_of Tryz.func97 (by kernel_rfl) (by kernel_rfl) l W
theorem en_r19_unit (l:Array Value) (W:World):(callFunc 98 l).run Tryz.prog W = .ok (.enter 98 l) W:=Sx.en_of Tryz.func98 (by kernel_rfl) (by kernel_rfl) l W
theorem en_r03_Compare (l:Array Value) (W:World):(callFunc 99 l).run Tryz.prog W = .ok (.enter 99 l) W:=Sx.en_of Tryz.func99 (by kernel_rfl) (by kernel_rfl) l W
theorem en_r02_Valid (l:Array Value) (W:World):(callFunc 100 l).run Tryz.prog W = .ok (.enter 100 l) W:=Sx.en_of Tryz.func100 (by kernel_rfl) (by kernel_rfl) l W
theorem en_r02_Sign (l:Array Value) (W:World):(callFunc 104 l).run Tryz.prog W = .ok (.enter 104 l) W:=Sx.en_of Tryz.func104 (by kernel_rfl) (by kernel_rfl) l W
theorem en_r03_small (l:Array Value) (W:World):(callFunc 105 l).run Tryz.prog W = .ok (.enter 105 l) W:=Sx.en_of Tryz.func105 (by kernel_rfl) (by kernel_rfl) l W
theorem en_r03_gcd (l:Array Value) (W:World):(callFunc 106 l).run Tryz.prog W = .ok (.enter 106 l) W:=Sx.en_of Tryz.func106 (by kernel_rfl) (by kernel_rfl) l W
theorem en_r03_abs (l:Array Value) (W:World):(callFunc 107 l).run Tryz.prog W = .ok (.enter 107 l) W:=Sx.en_of Tryz.func107 (by kernel_rfl) (by kernel_rfl) l W
theorem en_r03_one (l:Array Value) (W:World):(callFunc 108 l).run Tryz.prog W = .ok (.enter 108 l) W:=Sx.en_of Tryz.func108 (by kernel_rfl) (by kernel_rfl) l W
theorem en_r02_clean (l:Array Value) (W:World):(callFunc 109 l).run Tryz.prog W = .ok (.enter 109 l) W:=Sx.en_of Tryz.func109 (by kernel_rfl) (by kernel_rfl) l W
theorem en_r02_of (l:Array Value) (W:World):(callFunc 110 l).run Tryz.prog W = .ok (.enter 110 l) W:=Sx.en_of Tryz.func110 (by kernel_rfl) (by kernel_rfl) l W
theorem en_r02_wide (l:Array Value) (W:World):(callFunc 111 l).run Tryz.prog W = .ok (.enter 111 l) W:=Sx.en_of Tryz.func111 (by kernel_rfl) (by kernel_rfl) l W
theorem en_r02_add (l:Array Value) (W:World):(callFunc 112 l).run Tryz.prog W = .ok (.enter 112 l) W:=Sx.en_of Tryz.func112 (by kernel_rfl) (by kernel_rfl) l W
theorem en_r02_compare (l:Array Value) (W:World):(callFunc 113 l).run Tryz.prog W = .ok (.enter 113 l) W:=Sx.en_of Tryz.func113 (by kernel_rfl) (by kernel_rfl) l W
theorem en_r02_sub (l:Array Value) (W:World):(callFunc 114 l).run Tryz.prog W = .ok (.enter 114 l) W:=Sx.en_of Tryz.func114 (by kernel_rfl) (by kernel_rfl) l W
theorem en_r03_clean (l:Array Value) (W:World):(callFunc 115 l).run Tryz.prog W = .ok (.enter 115 l) W:=Sx.en_of Tryz.func115 (by kernel_rfl) (by kernel_rfl) l W
theorem en_r02_DivMod (l:Array Value) (W:World):(callFunc 116 l).run Tryz.prog W = .ok (.enter 116 l) W:=Sx.en_of Tryz.func116 (by kernel_rfl) (by kernel_rfl) l W
theorem en_r02_Neg (l:Array Value) (W:World):(callFunc 117 l).run Tryz.prog W = .ok (.enter 117 l) W:=Sx.en_of Tryz.func117 (by kernel_rfl) (by kernel_rfl) l W
theorem en_r19_Valid (l:Array Value) (W:World):(callFunc 123 l).run Tryz.prog W = .ok (.enter 123 l) W:=Sx.en_of Tryz.func123 (by kernel_rfl) (by kernel_rfl) l W
theorem en_pieces_unit (l:Array Value) (W:World):(callFunc 125 l).run Tryz.prog W = .ok (.enter 125 l) W:=Sx.en_of Tryz.func125 (by kernel_rfl) (by kernel_rfl) l W
theorem en_wide_Mul (l:Array Value) (W:World):(callFunc 126 l).run Tryz.prog W = .ok (.enter 126 l) W:=Sx.en_of Tryz.func126 (by kernel_rfl) (by kernel_rfl) l W
theorem en_r02_mul (l:Array Value) (W:World):(callFunc 134 l).run Tryz.prog W = .ok (.enter 134 l) W:=Sx.en_of Tryz.func134 (by kernel_rfl) (by kernel_rfl) l W
theorem en_checked_Distance (l:Array Value) (W:World):(callFunc 135 l).run Tryz.prog W = .ok (.enter 135 l) W:=Sx.en_of Tryz.func135 (by kernel_rfl) (by kernel_rfl) l W
theorem en_r02_Int64 (l:Array Value) (W:World):(callFunc 136 l).run Tryz.prog W = .ok (.enter 136 l) W:=Sx.en_of Tryz.func136 (by kernel_rfl) (by kernel_rfl) l W
theorem en_wide_Add (l:Array Value) (W:World):(callFunc 137 l).run Tryz.prog W = .ok (.enter 137 l) W:=Sx.en_of Tryz.func137 (by kernel_rfl) (by kernel_rfl) l W
theorem en_ratio_At (l:Array Value) (W:World):(callFunc 138 l).run Tryz.prog W = .ok (.enter 138 l) W:=Sx.en_of Tryz.func138 (by kernel_rfl) (by kernel_rfl) l W
theorem en_wide_Int64 (l:Array Value) (W:World):(callFunc 139 l).run Tryz.prog W = .ok (.enter 139 l) W:=Sx.en_of Tryz.func139 (by kernel_rfl) (by kernel_rfl) l W
theorem en_wide_Sign (l:Array Value) (W:World):(callFunc 140 l).run Tryz.prog W = .ok (.enter 140 l) W:=Sx.en_of Tryz.func140 (by kernel_rfl) (by kernel_rfl) l W
theorem en_r19_begin (l:Array Value) (W:World):(callFunc 145 l).run Tryz.prog W = .ok (.enter 145 l) W:=Sx.en_of Tryz.func145 (by kernel_rfl) (by kernel_rfl) l W
theorem en_r02_Unsigned (l:Array Value) (W:World):(callFunc 153 l).run Tryz.prog W = .ok (.enter 153 l) W:=Sx.en_of Tryz.func153 (by kernel_rfl) (by kernel_rfl) l W
theorem en_r02_trim (l:Array Value) (W:World):(callFunc 154 l).run Tryz.prog W = .ok (.enter 154 l) W:=Sx.en_of Tryz.func154 (by kernel_rfl) (by kernel_rfl) l W
theorem en_r02_divmod (l:Array Value) (W:World):(callFunc 157 l).run Tryz.prog W = .ok (.enter 157 l) W:=Sx.en_of Tryz.func157 (by kernel_rfl) (by kernel_rfl) l W
theorem en_cone_Start (l:Array Value) (W:World):(callFunc 158 l).run Tryz.prog W = .ok (.enter 158 l) W:=Sx.en_of Tryz.func158 (by kernel_rfl) (by kernel_rfl) l W
theorem en_cone_Valid (l:Array Value) (W:World):(callFunc 159 l).run Tryz.prog W = .ok (.enter 159 l) W:=Sx.en_of Tryz.func159 (by kernel_rfl) (by kernel_rfl) l W
theorem en_wide_clean (l:Array Value) (W:World):(callFunc 161 l).run Tryz.prog W = .ok (.enter 161 l) W:=Sx.en_of Tryz.func161 (by kernel_rfl) (by kernel_rfl) l W
theorem en_wide_mul (l:Array Value) (W:World):(callFunc 162 l).run Tryz.prog W = .ok (.enter 162 l) W:=Sx.en_of Tryz.func162 (by kernel_rfl) (by kernel_rfl) l W
theorem en_wide_signed (l:Array Value) (W:World):(callFunc 163 l).run Tryz.prog W = .ok (.enter 163 l) W:=Sx.en_of Tryz.func163 (by kernel_rfl) (by kernel_rfl) l W
theorem en_wide_add (l:Array Value) (W:World):(callFunc 165 l).run Tryz.prog W = .ok (.enter 165 l) W:=Sx.en_of Tryz.func165 (by kernel_rfl) (by kernel_rfl) l W
theorem en_wide_compare (l:Array Value) (W:World):(callFunc 166 l).run Tryz.prog W = .ok (.enter 166 l) W:=Sx.en_of Tryz.func166 (by kernel_rfl) (by kernel_rfl) l W
theorem en_wide_sub (l:Array Value) (W:World):(callFunc 167 l).run Tryz.prog W = .ok (.enter 167 l) W:=Sx.en_of Tryz.func167 (by kernel_rfl) (by kernel_rfl) l W
theorem en_ratio_clean (l:Array Value) (W:World):(callFunc 168 l).run Tryz.prog W = .ok (.enter 168 l) W:=Sx.en_of Tryz.func168 (by kernel_rfl) (by kernel_rfl) l W
theorem en_ratio_product (l:Array Value) (W:World):(callFunc 169 l).run Tryz.prog W = .ok (.enter 169 l) W:=Sx.en_of Tryz.func169 (by kernel_rfl) (by kernel_rfl) l W
theorem en_wide_OfUnsigned (l:Array Value) (W:World):(callFunc 170 l).run Tryz.prog W = .ok (.enter 170 l) W:=Sx.en_of Tryz.func170 (by kernel_rfl) (by kernel_rfl) l W
theorem en_wide_DivMod (l:Array Value) (W:World):(callFunc 171 l).run Tryz.prog W = .ok (.enter 171 l) W:=Sx.en_of Tryz.func171 (by kernel_rfl) (by kernel_rfl) l W
theorem en_wide_Valid (l:Array Value) (W:World):(callFunc 176 l).run Tryz.prog W = .ok (.enter 176 l) W:=Sx.en_of Tryz.func176 (by kernel_rfl) (by kernel_rfl) l W
theorem en_ratio_Compare (l:Array Value) (W:World):(callFunc 179 l).run Tryz.prog W = .ok (.enter 179 l) W:=Sx.en_of Tryz.func179 (by kernel_rfl) (by kernel_rfl) l W
theorem en_ratio_Of (l:Array Value) (W:World):(callFunc 180 l).run Tryz.prog W = .ok (.enter 180 l) W:=Sx.en_of Tryz.func180 (by kernel_rfl) (by kernel_rfl) l W
theorem en_r02_size (l:Array Value) (W:World):(callFunc 183 l).run Tryz.prog W = .ok (.enter 183 l) W:=Sx.en_of Tryz.func183 (by kernel_rfl) (by kernel_rfl) l W
theorem en_r02_up (l:Array Value) (W:World):(callFunc 184 l).run Tryz.prog W = .ok (.enter 184 l) W:=Sx.en_of Tryz.func184 (by kernel_rfl) (by kernel_rfl) l W
theorem en_r02_half (l:Array Value) (W:World):(callFunc 185 l).run Tryz.prog W = .ok (.enter 185 l) W:=Sx.en_of Tryz.func185 (by kernel_rfl) (by kernel_rfl) l W
theorem en_ratio_Valid (l:Array Value) (W:World):(callFunc 186 l).run Tryz.prog W = .ok (.enter 186 l) W:=Sx.en_of Tryz.func186 (by kernel_rfl) (by kernel_rfl) l W
theorem en_wide_div (l:Array Value) (W:World):(callFunc 189 l).run Tryz.prog W = .ok (.enter 189 l) W:=Sx.en_of Tryz.func189 (by kernel_rfl) (by kernel_rfl) l W
theorem en_ratio_divisor (l:Array Value) (W:World):(callFunc 191 l).run Tryz.prog W = .ok (.enter 191 l) W:=Sx.en_of Tryz.func191 (by kernel_rfl) (by kernel_rfl) l W
theorem en_ratio_small (l:Array Value) (W:World):(callFunc 192 l).run Tryz.prog W = .ok (.enter 192 l) W:=Sx.en_of Tryz.func192 (by kernel_rfl) (by kernel_rfl) l W
theorem en_wide_Compare (l:Array Value) (W:World):(callFunc 193 l).run Tryz.prog W = .ok (.enter 193 l) W:=Sx.en_of Tryz.func193 (by kernel_rfl) (by kernel_rfl) l W
theorem en_wide_length (l:Array Value) (W:World):(callFunc 199 l).run Tryz.prog W = .ok (.enter 199 l) W:=Sx.en_of Tryz.func199 (by kernel_rfl) (by kernel_rfl) l W
theorem en_wide_left (l:Array Value) (W:World):(callFunc 200 l).run Tryz.prog W = .ok (.enter 200 l) W:=Sx.en_of Tryz.func200 (by kernel_rfl) (by kernel_rfl) l W
theorem en_wide_halved (l:Array Value) (W:World):(callFunc 201 l).run Tryz.prog W = .ok (.enter 201 l) W:=Sx.en_of Tryz.func201 (by kernel_rfl) (by kernel_rfl) l W
end Go.Proofs.YtncmmbacoknefaaGreat

/- CdY: MADE BY PROGRAM (sxgen.py): the small code of some functions, points of it and their equations. -/
namespace Go.Proofs.YtncmmbacoknefaaGreat
open Go Go.RowKit Sx Sx.Q
set_option linter.unusedVariables false
variable (C:Cx) (R L1 L2 L3 L4:St→Prop)
namespace r02_DivMod
abbrev q0:=[2,3,4,5]
abbrev r0:List G:=[e 2 (.box true 5 (t 0)),e 3 (.box true 5 (t 1)),e 4 (.new zW),e 5 (.new zW),Mb 6 false]
abbrev r1:List G:=[L 9 5 2,k1 10 109 9,L 11 5 3,k1 12 109 11]
abbrev t1:List G:=[V 5 2 10,V 5 3 12]
abbrev q1:=[2,3,4,5,15]
abbrev r2:List G:=[L 13 5 3,K1 14 104 13,bi 15 .eql 14 0]
abbrev q2:=[4,5,6]
abbrev r3:List G:=[e 16 (.bd zW []),e 17 (.bd zW []),V 5 4 16,V 5 5 17,Mb 6 false]
abbrev q3:=[2,3,4,5,7,8]
abbrev r4:List G:=[L 19 5 2,L 21 5 3,K1 20 110 19,K1 22 110 21,K2 23 157 20 22,m 18 23,x 24 18 0,x 25 18 1]
abbrev t4:List G:=[m 7 24,m 8 25]
abbrev q4:=[2,3,4,5,7,8,32]
abbrev r5:List G:=[a 26 0 2,l 27 26,m 28 27,ym 29 28 8,y 30 28 (.len false (t 29)),y 31 28 (.bin .gtr (t 30) (i 0)),w 32 28 31]
abbrev r6:List G:=[m 33 7,L 36 5 3,m 38 8,e 34 (.gen false (.bsl 162 1 [0]) [(u 1)]),K2 35 112 33 34,K1 37 110 36,K2 39 114 37 38]
abbrev t6:List G:=[m 7 35,m 8 39]
abbrev q5:=[4,5,6,8]
abbrev r7:List G:=[a 41 0 2,l 42 41,a 43 0 3,l 44 43,e 45 (.bq true (t 42) (t 44)),m 46 7,K2 47 111 45 46,m 40 47,x 48 40 0,x 49 40 1,V 5 4 48,m 6 49]
abbrev q6:=[4,5,8,51]
abbrev r8:List G:=[m 50 6,e 51 (.un .not (t 50))]
abbrev r9:List G:=[e 52 (.bd zW []),e 53 (.bd zW []),V 5 4 52,V 5 5 53,Mb 6 false]
abbrev q7:=[4,5]
abbrev r10:List G:=[m 55 8,e 56 (.call false 111 [bf,(t 55)]),m 54 56,x 57 54 0,x 58 54 1,V 5 5 57]
abbrev r11:List G:=[L 59 5 4,L 60 5 5]
abbrev t11:GT:=.br none none (.st true 5 (t 4) (t 59)) (.br none none (.st true 5 (t 5) (t 60)) (br 6 (.mv bt) .fin .no) .no) .no
abbrev c:MC:=sq [g r0 q0,gd r1 t1 q0,sq [g r2 q1,ci 15 (sq [g r3 q2,.ret]) .skip],gk true false r4 t4 q3,sq [g r5 q4,ci 32 (gk true false r6 t6 q3) .skip],g r7 q5,sq [g r8 q6,ci 51 (sq [g r9 q2,.ret]) .skip],g r10 q7,gh r11 t11 [4,5] q2,.ret]
theorem ok:compF Tryz.prog Tryz.f116 (an (rg 12) c [(1,4,[],(up 4),[]),(4,200008,[7],[(0,0),(2,0),(1,1),(3,1),(4,1),(5,0),(6,0),(7,2)],[]),(6,200007,[],[(0,0),(3,0),(5,0),(1,1),(2,1),(4,1),(6,1)],[]),(11,99998,[0,1],[],[4,5])]) = some (61,c,[(4,some (true,5)),(5,some (true,5)),(6,none)]):=by kernel_rfl
abbrev p1:=Ph C r11 t11 [4,5] q2 R
abbrev p2:=P C r10 q7 (p1 C R)
abbrev p4:=P C r9 q2 R
abbrev p3:=cd (t 51) (p4 C R) (p2 C R)
abbrev p5:=P C r8 q6 (p3 C R)
abbrev p6:=P C r7 q5 (p5 C R)
abbrev p8:=Pc C true false r6 t6 q3 (p6 C R)
abbrev p7:=cd (t 32) (p8 C R) (p6 C R)
abbrev p9:=P C r5 q4 (p7 C R)
abbrev p10:=Pc C true false r4 t4 q3 (p9 C R)
abbrev p12:=P C r3 q2 R
abbrev p11:=cd (t 15) (p12 C R) (p10 C R)
abbrev p13:=P C r2 q1 (p11 C R)
abbrev p14:=Pd C r1 t1 q0 (p13 C R)
abbrev p15:=P C r0 q0 (p14 C R)
theorem s (S:St):X C c (retK R) S = p15 C R S:=by kernel_rfl
theorem E:type_of% @s:=@s
end r02_DivMod
namespace r02_divmod
abbrev q0:=[0,1]
abbrev r0:List G:=[e 4 (.mv (.const (.slice none 0 0))),e 5 (.mv (.const (.slice none 0 0)))]
abbrev q1:=[0,1,6]
abbrev r1:List G:=[m 13 0,e 14 (.len false (t 13)),e 15 (.gen false (.mks 162) [(t 14),(t 14)]),m 6 15]
abbrev q2:=[0,1,6,18]
abbrev r2:List G:=[m 16 1,e 17 (.len false (t 16)),bi 18 .eql 17 1]
abbrev q3:=[0,1,6,7]
abbrev r3:List G:=[e 7 (.mv (u 0))]
abbrev q4:=[0,1,6,7,8]
abbrev r4:List G:=[m 19 0,e 20 (.len false (t 19)),bi 21 .sub 20 1,m 8 21]
abbrev q5:=[0,1,6,7,8,23]
abbrev r5:List G:=[m 22 8,bi 23 .geq 22 0]
abbrev r7:List G:=[m 27 6,m 28 8,m 29 7,m 30 0,m 31 8,j 32 1 30 31,l 33 32,m 34 1,e 35 (.is 1 (t 34) (i 0)),l 36 35,k3 37 182 29 33 36,m 26 37,x 38 26 0,x 39 26 1,j 40 1 27 28]
abbrev t7:List G:=[v 40 38,m 7 39]
abbrev r6:List G:=[m 24 8,bi 25 .sub 24 1,m 8 25]
abbrev q6:=[4,5]
abbrev r8:List G:=[m 41 6,K1 42 154 41,m 43 7,e 44 (.gen false (.bsl 162 1 [0]) [(t 43)]),K1 45 154 44,m 4 42,m 5 45]
abbrev q7:=[1,6,9]
abbrev r9:List G:=[e 46 (.gen false (.bsl 162 0 []) []),m 47 0,e 48 (.gen false (.bi .append [162,162] 162 [false,false]) [(t 46),(t 47)]),K1 49 154 48,m 9 49]
abbrev q8:=[1,6,9,10]
abbrev r10:List G:=[m 50 9,K1 51 183 50,m 52 1,K1 53 183 52,b 54 .sub 51 53,m 10 54]
abbrev q9:=[1,6,9,10,56]
abbrev r11:List G:=[m 55 10,bi 56 .lss 55 0]
abbrev r12:List G:=[m 57 9,e 4 (.mv (.const (.slice none 0 0))),m 5 57]
abbrev q10:=[6,9,10,11]
abbrev r13:List G:=[m 58 1,m 59 10,K2 60 184 58 59,m 11 60]
abbrev q11:=[6,9,11,12]
abbrev r14:List G:=[m 61 10,m 12 61]
abbrev q12:=[6,9,11,12,63]
abbrev r15:List G:=[m 62 12,bi 63 .geq 62 0]
abbrev q13:=[6,9,11,12,69]
abbrev r17:List G:=[m 66 9,m 67 11,K2 68 113 66 67,bi 69 .geq 68 0]
abbrev r18:List G:=[m 70 9,m 71 11,K2 72 114 70 71,m 9 72]
abbrev r19:List G:=[m 73 6,m 74 12,bi 75 .quo 74 64,j 76 1 73 75,l 77 76,m 78 12,bi 79 .rem 78 64,e 80 (.cv .u64 (t 79)),e 81 (.bin .shl (u 1) (t 80)),b 82 .or 77 81,j 83 1 73 75,v 83 82]
abbrev r20:List G:=[m 84 11,K1 85 185 84,m 11 85]
abbrev r16:List G:=[m 64 12,bi 65 .sub 64 1,m 12 65]
abbrev r21:List G:=[m 86 6,K1 87 154 86,m 88 9,m 4 87,m 5 88]
abbrev c:MC:=sq [g r0 q0,g r1 q1,sq [g r2 q2,ci 18 (sq [g r3 q3,sq [g r4 q4,.block 0 (.loop (sq [sq [g r5 q5,ci 23 .skip (.exit 0)],.block 1 (gd r7 t7 q4),g r6 q4]))],g r8 q6,.ret]) .skip],g r9 q7,g r10 q8,sq [g r11 q9,ci 56 (sq [g r12 q6,.ret]) .skip],g r13 q10,sq [g r14 q11,.block 2 (.loop (sq [sq [g r15 q12,ci 63 .skip (.exit 2)],.block 3 (sq [sq [g r17 q13,ci 69 (sq [g r18 q11,g r19 q11]) .skip],g r20 q11]),g r16 q11]))],g r21 q6,.ret]
theorem ok:compF Tryz.prog Tryz.f157 (an [0,1,2,3,4,5,7,6,8,9,10,11,12,13,14,15,17,18,19,20,16,21] c [(7,15,[13],(up 13 ++ [(13,2),(14,0)]),[])]) = some (89,c,[(4,none),(5,none)]):=by kernel_rfl
abbrev p1:=P C r21 q6 R
abbrev p3:=P C r16 q11 L1
abbrev p4:=P C r20 q11 (p3 C L1)
abbrev p6:=P C r19 q11 (p4 C L1)
abbrev p7:=P C r18 q11 (p6 C L1)
abbrev p5:=cd (t 69) (p7 C L1) (p4 C L1)
abbrev p8:=P C r17 q13 (p5 C L1)
abbrev p9:=cd (t 63) (p8 C L1) (p1 C R)
abbrev p10:=P C r15 q12 (p9 C R L1)
def p2 (S:St):Prop:=LX C (fun L1=>(p10 C R L1)) S
theorem p2_l (S:St):p2 C R S = LX C (fun L1=>(p10 C R L1)) S:=rfl
abbrev p11:=P C r14 q11 (p2 C R)
abbrev p12:=P C r13 q10 (p11 C R)
abbrev p14:=P C r12 q6 R
abbrev p13:=cd (t 56) (p14 C R) (p12 C R)
abbrev p15:=P C r11 q9 (p13 C R)
abbrev p16:=P C r10 q8 (p15 C R)
abbrev p17:=P C r9 q7 (p16 C R)
abbrev p19:=P C r8 q6 R
abbrev p21:=P C r6 q4 L1
abbrev p22:=Pd C r7 t7 q4 (p21 C L1)
abbrev p23:=cd (t 23) (p22 C L1) (p19 C R)
abbrev p24:=P C r5 q5 (p23 C R L1)
def p20 (S:St):Prop:=LX C (fun L1=>(p24 C R L1)) S
theorem p20_l (S:St):p20 C R S = LX C (fun L1=>(p24 C R L1)) S:=rfl
abbrev p25:=P C r4 q4 (p20 C R)
abbrev p26:=P C r3 q3 (p25 C R)
abbrev p18:=cd (t 18) (p26 C R) (p17 C R)
abbrev p27:=P C r2 q2 (p18 C R)
abbrev p28:=P C r1 q1 (p27 C R)
abbrev p29:=P C r0 q0 (p28 C R)
theorem s (S:St):X C c (retK R) S = p29 C R S:=by kernel_rfl
theorem E:type_of% @s:=@s
end r02_divmod
namespace r02_half
abbrev r0:List G:=[e 2 (.mv (.const (.slice none 0 0)))]
abbrev q0:=[0,3]
abbrev r1:List G:=[Mi 3 0]
abbrev q1:=[0,3,7]
abbrev r2:List G:=[m 4 3,m 5 0,e 6 (.len false (t 5)),b 7 .lss 4 6]
abbrev r4:List G:=[m 10 0,m 11 3,j 12 1 10 11,l 13 12,bu 14 .shr 13 1,j 15 1 10 11,v 15 14]
abbrev q2:=[0,3,20]
abbrev r5:List G:=[m 16 3,bi 17 .add 16 1,m 18 0,e 19 (.len false (t 18)),b 20 .lss 17 19]
abbrev r6:List G:=[m 21 0,m 22 3,j 23 1 21 22,l 24 23,m 25 0,m 26 3,bi 27 .add 26 1,j 28 1 25 27,l 29 28,bu 30 .shl 29 63,b 31 .or 24 30,j 32 1 21 22]
abbrev t6:List G:=[v 32 31]
abbrev r3:List G:=[m 8 3,bi 9 .add 8 1,m 3 9]
abbrev r7:List G:=[m 33 0,K1 34 154 33,m 2 34]
abbrev c:MC:=sq [g r0 [0],sq [g r1 q0,.block 0 (.loop (sq [sq [g r2 q1,ci 7 .skip (.exit 0)],.block 1 (sq [g r4 q0,g r5 q2,ci 20 (gd r6 t6 q0) .skip]),g r3 q0]))],g r7 [2],.ret]
theorem ok:compF Tryz.prog Tryz.f185 (an [0,1,2,4,5,6,3,7] c [(6,12,[],(up 12),[])]) = some (35,c,[(2,none)]):=by kernel_rfl
abbrev p1:=P C r7 [2] R
abbrev p3:=P C r3 q0 L1
abbrev p5:=Pd C r6 t6 q0 (p3 C L1)
abbrev p4:=cd (t 20) (p5 C L1) (p3 C L1)
abbrev p6:=P C r5 q2 (p4 C L1)
abbrev p7:=P C r4 q0 (p6 C L1)
abbrev p8:=cd (t 7) (p7 C L1) (p1 C R)
abbrev p9:=P C r2 q1 (p8 C R L1)
def p2 (S:St):Prop:=LX C (fun L1=>(p9 C R L1)) S
theorem p2_l (S:St):p2 C R S = LX C (fun L1=>(p9 C R L1)) S:=rfl
abbrev p10:=P C r1 q0 (p2 C R)
abbrev p11:=P C r0 [0] (p10 C R)
theorem s (S:St):X C c (retK R) S = p11 C R S:=by kernel_rfl
theorem E:type_of% @s:=@s
end r02_half
namespace r02_size
abbrev r0:List G:=[Mi 2 0]
abbrev q0:=[0,5]
abbrev r1:List G:=[m 3 0,e 4 (.len false (t 3)),bi 5 .eql 4 0]
abbrev r2:List G:=[Mi 2 0]
abbrev r3:List G:=[m 6 0,e 7 (.len false (t 6)),bi 8 .sub 7 1,e 9 (.bin .mul (i 64) (t 8)),m 10 0,m 11 0,e 12 (.len false (t 11)),bi 13 .sub 12 1,j 14 1 10 13,l 15 14,K1 16 197 15,b 17 .add 9 16,m 2 17]
abbrev c:MC:=sq [g r0 [0],sq [g r1 q0,ci 5 (sq [g r2 [2],.ret]) .skip],g r3 [2],.ret]
theorem ok:compF Tryz.prog Tryz.f183 (an (rg 4) c []) = some (18,c,[(2,none)]):=by kernel_rfl
abbrev p1:=P C r3 [2] R
abbrev p3:=P C r2 [2] R
abbrev p2:=cd (t 5) (p3 C R) (p1 C R)
abbrev p4:=P C r1 q0 (p2 C R)
abbrev p5:=P C r0 [0] (p4 C R)
theorem s (S:St):X C c (retK R) S = p5 C R S:=by kernel_rfl
theorem E:type_of% @s:=@s
end r02_size
namespace r02_up
abbrev q0:=[0,1]
abbrev r0:List G:=[e 4 (.mv (.const (.slice none 0 0)))]
abbrev q1:=[0,1,5]
abbrev r1:List G:=[m 7 0,e 8 (.len false (t 7)),m 9 1,bi 10 .quo 9 64,b 11 .add 8 10,bi 12 .add 11 1,e 13 (.gen false (.mks 162) [(t 12),(t 12)]),m 5 13]
abbrev q2:=[0,1,5,6]
abbrev r2:List G:=[Mi 6 0]
abbrev q3:=[0,1,5,6,17]
abbrev r3:List G:=[m 14 6,m 15 0,e 16 (.len false (t 15)),b 17 .lss 14 16]
abbrev r5:List G:=[m 20 5,m 21 6,m 22 1,bi 23 .quo 22 64,b 24 .add 21 23,j 25 1 20 24,l 26 25,m 27 0,m 28 6,j 29 1 27 28,l 30 29,m 31 1,bi 32 .rem 31 64,e 33 (.cv .u64 (t 32)),b 34 .shl 30 33,b 35 .or 26 34,j 36 1 20 24]
abbrev t5:List G:=[v 36 35]
abbrev q4:=[0,1,5,6,39]
abbrev r6:List G:=[m 37 1,bi 38 .rem 37 64,bi 39 .gtr 38 0]
abbrev r7:List G:=[m 40 5,m 41 6,m 42 1,bi 43 .quo 42 64,b 44 .add 41 43,bi 45 .add 44 1,j 46 1 40 45,l 47 46,m 48 0,m 49 6,j 50 1 48 49,l 51 50,m 52 1,bi 53 .rem 52 64,e 54 (.bin .sub (i 64) (t 53)),e 55 (.cv .u64 (t 54)),b 56 .shr 51 55,b 57 .or 47 56,j 58 1 40 45]
abbrev t7:List G:=[v 58 57]
abbrev r4:List G:=[m 18 6,bi 19 .add 18 1,m 6 19]
abbrev r8:List G:=[m 59 5,K1 60 154 59,m 4 60]
abbrev c:MC:=sq [g r0 q0,g r1 q1,sq [g r2 q2,.block 0 (.loop (sq [sq [g r3 q3,ci 17 .skip (.exit 0)],.block 1 (sq [gd r5 t5 q2,g r6 q4,ci 39 (gd r7 t7 q2) .skip]),g r4 q2]))],g r8 [4],.ret]
theorem ok:compF Tryz.prog Tryz.f184 (an [0,1,2,3,5,6,7,4,8] c [(5,17,[],(up 17),[]),(7,19,[],(up 19),[])]) = some (61,c,[(4,none)]):=by kernel_rfl
abbrev p1:=P C r8 [4] R
abbrev p3:=P C r4 q2 L1
abbrev p5:=Pd C r7 t7 q2 (p3 C L1)
abbrev p4:=cd (t 39) (p5 C L1) (p3 C L1)
abbrev p6:=P C r6 q4 (p4 C L1)
abbrev p7:=Pd C r5 t5 q2 (p6 C L1)
abbrev p8:=cd (t 17) (p7 C L1) (p1 C R)
abbrev p9:=P C r3 q3 (p8 C R L1)
def p2 (S:St):Prop:=LX C (fun L1=>(p9 C R L1)) S
theorem p2_l (S:St):p2 C R S = LX C (fun L1=>(p9 C R L1)) S:=rfl
abbrev p10:=P C r2 q2 (p2 C R)
abbrev p11:=P C r1 q1 (p10 C R)
abbrev p12:=P C r0 q0 (p11 C R)
theorem s (S:St):X C c (retK R) S = p12 C R S:=by kernel_rfl
theorem E:type_of% @s:=@s
end r02_up
namespace r02_Int64
abbrev r0:List G:=[e 1 (.box true 5 (t 0)),Mi 2 0,Mb 3 false]
abbrev r1:List G:=[L 5 5 1,K1 6 109 5,V 5 1 6]
abbrev q0:=[1,4]
abbrev r2:List G:=[L 7 5 1,K1 8 110 7,m 4 8]
abbrev q1:=[1,4,11]
abbrev r3:List G:=[m 9 4,e 10 (.len false (t 9)),bi 11 .eql 10 0]
abbrev q2:=[2,3]
abbrev r4:List G:=[Mi 2 0,Mb 3 true]
abbrev q3:=[1,4,35]
abbrev r5:List G:=[m 12 4,e 13 (.len false (t 12)),bi 14 .gtr 13 1,m 15 14,na 16 15 0 1,nl 17 15 16,nm 18 15 17,ym 19 18 4,y 20 18 (.is 1 (t 19) (i 0)),yl 21 18 20,y 22 18 (.bin .gtr (t 21) (u 9223372036854775808)),n 23 15 (.pick (t 18) (t 22) bf),o 24 15 23,m 25 24,na 26 25 0 1,nl 27 25 26,n 28 25 (.un .not (t 27)),nm 29 25 28,ym 30 29 4,y 31 29 (.is 1 (t 30) (i 0)),yl 32 29 31,y 33 29 (.bin .geq (t 32) (u 9223372036854775808)),n 34 25 (.pick (t 29) (t 33) bf),o 35 25 34]
abbrev r6:List G:=[Mi 2 0,Mb 3 false]
abbrev q4:=[4,37]
abbrev r7:List G:=[a 36 0 1,l 37 36]
abbrev r8:List G:=[m 38 4,e 39 (.is 1 (t 38) (i 0)),l 40 39,e 41 (.un .neg (t 40)),e 42 (.cv .i64 (t 41)),m 2 42,Mb 3 true]
abbrev r9:List G:=[m 43 4,e 44 (.is 1 (t 43) (i 0)),l 45 44,e 46 (.cv .i64 (t 45)),m 2 46,Mb 3 true]
abbrev c:MC:=sq [g r0 [1],g r1 [1],g r2 q0,sq [g r3 q1,ci 11 (sq [g r4 q2,.ret]) .skip],sq [g r5 q3,ci 35 (sq [g r6 q2,.ret]) .skip],sq [g r7 q4,ci 37 (sq [g r8 q2,.ret]) .skip],g r9 q2,.ret]
theorem ok:compF Tryz.prog Tryz.f136 (an (rg 10) c []) = some (47,c,[(2,none),(3,none)]):=by kernel_rfl
abbrev p1:=P C r9 q2 R
abbrev p3:=P C r8 q2 R
abbrev p2:=cd (t 37) (p3 C R) (p1 C R)
abbrev p4:=P C r7 q4 (p2 C R)
abbrev p6:=P C r6 q2 R
abbrev p5:=cd (t 35) (p6 C R) (p4 C R)
abbrev p7:=P C r5 q3 (p5 C R)
abbrev p9:=P C r4 q2 R
abbrev p8:=cd (t 11) (p9 C R) (p7 C R)
abbrev p10:=P C r3 q1 (p8 C R)
abbrev p11:=P C r2 q0 (p10 C R)
abbrev p12:=P C r1 [1] (p11 C R)
abbrev p13:=P C r0 [1] (p12 C R)
theorem s (S:St):X C c (retK R) S = p13 C R S:=by kernel_rfl
theorem E:type_of% @s:=@s
end r02_Int64
namespace r02_OfUnsigned
abbrev q0:=[0,2]
abbrev r0:List G:=[e 2 (.new zW)]
abbrev r1:List G:=[m 3 0,e 4 (.bd [.int .u64 0,.int .u64 0,.int .u64 0,.int .u64 0] [(0,1,(t 3))]),e 5 (.bd zW [(1,4,(t 4))]),V 5 2 5]
abbrev c:MC:=sq [g r0 q0,g r1 [2],.ret]
theorem ok:compF Tryz.prog Tryz.f75 (an (rg 2) c []) = some (6,c,[(2,some (true,5))]):=by kernel_rfl
abbrev p1:=P C r1 [2] R
abbrev p2:=P C r0 q0 (p1 C R)
theorem s (S:St):X C c (retK R) S = p2 C R S:=by kernel_rfl
theorem E:type_of% @s:=@s
end r02_OfUnsigned
namespace r02_Unsigned
abbrev r0:List G:=[e 1 (.box true 5 (t 0)),e 2 (.mv (u 0)),Mb 3 false]
abbrev r1:List G:=[L 5 5 1,K1 6 109 5,V 5 1 6]
abbrev q0:=[1,4]
abbrev r2:List G:=[L 7 5 1,K1 8 110 7,m 4 8]
abbrev q1:=[1,15]
abbrev r3:List G:=[a 9 0 1,l 10 9,m 11 10,nm 12 11 4,n 13 11 (.len false (t 12)),n 14 11 (.bin .gtr (t 13) (i 1)),o 15 11 14]
abbrev q2:=[2,3]
abbrev r4:List G:=[e 2 (.mv (u 0)),Mb 3 false]
abbrev r5:List G:=[a 16 1 1,e 17 (.ia 4 1 (t 16) (i 0)),l 18 17,m 2 18,Mb 3 true]
abbrev c:MC:=sq [g r0 [1],g r1 [1],g r2 q0,sq [g r3 q1,ci 15 (sq [g r4 q2,.ret]) .skip],g r5 q2,.ret]
theorem ok:compF Tryz.prog Tryz.f153 (an (rg 6) c []) = some (19,c,[(2,none),(3,none)]):=by kernel_rfl
abbrev p1:=P C r5 q2 R
abbrev p3:=P C r4 q2 R
abbrev p2:=cd (t 15) (p3 C R) (p1 C R)
abbrev p4:=P C r3 q1 (p2 C R)
abbrev p5:=P C r2 q0 (p4 C R)
abbrev p6:=P C r1 [1] (p5 C R)
abbrev p7:=P C r0 [1] (p6 C R)
theorem s (S:St):X C c (retK R) S = p7 C R S:=by kernel_rfl
theorem E:type_of% @s:=@s
end r02_Unsigned
namespace r02_Compare
abbrev q0:=[2,3]
abbrev r0:List G:=[e 2 (.box true 5 (t 0)),e 3 (.box true 5 (t 1)),Mi 4 0]
abbrev q1:=[2,3,5,6]
abbrev r1:List G:=[L 7 5 2,k1 8 104 7,L 9 5 3,k1 10 104 9]
abbrev t1:List G:=[m 5 8,m 6 10]
abbrev q2:=[2,3,5,6,13]
abbrev r2:List G:=[m 11 5,m 12 6,b 13 .neq 11 12]
abbrev r3:List G:=[m 14 5,m 15 6,b 16 .lss 14 15]
abbrev r4:List G:=[Mi 4 (-1)]
abbrev r5:List G:=[Mi 4 1]
abbrev r6:List G:=[m 17 5,L 18 5 2,L 20 5 3,K1 19 110 18,K1 21 110 20,K2 22 113 19 21,b 23 .mul 17 22]
abbrev t6:List G:=[m 4 23]
abbrev c:MC:=sq [g r0 q0,gd r1 t1 q1,sq [g r2 q2,ci 13 (sq [sq [g r3 [16],ci 16 (sq [g r4 [4],.ret]) .skip],g r5 [4],.ret]) .skip],gk true false r6 t6 [4],.ret]
theorem ok:compF Tryz.prog Tryz.f54 (an (rg 7) c [(1,4,[],(up 4),[]),(6,200007,[],[(0,0),(1,0),(3,0),(2,1),(4,1),(5,1),(6,0)],[])]) = some (24,c,[(4,none)]):=by kernel_rfl
abbrev p1:=Pc C true false r6 t6 [4] R
abbrev p3:=P C r5 [4] R
abbrev p5:=P C r4 [4] R
abbrev p4:=cd (t 16) (p5 C R) (p3 C R)
abbrev p6:=P C r3 [16] (p4 C R)
abbrev p2:=cd (t 13) (p6 C R) (p1 C R)
abbrev p7:=P C r2 q2 (p2 C R)
abbrev p8:=Pd C r1 t1 q1 (p7 C R)
abbrev p9:=P C r0 q0 (p8 C R)
theorem s (S:St):X C c (retK R) S = p9 C R S:=by kernel_rfl
theorem E:type_of% @s:=@s
end r02_Compare
namespace r02_Sub
abbrev q0:=[2,3,4]
abbrev r0:List G:=[e 2 (.box true 5 (t 0)),e 3 (.box true 5 (t 1)),e 4 (.new zW),Mb 5 false]
abbrev q1:=[4,5]
abbrev r1:List G:=[L 6 5 2,L 7 5 3,k1 8 117 7,k2 9 51 6 8,x 10 9 0,x 11 9 1]
abbrev t1:List G:=[V 5 4 10,m 5 11]
abbrev c:MC:=sq [g r0 q0,gd r1 t1 q1,.ret]
theorem ok:compF Tryz.prog Tryz.f53 (an (rg 2) c [(1,6,[],(up 6),[])]) = some (12,c,[(4,some (true,5)),(5,none)]):=by kernel_rfl
abbrev p1:=Pd C r1 t1 q1 R
abbrev p2:=P C r0 q0 (p1 C R)
theorem s (S:St):X C c (retK R) S = p2 C R S:=by kernel_rfl
theorem E:type_of% @s:=@s
end r02_Sub
end Go.Proofs.YtncmmbacoknefaaGreat

/- WPlain: Integers in words of 64 bits: plain facts. -/
namespace Go.Proofs.YtncmmbacoknefaaGreat
open Go.RowKit
set_option linter.unusedVariables false
set_option linter.unusedSimpArgs false
def s64 (x y c:Int):Int:=(x + y + c) % 18446744073709551616
def c64 (x y c:Int):Int:=(x + y + c) / 18446744073709551616
def d64 (x y b:Int):Int:=(x - y - b) % 18446744073709551616
def b64 (x y b:Int):Int:=if x < y + b then 1 else 0
def Bit (c:Int):Prop:=0≤c∧c≤1
theorem c64_bit {x y c:Int} (hx:U64 x) (hy:U64 y) (hc:Bit c):Bit (c64 x y c):=by
 obtain ⟨x1,x2⟩:=hx; obtain ⟨y1,y2⟩:=hy; obtain ⟨c1,c2⟩:=hc
 unfold c64; exact ⟨by omega,by omega⟩
theorem b64_bit (x y b:Int):Bit (b64 x y b):=by unfold b64; split <;> exact ⟨by decide,by decide⟩
theorem s64_in (x y c:Int):U64 (s64 x y c):=⟨by unfold s64; omega,by unfold s64; omega⟩
theorem d64_in (x y c:Int):U64 (d64 x y c):=⟨by unfold d64; omega,by unfold d64; omega⟩
theorem Bit.zero:Bit 0:=⟨by decide,by decide⟩
theorem U64.zero:U64 0:=⟨by decide,by decide⟩
def lb0 (z:Int):Int:=z % 18446744073709551616
def up1 (z:Int):Int:=z / 18446744073709551616
def lb1 (z:Int):Int:=lb0 (up1 z)
def lb2 (z:Int):Int:=lb0 (up1 (up1 z))
def lb3 (z:Int):Int:=lb0 (up1 (up1 (up1 z)))
def up4 (z:Int):Int:=up1 (up1 (up1 (up1 z)))
def MV (a b c d:Int):Int:=a + 18446744073709551616 * (b + 18446744073709551616 * (c + 18446744073709551616 * d))
theorem lb0_in (z:Int):U64 (lb0 z):=⟨by unfold lb0; omega,by unfold lb0; omega⟩
theorem lb1_in (z:Int):U64 (lb1 z):=lb0_in _
theorem lb2_in (z:Int):U64 (lb2 z):=lb0_in _
theorem lb3_in (z:Int):U64 (lb3 z):=lb0_in _
theorem lb0_add (t r:Int):lb0 (t + 18446744073709551616 * r) = lb0 t:=by unfold lb0; omega
theorem up1_add (t r:Int):up1 (t + 18446744073709551616 * r) = up1 t + r:=by unfold up1; omega
theorem lb0_id {x:Int} (h:U64 x):lb0 x = x:=by obtain ⟨h1,h2⟩:=h; unfold lb0; omega
theorem up1_id {x:Int} (h:U64 x):up1 x = 0:=by obtain ⟨h1,h2⟩:=h; unfold up1; omega
theorem lb_up (z:Int):lb0 z + 18446744073709551616 * up1 z = z:=by unfold lb0 up1; omega
theorem lb0_mv {a:Int} (b c d:Int) (h:U64 a):lb0 (MV a b c d) = a:=by unfold MV; rw [lb0_add,lb0_id h]
theorem up1_mv {a:Int} (b c d:Int) (h:U64 a):up1 (MV a b c d) = b + 18446744073709551616 * (c + 18446744073709551616 * d):=by unfold MV; rw [up1_add,up1_id h,Int.zero_add]
theorem lb1_mv {a b:Int} (c d:Int) (h:U64 a) (h1:U64 b):lb1 (MV a b c d) = b:=by unfold lb1; rw [up1_mv _ _ _ h,lb0_add,lb0_id h1]
theorem up2_mv {a b:Int} (c d:Int) (h:U64 a) (h1:U64 b):up1 (up1 (MV a b c d)) = c + 18446744073709551616 * d:=by rw [up1_mv _ _ _ h,up1_add,up1_id h1,Int.zero_add]
theorem lb2_mv {a b c:Int} (d:Int) (h:U64 a) (h1:U64 b) (h2:U64 c):lb2 (MV a b c d) = c:=by unfold lb2; rw [up2_mv _ _ h h1,lb0_add,lb0_id h2]
theorem up3_mv {a b c:Int} (d:Int) (h:U64 a) (h1:U64 b) (h2:U64 c):up1 (up1 (up1 (MV a b c d))) = d:=by rw [up2_mv _ _ h h1,up1_add,up1_id h2,Int.zero_add]
theorem lb3_mv {a b c d:Int} (h:U64 a) (h1:U64 b) (h2:U64 c) (h3:U64 d):lb3 (MV a b c d) = d:=by unfold lb3; rw [up3_mv _ h h1 h2,lb0_id h3]
theorem up4_mv {a b c d:Int} (h:U64 a) (h1:U64 b) (h2:U64 c) (h3:U64 d):up4 (MV a b c d) = 0:=by unfold up4; rw [up3_mv _ h h1 h2,up1_id h3]
theorem mv_lb (z:Int):MV (lb0 z) (lb1 z) (lb2 z) (up1 (up1 (up1 z))) = z:=by
 unfold MV lb1 lb2
 rw [lb_up,lb_up,lb_up]
theorem mv_lb4 {z:Int} (h:up4 z = 0):MV (lb0 z) (lb1 z) (lb2 z) (lb3 z) = z:=by
 have e:lb3 z = up1 (up1 (up1 z)):=by
  have:=lb_up (up1 (up1 (up1 z)))
  unfold up4 at h; unfold lb3; rw [h] at this; omega
 rw [e]; exact mv_lb z
theorem mv_nonneg {a b c d:Int} (h:U64 a) (h1:U64 b) (h2:U64 c) (h3:U64 d):0≤MV a b c d:=by
 obtain ⟨x,_⟩:=h; obtain ⟨y,_⟩:=h1; obtain ⟨z,_⟩:=h2; obtain ⟨t,_⟩:=h3
 unfold MV
 have i1:0≤c + 18446744073709551616 * d:=by omega
 have i2:0≤b + 18446744073709551616 * (c + 18446744073709551616 * d):=by generalize c + 18446744073709551616 * d = q at *; omega
 generalize b + 18446744073709551616 * (c + 18446744073709551616 * d) = q at *; omega
theorem up4_lt {z:Int} (h:0≤z):up4 z = 0↔z < 115792089237316195423570985008687907853269984665640564039457584007913129639936:=by
 have e:∀ x:Int,up1 x = x / 18446744073709551616:=fun _=>rfl
 have e4:up4 z = z / 115792089237316195423570985008687907853269984665640564039457584007913129639936:=by
  unfold up4; rw [e,e,e,e]
  rw [Int.ediv_ediv_of_nonneg (by decide),Int.ediv_ediv_of_nonneg (by decide),Int.ediv_ediv_of_nonneg (by decide)]; rfl
 rw [e4]
 constructor
 ·intro h0; omega
 ·intro h0; omega
theorem c64_up (x y c:Int):c64 x y c = up1 (x + y + c):=rfl
theorem b64_up {x y b:Int} (hx:U64 x) (hy:U64 y) (hb:Bit b):b64 x y b = -up1 (x - y - b):=by
 obtain ⟨x1,x2⟩:=hx; obtain ⟨y1,y2⟩:=hy; obtain ⟨c1,c2⟩:=hb
 unfold b64 up1; split <;> omega
theorem sum_words {a0 a1 a2 a3 b0 b1 b2 b3:Int} :
  lb0 (MV a0 a1 a2 a3 + MV b0 b1 b2 b3) = s64 a0 b0 0∧lb1 (MV a0 a1 a2 a3 + MV b0 b1 b2 b3) = s64 a1 b1 (c64 a0 b0 0)∧lb2 (MV a0 a1 a2 a3 + MV b0 b1 b2 b3) = s64 a2 b2 (c64 a1 b1 (c64 a0 b0 0)) ∧
  lb3 (MV a0 a1 a2 a3 + MV b0 b1 b2 b3) = s64 a3 b3 (c64 a2 b2 (c64 a1 b1 (c64 a0 b0 0)))∧up4 (MV a0 a1 a2 a3 + MV b0 b1 b2 b3) = c64 a3 b3 (c64 a2 b2 (c64 a1 b1 (c64 a0 b0 0))):=by
 have e0:MV a0 a1 a2 a3 + MV b0 b1 b2 b3 = (a0 + b0 + 0) + 18446744073709551616 * ((a1 + b1) + 18446744073709551616 * ((a2 + b2) + 18446744073709551616 * (a3 + b3))):=by unfold MV; omega
 have u1:up1 (MV a0 a1 a2 a3 + MV b0 b1 b2 b3) = (a1 + b1 + c64 a0 b0 0) + 18446744073709551616 * ((a2 + b2) + 18446744073709551616 * (a3 + b3)):=by rw [e0,up1_add,← c64_up]; omega
 have u2:up1 (up1 (MV a0 a1 a2 a3 + MV b0 b1 b2 b3)) = (a2 + b2 + c64 a1 b1 (c64 a0 b0 0)) + 18446744073709551616 * (a3 + b3):=by rw [u1,up1_add,← c64_up]; omega
 have u3:up1 (up1 (up1 (MV a0 a1 a2 a3 + MV b0 b1 b2 b3))) = a3 + b3 + c64 a2 b2 (c64 a1 b1 (c64 a0 b0 0)):=by rw [u2,up1_add,← c64_up]; omega
 refine ⟨?_,?_,?_,?_,?_⟩
 ·rw [e0,lb0_add]; rfl
 ·unfold lb1; rw [u1,lb0_add]; rfl
 ·unfold lb2; rw [u2,lb0_add]; rfl
 ·unfold lb3; rw [u3]; rfl
 ·unfold up4; rw [u3]; rfl
theorem diff_words {a0 a1 a2 a3 b0 b1 b2 b3:Int} (ha0:U64 a0) (ha1:U64 a1) (ha2:U64 a2) (hb0:U64 b0) (hb1:U64 b1) (hb2:U64 b2) :
  lb0 (MV a0 a1 a2 a3 - MV b0 b1 b2 b3) = d64 a0 b0 0∧lb1 (MV a0 a1 a2 a3 - MV b0 b1 b2 b3) = d64 a1 b1 (b64 a0 b0 0)∧lb2 (MV a0 a1 a2 a3 - MV b0 b1 b2 b3) = d64 a2 b2 (b64 a1 b1 (b64 a0 b0 0)) ∧
  lb3 (MV a0 a1 a2 a3 - MV b0 b1 b2 b3) = d64 a3 b3 (b64 a2 b2 (b64 a1 b1 (b64 a0 b0 0))):=by
 have e0:MV a0 a1 a2 a3 - MV b0 b1 b2 b3 = (a0 - b0 - 0) + 18446744073709551616 * ((a1 - b1) + 18446744073709551616 * ((a2 - b2) + 18446744073709551616 * (a3 - b3))):=by unfold MV; omega
 have f0:=b64_up ha0 hb0 Bit.zero
 have f1:=b64_up ha1 hb1 (b64_bit a0 b0 0)
 have f2:=b64_up ha2 hb2 (b64_bit a1 b1 (b64 a0 b0 0))
 have u1:up1 (MV a0 a1 a2 a3 - MV b0 b1 b2 b3) = (a1 - b1 - b64 a0 b0 0) + 18446744073709551616 * ((a2 - b2) + 18446744073709551616 * (a3 - b3)):=by rw [e0,up1_add]; omega
 have u2:up1 (up1 (MV a0 a1 a2 a3 - MV b0 b1 b2 b3)) = (a2 - b2 - b64 a1 b1 (b64 a0 b0 0)) + 18446744073709551616 * (a3 - b3):=by rw [u1,up1_add]; omega
 have u3:up1 (up1 (up1 (MV a0 a1 a2 a3 - MV b0 b1 b2 b3))) = a3 - b3 - b64 a2 b2 (b64 a1 b1 (b64 a0 b0 0)):=by rw [u2,up1_add]; omega
 refine ⟨?_,?_,?_,?_⟩
 ·rw [e0,lb0_add]; rfl
 ·unfold lb1; rw [u1,lb0_add]; rfl
 ·unfold lb2; rw [u2,lb0_add]; rfl
 ·unfold lb3; rw [u3]; rfl
def meq (a b c d a' b' c' d':Int):Bool:=a == a' && (b == b' && (c == c' && d == d'))
def weq (n:Bool) (a b c d:Int) (n':Bool) (a' b' c' d':Int):Bool:=n == n' && meq a b c d a' b' c' d'
def mz (a b c d:Int):Bool:=meq a b c d 0 0 0 0
def cn (n:Bool) (a b c d:Int):Bool:=n && !mz a b c d
def wv (n:Bool) (a b c d:Int):Int:=if n then -MV a b c d else MV a b c d
def sg (z:Int):Bool:=decide (z < 0)
def ab (z:Int):Int:=if z < 0 then -z else z
abbrev WV (n:Bool) (a b c d:Int):Value:=.agg #[.bool n,.int .u64 a,.int .u64 b,.int .u64 c,.int .u64 d]
abbrev MG (a b c d:Int):Value:=.agg #[.int .u64 a,.int .u64 b,.int .u64 c,.int .u64 d]
abbrev WE (z:Int):Value:=WV (sg z) (lb0 (ab z)) (lb1 (ab z)) (lb2 (ab z)) (lb3 (ab z))
def Fits (z:Int):Prop:=up4 (ab z) = 0
theorem ab_nonneg (z:Int):0≤ab z:=by unfold ab; split <;> omega
theorem fits_lt (z:Int):Fits z↔ab z < 115792089237316195423570985008687907853269984665640564039457584007913129639936:=up4_lt (ab_nonneg z)
theorem mz_iff {a b c d:Int} (h:U64 a) (h1:U64 b) (h2:U64 c) (h3:U64 d):mz a b c d = true↔MV a b c d = 0:=by
 unfold mz meq
 simp only [Bool.and_eq_true,beq_iff_eq]
 constructor
 ·rintro ⟨rfl,rfl,rfl,rfl⟩; rfl
 ·intro e
  have e0:=lb0_mv b c d h
  have e1:=lb1_mv c d h h1
  have e2:=lb2_mv d h h1 h2
  have e3:=lb3_mv h h1 h2 h3
  rw [e] at e0 e1 e2 e3
  exact ⟨e0.symm,e1.symm,e2.symm,e3.symm⟩
theorem ab_wv {n:Bool} {a b c d:Int} (h:U64 a) (h1:U64 b) (h2:U64 c) (h3:U64 d):ab (wv n a b c d) = MV a b c d:=by
 have:=mv_nonneg h h1 h2 h3
 cases n
 ·show ab (MV a b c d) = _
  unfold ab; split <;> omega
 ·show ab (-MV a b c d) = _
  unfold ab; split <;> omega
theorem sg_wv {n:Bool} {a b c d:Int} (h:U64 a) (h1:U64 b) (h2:U64 c) (h3:U64 d):sg (wv n a b c d) = cn n a b c d:=by
 have h0:=mv_nonneg h h1 h2 h3
 unfold sg wv cn
 cases n
 ·simp; omega
 ·simp only [if_true,Bool.true_and]
  by_cases hz:MV a b c d = 0
  ·rw [(mz_iff h h1 h2 h3).2 hz,hz]; rfl
  ·have:mz a b c d = false:=by
    cases e:mz a b c d
    ·rfl
    ·exact absurd ((mz_iff h h1 h2 h3).1 e) hz
   rw [this]; simp; omega
theorem we_wv {n:Bool} {a b c d:Int} (h:U64 a) (h1:U64 b) (h2:U64 c) (h3:U64 d):WV (cn n a b c d) a b c d = WE (wv n a b c d):=by
 unfold WE
 rw [sg_wv h h1 h2 h3,ab_wv h h1 h2 h3,lb0_mv _ _ _ h,lb1_mv _ _ h h1,lb2_mv _ h h1 h2,lb3_mv h h1 h2 h3]
theorem wv_we {z:Int} (h:Fits z):wv (sg z) (lb0 (ab z)) (lb1 (ab z)) (lb2 (ab z)) (lb3 (ab z)) = z:=by
 unfold wv; rw [mv_lb4 h]
 unfold sg ab
 by_cases h0:z < 0
 ·simp [h0]
 ·simp [h0]
theorem we_signed {n:Bool} {m:Int} (h0:0≤m) (h:up4 m = 0):WV (cn n (lb0 m) (lb1 m) (lb2 m) (lb3 m)) (lb0 m) (lb1 m) (lb2 m) (lb3 m) = WE (if n then -m else m):=by
 rw [we_wv (lb0_in _) (lb1_in _) (lb2_in _) (lb3_in _)]
 unfold wv; rw [mv_lb4 h]
theorem we_zero:WE 0 = WV false 0 0 0 0:=rfl
theorem we_of_neg (v:Int) (hv:I64 v) (h:v < 0):WE v = WV true (IntKind.u64.wrap (-IntKind.u64.wrap v)) 0 0 0:=by
 have h1:sg v = true:=dT h
 have h2:ab v = -v:=if_pos h
 have h3:IntKind.u64.wrap (-IntKind.u64.wrap v) = -v:=by rw [mag_neg v hv h]; unfold mag; rw [if_pos h]
 have h4:U64 (-v):=⟨by omega,by have:=hv.1; omega⟩
 unfold WE
 rw [h1,h2,h3]
 unfold lb1 lb2 lb3
 rw [lb0_id h4,up1_id h4]; rfl
theorem we_uns (v:Int) (h4:U64 v):WE v = WV false v 0 0 0:=by
 have h:¬ v < 0:=by have:=h4.1; omega
 have h1:sg v = false:=dF h
 have h2:ab v = v:=if_neg h
 unfold WE
 rw [h1,h2]
 unfold lb1 lb2 lb3
 rw [lb0_id h4,up1_id h4]; rfl
def cl (z:Int):Int:=if up4 (ab z) = 0 then z else 0
def fb (z:Int):Bool:=up4 (ab z) == 0
theorem fb_iff (z:Int):fb z = true↔Fits z:=beq_iff_eq
theorem cl_fit {z:Int} (h:Fits z):cl z = z:=if_pos h
theorem fb_fit {z:Int} (h:Fits z):fb z = true:=(fb_iff z).2 h
theorem cl_not {z:Int} (h:¬Fits z):cl z = 0:=if_neg h
theorem fb_not {z:Int} (h:¬Fits z):fb z = false:=by
 cases e:fb z
 ·rfl
 ·exact absurd ((fb_iff z).1 e) h
theorem up4_le {x y:Int} (h0:0≤x) (h:x≤y) (hy:up4 y = 0):up4 x = 0:=by
 have:=(up4_lt (Int.le_trans h0 h)).1 hy
 exact (up4_lt h0).2 (by omega)
theorem wv_cn (n:Bool) (a b c d:Int):wv (cn n a b c d) a b c d = wv n a b c d:=by
 unfold cn wv
 cases n
 ·rfl
 ·cases h:mz a b c d
  ·rfl
  ·have hw:a = 0∧b = 0∧c = 0∧d = 0:=by simpa [mz,meq] using h
   obtain ⟨rfl,rfl,rfl,rfl⟩:=hw
   rfl
def sv (p:Bool) (m:Int):Int:=if p then -m else m
theorem wv_sv (n:Bool) (a b c d:Int):wv n a b c d = sv (cn n a b c d) (MV a b c d):=(wv_cn n a b c d).symm
theorem ab_sv {p:Bool} {m:Int} (h:0≤m):ab (sv p m) = m:=by
 unfold sv ab; cases p <;> simp <;> omega
theorem sv_signed {p:Bool} {m:Int} (h0:0≤m) (h:up4 m = 0):WV (cn p (lb0 m) (lb1 m) (lb2 m) (lb3 m)) (lb0 m) (lb1 m) (lb2 m) (lb3 m) = WE (sv p m):=we_signed h0 h
theorem fits_sv {p:Bool} {m:Int} (h0:0≤m):Fits (sv p m)↔up4 m = 0:=by unfold Fits; rw [ab_sv h0]
theorem sv_add (p:Bool) (m k:Int):sv p m + sv p k = sv p (m + k):=by unfold sv; cases p <;> simp <;> omega
theorem sv_sub {p q:Bool} (h:p≠q) (m k:Int):sv p m + sv q k = sv p (m - k):=by unfold sv; cases p <;> cases q <;> simp at * <;> omega
theorem sv_sub' {p q:Bool} (h:p≠q) (m k:Int):sv p m + sv q k = sv q (k - m):=by unfold sv; cases p <;> cases q <;> simp at * <;> omega
theorem sv_mul (p q:Bool) (m k:Int):sv p m * sv q k = sv (p != q) (m * k):=by
 unfold sv; cases p <;> cases q <;> simp [Int.neg_mul,Int.mul_neg]
theorem mv_up4 {a b c d:Int} (h:U64 a) (h1:U64 b) (h2:U64 c) (h3:U64 d):up4 (MV a b c d) = 0:=up4_mv h h1 h2 h3
def cm (x y:Int):Int:=if x < y then -1 else if y < x then 1 else 0
def or4 (a b c d:Int):Int:=if a≠0 then a else if b≠0 then b else if c≠0 then c else d
def cm4 (a0 a1 a2 a3 b0 b1 b2 b3:Int):Int:=or4 (cm a3 b3) (cm a2 b2) (cm a1 b1) (cm a0 b0)
theorem cm_ge (x y:Int):0≤cm x y↔y≤x:=by unfold cm; split <;> (try split) <;> omega
theorem cm_step {a b x y:Int} (ha:U64 a) (hb:U64 b):cm (a + 18446744073709551616 * x) (b + 18446744073709551616 * y) = if cm x y≠0 then cm x y else cm a b:=by
 obtain ⟨a1,a2⟩:=ha; obtain ⟨b1,b2⟩:=hb
 rcases Int.lt_trichotomy x y with h | h | h
 ·have e:cm x y = -1:=if_pos h
  rw [e,if_pos (by decide)]
  exact if_pos (by omega)
 ·subst h
  have e:cm x x = 0:=by unfold cm; rw [if_neg (by omega),if_neg (by omega)]
  rw [e,if_neg (by decide)]
  unfold cm
  by_cases h1:a < b
  ·rw [if_pos h1,if_pos (by omega)]
  ·rw [if_neg h1,if_neg (by omega)]
   by_cases h2:b < a
   ·rw [if_pos h2,if_pos (by omega)]
   ·rw [if_neg h2,if_neg (by omega)]
 ·have e:cm x y = 1:=by unfold cm; rw [if_neg (by omega),if_pos h]
  rw [e,if_pos (by decide)]
  unfold cm
  rw [if_neg (by omega),if_pos (by omega)]
theorem cm4_mv {a0 a1 a2 a3 b0 b1 b2 b3:Int} (ha0:U64 a0) (ha1:U64 a1) (ha2:U64 a2) (hb0:U64 b0) (hb1:U64 b1) (hb2:U64 b2) :
  cm4 a0 a1 a2 a3 b0 b1 b2 b3 = cm (MV a0 a1 a2 a3) (MV b0 b1 b2 b3):=by
 unfold MV cm4
 rw [cm_step ha0 hb0,cm_step ha1 hb1,cm_step ha2 hb2]
 unfold or4
 generalize cm a3 b3 = p
 generalize cm a2 b2 = q
 generalize cm a1 b1 = r
 by_cases h1:p = 0 <;> by_cases h2:q = 0 <;> by_cases h3:r = 0 <;> simp [h1,h2,h3]
end Go.Proofs.YtncmmbacoknefaaGreat

/- RPlain: Plain facts on lists of words: the number that they are, its canonical words, sums, products, order. No program in sight. -/
namespace Go.Proofs.YtncmmbacoknefaaGreat
set_option linter.unusedVariables false
set_option linter.unusedSimpArgs false
def VL:List Int→Int
 | []=>0
 | x :: l=>x + 18446744073709551616 * VL l
def Ws (l:List Int):Prop:=∀ x∈l,U64 x
def pw:Nat→Int
 | 0=>1
 | k + 1=>18446744073709551616 * pw k
theorem pw_pos (k:Nat):0 < pw k:=by
 induction k with
 | zero=>simp [pw]
 | succ k ih=>simp only [pw]; omega
theorem pw_succ (k:Nat):pw (k + 1) = 18446744073709551616 * pw k:=rfl
theorem pw_add (j k:Nat):pw (j + k) = pw j * pw k:=by
 induction j with
 | zero=>simp [pw]
 | succ j ih=>rw [Nat.succ_add,pw_succ,pw_succ,ih,Int.mul_assoc]
theorem Ws.cons {x:Int} {l:List Int} (h:Ws (x :: l)):U64 x∧Ws l:=⟨h x List.mem_cons_self,fun y hy=>h y (List.mem_cons_of_mem _ hy)⟩
theorem Ws.take {l:List Int} (h:Ws l) (k:Nat):Ws (l.take k):=fun x hx=>h x (List.mem_of_mem_take hx)
theorem Ws.drop {l:List Int} (h:Ws l) (k:Nat):Ws (l.drop k):=fun x hx=>h x (List.mem_of_mem_drop hx)
theorem Ws.append {l r:List Int} (h:Ws l) (h':Ws r):Ws (l ++ r):=fun x hx=>(List.mem_append.1 hx).elim (h x) (h' x)
theorem Ws.nil:Ws []:=by intro x hx; cases hx
theorem Ws.one {x:Int} (h:U64 x):Ws [x]:=by intro y hy; simp at hy; subst hy; exact h
theorem Ws.set {l:List Int} (h:Ws l) {x:Int} (hx:U64 x) (k:Nat):Ws (l.set k x):=fun y hy=>by
 rcases List.mem_or_eq_of_mem_set hy with hy | rfl
 ·exact h y hy
 ·exact hx
theorem Ws.getD {l:List Int} (h:Ws l) (k:Nat):U64 (l.getD k 0):=by
 rw [List.getD_eq_getElem?_getD]
 rcases Nat.lt_or_ge k l.length with hk | hk
 ·rw [List.getElem?_eq_getElem hk]; exact h _ (List.getElem_mem _)
 ·rw [List.getElem?_eq_none hk]; exact U64.zero
theorem Ws.zeros (n:Nat):Ws (List.replicate n 0):=fun x hx=>by rw [List.eq_of_mem_replicate hx]; exact U64.zero
theorem VL_append (l r:List Int):VL (l ++ r) = VL l + pw l.length * VL r:=by
 induction l with
 | nil=>simp [VL,pw]
 | cons x l ih=>rw [List.cons_append,List.length_cons]; simp only [VL,pw,ih,Int.mul_assoc,Int.mul_add,Int.add_assoc]
theorem VL_snoc (l:List Int) (x:Int):VL (l ++ [x]) = VL l + pw l.length * x:=by rw [VL_append]; simp [VL]
theorem VL_nonneg {l:List Int} (h:Ws l):0≤VL l:=by
 induction l with
 | nil=>simp [VL]
 | cons x l ih=>obtain ⟨⟨h1,_⟩,h2⟩:=h.cons; have:=ih h2; simp only [VL]; omega
theorem VL_lt {l:List Int} (h:Ws l):VL l < pw l.length:=by
 induction l with
 | nil=>simp [VL,pw]
 | cons x l ih=>obtain ⟨⟨h1,h2⟩,h3⟩:=h.cons; have:=ih h3; rw [List.length_cons]; simp only [VL,pw]; omega
theorem VL_zeros (n:Nat):VL (List.replicate n 0) = 0:=by
 induction n with
 | zero=>rfl
 | succ n ih=>rw [List.replicate_succ]; simp only [VL,ih]; rfl
theorem VL_set (l:List Int) (k:Nat) (hk:k < l.length) (x:Int):VL (l.set k x) = VL l + pw k * (x - l.getD k 0):=by
 induction l generalizing k with
 | nil=>simp at hk
 | cons y l ih =>
  cases k with
  | zero=>simp [VL,pw]; omega
  | succ k =>
   have:=ih k (by simpa using hk)
   simp only [List.set_cons_succ,VL,this,pw,List.getD_cons_succ,Int.mul_add,Int.mul_assoc]
   omega
theorem take_snocD (l:List Int) (k:Nat) (hk:k < l.length):l.take (k + 1) = l.take k ++ [l.getD k 0]:=by
 rw [List.take_succ_eq_append_getElem hk,List.getD_eq_getElem?_getD,List.getElem?_eq_getElem hk]; rfl
def TV (l:List Int) (k:Nat):Int:=VL (l.take k)
theorem TV_zero (l:List Int):TV l 0 = 0:=by simp [TV,VL]
theorem TV_succ (l:List Int) (k:Nat):TV l (k + 1) = TV l k + pw k * l.getD k 0:=by
 unfold TV
 rcases Nat.lt_or_ge k l.length with hk | hk
 ·rw [take_snocD l k hk,VL_snoc,List.length_take,Nat.min_eq_left (by omega)]
 ·rw [List.take_of_length_le (by omega),List.take_of_length_le hk,List.getD_eq_getElem?_getD,List.getElem?_eq_none hk]; simp
theorem TV_all (l:List Int) (k:Nat) (h:l.length≤k):TV l k = VL l:=by unfold TV; rw [List.take_of_length_le h]
def wl (n:Int):List Int:=if h:n≤0 then [] else (n % 18446744073709551616) :: wl (n / 18446744073709551616)
termination_by n.toNat
decreasing_by omega
theorem wl_nil {n:Int} (h:n≤0):wl n = []:=by rw [wl]; simp [h]
theorem wl_cons {n:Int} (h:0 < n):wl n = (n % 18446744073709551616) :: wl (n / 18446744073709551616):=by rw [wl]; simp [show ¬ n≤0 by omega]
theorem wl_words (n:Int):Ws (wl n):=by
 induction h:n.toNat using Nat.strongRecOn generalizing n with
 | ind k ih =>
  by_cases h0:n≤0
  ·rw [wl_nil h0]; exact Ws.nil
  ·rw [wl_cons (by omega)]
   intro x hx
   rcases List.mem_cons.1 hx with rfl | hx
   ·exact ⟨by omega,by omega⟩
   ·exact ih _ (by omega) _ rfl x hx
theorem VL_wl {n:Int} (h:0≤n):VL (wl n) = n:=by
 induction hk:n.toNat using Nat.strongRecOn generalizing n with
 | ind k ih =>
  by_cases h0:n≤0
  ·rw [wl_nil h0]; simp [VL]; omega
  ·rw [wl_cons (by omega)]
   simp only [VL]
   rw [ih _ (by omega) (by omega) rfl]; omega
theorem wl_ne {n:Int} (h:0 < n):wl n≠[]:=by rw [wl_cons h]; simp
theorem wl_VL {l:List Int} (h:Ws l):∃ k,k≤l.length∧wl (VL l) = l.take k∧(∀ j,k≤j→l.getD j 0 = 0)∧(0 < k→l.getD (k - 1) 0≠0):=by
 induction l with
 | nil=>exact ⟨0,by simp,by simp [VL,wl_nil],by simp,by simp⟩
 | cons x l ih =>
  obtain ⟨⟨h1,h2⟩,h3⟩:=h.cons
  obtain ⟨k,hk,e,hz,hl⟩:=ih h3
  have hn:=VL_nonneg h3
  have hm:(x + 18446744073709551616 * VL l) % 18446744073709551616 = x:=by omega
  have hd:(x + 18446744073709551616 * VL l) / 18446744073709551616 = VL l:=by omega
  by_cases h0:x + 18446744073709551616 * VL l≤0
  ·have hx:x = 0:=by omega
   have hv:VL l = 0:=by omega
   refine ⟨0,by simp,by simp only [VL]; rw [wl_nil h0]; simp,fun j _=>?_,by simp⟩
   rw [hv,wl_nil (Int.le_refl _)] at e
   have hk0:k = 0:=by
    rcases Nat.eq_zero_or_pos k with h | h
    ·exact h
    ·have:=congrArg List.length e; simp at this; omega
   cases j with
   | zero=>simpa using hx
   | succ j=>simpa using hz j (by omega)
  ·refine ⟨k + 1,by simp; omega,?_,fun j hj=>?_,fun _=>?_⟩
   ·simp only [VL]; rw [wl_cons (by omega),hm,hd,e]; simp
   ·cases j with
    | zero=>omega
    | succ j=>simpa using hz j (by omega)
   ·rcases Nat.eq_zero_or_pos k with h | h
    ·subst h
     have hv:VL l = 0:=by
      rcases Int.lt_or_le 0 (VL l) with h | h
      ·exact absurd (by simpa using e) (wl_ne h)
      ·omega
     simp; omega
    ·have:=hl h
     have e2:k + 1 - 1 = (k - 1) + 1:=by omega
     rw [e2,List.getD_cons_succ]; exact this
theorem wl_take {l:List Int} (h:Ws l) {k:Nat} (hk:k≤l.length) (hz:∀ j,k≤j→l.getD j 0 = 0) (hl:0 < k→l.getD (k - 1) 0≠0):wl (VL l) = l.take k∧(wl (VL l)).length = k:=by
 obtain ⟨k',hk',e,hz',hl'⟩:=wl_VL h
 have:k = k':=by
  rcases Nat.lt_trichotomy k k' with h1 | h1 | h1
  ·exact absurd (hz (k' - 1) (by omega)) (hl' (by omega))
  ·exact h1
  ·exact absurd (hz' (k - 1) (by omega)) (hl (by omega))
 subst this
 exact ⟨e,by rw [e]; simp; omega⟩
theorem wl_len_lt {n:Int} (h:0≤n) (k:Nat):(wl n).length≤k↔n < pw k:=by
 constructor
 ·intro hl
  have h1:=VL_lt (wl_words n)
  rw [VL_wl h] at h1
  have:pw (wl n).length≤pw k:=by
   obtain ⟨d,rfl⟩:∃ d,k = (wl n).length + d:=⟨k - (wl n).length,by omega⟩
   rw [pw_add]
   have h2:=pw_pos (wl n).length
   have h3:=pw_pos d
   have:=Int.mul_le_mul_of_nonneg_left (show (1:Int)≤pw d by omega) (show 0≤pw (wl n).length by omega)
   omega
  omega
 ·induction k generalizing n with
  | zero=>intro h1; simp [pw] at h1; rw [wl_nil (by omega)]; simp
  | succ k ih =>
   intro h1
   by_cases h0:n≤0
   ·rw [wl_nil h0]; simp
   ·rw [wl_cons (by omega),List.length_cons]
    have:=ih (n:=n / 18446744073709551616) (by omega) (by rw [pw_succ] at h1; omega)
    omega
theorem add_round {s c' x y c A Ba Bb P:Int} (e:s + 18446744073709551616 * c' = x + y + c) (h:A + P * c = Ba + Bb):A + P * s + 18446744073709551616 * P * c' = (Ba + P * x) + (Bb + P * y):=by
 have h1:P * s + 18446744073709551616 * P * c' = P * (s + 18446744073709551616 * c'):=by rw [Int.mul_add,Int.mul_comm 18446744073709551616 P,Int.mul_assoc]
 have h2:P * (x + y + c) = P * x + P * y + P * c:=by rw [Int.mul_add,Int.mul_add]
 rw [e] at h1
 omega
theorem sub_round {s c' x y c A Ba Bb P:Int} (e:s - 18446744073709551616 * c' = x - y - c) (h:A - P * c = Ba - Bb):A + P * s - 18446744073709551616 * P * c' = (Ba + P * x) - (Bb + P * y):=by
 have h1:P * s - 18446744073709551616 * P * c' = P * (s - 18446744073709551616 * c'):=by rw [Int.mul_sub,Int.mul_comm 18446744073709551616 P,Int.mul_assoc]
 have h2:P * (x - y - c) = P * x - P * y - P * c:=by rw [Int.mul_sub,Int.mul_sub]
 rw [e] at h1
 omega
theorem s64_sum (x y c:Int):s64 x y c + 18446744073709551616 * c64 x y c = x + y + c:=by unfold s64 c64; omega
theorem d64_diff {x y b:Int} (hx:U64 x) (hy:U64 y) (hb:Bit b):d64 x y b - 18446744073709551616 * b64 x y b = x - y - b:=by
 obtain ⟨x1,x2⟩:=hx; obtain ⟨y1,y2⟩:=hy; obtain ⟨b1,b2⟩:=hb
 unfold d64 b64; split <;> omega
theorem VL_split (l:List Int) (k:Nat):VL l = VL (l.take k) + pw (min k l.length) * VL (l.drop k):=by
 conv=>lhs; rw [← List.take_append_drop k l]
 rw [VL_append,List.length_take]
theorem VL_top {A B:List Int} (hA:Ws A) (hB:Ws B) (hl:A.length = B.length) {i:Nat} (hi:i < A.length) (he:∀ j,i < j→A.getD j 0 = B.getD j 0) (hlt:A.getD i 0 < B.getD i 0):VL A < VL B:=by
 have d:A.drop (i + 1) = B.drop (i + 1):=by
  apply List.ext_getElem
  ·simp [hl]
  ·intro j h1 h2
   simp only [List.length_drop] at h1 h2
   have:=he (i + 1 + j) (by omega)
   rw [List.getD_eq_getElem?_getD,List.getD_eq_getElem?_getD,List.getElem?_eq_getElem (by omega),List.getElem?_eq_getElem (by omega)] at this
   simpa using this
 have a1:=VL_split A (i + 1)
 have b1:=VL_split B (i + 1)
 rw [Nat.min_eq_left (by omega)] at a1 b1
 rw [take_snocD A i hi,VL_snoc,List.length_take,Nat.min_eq_left (by omega)] at a1
 rw [take_snocD B i (by omega),VL_snoc,List.length_take,Nat.min_eq_left (by omega)] at b1
 rw [d] at a1
 have a2:=VL_lt (hA.take i)
 have b2:=VL_nonneg (hB.take i)
 rw [List.length_take,Nat.min_eq_left (by omega)] at a2
 have p:=pw_pos i
 have h3:pw i * (A.getD i 0 + 1)≤pw i * B.getD i 0:=Int.mul_le_mul_of_nonneg_left (by omega) (by omega)
 rw [Int.mul_add,Int.mul_one] at h3
 omega
theorem VL_same {A B:List Int} (hl:A.length = B.length) (he:∀ j,A.getD j 0 = B.getD j 0):A = B:=by
 apply List.ext_getElem hl
 intro j h1 h2
 have:=he j
 rwa [List.getD_eq_getElem?_getD,List.getD_eq_getElem?_getD,List.getElem?_eq_getElem h1,List.getElem?_eq_getElem h2] at this
theorem wl_lt_of_len {m n:Int} (hm:0≤m) (hn:0≤n) (h:(wl m).length < (wl n).length):m < n:=by
 have h1:=(wl_len_lt hm (wl m).length).1 (Nat.le_refl _)
 rcases Int.lt_or_le n (pw (wl m).length) with h2 | h2
 ·have:=(wl_len_lt hn _).2 h2; omega
 ·omega
theorem cm_lt {x y:Int} (h:x < y):cm x y = -1:=by unfold cm; rw [if_pos h]
theorem cm_gt {x y:Int} (h:y < x):cm x y = 1:=by unfold cm; rw [if_neg (by omega),if_pos h]
theorem cm_eq (x:Int):cm x x = 0:=by unfold cm; simp
theorem VL4 (a b c d:Int):VL [a,b,c,d] = MV a b c d:=by simp [VL,MV]
theorem pw4:pw 4 = 115792089237316195423570985008687907853269984665640564039457584007913129639936:=by simp [pw]
theorem getD_wl4 {m:Int} (h0:0≤m) (h:up4 m = 0):(wl m).getD 0 0 = lb0 m∧(wl m).getD 1 0 = lb1 m∧(wl m).getD 2 0 = lb2 m∧(wl m).getD 3 0 = lb3 m∧(wl m).length≤4:=by
 have hw:Ws [lb0 m,lb1 m,lb2 m,lb3 m]:=by
  intro x hx
  simp at hx
  rcases hx with rfl | rfl | rfl | rfl
  ·exact lb0_in _
  ·exact lb1_in _
  ·exact lb2_in _
  ·exact lb3_in _
 have e:VL [lb0 m,lb1 m,lb2 m,lb3 m] = m:=by rw [VL4,mv_lb4 h]
 obtain ⟨k,hk,e2,hz,hl⟩:=wl_VL hw
 rw [e] at e2
 have hlen:(wl m).length = k:=by rw [e2]; simp at hk ⊢; omega
 have hg:∀ j,(wl m).getD j 0 = [lb0 m,lb1 m,lb2 m,lb3 m].getD j 0:=fun j=>by
  rcases Nat.lt_or_ge j k with h1 | h1
  ·rw [e2,List.getD_eq_getElem?_getD,List.getD_eq_getElem?_getD,List.getElem?_take,if_pos h1]
  ·rw [hz j h1,List.getD_eq_getElem?_getD,List.getElem?_eq_none (by omega)]; rfl
 exact ⟨hg 0,hg 1,hg 2,hg 3,by simp at hk; omega⟩
theorem wl_fit {m:Int} (h0:0≤m):(wl m).length≤4↔up4 m = 0:=by
 rw [wl_len_lt h0 4,pw4,up4_lt h0]
end Go.Proofs.YtncmmbacoknefaaGreat

/- Shelf:
  DERIVED: THE SHELF's CONTRACTS AT THIS DUMP, IN PLAIN WORDS (tools/lay-plain.mjs out of 'TryzShelf.lean', which tools/lay-shelf.mjs wrote): THE SAME DECLARATIONS UNDER THE SAME NAMES: 'import', 'namespace', 'open', 'def', 'theorem' AND NOTHING ELSE: no command of the shelf's: FOR A HAND-IN. Each laying: the table of numbers ('.._ren') and one theorem, a field a fact of the dump's own or the kernel's comparison; each contract: ONE APPLICATION.
-/
namespace Go.Proofs
open Go.Shelf
def Tryz.lays134_ren:Go.Shelf.Ren:=⟨fun | 134=>196 | 129=>197 | n=>n,fun | 53=>34 | 3=>3 | 4=>4 | 46=>115 | 5=>5 | 9=>9 | n=>n,fun | n=>n⟩
theorem Tryz.lays134:Go.Proofs.Lays.n134 Tryz.prog Tryz.lays134_ren:={
 mixed:=by kernel_rfl
 f129:=Tryz.func197.trans (congrArg some (by kernel_rfl))
 f134:=Tryz.func196.trans (congrArg some (by kernel_rfl))
 t3:=Tryz.underlying3
 a3:=Tryz.isAgg3
 z3:=Tryz.sizeOf3
 v3:=Tryz.zeroValue3
 t4:=Tryz.underlying4
 a4:=Tryz.isAgg4
 z4:=Tryz.sizeOf4
 v4:=Tryz.zeroValue4
 t5:=Tryz.underlying5
 a5:=Tryz.isAgg5
 z5:=Tryz.sizeOf5
 v5:=Tryz.zeroValue5
 t9:=Tryz.underlying9
 a9:=Tryz.isAgg9
 z9:=Tryz.sizeOf9
 v9:=Tryz.zeroValue9
 t46:=Tryz.underlying115
 a46:=Tryz.isAgg115
 z46:=Tryz.sizeOf115
 v46:=Tryz.zeroValue115
 t53:=Tryz.underlying34
 a53:=Tryz.isAgg34
 z53:=Tryz.sizeOf34
 v53:=Tryz.zeroValue34 }
theorem Tryz.bits_LeadingZeros64 (x:Int) (w:World) (h0:0≤x) (h1:x≤18446744073709551615) :
  Calls Tryz.prog 196 #[.int .u64 x] w fun e w'=>e = .returned (.int .i64 (64 - (Lib.bitLen x.toNat:Int)))∧w' = w:=Any.bits_LeadingZeros64 Tryz.lays134 x w h0 h1
def Tryz.lays129_ren:Go.Shelf.Ren:=⟨fun | 129=>197 | n=>n,fun | 53=>34 | 3=>3 | 4=>4 | 46=>115 | 5=>5 | 9=>9 | n=>n,fun | n=>n⟩
theorem Tryz.lays129:Go.Proofs.Lays.n129 Tryz.prog Tryz.lays129_ren:={
 mixed:=by kernel_rfl
 f129:=Tryz.func197.trans (congrArg some (by kernel_rfl))
 t3:=Tryz.underlying3
 a3:=Tryz.isAgg3
 z3:=Tryz.sizeOf3
 v3:=Tryz.zeroValue3
 t4:=Tryz.underlying4
 a4:=Tryz.isAgg4
 z4:=Tryz.sizeOf4
 v4:=Tryz.zeroValue4
 t5:=Tryz.underlying5
 a5:=Tryz.isAgg5
 z5:=Tryz.sizeOf5
 v5:=Tryz.zeroValue5
 t9:=Tryz.underlying9
 a9:=Tryz.isAgg9
 z9:=Tryz.sizeOf9
 v9:=Tryz.zeroValue9
 t46:=Tryz.underlying115
 a46:=Tryz.isAgg115
 z46:=Tryz.sizeOf115
 v46:=Tryz.zeroValue115
 t53:=Tryz.underlying34
 a53:=Tryz.isAgg34
 z53:=Tryz.sizeOf34
 v53:=Tryz.zeroValue34 }
theorem Tryz.bits_Len64 (x:Int) (w:World) (h0:0≤x) (h1:x≤18446744073709551615) :
  Calls Tryz.prog 197 #[.int .u64 x] w fun e w'=>e = .returned (.int .i64 (Lib.bitLen x.toNat))∧w' = w:=Any.bits_Len64 Tryz.lays129 x w h0 h1
def Tryz.lays264_ren:Go.Shelf.Ren:=⟨fun | 264=>164 | n=>n,fun | 53=>34 | 46=>115 | n=>n,fun | n=>n⟩
theorem Tryz.lays264:Go.Proofs.Lays.n264 Tryz.prog Tryz.lays264_ren:={
 mixed:=by kernel_rfl
 f264:=Tryz.func164.trans (congrArg some (by kernel_rfl))
 t46:=Tryz.underlying115
 a46:=Tryz.isAgg115
 z46:=Tryz.sizeOf115
 v46:=Tryz.zeroValue115
 t53:=Tryz.underlying34
 a53:=Tryz.isAgg34
 z53:=Tryz.sizeOf34
 v53:=Tryz.zeroValue34 }
open Go.RowKit Go.Lib in
theorem Tryz.bits_Mul64 (x y:Nat) (hx:x < 18446744073709551616) (hy:y < 18446744073709551616) (w:World) :
  Calls Tryz.prog 164 #[.int .u64 x,.int .u64 y] w fun e w'=>e = .returned (.tuple #[.int .u64 ((x * y / 18446744073709551616:Nat):Int),.int .u64 ((x * y % 18446744073709551616:Nat):Int)])∧w' = w:=Any.bits_Mul64 Tryz.lays264 x y hx hy w
def Tryz.lays212_ren:Go.Shelf.Ren:=⟨fun | 212=>144 | 263=>173 | 264=>164 | n=>n,fun | 46=>115 | 51=>200 | 146=>201 | 53=>34 | 148=>186 | n=>n,fun | n=>n⟩
theorem Tryz.lays212:Go.Proofs.Lays.n212 Tryz.prog Tryz.lays212_ren:={
 mixed:=by kernel_rfl
 f212:=Tryz.func144.trans (congrArg some (by kernel_rfl))
 f263:=Tryz.func173.trans (congrArg some (by kernel_rfl))
 f264:=Tryz.func164.trans (congrArg some (by kernel_rfl))
 t46:=Tryz.underlying115
 a46:=Tryz.isAgg115
 z46:=Tryz.sizeOf115
 v46:=Tryz.zeroValue115
 t51:=Tryz.underlying200
 a51:=Tryz.isAgg200
 z51:=Tryz.sizeOf200
 v51:=Tryz.zeroValue200
 t53:=Tryz.underlying34
 a53:=Tryz.isAgg34
 z53:=Tryz.sizeOf34
 v53:=Tryz.zeroValue34
 t146:=Tryz.underlying201
 a146:=Tryz.isAgg201
 z146:=Tryz.sizeOf201
 v146:=Tryz.zeroValue201
 t148:=Tryz.underlying186
 a148:=Tryz.isAgg186
 z148:=Tryz.sizeOf186
 v148:=Tryz.zeroValue186 }
open Go.RowKit Go.Lib in
theorem Tryz.bits_Mul (x y:Nat) (hx:x < 18446744073709551616) (hy:y < 18446744073709551616) (w:World) :
  Calls Tryz.prog 144 #[.int .u64 x,.int .u64 y] w fun e w'=>e = .returned (.tuple #[.int .u64 ((x * y / 18446744073709551616:Nat):Int),.int .u64 ((x * y % 18446744073709551616:Nat):Int)])∧w' = w:=Any.bits_Mul Tryz.lays212 x y hx hy w
end Go.Proofs

/- Wide: The package wide: what its functions return, as exact integers. First: equality, the carries, and the words. -/
namespace Go.Proofs.YtncmmbacoknefaaGreat
open Go.ChangeShapes Go.WideShapes Go.ChangeAt Go.RowKit
set_option linter.unusedVariables false
set_option linter.unusedSimpArgs false
theorem info_u64:(Tryz.prog.info? 34).map (fun i=>(i.zero,i.size,i.bytes)) = some (some (.int .u64 0),1,8):=by kernel_rfl
theorem eq_mag (a b c d a' b' c' d':Int) (dd:Nat) (w:World) :
  (Op.equalIn (dd + 2) 35 (.agg #[.int .u64 a,.int .u64 b,.int .u64 c,.int .u64 d]) (.agg #[.int .u64 a',.int .u64 b',.int .u64 c',.int .u64 d'])).run Tryz.prog w = .ok (meq a b c d a' b' c' d') w:=by
 obtain ⟨i0,hi,hz0,hz1,hz2⟩:=info_parts info_u64
 rw [run_equalIn_array w (dd + 1) _ _ Tryz.underlying35 hi]
 have hc:Tryz.prog.cellsOf 34 = 1:=by kernel_rfl
 have hr:List.range 4 = [0,1,2,3]:=rfl
 rw [hc,hr]
 have hu:=Tryz.underlying34
 unfold meq
 by_cases h1:a = a'
 ·subst h1
  by_cases h2:b = b'
  ·subst h2
   by_cases h3:c = c'
   ·subst h3
    by_cases h4:d = d'
    ·subst h4; simp [Op.eqItems,go_sem]
    ·have e4:(d == d') = false:=beq_eq_false_iff_ne.2 h4
     simp [Op.eqItems,go_sem,e4,h4]
   ·have e3:(c == c') = false:=beq_eq_false_iff_ne.2 h3
    simp [Op.eqItems,go_sem,e3,h3]
  ·have e2:(b == b') = false:=beq_eq_false_iff_ne.2 h2
   simp [Op.eqItems,go_sem,e2,h2]
 ·have e1:(a == a') = false:=beq_eq_false_iff_ne.2 h1
  simp [Op.eqItems,go_sem,e1,h1]
theorem eq_wide (n:Bool) (a b c d:Int) (n':Bool) (a' b' c' d':Int) (dd:Nat) (w:World) :
  (Op.equalIn (dd + 3) 37 (.agg #[.bool n,.int .u64 a,.int .u64 b,.int .u64 c,.int .u64 d]) (.agg #[.bool n',.int .u64 a',.int .u64 b',.int .u64 c',.int .u64 d'])).run Tryz.prog w = .ok (weq n a b c d n' a' b' c' d') w:=by
 have h:=fun W=>eq_mag a b c d a' b' c' d' dd W
 unfold weq
 cases n <;> cases n' <;> simp [go_sem,h] <;> cases meq a b c d a' b' c' d' <;> rfl
theorem add64 {x y c:Int} (hx:U64 x) (hy:U64 y) (hc:Bit c) (w:World):(callFunc 155 #[.int .u64 x,.int .u64 y,.int .u64 c]).run Tryz.prog w = .ok (.value (.tuple #[.int .u64 (s64 x y c),.int .u64 (c64 x y c)])) w:=by
 rw [run_callFunc_extern Tryz.func155 (by kernel_rfl) (by kernel_rfl) (by kernel_rfl) (e:=add64Entry) (by kernel_rfl),run_add64 x y c hx.1 hy.1 hc.1 hc.2]
 rfl
def sub64Entry':Array Value→Sem Value:=fun args=>do
 let (x,y,b) ← Extern.MathBitsCarry.three "Sub64" args
 pure (Extern.MathBitsCarry.pair ((x + Extern.MathBitsCarry.m64 - y - b) % Extern.MathBitsCarry.m64) (if x < y + b then 1 else 0))
theorem run_sub64' {P:Program} (x y b:Nat) (hb:b≤1) (w:World) :
  (sub64Entry' #[.int .u64 x,.int .u64 y,.int .u64 b]).run P w =
   .ok (.tuple #[.int .u64 (((x + 18446744073709551616 - y - b) % 18446744073709551616:Nat):Int),.int .u64 ((if x < y + b then 1 else 0:Nat):Int)]) w:=by
 have:b = 0∨b = 1:=by omega
 rcases this with rfl | rfl <;> rfl
theorem sub64 {x y b:Int} (hx:U64 x) (hy:U64 y) (hb:Bit b) (w:World):(callFunc 156 #[.int .u64 x,.int .u64 y,.int .u64 b]).run Tryz.prog w = .ok (.value (.tuple #[.int .u64 (d64 x y b),.int .u64 (b64 x y b)])) w:=by
 obtain ⟨x1,x2⟩:=hx; obtain ⟨y1,y2⟩:=hy; obtain ⟨b1,b2⟩:=hb
 obtain ⟨n,rfl⟩:=Int.eq_ofNat_of_zero_le x1
 obtain ⟨m,rfl⟩:=Int.eq_ofNat_of_zero_le y1
 obtain ⟨k,rfl⟩:=Int.eq_ofNat_of_zero_le b1
 rw [run_callFunc_extern Tryz.func156 (by kernel_rfl) (by kernel_rfl) (by kernel_rfl) (e:=sub64Entry') (by kernel_rfl),run_sub64' n m k (by omega)]
 have e1:(((n + 18446744073709551616 - m - k) % 18446744073709551616:Nat):Int) = d64 n m k:=by unfold d64; omega
 have e2:((if n < m + k then 1 else 0:Nat):Int) = b64 n m k:=by unfold b64; split <;> split <;> omega
 rw [e1,e2]; rfl
theorem bcell {W w1:World} (hb:Below W.heap.size W w1):(∀ b o,b < W.heap.size→w1.cell? ⟨b,o,none⟩ = W.cell? ⟨b,o,none⟩)∧(∀ b o,b < W.heap.size→w1.frozen? ⟨b,o,none⟩ = W.frozen? ⟨b,o,none⟩)∧W.heap.size≤w1.heap.size :=
 ⟨fun b o h=>hb.cell (p:=⟨b,o,none⟩) h,fun b o h=>hb.frozen (p:=⟨b,o,none⟩) h,hb.size⟩
set_option maxHeartbeats 1600000 in
set_option maxRecDepth 100000 in
theorem wadd_any (a0 a1 a2 a3 b0 b1 b2 b3:Int) (ha0:U64 a0) (ha1:U64 a1) (ha2:U64 a2) (ha3:U64 a3) (hb0:U64 b0) (hb1:U64 b1) (hb2:U64 b2) (hb3:U64 b3) (w:World) :
  Calls Tryz.prog 165 #[MG a0 a1 a2 a3,MG b0 b1 b2 b3] w fun e w'=>e = .returned (.tuple #[MG (lb0 (MV a0 a1 a2 a3 + MV b0 b1 b2 b3)) (lb1 (MV a0 a1 a2 a3 + MV b0 b1 b2 b3)) (lb2 (MV a0 a1 a2 a3 + MV b0 b1 b2 b3)) (lb3 (MV a0 a1 a2 a3 + MV b0 b1 b2 b3)),.int .u64 (up4 (MV a0 a1 a2 a3 + MV b0 b1 b2 b3))])∧Below w.heap.size w w':=by
 have k0:=c64_bit ha0 hb0 Bit.zero
 have k1:=c64_bit ha1 hb1 k0
 have k2:=c64_bit ha2 hb2 k1
 have A0:=fun W=>add64 ha0 hb0 Bit.zero W
 have A1:=fun W=>add64 ha1 hb1 k0 W
 have A2:=fun W=>add64 ha2 hb2 k1 W
 have A3:=fun W=>add64 ha3 hb3 k2 W
 obtain ⟨e0,e1,e2,e3,e4⟩:=sum_words (a0:=a0) (a1:=a1) (a2:=a2) (a3:=a3) (b0:=b0) (b1:=b1) (b2:=b2) (b3:=b3)
 rw [e0,e1,e2,e3,e4]
 clear k0 k1 k2 ha0 ha1 ha2 ha3 hb0 hb1 hb2 hb3 e0 e1 e2 e3 e4
 go_enter Tryz.func165,Tryz.ntmps165
 go_wp2
 refine wp_loop_rounds 5 ?_
 rw [rounds_succ]
 go_wp2
 go_region
 go_wp2
 rw [rounds_succ]
 go_wp2
 go_region
 go_wp2
 rw [rounds_succ]
 go_wp2
 go_region
 go_wp2
 rw [rounds_succ]
 go_wp2
 go_region
 go_wp2
 rw [rounds_succ]
 go_wp2
 go_returns
 exact ⟨rfl,(by (repeat' (first | (with_reducible exact Below.refl _ _) | (with_reducible refine Below.alloc ?_ ?_ _) | (with_reducible refine Below.setCell ?_ ?_ _) | (with_reducible refine Below.drew ?_) | (with_reducible refine Below.trans ?_ (Below.mono (by with_reducible assumption) ?_)) | go_size)))⟩
set_option maxHeartbeats 1600000 in
set_option maxRecDepth 100000 in
theorem wsub_any (a0 a1 a2 a3 b0 b1 b2 b3:Int) (ha0:U64 a0) (ha1:U64 a1) (ha2:U64 a2) (ha3:U64 a3) (hb0:U64 b0) (hb1:U64 b1) (hb2:U64 b2) (hb3:U64 b3) (w:World) :
  Calls Tryz.prog 167 #[MG a0 a1 a2 a3,MG b0 b1 b2 b3] w fun e w'=>e = .returned (MG (lb0 (MV a0 a1 a2 a3 - MV b0 b1 b2 b3)) (lb1 (MV a0 a1 a2 a3 - MV b0 b1 b2 b3)) (lb2 (MV a0 a1 a2 a3 - MV b0 b1 b2 b3)) (lb3 (MV a0 a1 a2 a3 - MV b0 b1 b2 b3)))∧Below w.heap.size w w':=by
 have k0:=b64_bit a0 b0 0
 have k1:=b64_bit a1 b1 (b64 a0 b0 0)
 have k2:=b64_bit a2 b2 (b64 a1 b1 (b64 a0 b0 0))
 have A0:=fun W=>sub64 ha0 hb0 Bit.zero W
 have A1:=fun W=>sub64 ha1 hb1 k0 W
 have A2:=fun W=>sub64 ha2 hb2 k1 W
 have A3:=fun W=>sub64 ha3 hb3 k2 W
 obtain ⟨e0,e1,e2,e3⟩:=diff_words (a3:=a3) (b3:=b3) ha0 ha1 ha2 hb0 hb1 hb2
 rw [e0,e1,e2,e3]
 clear k0 k1 k2 ha0 ha1 ha2 ha3 hb0 hb1 hb2 hb3 e0 e1 e2 e3
 go_enter Tryz.func167,Tryz.ntmps167
 go_wp2
 refine wp_loop_rounds 5 ?_
 rw [rounds_succ]
 go_wp2
 go_region
 go_wp2
 rw [rounds_succ]
 go_wp2
 go_region
 go_wp2
 rw [rounds_succ]
 go_wp2
 go_region
 go_wp2
 rw [rounds_succ]
 go_wp2
 go_region
 go_wp2
 rw [rounds_succ]
 go_wp2
 go_returns
 exact ⟨rfl,(by (repeat' (first | (with_reducible exact Below.refl _ _) | (with_reducible refine Below.alloc ?_ ?_ _) | (with_reducible refine Below.setCell ?_ ?_ _) | (with_reducible refine Below.drew ?_) | (with_reducible refine Below.trans ?_ (Below.mono (by with_reducible assumption) ?_)) | go_size)))⟩
theorem valid_any (n:Bool) (a b c d:Int) (w:World) :
  Calls Tryz.prog 176 #[WV n a b c d] w fun e w'=>e = .returned (.bool (!n || !mz a b c d))∧Below w.heap.size w w':=by
 have E:∀ W,(Op.equalIn 10000 35 (MG a b c d) (MG 0 0 0 0)).run Tryz.prog W = .ok (mz a b c d) W:=fun W=>eq_mag a b c d 0 0 0 0 9998 W
 cases n
 ·go_enter Tryz.func176,Tryz.ntmps176
  go_wp2
  go_returns
  exact ⟨ret_b rfl,(by (repeat' (first | (with_reducible exact Below.refl _ _) | (with_reducible refine Below.alloc ?_ ?_ _) | (with_reducible refine Below.setCell ?_ ?_ _) | (with_reducible refine Below.drew ?_) | (with_reducible refine Below.trans ?_ (Below.mono (by with_reducible assumption) ?_)) | go_size)))⟩
 ·go_enter Tryz.func176,Tryz.ntmps176
  go_wp2
  go_returns
  exact ⟨ret_b rfl,(by (repeat' (first | (with_reducible exact Below.refl _ _) | (with_reducible refine Below.alloc ?_ ?_ _) | (with_reducible refine Below.setCell ?_ ?_ _) | (with_reducible refine Below.drew ?_) | (with_reducible refine Below.trans ?_ (Below.mono (by with_reducible assumption) ?_)) | go_size)))⟩
theorem clean_any (n:Bool) (a b c d:Int) (w:World) :
  Calls Tryz.prog 161 #[WV n a b c d] w fun e w'=>e = .returned (WV (cn n a b c d) a b c d)∧Below w.heap.size w w':=by
 cases hz:(n && mz a b c d)
 ·have hv:(!n || !mz a b c d) = true:=by revert hz; cases n <;> cases mz a b c d <;> simp
  have hc:cn n a b c d = n:=by revert hz; unfold cn; cases n <;> cases mz a b c d <;> simp
  rw [hc]
  clear hz hc
  go_enter Tryz.func161,Tryz.ntmps161
  go_wp2_with (go_at_call 176; refine (valid_any _ _ _ _ _ _).mono ?_; rintro e w' ⟨rfl,hb⟩; obtain ⟨hc,hf,hsz⟩:=bcell hb; simp only [World.size_alloc,World.size_setCell,World.size_drew] at hsz)
  refine bodyPost_ret (v:=WV n a b c d) ?_ rfl ⟨rfl,?_⟩
  ·simp [results,Tryz.results161,go_sem,hc]
  ·(repeat' (first | (with_reducible exact Below.refl _ _) | (with_reducible refine Below.alloc ?_ ?_ _) | (with_reducible refine Below.setCell ?_ ?_ _) | (with_reducible refine Below.drew ?_) | (with_reducible refine Below.trans ?_ (Below.mono (by with_reducible assumption) ?_)) | go_size))
 ·have hv:(!n || !mz a b c d) = false:=by revert hz; cases n <;> cases mz a b c d <;> simp
  have hzz:mz a b c d = true:=by revert hz; cases n <;> simp
  have hc:cn n a b c d = false:=by unfold cn; rw [hzz]; simp
  have hw:a = 0∧b = 0∧c = 0∧d = 0:=by simpa [mz,meq] using hzz
  obtain ⟨rfl,rfl,rfl,rfl⟩:=hw
  rw [hc]
  clear hz hc hzz
  go_enter Tryz.func161,Tryz.ntmps161
  go_wp2_with (go_at_call 176; refine (valid_any _ _ _ _ _ _).mono ?_; rintro e w' ⟨rfl,hb⟩; obtain ⟨hc,hf,hsz⟩:=bcell hb; simp only [World.size_alloc,World.size_setCell,World.size_drew] at hsz)
  refine bodyPost_ret (v:=WV false 0 0 0 0) ?_ rfl ⟨rfl,?_⟩
  ·simp [results,Tryz.results161,go_sem,hc]
  ·(repeat' (first | (with_reducible exact Below.refl _ _) | (with_reducible refine Below.alloc ?_ ?_ _) | (with_reducible refine Below.setCell ?_ ?_ _) | (with_reducible refine Below.drew ?_) | (with_reducible refine Below.trans ?_ (Below.mono (by with_reducible assumption) ?_)) | go_size))
theorem signed_any (n:Bool) (a b c d:Int) (w:World) :
  Calls Tryz.prog 163 #[.bool n,MG a b c d] w fun e w'=>e = .returned (WV (cn n a b c d) a b c d)∧Below w.heap.size w w':=by
 go_enter Tryz.func163,Tryz.ntmps163
 go_wp2_with (go_at_call 161; refine (clean_any _ _ _ _ _ _).mono ?_; rintro e w' ⟨rfl,hb⟩; obtain ⟨hc,hf,hsz⟩:=bcell hb; simp only [World.size_alloc,World.size_setCell,World.size_drew] at hsz)
 refine bodyPost_ret (v:=WV (cn n a b c d) a b c d) ?_ rfl ⟨rfl,?_⟩
 ·simp [results,Tryz.results163,go_sem,hc]
 ·(repeat' (first | (with_reducible exact Below.refl _ _) | (with_reducible refine Below.alloc ?_ ?_ _) | (with_reducible refine Below.setCell ?_ ?_ _) | (with_reducible refine Below.drew ?_) | (with_reducible refine Below.trans ?_ (Below.mono (by with_reducible assumption) ?_)) | go_size))
end Go.Proofs.YtncmmbacoknefaaGreat

/- WideB: The package wide, continued: comparing, numbers, negation, sums. -/
namespace Go.Proofs.YtncmmbacoknefaaGreat
open Go.ChangeShapes Go.WideShapes Go.ChangeAt Go.RowKit
set_option linter.unusedVariables false
set_option linter.unusedSimpArgs false
theorem still_tail_drew {P:Program} {id:Nat} {Q:Exit→Act→World→Prop} {a:Act} {w:World} {l:List Oper} (n:Nat) (hm:P.follows .mixedOrders = true) (hB:Region.lexTailB .any l.toArray n = true)
  (h:wpStill P l.toArray w.drew (fun a'=>wpList P l.toArray Q (l.drop n) a' w.drew) (l.take n) a):(Code.region id l.toArray true).wp P Q a w:=wp_region_still_tail n hm hB h
theorem still_same {P:Program} {f:FuncId} {args:Array Value} {w:World} {v:Value} (h:Calls P f args w fun e w'=>e = .returned v∧w = w'):Calls P f args w fun e w'=>e = .returned v∧w' = w :=
 h.mono fun _ _ ⟨he,hm⟩=>⟨he,hm.symm⟩
theorem cmp_any (x y:Int) (w:World) :
  Calls Tryz.prog 188 #[.int .u64 x,.int .u64 y] w fun e w'=>e = .returned (.int .i64 (cm x y))∧w = w':=by
 by_cases h1:x < y
 ·have e:cm x y = -1:=by unfold cm; rw [if_pos h1]
  rw [e]
  clear e
  go_enter Tryz.func188,Tryz.ntmps188
  go_wp2
  go_ret
  exact ⟨rfl,rfl⟩
 ·by_cases h2:y < x
  ·have e:cm x y = 1:=by unfold cm; rw [if_neg h1,if_pos h2]
   rw [e]
   clear e
   go_enter Tryz.func188,Tryz.ntmps188
   go_wp2
   go_ret
   exact ⟨rfl,rfl⟩
  ·have e:cm x y = 0:=by unfold cm; rw [if_neg h1,if_neg h2]
   rw [e]
   clear e
   go_enter Tryz.func188,Tryz.ntmps188
   go_wp2
   go_ret
   exact ⟨rfl,rfl⟩
theorem or_any (g:Nat) (a b c d:Int) (w:World) (h0:w.cell? ⟨g,0,none⟩ = some (.int .i64 a)) (h1:w.cell? ⟨g,1,none⟩ = some (.int .i64 b)) (h2:w.cell? ⟨g,2,none⟩ = some (.int .i64 c)) (h3:w.cell? ⟨g,3,none⟩ = some (.int .i64 d)) :
  Calls Tryz.prog 187 #[.slice (some ⟨g,0,none⟩) 4 4] w fun e w'=>e = .returned (.int .i64 (or4 a b c d))∧w = w':=by
 by_cases e0:a = 0
 ·have t0:(a != 0) = false:=by rw [e0]; rfl
  by_cases e1:b = 0
  ·have t1:(b != 0) = false:=by rw [e1]; rfl
   by_cases e2:c = 0
   ·have t2:(c != 0) = false:=by rw [e2]; rfl
    have e:or4 a b c d = d:=by simp [or4,e0,e1,e2]
    rw [e]
    clear e e0 e1 e2
    by_cases e3:d = 0
    ·have t3:(d != 0) = false:=by rw [e3]; rfl
     have E:=hid e3
     clear e3
     go_enter Tryz.func187,Tryz.ntmps187
     go_wp2
     refine wp_loop_rounds 5 ?_
     rw [rounds_succ]
     go_wp2
     rw [rounds_succ]
     go_wp2
     rw [rounds_succ]
     go_wp2
     rw [rounds_succ]
     go_wp2
     rw [rounds_succ]
     go_wp2
     go_ret
     exact ⟨ret_i E.out.symm,rfl⟩
    ·have t3:(d != 0) = true:=bne_iff_ne.2 e3
     clear e3
     go_enter Tryz.func187,Tryz.ntmps187
     go_wp2
     go_rounds 5
     go_ret
     exact ⟨rfl,rfl⟩
   ·have t2:(c != 0) = true:=bne_iff_ne.2 e2
    have e:or4 a b c d = c:=by simp [or4,e0,e1,e2]
    rw [e]
    clear e e0 e1 e2
    go_enter Tryz.func187,Tryz.ntmps187
    go_wp2
    go_rounds 5
    go_ret
    exact ⟨rfl,rfl⟩
  ·have t1:(b != 0) = true:=bne_iff_ne.2 e1
   have e:or4 a b c d = b:=by simp [or4,e0,e1]
   rw [e]
   clear e e0 e1
   go_enter Tryz.func187,Tryz.ntmps187
   go_wp2
   go_rounds 5
   go_ret
   exact ⟨rfl,rfl⟩
 ·have t0:(a != 0) = true:=bne_iff_ne.2 e0
  have e:or4 a b c d = a:=by simp [or4,e0]
  rw [e]
  clear e e0
  go_enter Tryz.func187,Tryz.ntmps187
  go_wp2
  go_rounds 5
  go_ret
  exact ⟨rfl,rfl⟩
set_option maxRecDepth 100000 in
theorem wcompare_any (a0 a1 a2 a3 b0 b1 b2 b3:Int) (w:World) :
  Calls Tryz.prog 166 #[MG a0 a1 a2 a3,MG b0 b1 b2 b3] w fun e w'=>e = .returned (.int .i64 (cm4 a0 a1 a2 a3 b0 b1 b2 b3))∧Below w.heap.size w w':=by
 go_enter Tryz.func166,Tryz.ntmps166
 go_wp2
 refine still_tail_drew 20 (by kernel_rfl) (by kernel_rfl) ?_
 simp only [List.take_succ_cons,List.take_zero,List.drop_succ_cons,List.drop_zero]
 repeat (first | still_step | still_call (still_same (cmp_any _ _ _)))
 refine wpStill_nil ?_
 go_wp2_with fail
 refine (or_any _ (cm a3 b3) (cm a2 b2) (cm a1 b1) (cm a0 b0) _ (by simp [go_sem]) (by simp [go_sem]) (by simp [go_sem]) (by simp [go_sem])).mono ?_
 rintro e w' ⟨rfl,rfl⟩
 go_wp2
 go_ret
 exact ⟨rfl,by (repeat' (first | (with_reducible exact Below.refl _ _) | (with_reducible refine Below.alloc ?_ ?_ _) | (with_reducible refine Below.setCell ?_ ?_ _) | (with_reducible refine Below.drew ?_) | (with_reducible refine Below.trans ?_ (Below.mono (by with_reducible assumption) ?_)) | go_size))⟩
theorem of_any (v:Int) (hv:I64 v) (w:World) :
  Calls Tryz.prog 81 #[.int .i64 v] w fun e w'=>e = .returned (WE v)∧Below w.heap.size w w':=by
 obtain ⟨v1,v2⟩:=hv
 by_cases h:v < 0
 ·have e:WE v = WV true (IntKind.u64.wrap (-IntKind.u64.wrap v)) 0 0 0:=we_of_neg v ⟨v1,v2⟩ h
  rw [e]
  clear e
  go_enter Tryz.func81,Tryz.ntmps81
  go_wp2
  go_returns
  exact ⟨rfl,by (repeat' (first | (with_reducible exact Below.refl _ _) | (with_reducible refine Below.alloc ?_ ?_ _) | (with_reducible refine Below.setCell ?_ ?_ _) | (with_reducible refine Below.drew ?_) | (with_reducible refine Below.trans ?_ (Below.mono (by with_reducible assumption) ?_)) | go_size))⟩
 ·have e:WE v = WV false v 0 0 0:=we_uns v ⟨by omega,by omega⟩
  rw [e]
  clear e
  go_enter Tryz.func81,Tryz.ntmps81
  go_wp2
  go_returns
  exact ⟨rfl,by (repeat' (first | (with_reducible exact Below.refl _ _) | (with_reducible refine Below.alloc ?_ ?_ _) | (with_reducible refine Below.setCell ?_ ?_ _) | (with_reducible refine Below.drew ?_) | (with_reducible refine Below.trans ?_ (Below.mono (by with_reducible assumption) ?_)) | go_size))⟩
end Go.Proofs.YtncmmbacoknefaaGreat

/- Slice: Slices of words: what is read, rows of the call's own, append, store. -/
namespace Go.Proofs.YtncmmbacoknefaaGreat
open Go.ChangeShapes Go.WideShapes Go.ChangeAt Go.RowKit
set_option linter.unusedVariables false
set_option linter.unusedSimpArgs false
def SlU (W:World) (v:Value) (ws:List Int):Prop:=∃ (a:Option Addr) (len cap:Nat),v = .slice a len cap∧ws.length = len∧len≤cap∧cap≤9223372036854775807∧Ws ws ∧
 (0 < cap→∃ b off,a = some ⟨b,off,none⟩∧b < W.heap.size∧∀ i,i < len→W.cell? ⟨b,off + i,none⟩ = some (.int .u64 (ws.getD i 0)))
theorem SlU.below {W W':World} {v:Value} {ws:List Int} (h:SlU W v ws) (hb:Below W.heap.size W W'):SlU W' v ws:=by
 obtain ⟨a,len,cap,e,h1,h2,h3,h4,h5⟩:=h
 refine ⟨a,len,cap,e,h1,h2,h3,h4,fun hc=>?_⟩
 obtain ⟨b,off,ea,hlt,hcell⟩:=h5 hc
 exact ⟨b,off,ea,Nat.lt_of_lt_of_le hlt hb.size,fun i hi=>(hb.cell (p:=⟨b,off + i,none⟩) hlt).trans (hcell i hi)⟩
theorem SlU.alloc {W:World} {v:Value} {ws:List Int} (h:SlU W v ws) (o:Obj):SlU (W.alloc o) v ws:=h.below ((Below.refl _ _).alloc (Nat.le_refl _) _)
theorem SlU.drew {W:World} {v:Value} {ws:List Int} (h:SlU W v ws):SlU W.drew v ws:=h
theorem SlU.ws {W:World} {v:Value} {ws:List Int} (h:SlU W v ws):Ws ws:=by obtain ⟨_,_,_,_,_,_,_,h,_⟩:=h; exact h
def slLen:Value→Nat
 | .slice _ k _=>k
 | _=>0
theorem SlU.canon {W:World} {a:Option Addr} {len cap:Nat} {ws:List Int} (h:SlU W (.slice a len cap) ws):SlU W (.slice a (wl (VL ws)).length cap) (wl (VL ws)):=by
 obtain ⟨a',len',cap',e,h1,h2,h3,h4,h5⟩:=h
 cases e
 obtain ⟨k,hk,e,hz,hl⟩:=wl_VL h4
 have hlen:(wl (VL ws)).length = k:=by rw [e,List.length_take]; omega
 refine ⟨a,_,cap,rfl,rfl,by omega,h3,wl_words _,fun hc=>?_⟩
 obtain ⟨b,off,ea,hlt,hcell⟩:=h5 hc
 refine ⟨b,off,ea,hlt,fun i hi=>?_⟩
 rw [hcell i (by omega),e,List.getD_eq_getElem?_getD,List.getD_eq_getElem?_getD,List.getElem?_take,if_pos (by omega)]
def uw (ws:List Int):List Value:=ws.map (Value.int .u64)
theorem uw_one (ws:List Int):∀ u∈uw ws,u.oneCell' = true:=by
 intro u hu
 obtain ⟨x,_,rfl⟩:=List.mem_map.1 hu
 rfl
theorem uw_len (ws:List Int):(uw ws).length = ws.length:=by simp [uw]
theorem uw_at (ws:List Int) (j:Nat) (u:Value) (h:(uw ws)[j]? = some u):j < ws.length∧u = .int .u64 (ws.getD j 0):=by
 unfold uw at h
 rw [List.getElem?_map] at h
 rcases Nat.lt_or_ge j ws.length with hj | hj
 ·rw [List.getElem?_eq_getElem hj] at h
  refine ⟨hj,?_⟩
  rw [List.getD_eq_getElem?_getD,List.getElem?_eq_getElem hj]
  simpa using h.symm
 ·rw [List.getElem?_eq_none hj] at h; simp at h
theorem uw_get (ws:List Int) (j:Nat) (hj:j < ws.length):(uw ws)[j]? = some (.int .u64 (ws.getD j 0)):=by
 unfold uw
 rw [List.getElem?_map,List.getElem?_eq_getElem hj,List.getD_eq_getElem?_getD,List.getElem?_eq_getElem hj]; rfl
def OwnU (w:World) (base:Nat) (v:Value) (ws:List Int):Prop:=w.ownsRow base 34 1 v ws.length (uw ws)∧Ws ws
theorem OwnU.form {w:World} {base:Nat} {v:Value} {ws:List Int} (h:OwnU w base v ws):(v = .slice none 0 0∧ws = [])∨∃ g cap,v = .slice (some ⟨g,0,none⟩) ws.length cap∧base≤g∧g < w.heap.size∧ws.length≤cap∧cap≤maxLen ∧
  (∀ j,j < ws.length→w.cell? ⟨g,j,none⟩ = some (.int .u64 (ws.getD j 0)))∧(∀ j,w.frozen? ⟨g,j,none⟩ = false):=by
 obtain ⟨h,hw⟩:=h
 have hlt:=h.lt
 have h0:=h
 obtain ⟨h1,h2⟩:=h
 rcases h2 with ⟨rfl,hn⟩ | ⟨g,cap,cur,rfl,h3,h4,h5,h6,h7⟩
 ·exact .inl ⟨rfl,List.length_eq_zero_iff.1 hn⟩
 ·refine .inr ⟨g,cap,rfl,h3,(hlt g rfl).2,h5,h6,fun j hj=>?_,fun j=>h0.frozenAt j⟩
  rw [h0.cellAt j (by omega)]; exact uw_get ws j hj
theorem OwnU.sl {w:World} {base:Nat} {v:Value} {ws:List Int} (h:OwnU w base v ws):SlU w v ws:=by
 rcases h.form with ⟨rfl,rfl⟩ | ⟨g,cap,rfl,h1,h2,h3,h4,h5,h6⟩
 ·exact ⟨none,0,0,rfl,rfl,Nat.le_refl _,by decide,Ws.nil,fun h=>absurd h (by omega)⟩
 ·exact ⟨_,_,cap,rfl,rfl,h3,by simpa [maxLen] using h4,h.2,fun _=>⟨g,0,rfl,h2,fun i hi=>by rw [Nat.zero_add]; exact h5 i hi⟩⟩
theorem OwnU.base {w:World} {b b':Nat} {v:Value} {ws:List Int} (h:OwnU w b v ws) (hb:b'≤b):OwnU w b' v ws:=by
 obtain ⟨⟨h1,h2⟩,h3⟩:=h
 refine ⟨⟨h1,?_⟩,h3⟩
 rcases h2 with h2 | ⟨g,cap,cur,h2,h4,h5⟩
 ·exact .inl h2
 ·exact .inr ⟨g,cap,cur,h2,Nat.le_trans hb h4,h5⟩
theorem OwnU.below {w w':World} {b:Nat} {v:Value} {ws:List Int} (h:OwnU w b v ws) (hb:Below w.heap.size w w'):OwnU w' b v ws :=
 ⟨h.1.kept (row:=none) ⟨hb.os,hb.tape,hb.output,hb.size,fun k hk _=>hb.block k hk⟩ (by cases v.ownBlock <;> simp),h.2⟩
theorem OwnU.drew {w:World} {b:Nat} {v:Value} {ws:List Int} (h:OwnU w b v ws):OwnU w.drew b v ws:=h
theorem OwnU.stored {w:World} {base g cap:Nat} {ws:List Int} {n:Nat} (h:OwnU w base (.slice (some ⟨g,0,none⟩) n cap) ws) (hn:n = ws.length) (j:Nat) (hj:j < ws.length) {x:Int} (hx:U64 x) :
  OwnU (w.setCell ⟨g,j,none⟩ (.int .u64 x)) base (.slice (some ⟨g,0,none⟩) n cap) (ws.set j x):=by
 subst hn
 obtain ⟨h1,h2⟩:=h
 refine ⟨?_,h2.set hx j⟩
 have:=h1.stored j (.int .u64 x)
 rw [List.length_set]
 have e:uw (ws.set j x) = (uw ws).set j (.int .u64 x):=by simp [uw,List.map_set]
 rw [e]
 exact this.1
theorem OwnU.lit (w:World) (cs:List Int) (h:Ws cs) (T:TypeId) (hT:T = 34) (hm:cs.length≤maxLen):OwnU (w.alloc (.cells (uw cs).toArray T (0,0))) w.heap.size (.slice (some ⟨w.heap.size,0,none⟩) cs.length cs.length) cs:=by
 subst hT
 have:=World.ownsRow_lit (base:=w.heap.size) (e:=34) (size:=1) w (uw cs).toArray cs.length (Nat.le_refl _) hm (by simp [uw])
 exact ⟨by simpa using this,h⟩
theorem OwnU.empty (w:World) (T:TypeId) (hT:T = 34) {b base:Nat} (hb:b = w.heap.size) (hle:base≤w.heap.size):OwnU (w.alloc (.cells #[] T (0,0))) base (.slice (some ⟨b,0,none⟩) 0 0) []:=by
 subst hb
 exact (OwnU.lit w [] Ws.nil T hT (by decide)).base hle
section
variable {P:Program} (w:World)
theorem run_append_types {t t2 ty e e2:TypeId} (ht:P.underlying t = some (.slice e)) (ht2:P.underlying t2 = some (.slice e2)) (i:TypeInfo) (hi:P.info? e = some i) (A B:Option Addr) (n c m d:Nat):(Builtin.append_ #[t,t2] ty #[.slice A n c,.slice B m d]).run P w = (Builtin.append_ #[t,t] ty #[.slice A n c,.slice B m d]).run P w:=by
 simp [Builtin.append_,run_underlying ht,run_underlying ht2,sizeOf,typeInfo,hi,Builtin.lenOf]
theorem run_append_u (base:Nat) {t t2 ty e2:TypeId} {i:TypeInfo} (ht:P.underlying t = some (.slice 34)) (ht2:P.underlying t2 = some (.slice e2)) (hi:P.info? 34 = some i) (hz:i.zero = some (.int .u64 0)) (hsize:i.size = 1) (hby:i.bytes = 8)
  {v src:Value} {ws ms:List Int} (hown:OwnU w base v ws) (hsrc:SlU w src ms) (hsmall:ws.length + ms.length≤4294967296) (hbase:base≤w.heap.size) :
  ∃ v' w',(Builtin.append_ #[t,t2] ty #[v,src]).run P w = .ok v' w'∧OwnU w' base v' (ws ++ ms)∧w.grownBy w' v.ownBlock∧(v'.ownBlock = v.ownBlock∨v'.ownBlock = some w.heap.size):=by
 obtain ⟨A,m,c,rfl,h1,h2,h3,h4,h5⟩:=hsrc
 obtain ⟨A0,n0,c0,hv⟩:∃ A0 n0 c0,v = .slice A0 n0 c0:=by
  rcases hown.form with ⟨rfl,_⟩ | ⟨g,cap,rfl,_⟩ <;> exact ⟨_,_,_,rfl⟩
 have hty:(Builtin.append_ #[t,t2] ty #[v,.slice A m c]).run P w = (Builtin.append_ #[t,t] ty #[v,.slice A m c]).run P w:=by subst hv; exact run_append_types w ht ht2 i hi _ _ _ _ _ _
 rw [hty]
 clear hv hty
 have fin:∀ {v' w'},w'.ownsRow base 34 1 v' (ws.length + m) (uw ws ++ uw ms)→OwnU w' base v' (ws ++ ms):=fun h=>⟨by rw [List.length_append,h1]; simpa [uw] using h,hown.2.append h4⟩
 rcases Nat.eq_zero_or_pos c with h0 | h0
 ·obtain rfl:m = 0:=by omega
  obtain rfl:ms = []:=List.length_eq_zero_iff.1 h1
  refine ⟨v,w,?_,by simpa using hown,World.grownBy.refl w _,.inl rfl⟩
  rcases hown.1.2 with ⟨rfl,hn⟩ | ⟨g,cap,cur,rfl,_,_,hnc,_⟩
  ·cases A <;> simp [Builtin.append_,run_underlying ht,sizeOf,typeInfo,hi,Builtin.lenOf,Builtin.firstCells,storeCells,loadCells,loadCellsFrom]
  ·cases A <;> simp [Builtin.append_,run_underlying ht,sizeOf,typeInfo,hi,Builtin.lenOf,Builtin.firstCells,hnc,storeCells,loadCells,loadCellsFrom]
 ·obtain ⟨b,off,rfl,hlt,hcell⟩:=h5 h0
  obtain ⟨v',w',hrun,h6,h7,_,h8⟩:=run_append_own_at (P:=P) w base t ty 34 i (.int .u64 0) 1 8 ht hi hz hsize hby rfl (by decide) v ws.length (uw ws) hown.1 ⟨b,off,none⟩ m c (uw ms) (by rw [uw_len]; omega)
   (fun j u hu=>by
    obtain ⟨hj,rfl⟩:=uw_at ms j u hu
    have e:(⟨b,off,none⟩:Addr).add j = ⟨b,off + j,none⟩:=by unfold Addr.add; split <;> simp_all
    rw [e]; exact hcell j (by omega)) (uw_one ms) (by simp only [maxLen]; omega) (by omega) hbase
  exact ⟨v',w',hrun,fin h6,h7,h8⟩
theorem wpList_append_u {ops:Array Oper} {rest:List Oper} {o:Oper} {a:Act} {Q:Exit→Act→World→Prop} (hgd:o.guard = none) (s x:Operand) (t t2:TypeId)
  (ho:o.op = .call { callee:=.builtin .append,args:=#[s,x],argTypes:=#[t,t2] }) (base:Nat) {e2:TypeId} {i:TypeInfo} (ht:P.underlying t = some (.slice 34)) (ht2:P.underlying t2 = some (.slice e2)) (hi:P.info? 34 = some i) (hz:i.zero = some (.int .u64 0)) (hsize:i.size = 1) (hby:i.bytes = 8)
  {v src:Value} {ws ms:List Int} (hs:a.eval s = v) (hx:a.eval x = src) (hown:OwnU w base v ws) (hsrc:SlU w src ms) (hsmall:ws.length + ms.length≤4294967296) (hbase:base≤w.heap.size)
  (h:∀ v' w',OwnU w' base v' (ws ++ ms)→w.grownBy w' v.ownBlock→(v'.ownBlock = v.ownBlock∨v'.ownBlock = some w.heap.size)→wpList P ops Q rest (a.put o.dst v') w'):wpList P ops Q (o :: rest) a w:=by
 refine wpList_plain hgd fun K hK=>?_
 obtain ⟨v',w',hrun,h2,h3,h4⟩:=run_append_u (P:=P) (ty:=o.type) w base ht ht2 hi hz hsize hby hown hsrc hsmall hbase
 unfold Oper.wp execOp
 simp only [ho,resolve,invoke,builtin,Sem.run_bind,Sem.run_pure,Result.andThen_ok,List.map_toArray,List.map_cons,List.map_nil,hs,hx,hrun]
 exact hK _ _ (h v' w' h2 h3 h4)
end
def Fr (base:Nat):Value→Prop
 | .slice a _ _=>∀ b off,a = some ⟨b,off,none⟩→base≤b
 | _=>False
theorem OwnU.fr {w:World} {base b':Nat} {v:Value} {ws:List Int} (h:OwnU w base v ws) (hb:b'≤base):Fr b' v:=by
 rcases h.form with ⟨rfl,_⟩ | ⟨g,cap,rfl,h1,_⟩
 ·intro b off e; cases e
 ·intro b off e; cases e; omega
def SlF (W:World) (base:Nat) (v:Value) (ws:List Int):Prop:=SlU W v ws∧Fr base v
theorem SlF.canon {W:World} {base:Nat} {a:Option Addr} {len cap:Nat} {ws:List Int} (h:SlF W base (.slice a len cap) ws):SlF W base (.slice a (wl (VL ws)).length cap) (wl (VL ws)):=⟨h.1.canon,h.2⟩
end Go.Proofs.YtncmmbacoknefaaGreat

/- SxU: A symbolic run: slices of words in other blocks, read or own. -/
namespace Go.Proofs.YtncmmbacoknefaaGreat
open Go Go.RowKit
set_option linter.unusedVariables false
set_option linter.unusedSimpArgs false
def Shp (a:Option Addr) (len cap:Nat):Prop:=len≤cap∧cap≤9223372036854775807∧(0 < cap→∃ b off,a = some ⟨b,off,none⟩)
theorem Shp.some {a:Option Addr} {len cap:Nat} (h:Shp a len cap) (hl:0 < len):∃ b off,a = some ⟨b,off,none⟩:=h.2.2 (Nat.lt_of_lt_of_le hl h.1)
theorem SlU.shp {W:World} {v:Value} {ws:List Int} (h:SlU W v ws):∃ a cap,v = .slice a ws.length cap∧Shp a ws.length cap:=by
 obtain ⟨a,len,cap,rfl,h1,h2,h3,h4,h5⟩:=h
 exact ⟨a,cap,by rw [h1],by rw [h1]; exact h2,h3,fun hc=>by obtain ⟨b,off,e,-⟩:=h5 hc; exact ⟨b,off,e⟩⟩
theorem SlU.cell {W:World} {b off len cap:Nat} {ws:List Int} (h:SlU W (.slice (some ⟨b,off,none⟩) len cap) ws) {i:Nat} (hi:i < ws.length):W.cell? ⟨b,off + i,none⟩ = some (.int .u64 (ws.getD i 0)):=by
 obtain ⟨a,len',cap',e,h1,h2,h3,h4,h5⟩:=h
 cases e
 obtain ⟨b',off',e,hlt,hc⟩:=h5 (by omega)
 cases e
 exact hc i (by omega)
theorem OwnU.cell {W:World} {n g len cap:Nat} {ws:List Int} (h:OwnU W n (.slice (some ⟨g,0,none⟩) len cap) ws) {i:Nat} (hi:i < ws.length):W.cell? ⟨g,i,none⟩ = some (.int .u64 (ws.getD i 0)):=by
 have:=h.sl.cell hi
 rwa [Nat.zero_add] at this
theorem OwnU.len {W:World} {n:Nat} {a:Option Addr} {len cap:Nat} {ws:List Int} (h:OwnU W n (.slice a len cap) ws):len = ws.length:=by
 obtain ⟨a',l',c',e,h1,-⟩:=h.sl
 cases e
 exact h1.symm
theorem OwnU.canon {W:World} {n g len cap:Nat} {ws:List Int} (h:OwnU W n (.slice (some ⟨g,0,none⟩) len cap) ws):OwnU W n (.slice (some ⟨g,0,none⟩) (wl (VL ws)).length cap) (wl (VL ws)):=by
 have hl:=h.len
 obtain ⟨⟨h1,h2⟩,h3⟩:=h
 subst hl
 obtain ⟨k,hk,e,-,-⟩:=wl_VL h3
 have hlen:(wl (VL ws)).length = k:=by rw [e,List.length_take]; omega
 refine ⟨⟨by simp [uw],?_⟩,wl_words _⟩
 rcases h2 with ⟨h,-⟩ | ⟨g',cap',cur,e',hb,hg,hn,hm,hs,ht⟩
 ·cases h
 ·cases e'
  refine .inr ⟨g,cap,cur,rfl,hb,hg,by omega,hm,hs,?_⟩
  rw [hlen,e]
  unfold uw
  rw [List.map_take]
  have ht':cur.toList.take (ws.length * 1) = ws.map (Value.int .u64):=ht
  rw [← ht',List.take_take,Nat.mul_one,Nat.mul_one,Nat.min_eq_left hk]
namespace Sx
structure KnG where
 bs:List Nat
 ok:Nat→World→Prop
 lt:∀ {n W},ok n W→∀ b∈bs,n≤b∧b < W.heap.size
 keep:∀ {n W W'},ok n W→W.heap.size≤W'.heap.size→(∀ b∈bs,W'.heap[b]? = W.heap[b]?)→(∀ b,b < n→b < W.heap.size→W'.heap[b]? = W.heap[b]?)→ok n W'
inductive Kn where
 | r (v:Value) (ws:List Int)
 | o (v:Value) (ws:List Int)
 | g (k:KnG)
def rbs:Value→List Nat
 | .slice (some a) _ c=>if c = 0 then [] else [a.block]
 | _=>[]
def obs:Value→List Nat
 | .slice (some a) _ _=>[a.block]
 | _=>[]
def Kn.bs:Kn→List Nat
 | .r v _=>rbs v
 | .o v _=>obs v
 | .g k=>k.bs
def Kn.ok (n:Nat) (W:World):Kn→Prop
 | .r v ws=>SlF W n v ws
 | .o v ws=>OwnU W n v ws
 | .g k=>k.ok n W
theorem Kn.ok.lt {n:Nat} {W:World} {k:Kn} (h:k.ok n W):∀ b∈k.bs,n≤b∧b < W.heap.size:=by
 cases k with
 | r v ws =>
  obtain ⟨⟨a,len,cap,rfl,h1,h2,h3,h4,h5⟩,hf⟩:=h
  intro b hb
  cases a with
  | none=>cases hb
  | some a =>
   have hb':b∈(if cap = 0 then [] else [a.block]):=hb
   split at hb'
   ·cases hb'
   ·obtain ⟨c,off,e,hlt,-⟩:=h5 (by omega)
    cases e
    rw [List.mem_singleton] at hb'
    subst hb'
    exact ⟨hf _ _ rfl,hlt⟩
 | o v ws =>
  intro b hb
  have hv:v.ownBlock = some b:=by
   cases v with
   | slice a l c =>
    cases a with
    | none=>cases hb
    | some a=>exact congrArg some (List.mem_singleton.1 hb).symm
   | _=>cases hb
  exact h.1.lt b hv
 | g k=>exact k.lt h
theorem Kn.ok.keep {n:Nat} {W W':World} {k:Kn} (h:k.ok n W) (hs:W.heap.size≤W'.heap.size) (hk:∀ b∈k.bs,W'.heap[b]? = W.heap[b]?) (ho:∀ b,b < n→b < W.heap.size→W'.heap[b]? = W.heap[b]?):k.ok n W':=by
 cases k with
 | g k=>exact k.keep h hs hk ho
 | r v ws =>
  obtain ⟨⟨a,len,cap,rfl,h1,h2,h3,h4,h5⟩,hf⟩:=h
  refine ⟨⟨a,len,cap,rfl,h1,h2,h3,h4,fun hc=>?_⟩,hf⟩
  obtain ⟨b,off,rfl,hlt,hcell⟩:=h5 hc
  refine ⟨b,off,rfl,Nat.lt_of_lt_of_le hlt hs,fun i hi=>?_⟩
  have e:W'.heap[b]? = W.heap[b]? := hk b (by
   show b∈(if cap = 0 then [] else [b])
   rw [if_neg (by omega)]; exact List.mem_singleton.2 rfl)
  exact (World.cell?_of_block (a:=⟨b,off + i,none⟩) e).trans (hcell i hi)
 | o v ws =>
  obtain ⟨⟨h1,h2⟩,h3⟩:=h
  refine ⟨⟨h1,?_⟩,h3⟩
  rcases h2 with hn | ⟨g,cap,cur,rfl,hb,hg,rest⟩
  ·exact .inl hn
  ·exact .inr ⟨g,cap,cur,rfl,hb,(hk g (List.mem_singleton.2 rfl)).trans hg,rest⟩
theorem Kn.ok.base {n m:Nat} {W:World} {k:Kn} (h:k.ok n W) (hm:m≤n) (hk:∀ x,k≠.g x):k.ok m W:=by
 cases k with
 | g x=>exact absurd rfl (hk x)
 | r v ws =>
  obtain ⟨h1,h2⟩:=h
  refine ⟨h1,?_⟩
  cases v with
  | slice a l c=>exact fun b off e=>Nat.le_trans hm (h2 b off e)
  | _=>cases h2
 | o v ws=>exact OwnU.base h hm
theorem Kn.ok.below {n:Nat} {W W':World} {k:Kn} (h:k.ok n W) (hb:Below W.heap.size W W'):k.ok n W':=h.keep hb.size (fun b hk=>hb.block b (h.lt b hk).2) fun b _ hl=>hb.block b hl
def kX (n:Nat) (L:List Kn):Ext:=⟨L.flatMap Kn.bs,fun W=>∀ k∈L,k.ok n W⟩
theorem kX_nil (n:Nat):ext0 = kX n []:=by
 unfold ext0 kX
 congr 1
 funext W
 exact propext ⟨fun _ k hk=>(by cases hk),fun _=>trivial⟩
theorem kX_bs {n:Nat} {L:List Kn} {b:Nat}:b∈(kX n L).bs↔∃ k∈L,b∈k.bs:=List.mem_flatMap
theorem kX_stab (C:Cx) (L:List Kn):Stab C (kX C.w0.heap.size L):=fun W W' h1 h2 h3 h4 h5 h6 k hk =>
 (h6 k hk).keep h4 (fun b hb=>h5 b ((h6 k hk).lt b hb).2 (.inl (kX_bs.2 ⟨k,hk,hb⟩))) fun b hb hl=>h5 b hl (.inr hb)
theorem kX_lt {n:Nat} {L:List Kn} {W:World} (h:(kX n L).ok W):∀ b∈(kX n L).bs,n≤b∧b < W.heap.size:=fun b hb=>by
 obtain ⟨k,hk,hb⟩:=kX_bs.1 hb
 exact (h k hk).lt b hb
variable {C:Cx} {S:St} {K:St→Prop} {d:Option Nat}
theorem asks_kn {f:FuncId} {l:List Value} {L:List Kn} {gs:List Nat} {ι:Type} (v:ι→Value) (L':ι→List Kn) (he:∀ (l:Array Value) W,(callFunc f l).run C.P W = .ok (.enter f l) W) (hT:S.T = kX C.w0.heap.size L) (hgs:∀ g∈gs,g∈C.mv S) (hgo:∀ W,(∀ k∈L,k.ok C.w0.heap.size W)→∀ g∈gs,C.w0.heap.size≤g)
  (h:∀ W,Below C.w0.heap.size C.w0 W→(∀ k∈L,k.ok C.w0.heap.size W)→Calls C.P f l.toArray W fun e w'=>∃ i,e = .returned (v i)∧Moves gs W w'∧∀ k∈L' i,(k∈L∧∀ b∈k.bs,b ∉ gs)∨(k.ok C.w0.heap.size w'∧∀ b∈k.bs,b∈S.T.bs∨W.heap.size≤b))
  (hk:∀ i,K (St.put ⟨S.n,S.E,S.H,kX C.w0.heap.size (L' i)⟩ d (.v (v i)))):asks C f l d K S:=by
 refine asks_T v (fun i=>kX C.w0.heap.size (L' i)) (fun W hW hok hbs=>givesT_calls he (fun i=>kX_stab C _) ?_) hk
 rw [hT] at hok
 refine (h W hW hok).mono fun e w' ⟨i,h1,⟨m1,m2,m3,m4,m5⟩,h3⟩=>⟨i,h1,⟨m1,m2,m3,m4,fun j hj hn=>m5 j hj fun hg=>hn (hgs j hg)⟩,?_,?_⟩
 ·intro k hk
  rcases h3 k hk with ⟨hk2,hb⟩ | ⟨hk2,-⟩
  ·exact (hok k hk2).keep m4 (fun b hbb=>m5 b ((hok k hk2).lt b hbb).2 (hb b hbb)) fun b hbn hbl=>m5 b hbl fun hg=>by have:=hgo W hok b hg; omega
  ·exact hk2
 ·intro b hb
  obtain ⟨k,hk,hb⟩:=kX_bs.1 hb
  rcases h3 k hk with ⟨hk2,hbb⟩ | ⟨hk2,h4⟩
  ·exact ⟨.inl (by rw [hT]; exact kX_bs.2 ⟨k,hk2,hb⟩),Nat.lt_of_lt_of_le ((hok k hk2).lt b hb).2 m4⟩
  ·exact ⟨h4 b hb,(hk2.lt b hb).2⟩
theorem moves_below {W W':World} (h:Below W.heap.size W W'):Moves [] W W':=⟨h.os,h.tape,h.output,h.size,fun i hi _=>h.block i hi⟩
theorem asks_r {f:FuncId} {l:List Value} {L:List Kn} {ws:List Int} (he:∀ (l:Array Value) W,(callFunc f l).run C.P W = .ok (.enter f l) W) (hT:S.T = kX C.w0.heap.size L)
  (h:∀ W,Below C.w0.heap.size C.w0 W→(∀ k∈L,k.ok C.w0.heap.size W)→Calls C.P f l.toArray W fun e w'=>∃ v,e = .returned v∧SlF w' W.heap.size v ws∧Below W.heap.size W w')
  (hk:∀ a cap,Shp a ws.length cap→(∀ b∈rbs (.slice a ws.length cap),b ∉ S.T.bs)→K (St.put ⟨S.n,S.E,S.H,kX C.w0.heap.size (.r (.slice a ws.length cap) ws :: L)⟩ d (.v (.slice a ws.length cap)))):asks C f l d K S:=by
 refine asks_T (ι:={x:Option Addr × Nat // Shp x.1 ws.length x.2∧∀ b∈rbs (.slice x.1 ws.length x.2),b ∉ S.T.bs}) (fun x=>.slice x.1.1 ws.length x.1.2) (fun x=>kX C.w0.heap.size (.r (.slice x.1.1 ws.length x.1.2) ws :: L)) (fun W hW hok hbs=>givesT_calls he (fun i=>kX_stab C _) ?_) (fun x=>hk _ _ x.2.1 x.2.2)
 rw [hT] at hok
 refine (h W hW hok).mono fun e w' ⟨v,h1,h2,h3⟩=>?_
 obtain ⟨a,cap,rfl,hs⟩:=h2.1.shp
 have hok2:(Kn.r (.slice a ws.length cap) ws).ok C.w0.heap.size w':=Kn.ok.base (k:=.r _ ws) h2 hW.size (fun _ h=>by cases h)
 have hge:∀ b∈rbs (.slice a ws.length cap),W.heap.size≤b:=fun b hb=>(Kn.ok.lt (k:=.r (.slice a ws.length cap) ws) h2 b hb).1
 refine ⟨⟨(a,cap),hs,fun b hb hT2=>by have:=hge b hb; have:=(hbs b hT2).2; omega⟩,h1,⟨h3.os,h3.tape,h3.output,h3.size,fun i hi _=>h3.block i hi⟩,?_,?_⟩
 ·intro k hk
  rcases List.mem_cons.1 hk with rfl | hk
  ·exact hok2
  ·exact (hok k hk).below h3
 ·intro b hb
  obtain ⟨k,hk,hb⟩:=kX_bs.1 hb
  rcases List.mem_cons.1 hk with rfl | hk
  ·exact ⟨.inr (hge b hb),(hok2.lt b hb).2⟩
  ·exact ⟨.inl (by rw [hT]; exact kX_bs.2 ⟨k,hk,hb⟩),Nat.lt_of_lt_of_le ((hok k hk).lt b hb).2 h3.size⟩
theorem asks_o {f:FuncId} {l:List Value} {L:List Kn} {ws:List Int} (he:∀ (l:Array Value) W,(callFunc f l).run C.P W = .ok (.enter f l) W) (hT:S.T = kX C.w0.heap.size L)
  (h:∀ W,Below C.w0.heap.size C.w0 W→(∀ k∈L,k.ok C.w0.heap.size W)→Calls C.P f l.toArray W fun e w'=>∃ g cap,e = .returned (.slice (some ⟨g,0,none⟩) ws.length cap)∧OwnU w' W.heap.size (.slice (some ⟨g,0,none⟩) ws.length cap) ws∧Below W.heap.size W w')
  (hk:∀ g cap,g ∉ S.T.bs→K (St.put ⟨S.n,S.E,S.H,kX C.w0.heap.size (.o (.slice (some ⟨g,0,none⟩) ws.length cap) ws :: L)⟩ d (.v (.slice (some ⟨g,0,none⟩) ws.length cap)))):asks C f l d K S:=by
 refine asks_T (ι:={x:Nat × Nat // x.1 ∉ S.T.bs}) (fun x=>.slice (some ⟨x.1.1,0,none⟩) ws.length x.1.2) (fun x=>kX C.w0.heap.size (.o (.slice (some ⟨x.1.1,0,none⟩) ws.length x.1.2) ws :: L)) (fun W hW hok hbs=>givesT_calls he (fun i=>kX_stab C _) ?_) (fun x=>hk _ _ x.2)
 rw [hT] at hok
 refine (h W hW hok).mono fun e w' ⟨g,cap,h1,h2,h3⟩=>?_
 have hok2:(Kn.o (.slice (some ⟨g,0,none⟩) ws.length cap) ws).ok C.w0.heap.size w':=Kn.ok.base (k:=.o _ ws) h2 hW.size (fun _ h=>by cases h)
 have hge:W.heap.size≤g:=(Kn.ok.lt (k:=.o (.slice (some ⟨g,0,none⟩) ws.length cap) ws) h2 g (List.mem_singleton.2 rfl)).1
 refine ⟨⟨(g,cap),fun hT2=>by have:=(hbs g hT2).2; omega⟩,h1,⟨h3.os,h3.tape,h3.output,h3.size,fun i hi _=>h3.block i hi⟩,?_,?_⟩
 ·intro k hk
  rcases List.mem_cons.1 hk with rfl | hk
  ·exact hok2
  ·exact (hok k hk).below h3
 ·intro b hb
  obtain ⟨k,hk,hb⟩:=kX_bs.1 hb
  rcases List.mem_cons.1 hk with rfl | hk
  ·exact ⟨.inr (by rw [List.mem_singleton.1 hb]; exact hge),(hok2.lt b hb).2⟩
  ·exact ⟨.inl (by rw [hT]; exact kX_bs.2 ⟨k,hk,hb⟩),Nat.lt_of_lt_of_le ((hok k hk).lt b hb).2 h3.size⟩
theorem genA_o {q:GK} {l:List Value} {L:List Kn} {ws:List Int} (hT:S.T = kX C.w0.heap.size L)
  (h:∀ W,Below C.w0.heap.size C.w0 W→(∀ k∈L,k.ok C.w0.heap.size W)→∃ g cap W',(genRun q l).run C.P W = .ok (.value (.slice (some ⟨g,0,none⟩) ws.length cap)) W'∧OwnU W' W.heap.size (.slice (some ⟨g,0,none⟩) ws.length cap) ws∧Below W.heap.size W W')
  (hk:∀ g cap,g ∉ S.T.bs→K (St.put ⟨S.n,S.E,S.H,kX C.w0.heap.size (.o (.slice (some ⟨g,0,none⟩) ws.length cap) ws :: L)⟩ d (.v (.slice (some ⟨g,0,none⟩) ws.length cap)))):genA C q l d K S:=by
 refine genA_T (ι:={x:Nat × Nat // x.1 ∉ S.T.bs}) (fun x=>.slice (some ⟨x.1.1,0,none⟩) ws.length x.1.2) (fun x=>kX C.w0.heap.size (.o (.slice (some ⟨x.1.1,0,none⟩) ws.length x.1.2) ws :: L)) (fun W hW hok hbs=>⟨?_⟩) (fun x=>hk _ _ x.2)
 rw [hT] at hok
 obtain ⟨g,cap,w',h1,h2,h3⟩:=h W hW hok
 rw [h1]
 have hok2:(Kn.o (.slice (some ⟨g,0,none⟩) ws.length cap) ws).ok C.w0.heap.size w':=Kn.ok.base (k:=.o _ ws) h2 hW.size (fun _ h=>by cases h)
 have hge:W.heap.size≤g:=(Kn.ok.lt (k:=.o (.slice (some ⟨g,0,none⟩) ws.length cap) ws) h2 g (List.mem_singleton.2 rfl)).1
 refine ⟨⟨(g,cap),fun hT2=>by have:=(hbs g hT2).2; omega⟩,rfl,⟨h3.os,h3.tape,h3.output,h3.size,fun i hi _=>h3.block i hi⟩,?_,kX_stab C _,?_⟩
 ·intro k hk
  rcases List.mem_cons.1 hk with rfl | hk
  ·exact hok2
  ·exact (hok k hk).below h3
 ·intro b hb
  obtain ⟨k,hk,hb⟩:=kX_bs.1 hb
  rcases List.mem_cons.1 hk with rfl | hk
  ·exact ⟨.inr (by rw [List.mem_singleton.1 hb]; exact hge),(hok2.lt b hb).2⟩
  ·exact ⟨.inl (by rw [hT]; exact kX_bs.2 ⟨k,hk,hb⟩),Nat.lt_of_lt_of_le ((hok k hk).lt b hb).2 h3.size⟩
theorem ldP_r {L:List Kn} {b off len cap:Nat} {ws:List Int} (i:Nat) (hT:(C.kn S).T = kX C.w0.heap.size L) (hm:.r (.slice (some ⟨b,off,none⟩) len cap) ws∈L) (hi:i < ws.length) (hk:K (S.put d (.v (.int .u64 (ws.getD i 0))))):ldP C false 1 ⟨b,off + i,none⟩ d K S :=
 ldP_ext [.int .u64 (ws.getD i 0)] rfl (fun W hW hok j v hj=>by
  rw [hT] at hok
  rcases j with _ | j
  ·cases hj
   rw [Addr.add_zero']
   exact (hok _ hm).1.cell hi
  ·cases hj) hk
theorem ldP_o {L:List Kn} {g len cap:Nat} {ws:List Int} (i:Nat) (hT:(C.kn S).T = kX C.w0.heap.size L) (hm:.o (.slice (some ⟨g,0,none⟩) len cap) ws∈L) (hi:i < ws.length) (hk:K (S.put d (.v (.int .u64 (ws.getD i 0))))):ldP C false 1 ⟨g,i,none⟩ d K S :=
 ldP_ext [.int .u64 (ws.getD i 0)] rfl (fun W hW hok j v hj=>by
  rw [hT] at hok
  rcases j with _ | j
  ·cases hj
   rw [Addr.add_zero']
   exact OwnU.cell (hok _ hm) hi
  ·cases hj) hk
theorem ldP_w {w:World} {b off len cap:Nat} {ws:List Int} (i:Nat) (h0:C.w0 = w) (h:SlU w (.slice (some ⟨b,off,none⟩) len cap) ws) (hi:i < ws.length) (hk:K (S.put d (.v (.int .u64 (ws.getD i 0))))):ldP C false 1 ⟨b,off + i,none⟩ d K S :=
 ldP_ext [.int .u64 (ws.getD i 0)] rfl (fun W hW hok j v hj=>by
  rcases j with _ | j
  ·cases hj
   rw [Addr.add_zero']
   rw [h0] at hW
   exact (h.below hW).cell hi
  ·cases hj) hk
theorem stP_o {L:List Kn} (L':List Kn) {g len cap:Nat} {ws:List Int} {x:Int} (i:Nat) (hT:S.T = kX C.w0.heap.size L) (hm:.o (.slice (some ⟨g,0,none⟩) len cap) ws∈L) (hi:i < ws.length) (hx:U64 x)
  (hL:∀ k∈L',k = .o (.slice (some ⟨g,0,none⟩) len cap) (ws.set i x)∨(k∈L∧g ∉ k.bs)) (hk:K ⟨S.n,S.E,S.H,kX C.w0.heap.size L'⟩):stP C ⟨g,i,none⟩ (.int .u64 x) K S:=by
 have hg:g∈S.T.bs:=by rw [hT]; exact kX_bs.2 ⟨_,hm,List.mem_singleton.2 rfl⟩
 refine stP_is (kX C.w0.heap.size L') (fun W hW hok=>?_) (kX_stab C _) (fun b hb=>?_) rfl hk
 ·rw [hT] at hok
  have ho:OwnU W C.w0.heap.size (.slice (some ⟨g,0,none⟩) len cap) ws:=hok _ hm
  refine ⟨hg,⟨_,ho.cell hi⟩,?_,fun k hk=>?_⟩
  ·rcases ho.form with ⟨e,-⟩ | ⟨g',cap',e,-,-,-,-,-,hf⟩
   ·cases e
   ·cases e; exact hf i
  ·rcases hL k hk with rfl | ⟨hk2,hne⟩
   ·exact ho.stored ho.len i hi hx
   ·exact (hok k hk2).keep (by rw [World.size_setCell]; exact Nat.le_refl _) (fun b hb=>Below.heap_setCell W _ _ b fun e=>hne (by have e2:b = g:=e; rw [← e2]; exact hb)) fun b hb _=>Below.heap_setCell W _ _ b fun e=>by have:=(Kn.ok.lt (k:=.o (.slice (some ⟨g,0,none⟩) len cap) ws) ho g (List.mem_singleton.2 rfl)).1; have e2:b = g:=e; omega
 ·obtain ⟨k,hk,hb⟩:=kX_bs.1 hb
  rcases hL k hk with rfl | ⟨hk2,hne⟩
  ·rw [List.mem_singleton.1 hb]; exact hg
  ·rw [hT]; exact kX_bs.2 ⟨k,hk2,hb⟩
theorem extS_kn {L L':List Kn} (h:∀ k∈L',k∈L):extS C (kX C.w0.heap.size L) (kX C.w0.heap.size L') :=
 .inr ⟨kX_stab C _,fun W hok k hk=>hok k (h k hk),fun b hb=>by obtain ⟨k,hk,hb⟩:=kX_bs.1 hb; exact kX_bs.2 ⟨k,h k hk,hb⟩⟩
end Sx
end Go.Proofs.YtncmmbacoknefaaGreat

/- DvP: Plain facts for the division of absolute values: shifts of words, lengths, the loop's step. -/
namespace Go.Proofs.YtncmmbacoknefaaGreat
open Go
set_option linter.unusedVariables false
set_option linter.unusedSimpArgs false
abbrev ME (z:Int):Value:=MG (lb0 z) (lb1 z) (lb2 z) (lb3 z)
def A4 (z:Int):Prop:=0≤z∧z < 115792089237316195423570985008687907853269984665640564039457584007913129639936
theorem mg_me {a b c d:Int} (h:U64 a) (h1:U64 b) (h2:U64 c) (h3:U64 d):MG a b c d = ME (MV a b c d):=by
 rw [ME,lb0_mv _ _ _ h,lb1_mv _ _ h h1,lb2_mv _ h h1 h2,lb3_mv h h1 h2 h3]
theorem mv_me {z:Int} (h:A4 z):MV (lb0 z) (lb1 z) (lb2 z) (lb3 z) = z:=mv_lb4 ((up4_lt h.1).2 h.2)
theorem a4_mv {a b c d:Int} (h:U64 a) (h1:U64 b) (h2:U64 c) (h3:U64 d):A4 (MV a b c d):=⟨mv_nonneg h h1 h2 h3,(up4_lt (mv_nonneg h h1 h2 h3)).1 (up4_mv h h1 h2 h3)⟩
theorem up4_a4 {z:Int} (h:A4 z):up4 z = 0:=(up4_lt h.1).2 h.2
theorem toNat_ofInt {x:Int} (h:U64 x):(BitVec.ofInt IntKind.u64.bits x).toNat = x.toNat:=by
 obtain ⟨h0,h1⟩:=h
 have e:(BitVec.ofInt 64 x).toNat = x.toNat:=by
  rw [BitVec.toNat_ofInt]
  have:(x % ((2 ^ 64:Nat):Int)) = x:=Int.emod_eq_of_lt h0 (by show x < 18446744073709551616; omega)
  rw [this]
 exact e
theorem or_add {x y:Int} (k:Nat) (hx:U64 x) (hy:U64 y) (hxk:x < 2 ^ k) (hd:(2 ^ k:Int) ∣ y) :
  IntKind.u64.wrap ((BitVec.ofInt IntKind.u64.bits x ||| BitVec.ofInt IntKind.u64.bits y).toNat:Int) = x + y∧IntKind.u64.wrap ((BitVec.ofInt IntKind.u64.bits y ||| BitVec.ofInt IntKind.u64.bits x).toNat:Int) = x + y∧U64 (x + y):=by
 obtain ⟨q,hq⟩:=hd
 obtain ⟨a,rfl⟩:=Int.eq_ofNat_of_zero_le hx.1
 obtain ⟨b,rfl⟩:=Int.eq_ofNat_of_zero_le hy.1
 have hpos:(0:Int) < 2 ^ k:=Int.pow_pos (by decide)
 have hq0:0≤q:=by
  by_cases h:0≤q
  ·exact h
  ·have h2:(2 ^ k:Int) * q < 0:=Int.mul_neg_of_pos_of_neg hpos (by omega)
   have:=hy.1
   omega
 obtain ⟨c,rfl⟩:=Int.eq_ofNat_of_zero_le hq0
 have hb:b = 2 ^ k * c:=by
  have:((b:Int)) = ((2 ^ k * c:Nat):Int):=by rw [hq]; push_cast; rfl
  exact_mod_cast this
 have ha:a < 2 ^ k:=by
  have:((a:Int)) < ((2 ^ k:Nat):Int):=by push_cast; exact hxk
  exact_mod_cast this
 have hor:b ||| a = b + a:=by rw [hb]; exact (Nat.two_pow_add_eq_or_of_lt ha c).symm
 have e1:=toNat_ofInt hx
 have e2:=toNat_ofInt hy
 rw [Int.toNat_natCast] at e1 e2
 have hlt:b + a < 18446744073709551616:=by
  rw [← hor]
  exact Nat.or_lt_two_pow (n:=64) (by have:=hy.2; omega) (by have:=hx.2; omega)
 have hw:IntKind.u64.wrap ((b + a:Nat):Int) = (a:Int) + b:=by
  rw [IntWalk.u64_in _ ⟨by omega,by omega⟩]; omega
 refine ⟨?_,?_,⟨by omega,by omega⟩⟩
 ·rw [BitVec.toNat_or,e1,e2,Nat.or_comm,hor]; exact hw
 ·rw [BitVec.toNat_or,e1,e2,hor]; exact hw
theorem half_words {a b c d:Int} (ha:U64 a) (hb:U64 b) (hc:U64 c) (hd:U64 d) :
  U64 (a / 2 + 9223372036854775808 * (b % 2))∧U64 (b / 2 + 9223372036854775808 * (c % 2))∧U64 (c / 2 + 9223372036854775808 * (d % 2))∧U64 (d / 2) ∧
  MV (a / 2 + 9223372036854775808 * (b % 2)) (b / 2 + 9223372036854775808 * (c % 2)) (c / 2 + 9223372036854775808 * (d % 2)) (d / 2) = MV a b c d / 2:=by
 obtain ⟨a0,a1⟩:=ha
 obtain ⟨b0,b1⟩:=hb
 obtain ⟨c0,c1⟩:=hc
 obtain ⟨d0,d1⟩:=hd
 refine ⟨⟨by omega,by omega⟩,⟨by omega,by omega⟩,⟨by omega,by omega⟩,⟨by omega,by omega⟩,?_⟩
 have ea:a = 2 * (a / 2) + a % 2:=by omega
 have eb:b = 2 * (b / 2) + b % 2:=by omega
 have ec:c = 2 * (c / 2) + c % 2:=by omega
 have ed:d = 2 * (d / 2) + d % 2:=by omega
 have p:0≤a % 2∧a % 2 < 2:=by omega
 have q:0≤d % 2:=by omega
 generalize a / 2 = ua at *
 generalize b / 2 = ub at *
 generalize c / 2 = uc at *
 generalize d / 2 = ud at *
 generalize a % 2 = pa at *
 generalize b % 2 = pb at *
 generalize c % 2 = pc at *
 generalize d % 2 = pd at *
 subst ea eb ec ed
 unfold MV
 omega
theorem half_word {x y:Int} (hx:U64 x) (hy:U64 y) :
  IntKind.u64.wrap ((BitVec.ofInt IntKind.u64.bits (x.fdiv 2) ||| BitVec.ofInt IntKind.u64.bits (IntKind.u64.wrap (y * 9223372036854775808))).toNat:Int) = x / 2 + 9223372036854775808 * (y % 2):=by
 obtain ⟨x0,x1⟩:=hx
 obtain ⟨y0,y1⟩:=hy
 have e1:x.fdiv 2 = x / 2:=Int.fdiv_eq_ediv_of_nonneg _ (by decide)
 have e2:IntKind.u64.wrap (y * 9223372036854775808) = 9223372036854775808 * (y % 2):=by
  show (y * 9223372036854775808) % 18446744073709551616 = _
  omega
 rw [e1,e2]
 exact (or_add 63 ⟨by omega,by omega⟩ ⟨by omega,by omega⟩ (by show x / 2 < 9223372036854775808; omega) ⟨y % 2,rfl⟩).1
end Go.Proofs.YtncmmbacoknefaaGreat

/- DvQ: Plain facts for the division of absolute values: the shift to the left, lengths. -/
namespace Go.Proofs.YtncmmbacoknefaaGreat
open Go
set_option linter.unusedVariables false
set_option linter.unusedSimpArgs false
theorem pow63 {r:Nat} (h:r < 64):(2:Int) ^ r≤9223372036854775808:=by
 obtain ⟨d,hd⟩:∃ d,r + d = 63:=⟨63 - r,by omega⟩
 have e:(9223372036854775808:Int) = 2 ^ r * 2 ^ d:=by rw [← Int.pow_add,hd]; rfl
 have p1:(0:Int) < 2 ^ r:=Int.pow_pos (by decide)
 have p2:(0:Int) < 2 ^ d:=Int.pow_pos (by decide)
 have p3:=Int.mul_le_mul_of_nonneg_left (show (1:Int)≤2 ^ d by omega) (Int.le_of_lt p1)
 rw [e]
 omega
theorem shl_word {x:Int} {r:Nat} (hx:U64 x) (hr:r < 64):∃ t u:Int,IntKind.u64.wrap (x * 2 ^ r) = t∧x.fdiv (2 ^ (64 - r)) = u∧U64 t∧0≤u∧u < 2 ^ r∧(2 ^ r:Int) ∣ t∧x * 2 ^ r = 18446744073709551616 * u + t:=by
 obtain ⟨x0,x1⟩:=hx
 have hB:(2 ^ r:Int) * 2 ^ (64 - r) = 18446744073709551616:=by rw [← Int.pow_add,show r + (64 - r) = 64 by omega]; rfl
 have p0:(0:Int) < 2 ^ r:=Int.pow_pos (by decide)
 have q0:(0:Int) < 2 ^ (64 - r):=Int.pow_pos (by decide)
 generalize (2 ^ r:Int) = p at *
 generalize (2 ^ (64 - r):Int) = q at *
 have ed:=Int.mul_ediv_add_emod x q
 have m0:=Int.emod_nonneg x (Int.ne_of_gt q0)
 have m1:=Int.emod_lt_of_pos x q0
 have hu:0≤x / q:=Int.ediv_nonneg x0 (Int.le_of_lt q0)
 have hv:x % q * p < 18446744073709551616:=by
  rw [← hB,Int.mul_comm p q]
  exact Int.mul_lt_mul_of_pos_right m1 p0
 have hv0:0≤x % q * p:=Int.mul_nonneg m0 (Int.le_of_lt p0)
 have hx2:x * p = 18446744073709551616 * (x / q) + x % q * p:=by
  have e1:x * p = (q * (x / q) + x % q) * p:=by rw [ed]
  rw [e1,← hB,Int.add_mul]
  congr 1
  rw [Int.mul_comm q,Int.mul_assoc,Int.mul_comm q p,Int.mul_comm (x / q)]
 have hup:x / q < p:=by
  have:x < q * p:=by rw [Int.mul_comm,hB]; omega
  exact Int.ediv_lt_of_lt_mul q0 (by rw [Int.mul_comm]; exact this)
 refine ⟨x % q * p,x / q,?_,Int.fdiv_eq_ediv_of_nonneg _ (Int.le_of_lt q0),⟨hv0,by omega⟩,hu,hup,⟨x % q,by rw [Int.mul_comm]⟩,hx2⟩
 show x * p % 18446744073709551616 = _
 rw [hx2]
 generalize x % q * p = v at *
 generalize x / q = u at *
 omega
theorem shl_words {x0 x1 x2 x3 t0 t1 t2 t3 u0 u1 u2 u3 p:Int} (e0:x0 * p = 18446744073709551616 * u0 + t0) (e1:x1 * p = 18446744073709551616 * u1 + t1) (e2:x2 * p = 18446744073709551616 * u2 + t2) (e3:x3 * p = 18446744073709551616 * u3 + t3) :
  MV x0 x1 x2 x3 * p = MV t0 (t1 + u0) (t2 + u1) (t3 + u2) + 115792089237316195423570985008687907853269984665640564039457584007913129639936 * u3:=by
 unfold MV
 simp only [Int.add_mul,Int.mul_assoc]
 rw [e0,e1,e2,e3]
 omega
theorem shl0 {Z a b c d e:Int} (h:Z = MV a b c d + 115792089237316195423570985008687907853269984665640564039457584007913129639936 * e) (he:0≤e) (h0:U64 a∧U64 b∧U64 c∧U64 d) (hf:Z < 115792089237316195423570985008687907853269984665640564039457584007913129639936):MV a b c d = Z:=by
 have:=mv_nonneg h0.1 h0.2.1 h0.2.2.1 h0.2.2.2
 omega
theorem shl1 {Z a b c d e:Int} (h:Z = MV a b c d + 115792089237316195423570985008687907853269984665640564039457584007913129639936 * e) (he:0≤e) (h0:U64 a∧U64 b∧U64 c∧U64 d) (hf:Z * 18446744073709551616 < 115792089237316195423570985008687907853269984665640564039457584007913129639936):MV 0 a b c = Z * 18446744073709551616:=by
 obtain ⟨⟨a0,a1⟩,⟨b0,b1⟩,⟨c0,c1⟩,⟨d0,d1⟩⟩:=h0
 unfold MV at *
 omega
theorem shl2 {Z a b c d e:Int} (h:Z = MV a b c d + 115792089237316195423570985008687907853269984665640564039457584007913129639936 * e) (he:0≤e) (h0:U64 a∧U64 b∧U64 c∧U64 d) (hf:Z * 340282366920938463463374607431768211456 < 115792089237316195423570985008687907853269984665640564039457584007913129639936):MV 0 0 a b = Z * 340282366920938463463374607431768211456:=by
 obtain ⟨⟨a0,a1⟩,⟨b0,b1⟩,⟨c0,c1⟩,⟨d0,d1⟩⟩:=h0
 unfold MV at *
 omega
theorem shl3 {Z a b c d e:Int} (h:Z = MV a b c d + 115792089237316195423570985008687907853269984665640564039457584007913129639936 * e) (he:0≤e) (h0:U64 a∧U64 b∧U64 c∧U64 d) (hf:Z * 6277101735386680763835789423207666416102355444464034512896 < 115792089237316195423570985008687907853269984665640564039457584007913129639936):MV 0 0 0 a = Z * 6277101735386680763835789423207666416102355444464034512896:=by
 obtain ⟨⟨a0,a1⟩,⟨b0,b1⟩,⟨c0,c1⟩,⟨d0,d1⟩⟩:=h0
 unfold MV at *
 omega
theorem pow_split (q r:Nat):(2 ^ (64 * q + r):Int) = 2 ^ r * 18446744073709551616 ^ q:=by
 rw [Int.pow_add,Int.pow_mul,Int.mul_comm]
 rfl
def bl (z:Int):Nat:=if z≤0 then 0 else z.toNat.log2 + 1
theorem bl_zero:bl 0 = 0:=rfl
theorem bl_pos {z:Int} (h:0 < z):0 < bl z:=by unfold bl; rw [if_neg (by omega)]; omega
theorem bl_lt {z:Int} (h:0≤z):z < 2 ^ bl z:=by
 unfold bl
 split
 ·have:z = 0:=by omega
  subst this; decide
 ·obtain ⟨n,rfl⟩:=Int.eq_ofNat_of_zero_le h
  rw [Int.toNat_natCast]
  have:=Nat.lt_log2_self (n:=n)
  exact_mod_cast this
theorem bl_le {z:Int} (h:0 < z):2 ^ (bl z - 1)≤z:=by
 unfold bl
 rw [if_neg (by omega)]
 obtain ⟨n,rfl⟩:=Int.eq_ofNat_of_zero_le (Int.le_of_lt h)
 rw [Int.toNat_natCast,Nat.add_sub_cancel]
 have:=Nat.log2_self_le (n:=n) (by omega)
 exact_mod_cast this
theorem bl_unique {z:Int} {k:Nat} (h1:2 ^ k≤z) (h2:z < 2 ^ (k + 1)):bl z = k + 1:=by
 have hp:(0:Int) < 2 ^ k:=Int.pow_pos (by decide)
 unfold bl
 rw [if_neg (by omega)]
 obtain ⟨n,rfl⟩:=Int.eq_ofNat_of_zero_le (a:=z) (by omega)
 rw [Int.toNat_natCast]
 congr 1
 have a1:2 ^ k≤n:=by exact_mod_cast h1
 have a2:n < 2 ^ (k + 1):=by exact_mod_cast h2
 exact (Nat.log2_eq_iff (by have:=Nat.pos_of_ne_zero (n:=2 ^ k) (by simp); omega)).2 ⟨a1,a2⟩
theorem bl_word {z x lo:Int} {i:Nat} (hx:U64 x) (hx0:x≠0) (hl:0≤lo) (hlo:lo < 2 ^ (64 * i)) (hz:z = lo + 2 ^ (64 * i) * x):bl z = 64 * i + Go.Lib.bitLen x.toNat:=by
 obtain ⟨n,rfl⟩:=Int.eq_ofNat_of_zero_le hx.1
 rw [Int.toNat_natCast]
 obtain ⟨b1,b2,b3⟩:=Go.Lib.bitLenAux_bounds 64 n (by have:=hx.2; omega) (by omega)
 have e:Go.Lib.bitLen n = Go.Lib.bitLenAux 64 n:=rfl
 rw [← e] at b1 b2 b3
 generalize Go.Lib.bitLen n = L at *
 obtain ⟨K,rfl⟩:∃ K,L = K + 1:=⟨L - 1,by omega⟩
 rw [Nat.add_sub_cancel] at b2
 have c2:(2 ^ K:Int)≤(n:Int):=by exact_mod_cast b2
 have c3:(n:Int) + 1≤2 ^ (K + 1):=by exact_mod_cast b3
 have hp:(0:Int) < 2 ^ (64 * i):=Int.pow_pos (by decide)
 have d2:(2 ^ (64 * i):Int) * 2 ^ K≤2 ^ (64 * i) * (n:Int):=Int.mul_le_mul_of_nonneg_left c2 (Int.le_of_lt hp)
 have d3:(2 ^ (64 * i):Int) * ((n:Int) + 1)≤2 ^ (64 * i) * 2 ^ (K + 1):=Int.mul_le_mul_of_nonneg_left c3 (Int.le_of_lt hp)
 rw [← Int.pow_add] at d2 d3
 rw [Int.mul_add,Int.mul_one] at d3
 rw [show 64 * i + (K + 1) = (64 * i + K) + 1 by omega]
 refine bl_unique (by omega) ?_
 rw [show (64 * i + K) + 1 = 64 * i + (K + 1) by omega]
 omega
theorem pow256 {k:Nat} {b:Int} (hb:0 < b) (h:A4 (b * 2 ^ k)):k < 256:=by
 by_cases hk:k < 256
 ·exact hk
 ·exfalso
  obtain ⟨d,hd⟩:∃ d,k = 256 + d:=⟨k - 256,by omega⟩
  have h1:=h.2
  have p2:(0:Int) < 2 ^ d:=Int.pow_pos (by decide)
  have p3:=Int.mul_le_mul_of_nonneg_left (show (1:Int)≤2 ^ d by omega) (show (0:Int)≤2 ^ 256 by decide)
  have p4:=Int.mul_le_mul_of_nonneg_right (show (1:Int)≤b by omega) (show (0:Int)≤2 ^ k from Int.le_of_lt (Int.pow_pos (by decide)))
  have e:(2:Int) ^ k = 2 ^ 256 * 2 ^ d:=by rw [hd,Int.pow_add]
  have e2:(2:Int) ^ 256 = 115792089237316195423570985008687907853269984665640564039457584007913129639936:=rfl
  rw [e2] at e p3
  omega
theorem bl_256 {z:Int} (h:A4 z):bl z≤256:=by
 by_cases h0:0 < z
 ·have h1:=bl_le h0
  have h2:=bl_pos h0
  have:=pow256 (b:=1) (k:=bl z - 1) (by decide) ⟨by rw [Int.one_mul]; exact Int.le_of_lt (Int.pow_pos (by decide)),by have:=h.2; rw [Int.one_mul]; omega⟩
  omega
 ·have e:z = 0:=by have:=h.1; omega
  subst e; decide
structure DvI (a b:Int) (r q:Int) (k:Nat):Prop where
 r0:0≤r
 rl:r < b * 2 ^ k
 eq:q * b + r = a
 q0:0≤q
 dv:(2 ^ k:Int) ∣ q
theorem dv_start {a b:Int} (ha:0≤a) (hb:0 < b) (h:bl b≤bl a):DvI a b a 0 (bl a - bl b + 1):=by
 refine ⟨ha,?_,by omega,Int.le_refl _,⟨0,by simp⟩⟩
 have h1:=bl_lt ha
 have h2:=bl_le hb
 have h3:=bl_pos hb
 have h4:(2:Int) ^ bl a = 2 ^ (bl b - 1) * 2 ^ (bl a - bl b + 1):=by rw [← Int.pow_add]; congr 1; omega
 have hp:(0:Int)≤2 ^ (bl a - bl b + 1):=Int.le_of_lt (Int.pow_pos (by decide))
 have:=Int.mul_le_mul_of_nonneg_right h2 hp
 omega
theorem dv_fit {a b:Int} {m:Nat} (ha:A4 a) (hb:A4 b) (hb0:0 < b) (h:bl b≤bl a):A4 (b * 2 ^ (bl a - bl b)):=by
 refine ⟨Int.mul_nonneg hb.1 (Int.le_of_lt (Int.pow_pos (by decide))),?_⟩
 have h1:=bl_lt hb.1
 have h2:bl a≤256:=by
  by_cases h0:0 < a
  ·have:=bl_le h0
   have h3:=ha.2
   by_cases hc:bl a≤256
   ·exact hc
   ·exfalso
    have h4:(2:Int) ^ 256≤2 ^ (bl a - 1):=by
     have:(2:Nat) ^ 256≤2 ^ (bl a - 1):=Nat.pow_le_pow_right (by decide) (by omega)
     exact_mod_cast this
    have h5:(2:Int) ^ 256 = 115792089237316195423570985008687907853269984665640564039457584007913129639936:=by decide
    omega
  ·have:=ha.1
   have e:a = 0:=by omega
   subst e; decide
 have h5:(2:Int) ^ bl a≤115792089237316195423570985008687907853269984665640564039457584007913129639936:=by
  obtain ⟨d,hd⟩:∃ d,bl a + d = 256:=⟨256 - bl a,by omega⟩
  have e:(115792089237316195423570985008687907853269984665640564039457584007913129639936:Int) = 2 ^ bl a * 2 ^ d:=by rw [← Int.pow_add,hd]; rfl
  have p1:(0:Int) < 2 ^ bl a:=Int.pow_pos (by decide)
  have p2:(0:Int) < 2 ^ d:=Int.pow_pos (by decide)
  have p3:=Int.mul_le_mul_of_nonneg_left (show (1:Int)≤2 ^ d by omega) (Int.le_of_lt p1)
  rw [e]
  omega
 have hp:(0:Int) < 2 ^ (bl a - bl b):=Int.pow_pos (by decide)
 have h6:b * 2 ^ (bl a - bl b) < 2 ^ bl b * 2 ^ (bl a - bl b):=Int.mul_lt_mul_of_pos_right h1 hp
 rw [← Int.pow_add,show bl b + (bl a - bl b) = bl a by omega] at h6
 omega
theorem dv_step {a b r q:Int} {k:Nat} (h:DvI a b r q (k + 1)) (hb:0 < b):(b * 2 ^ k≤r→DvI a b (r - b * 2 ^ k) (q + 2 ^ k) k)∧(¬ b * 2 ^ k≤r→DvI a b r q k):=by
 obtain ⟨r0,rl,eq,q0,⟨c,hc⟩⟩:=h
 have hp:(0:Int) < 2 ^ k:=Int.pow_pos (by decide)
 have e2:b * 2 ^ (k + 1) = b * 2 ^ k + b * 2 ^ k:=by rw [Int.pow_succ,← Int.mul_assoc]; omega
 have e3:(2:Int) ^ (k + 1) * c = 2 ^ k * (2 * c):=by rw [Int.pow_succ,Int.mul_assoc]
 rw [e2] at rl
 refine ⟨fun hle=>⟨by omega,by omega,?_,by omega,⟨2 * c + 1,?_⟩⟩,fun hle=>⟨r0,by omega,eq,q0,⟨2 * c,by rw [hc,e3]⟩⟩⟩
 ·rw [Int.add_mul,Int.mul_comm (2 ^ k) b]; omega
 ·rw [hc,e3,Int.mul_add,Int.mul_one]
theorem dv_end {a b r q:Int} (h:DvI a b r q 0) (hb:0 < b):q = a / b∧r = a % b:=by
 obtain ⟨r0,rl,eq,q0,-⟩:=h
 rw [Int.pow_zero,Int.mul_one] at rl
 have e1:a / b = q:=by
  rw [← eq,Int.mul_comm,Int.add_comm,Int.add_mul_ediv_left _ _ (Int.ne_of_gt hb),Int.ediv_eq_zero_of_lt r0 rl]; omega
 have e2:a % b = r:=by
  rw [← eq,Int.mul_comm,Int.add_comm,Int.add_mul_emod_self_left,Int.emod_eq_of_lt r0 rl]
 exact ⟨e1.symm,e2.symm⟩
theorem dv_small {a b:Int} (ha:0≤a) (hb:0 < b) (h:bl a < bl b):a / b = 0∧a % b = a:=by
 have h1:=bl_lt ha
 have h2:=bl_le hb
 have h3:(2:Int) ^ bl a≤2 ^ (bl b - 1):=by
  have:(2:Nat) ^ bl a≤2 ^ (bl b - 1):=Nat.pow_le_pow_right (by decide) (by omega)
  exact_mod_cast this
 have hlt:a < b:=by omega
 exact ⟨Int.ediv_eq_zero_of_lt ha hlt,Int.emod_eq_of_lt ha hlt⟩
theorem word_dvd {q x lo hi:Int} {w k:Nat} (hk:k < 64) (hq:q = lo + 2 ^ (64 * w) * (x + 18446744073709551616 * hi)) (hl:0≤lo) (hlo:lo < 2 ^ (64 * w)) (h:(2 ^ (64 * w + k + 1):Int) ∣ q):(2 ^ (k + 1):Int) ∣ x:=by
 obtain ⟨c,hc⟩:=h
 have hp:(0:Int) < 2 ^ (64 * w):=Int.pow_pos (by decide)
 have e1:(2 ^ (64 * w + k + 1):Int) = 2 ^ (64 * w) * 2 ^ (k + 1):=by rw [← Int.pow_add]; congr 1
 have e2:(18446744073709551616:Int) = 2 ^ (k + 1) * 2 ^ (63 - k):=by rw [← Int.pow_add,show k + 1 + (63 - k) = 64 by omega]; rfl
 rw [e1,Int.mul_assoc] at hc
 have e3:lo = 2 ^ (64 * w) * (2 ^ (k + 1) * c - (x + 18446744073709551616 * hi)):=by rw [Int.mul_sub,← hc,hq]; omega
 have e4:2 ^ (k + 1) * c - (x + 18446744073709551616 * hi) = 0:=by
  generalize 2 ^ (k + 1) * c - (x + 18446744073709551616 * hi) = d at *
  rcases Int.lt_trichotomy d 0 with h | h | h
  ·have:=Int.mul_neg_of_pos_of_neg hp h; omega
  ·exact h
  ·have:2 ^ (64 * w) * 1≤2 ^ (64 * w) * d:=Int.mul_le_mul_of_nonneg_left (by omega) (Int.le_of_lt hp)
   omega
 rw [e2] at e4
 refine ⟨c - 2 ^ (63 - k) * hi,?_⟩
 rw [Int.mul_sub,← Int.mul_assoc]
 omega
end Go.Proofs.YtncmmbacoknefaaGreat

/- DvR: Plain facts for the division of lists of words. -/
namespace Go.Proofs.YtncmmbacoknefaaGreat
open Go
set_option linter.unusedVariables false
set_option linter.unusedSimpArgs false
theorem pw_two (k:Nat):pw k = 2 ^ (64 * k):=by
 induction k with
 | zero=>rfl
 | succ k ih=>rw [pw_succ,ih,Nat.mul_succ,Int.pow_add,Int.mul_comm]; rfl
theorem getD_set_eq (l:List Int) (k:Nat) (x:Int) (h:k < l.length):(l.set k x).getD k 0 = x:=by
 rw [List.getD_eq_getElem?_getD,List.getElem?_set_self (by simpa using h)]; rfl
theorem getD_set_ne' (l:List Int) (k j:Nat) (x:Int) (h:k≠j):(l.set k x).getD j 0 = l.getD j 0:=by
 rw [List.getD_eq_getElem?_getD,List.getD_eq_getElem?_getD,List.getElem?_set_ne h]
theorem set_self_D (l:List Int) (k:Nat) (h:k < l.length):l.set k (l.getD k 0) = l:=by
 refine VL_same (by rw [List.length_set]) fun j=>?_
 by_cases e:k = j
 ·subst e; rw [getD_set_eq _ _ _ h]
 ·rw [getD_set_ne' _ _ _ _ e]
theorem drop_D (l:List Int) (k:Nat) (h:k < l.length):l.drop k = l.getD k 0 :: l.drop (k + 1):=by
 rw [List.drop_eq_getElem_cons h,List.getD_eq_getElem?_getD,List.getElem?_eq_getElem h]; rfl
theorem VL_at (l:List Int) (k:Nat) (h:k < l.length):VL l = TV l k + pw k * (l.getD k 0 + 18446744073709551616 * VL (l.drop (k + 1))):=by
 have e:=VL_split l k
 rw [Nat.min_eq_left (Nat.le_of_lt h),drop_D l k h] at e
 exact e
theorem TV_bound {l:List Int} (h:Ws l) (k:Nat) (hk:k≤l.length):0≤TV l k∧TV l k < pw k:=by
 have h1:=VL_nonneg (h.take k)
 have h2:=VL_lt (h.take k)
 rw [List.length_take,Nat.min_eq_left hk] at h2
 exact ⟨h1,h2⟩
theorem size_wl {m:Int} (h:0 < m):64 * ((wl m).length - 1) + Go.Lib.bitLen ((wl m).getD ((wl m).length - 1) 0).toNat = bl m:=by
 obtain ⟨k,hk,e,hz,hl⟩:=wl_VL (wl_words m)
 rw [VL_wl (Int.le_of_lt h)] at e
 have hne:=wl_ne h
 have hpos:0 < (wl m).length:=List.length_pos_iff.2 hne
 have hlen:(wl m).length = k:=by
  have:=congrArg List.length e
  rw [List.length_take] at this
  omega
 have hx:=hl (by omega)
 rw [← hlen] at hx
 have hw:U64 ((wl m).getD ((wl m).length - 1) 0):=(wl_words m).getD _
 have ha:=VL_at (wl m) ((wl m).length - 1) (by omega)
 have hb:=TV_bound (wl_words m) ((wl m).length - 1) (by omega)
 rw [Nat.sub_add_cancel hpos,List.drop_length,VL_wl (Int.le_of_lt h)] at ha
 have hv:VL ([]:List Int) = 0:=rfl
 rw [hv,pw_two,Int.mul_zero,Int.add_zero] at ha
 rw [pw_two] at hb
 exact (bl_word hw hx hb.1 hb.2 (by omega)).symm
def hl:List Int→List Int
 | []=>[]
 | x :: xs=>(x / 2 + 9223372036854775808 * (xs.headD 0 % 2)) :: hl xs
theorem hl_len:∀ l:List Int,(hl l).length = l.length
 | []=>rfl
 | x :: xs=>by unfold hl; rw [List.length_cons,List.length_cons,hl_len xs]
theorem hl_ws:∀ {l:List Int},Ws l→Ws (hl l)
 | [],_=>Ws.nil
 | x :: xs,h=>by
  obtain ⟨h1,h2⟩:=h.cons
  intro y hy
  unfold hl at hy
  rcases List.mem_cons.1 hy with rfl | hy
  ·obtain ⟨a,b⟩:=h1
   exact ⟨by omega,by omega⟩
  ·exact hl_ws h2 y hy
theorem VL_odd (l:List Int):VL l % 2 = l.headD 0 % 2:=by
 cases l with
 | nil=>rfl
 | cons x xs =>
  show (x + 18446744073709551616 * VL xs) % 2 = x % 2
  omega
theorem VL_hl:∀ l:List Int,VL (hl l) = VL l / 2
 | []=>rfl
 | x :: xs=>by
  have h1:=VL_hl xs
  have h2:=VL_odd xs
  show x / 2 + 9223372036854775808 * (xs.headD 0 % 2) + 18446744073709551616 * VL (hl xs) = (x + 18446744073709551616 * VL xs) / 2
  rw [h1]
  omega
theorem hl_get:∀ (l:List Int) (i:Nat),(hl l).getD i 0 = l.getD i 0 / 2 + 9223372036854775808 * (l.getD (i + 1) 0 % 2)
 | [],i=>by simp [hl]
 | x :: xs,0=>by
  unfold hl
  cases xs <;> simp
 | x :: xs,i + 1=>by
  unfold hl
  simpa using hl_get xs i
def hc (l:List Int) (i:Nat):List Int:=(hl l).take i ++ l.drop i
theorem hc_zero (l:List Int):hc l 0 = l:=by simp [hc]
theorem hc_all (l:List Int):hc l l.length = hl l:=by
 unfold hc
 rw [List.drop_length,List.append_nil,List.take_of_length_le (by rw [hl_len]; exact Nat.le_refl _)]
theorem hc_len (l:List Int) (i:Nat) (h:i≤l.length):(hc l i).length = l.length:=by
 unfold hc
 rw [List.length_append,List.length_take,List.length_drop,hl_len]; omega
theorem hc_get (l:List Int) (i j:Nat) (hi:i≤l.length) (h:i≤j):(hc l i).getD j 0 = l.getD j 0:=by
 unfold hc
 have hlen:((hl l).take i).length = i:=by rw [List.length_take,hl_len]; omega
 rw [List.getD_eq_getElem?_getD,List.getD_eq_getElem?_getD,List.getElem?_append_right (by omega),hlen,List.getElem?_drop]
 congr 2
 omega
theorem hc_low (l:List Int) (i j:Nat) (hi:i≤l.length) (h:j < i):(hc l i).getD j 0 = (hl l).getD j 0:=by
 unfold hc
 have hlen:((hl l).take i).length = i:=by rw [List.length_take,hl_len]; omega
 rw [List.getD_eq_getElem?_getD,List.getD_eq_getElem?_getD,List.getElem?_append_left (by omega),List.getElem?_take,if_pos h]
theorem hc_set (l:List Int) (i:Nat) (hi:i < l.length):(hc l i).set i ((hl l).getD i 0) = hc l (i + 1):=by
 have h1:=hc_len l i (Nat.le_of_lt hi)
 have h2:=hc_len l (i + 1) hi
 refine VL_same (by rw [List.length_set,h1,h2]) fun j=>?_
 by_cases e:i = j
 ·subst e
  rw [getD_set_eq _ _ _ (by omega),hc_low l (i + 1) i hi (Nat.lt_succ_self _)]
 ·rw [getD_set_ne' _ _ _ _ e]
  rcases Nat.lt_or_gt_of_ne e with h | h
  ·rw [hc_get l i j (Nat.le_of_lt hi) (Nat.le_of_lt h),hc_get l (i + 1) j hi h]
  ·rw [hc_low l i j (Nat.le_of_lt hi) h,hc_low l (i + 1) j hi (by omega)]
structure UpI (ws out:List Int) (k s i:Nat):Prop where
 len:out.length = ws.length + k + 1
 wd:Ws out
 vl:VL out = TV ws i * (pw k * 2 ^ s)
 hi:∀ j,i + k < j→out.getD j 0 = 0
 at_:out.getD (i + k) 0 < 2 ^ s
theorem up_start (ws:List Int) (k s:Nat):UpI ws (List.replicate (ws.length + k + 1) 0) k s 0:=by
 have hz:∀ j,(List.replicate (ws.length + k + 1) (0:Int)).getD j 0 = 0:=fun j=>by
  rw [List.getD_eq_getElem?_getD,List.getElem?_replicate]
  split <;> rfl
 refine ⟨by simp,Ws.zeros _,by rw [VL_zeros,TV_zero,Int.zero_mul],fun j _=>hz j,?_⟩
 rw [hz]; exact Int.pow_pos (by decide)
theorem up_step {ws out:List Int} {k s i:Nat} {t u:Int} (h:UpI ws out k s i) (hi:i < ws.length) (hs:s < 64) (ht:U64 t) (hd:(2 ^ s:Int) ∣ t) (u0:0≤u) (us:u < 2 ^ s) (hx:ws.getD i 0 * 2 ^ s = 18446744073709551616 * u + t) :
  IntKind.u64.wrap ((BitVec.ofInt IntKind.u64.bits (out.getD (i + k) 0) ||| BitVec.ofInt IntKind.u64.bits t).toNat:Int) = out.getD (i + k) 0 + t∧U64 (out.getD (i + k) 0 + t)∧U64 u ∧
  (out.set (i + k) (out.getD (i + k) 0 + t)).getD (i + k + 1) 0 = 0∧UpI ws ((out.set (i + k) (out.getD (i + k) 0 + t)).set (i + k + 1) u) k s (i + 1):=by
 obtain ⟨len,wd,vl,hz,ha⟩:=h
 have hw:=wd.getD (i + k)
 obtain ⟨e1,-,e2⟩:=or_add s hw ht ha hd
 have hp:=pow63 hs
 have hu:U64 u:=⟨u0,by omega⟩
 have hlt:i + k < out.length:=by omega
 have hn:(out.set (i + k) (out.getD (i + k) 0 + t)).getD (i + k + 1) 0 = 0:=by rw [getD_set_ne' _ _ _ _ (by omega)]; exact hz _ (by omega)
 refine ⟨e1,e2,hu,hn,⟨by simp [len],(wd.set e2 _).set hu _,?_,fun j hj=>?_,?_⟩⟩
 ·rw [VL_set _ _ (by rw [List.length_set]; omega),VL_set _ _ hlt,hn,vl,TV_succ,Int.add_mul,pw_succ,pw_add]
  have e3:pw i * ws.getD i 0 * (pw k * 2 ^ s) = (pw i * pw k) * (ws.getD i 0 * 2 ^ s):=by
   rw [Int.mul_assoc,Int.mul_assoc,Int.mul_left_comm (ws.getD i 0)]
  rw [e3,hx,Int.mul_add]
  have e4:pw i * pw k * (18446744073709551616 * u) = 18446744073709551616 * (pw i * pw k) * (u - 0):=by rw [Int.sub_zero,Int.mul_left_comm,Int.mul_assoc,Int.mul_assoc,Int.mul_assoc]
  have e5:pw i * pw k * (out.getD (i + k) 0 + t - out.getD (i + k) 0) = pw i * pw k * t:=by congr 1; omega
  rw [e4,e5]
  omega
 ·rw [getD_set_ne' _ _ _ _ (by omega),getD_set_ne' _ _ _ _ (by omega)]
  exact hz j (by omega)
 ·rw [show i + 1 + k = i + k + 1 by omega,getD_set_eq _ _ _ (by rw [List.length_set]; omega)]
  exact us
theorem up_end {ws out:List Int} {k s:Nat} (h:UpI ws out k s ws.length):VL out = VL ws * 2 ^ (64 * k + s):=by
 rw [h.vl,TV_all _ _ (Nat.le_refl _),pw_two,← Int.pow_add]
theorem q_bit {q:List Int} {m w j:Nat} (hw:Ws q) (hm:m = 64 * w + j) (hj:j < 64) (hl:w < q.length) (hd:(2 ^ (m + 1):Int) ∣ VL q) :
  IntKind.u64.wrap ((BitVec.ofInt IntKind.u64.bits (q.getD w 0) ||| BitVec.ofInt IntKind.u64.bits (2 ^ j)).toNat:Int) = q.getD w 0 + 2 ^ j∧U64 (q.getD w 0 + 2 ^ j)∧VL (q.set w (q.getD w 0 + 2 ^ j)) = VL q + 2 ^ m:=by
 have hp:=pow63 hj
 have h0:(0:Int) < 2 ^ j:=Int.pow_pos (by decide)
 have hb:=TV_bound hw w (Nat.le_of_lt hl)
 have ha:=VL_at q w hl
 rw [pw_two] at ha hb
 have hx:=word_dvd hj ha hb.1 hb.2 (by rw [← hm]; exact hd)
 obtain ⟨a,b,c⟩:=or_add (j + 1) (⟨by omega,by omega⟩:U64 ((2:Int) ^ j)) (hw.getD w) (by rw [Int.pow_succ]; omega) hx
 refine ⟨by rw [b]; omega,by rw [Int.add_comm]; exact c,?_⟩
 rw [VL_set _ _ hl,pw_two,hm,Int.pow_add]
 congr 1
 congr 1
 omega
structure D1I (ws qs:List Int) (y:Int) (r:Int) (i:Nat):Prop where
 len:qs.length = ws.length
 wd:Ws qs
 eq:VL (ws.drop i) = VL (qs.drop i) * y + r
 r0:0≤r
 rl:r < y
theorem d1_start (ws:List Int) {y:Int} (hy:0 < y):D1I ws (List.replicate ws.length 0) y 0 ws.length:=by
 refine ⟨by simp,Ws.zeros _,?_,Int.le_refl _,hy⟩
 rw [List.drop_length,List.drop_of_length_le (by simp)]
 show (0:Int) = 0 * y + 0
 omega
theorem d1_step {ws qs:List Int} {y r:Int} {m:Nat} (h:D1I ws qs y r (m + 1)) (hw:Ws ws) (hy:U64 y) (hm:m < ws.length) :
  U64 ((r * 18446744073709551616 + ws.getD m 0) / y)∧D1I ws (qs.set m ((r * 18446744073709551616 + ws.getD m 0) / y)) y ((r * 18446744073709551616 + ws.getD m 0) % y) m:=by
 obtain ⟨len,wd,eq,r0,rl⟩:=h
 obtain ⟨x0,x1⟩:=hw.getD m
 have hy0:0 < y:=by omega
 have e1:=Int.mul_ediv_add_emod (r * 18446744073709551616 + ws.getD m 0) y
 have e2:=Int.emod_nonneg (r * 18446744073709551616 + ws.getD m 0) (Int.ne_of_gt hy0)
 have e3:=Int.emod_lt_of_pos (r * 18446744073709551616 + ws.getD m 0) hy0
 have q0:0≤(r * 18446744073709551616 + ws.getD m 0) / y:=Int.ediv_nonneg (by omega) (by omega)
 have q1:(r * 18446744073709551616 + ws.getD m 0) / y < 18446744073709551616:=by
  refine Int.ediv_lt_of_lt_mul hy0 ?_
  have:r * 18446744073709551616≤(y - 1) * 18446744073709551616:=Int.mul_le_mul_of_nonneg_right (by omega) (by decide)
  omega
 generalize (r * 18446744073709551616 + ws.getD m 0) / y = q at *
 generalize (r * 18446744073709551616 + ws.getD m 0) % y = r' at *
 have hu:U64 q:=⟨q0,by omega⟩
 refine ⟨hu,⟨by rw [List.length_set]; exact len,wd.set hu m,?_,e2,e3⟩⟩
 rw [drop_D ws m hm,drop_D (qs.set m q) m (by rw [List.length_set]; omega),getD_set_eq _ _ _ (by omega),List.drop_set_of_lt (by omega)]
 show ws.getD m 0 + 18446744073709551616 * VL (ws.drop (m + 1)) = (q + 18446744073709551616 * VL (qs.drop (m + 1))) * y + r'
 rw [eq,Int.add_mul,Int.mul_add,Int.mul_assoc]
 have:q * y = y * q:=Int.mul_comm _ _
 omega
theorem d1_end {ws qs:List Int} {y r:Int} (h:D1I ws qs y r 0) (hy:0 < y):VL qs = VL ws / y∧r = VL ws % y:=by
 obtain ⟨len,wd,eq,r0,rl⟩:=h
 rw [List.drop_zero,List.drop_zero] at eq
 have:=(Int.ediv_emod_unique hy (a:=VL ws) (q:=VL qs) (r:=r)).2 ⟨by rw [eq,Int.mul_comm]; omega,r0,rl⟩
 exact ⟨this.1.symm,this.2.symm⟩
end Go.Proofs.YtncmmbacoknefaaGreat

/- CdW: MADE BY PROGRAM (sxgen.py): the small code of some functions, points of it and their equations. -/
namespace Go.Proofs.YtncmmbacoknefaaGreat
open Go Go.RowKit Sx Sx.Q
set_option linter.unusedVariables false
variable (C:Cx) (R L1 L2 L3 L4:St→Prop)
namespace wide_length
abbrev r0:List G:=[e 1 (.box true 4 (t 0)),Mi 2 0]
abbrev q0:=[1,3]
abbrev r1:List G:=[Mi 3 3]
abbrev q1:=[1,3,5]
abbrev r2:List G:=[m 4 3,bi 5 .geq 4 0]
abbrev q2:=[1,3,11]
abbrev r4:List G:=[m 8 3,J 9 4 1 1 8,l 10 9,bu 11 .neq 10 0]
abbrev r5:List G:=[m 12 3,e 13 (.bin .mul (i 64) (t 12)),m 14 3,J 15 4 1 1 14,l 16 15,K1 17 197 16,b 18 .add 13 17,m 2 18]
abbrev r3:List G:=[m 6 3,bi 7 .sub 6 1,m 3 7]
abbrev r6:List G:=[Mi 2 0]
abbrev c:MC:=sq [g r0 [1],sq [g r1 q0,.block 0 (.loop (sq [sq [g r2 q1,ci 5 .skip (.exit 0)],.block 1 (sq [g r4 q2,ci 11 (sq [g r5 [2],.ret]) .skip]),g r3 q0]))],g r6 [2],.ret]
theorem ok:compF Tryz.prog Tryz.f199 (an [0,1,2,4,5,3,6] c []) = some (19,c,[(2,none)]):=by kernel_rfl
abbrev p1:=P C r6 [2] R
abbrev p3:=P C r3 q0 L1
abbrev p5:=P C r5 [2] R
abbrev p4:=cd (t 11) (p5 C R) (p3 C L1)
abbrev p6:=P C r4 q2 (p4 C R L1)
abbrev p7:=cd (t 5) (p6 C R L1) (p1 C R)
abbrev p8:=P C r2 q1 (p7 C R L1)
def p2 (S:St):Prop:=LX C (fun L1=>(p8 C R L1)) S
theorem p2_l (S:St):p2 C R S = LX C (fun L1=>(p8 C R L1)) S:=rfl
abbrev p9:=P C r1 q0 (p2 C R)
abbrev p10:=P C r0 [1] (p9 C R)
theorem s (S:St):X C c (retK R) S = p10 C R S:=by kernel_rfl
theorem E:type_of% @s:=@s
end wide_length
namespace wide_left
abbrev q0:=[1,2,4]
abbrev r0:List G:=[e 2 (.box true 4 (t 0)),e 4 (.new [.int .u64 0,.int .u64 0,.int .u64 0,.int .u64 0])]
abbrev q1:=[2,4,5,6]
abbrev r1:List G:=[m 8 1,bi 9 .quo 8 64,m 10 1,bi 11 .rem 10 64,m 5 9,m 6 11]
abbrev q2:=[2,4,5,6,7]
abbrev r2:List G:=[m 12 5,m 7 12]
abbrev q3:=[2,4,5,6,7,14]
abbrev r3:List G:=[m 13 7,bi 14 .lss 13 4]
abbrev r5:List G:=[m 17 7,m 18 7,m 19 5,b 20 .sub 18 19,J 21 4 1 2 20,l 22 21,m 23 6,b 24 .shl 22 23,J 25 4 1 4 17,v 25 24]
abbrev q4:=[2,4,5,6,7,32]
abbrev r6:List G:=[m 26 6,bi 27 .gtr 26 0,m 28 27,ym 29 28 7,ym 30 28 5,y 31 28 (.bin .gtr (t 29) (t 30)),w 32 28 31]
abbrev r7:List G:=[m 33 7,J 34 4 1 4 33,l 35 34,m 36 7,m 37 5,b 38 .sub 36 37,bi 39 .sub 38 1,J 40 4 1 2 39,l 41 40,m 42 6,e 43 (.bin .sub (i 64) (t 42)),b 44 .shr 41 43,b 45 .or 35 44,J 46 4 1 4 33]
abbrev t7:List G:=[v 46 45]
abbrev r4:List G:=[m 15 7,bi 16 .add 15 1,m 7 16]
abbrev r8:List G:=[L 47 4 4,V 4 4 47]
abbrev c:MC:=sq [g r0 q0,g r1 q1,sq [g r2 q2,.block 0 (.loop (sq [sq [g r3 q3,ci 14 .skip (.exit 0)],.block 1 (sq [g r5 q2,g r6 q4,ci 32 (gd r7 t7 q2) .skip]),g r4 q2]))],g r8 [4],.ret]
theorem ok:compF Tryz.prog Tryz.f200 (an [0,1,2,3,5,6,7,4,8] c [(7,14,[],(up 14),[])]) = some (48,c,[(4,some (true,4))]):=by kernel_rfl
abbrev p1:=P C r8 [4] R
abbrev p3:=P C r4 q2 L1
abbrev p5:=Pd C r7 t7 q2 (p3 C L1)
abbrev p4:=cd (t 32) (p5 C L1) (p3 C L1)
abbrev p6:=P C r6 q4 (p4 C L1)
abbrev p7:=P C r5 q2 (p6 C L1)
abbrev p8:=cd (t 14) (p7 C L1) (p1 C R)
abbrev p9:=P C r3 q3 (p8 C R L1)
def p2 (S:St):Prop:=LX C (fun L1=>(p9 C R L1)) S
theorem p2_l (S:St):p2 C R S = LX C (fun L1=>(p9 C R L1)) S:=rfl
abbrev p10:=P C r2 q2 (p2 C R)
abbrev p11:=P C r1 q1 (p10 C R)
abbrev p12:=P C r0 q0 (p11 C R)
theorem s (S:St):X C c (retK R) S = p12 C R S:=by kernel_rfl
theorem E:type_of% @s:=@s
end wide_left
namespace wide_halved
abbrev q0:=[1,2]
abbrev r0:List G:=[e 1 (.box true 4 (t 0)),e 2 (.new [.int .u64 0,.int .u64 0,.int .u64 0,.int .u64 0])]
abbrev q1:=[1,2,4]
abbrev r1:List G:=[Mi 4 0]
abbrev q2:=[1,2,4,5]
abbrev r2:List G:=[bi 5 .lss 4 4]
abbrev q3:=[1,2,3,4]
abbrev r3:List G:=[m 6 4,m 3 6]
abbrev r4:List G:=[m 7 3,m 8 3,J 9 4 1 1 8,l 10 9,bu 11 .shr 10 1,J 12 4 1 2 7,v 12 11]
abbrev q4:=[1,2,3,4,14]
abbrev r5:List G:=[m 13 3,bi 14 .lss 13 3]
abbrev r6:List G:=[m 15 3,J 16 4 1 2 15,l 17 16,m 18 3,bi 19 .add 18 1,J 20 4 1 1 19,l 21 20,bu 22 .shl 21 63,b 23 .or 17 22,J 24 4 1 2 15]
abbrev t6:List G:=[v 24 23]
abbrev r7:List G:=[bi 25 .add 4 1,m 4 25]
abbrev r8:List G:=[L 26 4 2,V 4 2 26]
abbrev c:MC:=sq [g r0 q0,sq [g r1 q1,.block 0 (.loop (sq [g r2 q2,ci 5 .skip (.exit 0),.block 1 (sq [g r3 q3,g r4 q3,g r5 q4,ci 14 (gd r6 t6 q1) .skip]),g r7 q1]))],g r8 [2],.ret]
theorem ok:compF Tryz.prog Tryz.f201 (an (rg 9) c [(6,10,[],(up 10),[])]) = some (27,c,[(2,some (true,4))]):=by kernel_rfl
abbrev p1:=P C r8 [2] R
abbrev p3:=P C r7 q1 L1
abbrev p5:=Pd C r6 t6 q1 (p3 C L1)
abbrev p4:=cd (t 14) (p5 C L1) (p3 C L1)
abbrev p6:=P C r5 q4 (p4 C L1)
abbrev p7:=P C r4 q3 (p6 C L1)
abbrev p8:=P C r3 q3 (p7 C L1)
abbrev p9:=cd (t 5) (p8 C L1) (p1 C R)
abbrev p10:=P C r2 q2 (p9 C R L1)
def p2 (S:St):Prop:=LX C (fun L1=>(p10 C R L1)) S
theorem p2_l (S:St):p2 C R S = LX C (fun L1=>(p10 C R L1)) S:=rfl
abbrev p11:=P C r1 q1 (p2 C R)
abbrev p12:=P C r0 q0 (p11 C R)
theorem s (S:St):X C c (retK R) S = p12 C R S:=by kernel_rfl
theorem E:type_of% @s:=@s
end wide_halved
namespace wide_div
abbrev q0:=[2,3,4,5]
abbrev r0:List G:=[e 2 (.box true 4 (t 0)),e 3 (.box true 4 (t 1)),e 4 (.new [.int .u64 0,.int .u64 0,.int .u64 0,.int .u64 0]),e 5 (.new [.int .u64 0,.int .u64 0,.int .u64 0,.int .u64 0])]
abbrev q1:=[2,3,4,5,6]
abbrev r1:List G:=[L 8 4 2,k1 9 199 8,L 10 4 3,k1 11 199 10,b 12 .sub 9 11]
abbrev t1:List G:=[m 6 12]
abbrev q2:=[2,3,4,5,6,14]
abbrev r2:List G:=[m 13 6,bi 14 .lss 13 0]
abbrev q3:=[4,5]
abbrev o3:List (List G):=[[L 15 4 4,L 16 4 2,V 4 4 15,V 4 5 16],[L 15 4 4,V 4 4 15,L 16 4 2,V 4 5 16],[L 16 4 2,L 15 4 4,V 4 4 15,V 4 5 16]]
abbrev q4:=[2,4,5,6,7]
abbrev r4:List G:=[L 17 4 3,m 18 6,K2 19 200 17 18,e 7 (.new [.int .u64 0,.int .u64 0,.int .u64 0,.int .u64 0]),V 4 7 19]
abbrev q5:=[2,4,5,6,7,21]
abbrev r5:List G:=[m 20 6,bi 21 .geq 20 0]
abbrev q6:=[2,4,5,6,7,27]
abbrev r7:List G:=[L 24 4 2,L 25 4 7,K2 26 166 24 25,bi 27 .geq 26 0]
abbrev r8:List G:=[L 28 4 2,L 29 4 7,K2 30 167 28 29,V 4 2 30]
abbrev r9:List G:=[m 31 6,bi 32 .quo 31 64,J 33 4 1 4 32,l 34 33,m 35 6,bi 36 .rem 35 64,e 37 (.bin .shl (u 1) (t 36)),b 38 .or 34 37,J 39 4 1 4 32]
abbrev t9:List G:=[v 39 38]
abbrev r10:List G:=[L 40 4 7,K1 41 201 40,V 4 7 41]
abbrev r6:List G:=[m 22 6,bi 23 .sub 22 1,m 6 23]
abbrev o11:List (List G):=[[L 42 4 4,L 43 4 2,V 4 4 42,V 4 5 43],[L 42 4 4,V 4 4 42,L 43 4 2,V 4 5 43],[L 43 4 2,L 42 4 4,V 4 4 42,V 4 5 43]]
abbrev c:MC:=sq [g r0 q0,gd r1 t1 q1,sq [g r2 q2,ci 14 (sq [ga [] o3 q3,.ret]) .skip],g r4 q4,.block 0 (.loop (sq [sq [g r5 q5,ci 21 .skip (.exit 0)],.block 1 (sq [sq [g r7 q6,ci 27 (sq [g r8 q4,gd r9 t9 q4]) .skip],g r10 q4]),g r6 q4])),ga [] o11 q3,.ret]
theorem ok:compF Tryz.prog Tryz.f189 (an [0,1,2,3,4,5,7,8,9,10,6,11] c [(1,5,[],(up 5),[]),(3,99999,[],[],[]),(9,9,[],(up 9),[]),(11,99999,[],[],[])]) = some (44,c,[(4,some (true,4)),(5,some (true,4))]):=by kernel_rfl
abbrev p1:=Pa C [] o11 q3 R
abbrev p3:=P C r6 q4 L1
abbrev p4:=P C r10 q4 (p3 C L1)
abbrev p6:=Pd C r9 t9 q4 (p4 C L1)
abbrev p7:=P C r8 q4 (p6 C L1)
abbrev p5:=cd (t 27) (p7 C L1) (p4 C L1)
abbrev p8:=P C r7 q6 (p5 C L1)
abbrev p9:=cd (t 21) (p8 C L1) (p1 C R)
abbrev p10:=P C r5 q5 (p9 C R L1)
def p2 (S:St):Prop:=LX C (fun L1=>(p10 C R L1)) S
theorem p2_l (S:St):p2 C R S = LX C (fun L1=>(p10 C R L1)) S:=rfl
abbrev p11:=P C r4 q4 (p2 C R)
abbrev p13:=Pa C [] o3 q3 R
abbrev p12:=cd (t 14) (p13 C R) (p11 C R)
abbrev p14:=P C r2 q2 (p12 C R)
abbrev p15:=Pd C r1 t1 q1 (p14 C R)
abbrev p16:=P C r0 q0 (p15 C R)
theorem s (S:St):X C c (retK R) S = p16 C R S:=by kernel_rfl
theorem E:type_of% @s:=@s
end wide_div
namespace wide_DivMod
abbrev q0:=[2,3,4,5]
abbrev r0:List G:=[e 2 (.box true 5 (t 0)),e 3 (.box true 5 (t 1)),e 4 (.new zW),e 5 (.new zW),Mb 6 false]
abbrev r1:List G:=[L 9 5 2,k1 10 161 9,L 11 5 3,k1 12 161 11]
abbrev t1:List G:=[V 5 2 10,V 5 3 12]
abbrev q1:=[2,3,4,5,15]
abbrev r2:List G:=[L 13 5 3,K1 14 140 13,bi 15 .eql 14 0]
abbrev q2:=[4,5,6]
abbrev r3:List G:=[L 16 5 4,L 17 5 5]
abbrev t3:GT:=.br none none (.st true 5 (t 4) (t 16)) (.br none none (.st true 5 (t 5) (t 17)) (br 6 (.mv bf) .fin .no) .no) .no
abbrev q3:=[2,3,4,5,7,8]
abbrev r4:List G:=[a 19 1 2,L 20 4 19,a 21 1 3,L 22 4 21,K2 23 189 20 22,m 18 23,x 24 18 0,x 25 18 1,e 7 (.new [.int .u64 0,.int .u64 0,.int .u64 0,.int .u64 0]),e 8 (.new [.int .u64 0,.int .u64 0,.int .u64 0,.int .u64 0]),V 4 7 24,V 4 8 25]
abbrev q4:=[2,3,4,5,7,8,32]
abbrev r5:List G:=[a 26 0 2,l 27 26,m 28 27,y 29 28 (.ld true 4 (t 8)),y 30 28 (.bd [.int .u64 0,.int .u64 0,.int .u64 0,.int .u64 0] []),y 31 28 (.eqg true 35 (t 29) (t 30)),w 32 28 31]
abbrev r6:List G:=[L 34 4 7,e 35 (.bd [.int .u64 0,.int .u64 0,.int .u64 0,.int .u64 0] [(0,1,(u 1))]),K2 36 165 34 35,m 33 36,x 37 33 0,x 38 33 1,V 4 7 37]
abbrev r7:List G:=[a 39 1 3,L 40 4 39,L 41 4 8,K2 42 167 40 41,V 4 8 42]
abbrev r8:List G:=[a 43 0 2,l 44 43,a 45 0 3,l 46 45,e 47 (.bq true (t 44) (t 46)),L 48 4 7,k2 49 163 47 48,L 50 4 8,e 51 (.call true 163 [bf,(t 50)])]
abbrev t8:List G:=[V 5 4 49,V 5 5 51,Mb 6 true]
abbrev c:MC:=sq [g r0 q0,gd r1 t1 q0,sq [g r2 q1,ci 15 (sq [gh r3 t3 [4,5] q2,.ret]) .skip],g r4 q3,sq [g r5 q4,ci 32 (sq [g r6 q3,g r7 q3]) .skip],gd r8 t8 q2,.ret]
theorem ok:compF Tryz.prog Tryz.f171 (an (rg 9) c [(1,4,[],(up 4),[]),(3,99998,[0,1],[],[4,5]),(8,9,[],(up 9),[])]) = some (52,c,[(4,some (true,5)),(5,some (true,5)),(6,none)]):=by kernel_rfl
abbrev p1:=Pd C r8 t8 q2 R
abbrev p3:=P C r7 q3 (p1 C R)
abbrev p4:=P C r6 q3 (p3 C R)
abbrev p2:=cd (t 32) (p4 C R) (p1 C R)
abbrev p5:=P C r5 q4 (p2 C R)
abbrev p6:=P C r4 q3 (p5 C R)
abbrev p8:=Ph C r3 t3 [4,5] q2 R
abbrev p7:=cd (t 15) (p8 C R) (p6 C R)
abbrev p9:=P C r2 q1 (p7 C R)
abbrev p10:=Pd C r1 t1 q0 (p9 C R)
abbrev p11:=P C r0 q0 (p10 C R)
theorem s (S:St):X C c (retK R) S = p11 C R S:=by kernel_rfl
theorem E:type_of% @s:=@s
end wide_DivMod
namespace wide_Sign
abbrev r0:List G:=[e 1 (.box true 5 (t 0)),Mi 2 0]
abbrev r1:List G:=[L 3 5 1,K1 4 161 3,V 5 1 4]
abbrev q0:=[1,5]
abbrev r2:List G:=[a 6 0 1,l 7 6,m 5 7]
abbrev r3:List G:=[Mi 2 (-1)]
abbrev r4:List G:=[a 9 1 1,L 10 4 9,e 11 (.bd [.int .u64 0,.int .u64 0,.int .u64 0,.int .u64 0] []),e 12 (.eqg false 35 (t 10) (t 11)),m 8 12]
abbrev r5:List G:=[Mi 2 0]
abbrev r6:List G:=[Mi 2 1]
abbrev c:MC:=sq [g r0 [1],g r1 [1],.block 0 (sq [g r2 q0,ci 5 (sq [g r3 [2],.ret]) (sq [g r4 [8],ci 8 (sq [g r5 [2],.ret]) .skip])]),g r6 [2],.ret]
theorem ok:compF Tryz.prog Tryz.f140 (an (rg 7) c []) = some (13,c,[(2,none)]):=by kernel_rfl
abbrev p1:=P C r6 [2] R
abbrev p3:=P C r3 [2] R
abbrev p5:=P C r5 [2] R
abbrev p4:=cd (t 8) (p5 C R) (p1 C R)
abbrev p6:=P C r4 [8] (p4 C R)
abbrev p2:=cd (t 5) (p3 C R) (p6 C R)
abbrev p7:=P C r2 q0 (p2 C R)
abbrev p8:=P C r1 [1] (p7 C R)
abbrev p9:=P C r0 [1] (p8 C R)
theorem s (S:St):X C c (retK R) S = p9 C R S:=by kernel_rfl
theorem E:type_of% @s:=@s
end wide_Sign
namespace wide_OfUnsigned
abbrev q0:=[0,2]
abbrev r0:List G:=[e 2 (.new zW)]
abbrev r1:List G:=[m 3 0,e 4 (.bd [.int .u64 0,.int .u64 0,.int .u64 0,.int .u64 0] [(0,1,(t 3))]),e 5 (.bd zW [(1,4,(t 4))]),V 5 2 5]
abbrev c:MC:=sq [g r0 q0,g r1 [2],.ret]
theorem ok:compF Tryz.prog Tryz.f170 (an (rg 2) c []) = some (6,c,[(2,some (true,5))]):=by kernel_rfl
abbrev p1:=P C r1 [2] R
abbrev p2:=P C r0 q0 (p1 C R)
theorem s (S:St):X C c (retK R) S = p2 C R S:=by kernel_rfl
theorem E:type_of% @s:=@s
end wide_OfUnsigned
namespace wide_Compare
abbrev q0:=[2,3]
abbrev r0:List G:=[e 2 (.box true 5 (t 0)),e 3 (.box true 5 (t 1)),Mi 4 0]
abbrev r1:List G:=[L 5 5 2,k1 6 161 5,L 7 5 3,k1 8 161 7]
abbrev t1:List G:=[V 5 2 6,V 5 3 8]
abbrev q1:=[2,3,9]
abbrev r2:List G:=[a 10 0 2,l 11 10,m 12 11,ya 13 12 0 3,yl 14 12 13,w 15 12 14,m 9 15]
abbrev r3:List G:=[a 16 1 3,L 17 4 16,a 18 1 2,L 19 4 18,K2 20 166 17 19,m 4 20]
abbrev q2:=[2,3,21]
abbrev r4:List G:=[a 22 0 2,l 23 22,m 21 23]
abbrev r5:List G:=[Mi 4 (-1)]
abbrev q3:=[2,3,24]
abbrev r6:List G:=[a 25 0 3,l 26 25,m 24 26]
abbrev r7:List G:=[Mi 4 1]
abbrev r8:List G:=[a 27 1 2,L 28 4 27,a 29 1 3,L 30 4 29,K2 31 166 28 30,m 4 31]
abbrev c:MC:=sq [g r0 q0,gd r1 t1 q0,.block 0 (sq [g r2 q1,ci 9 (sq [g r3 [4],.ret]) (sq [g r4 q2,ci 21 (sq [g r5 [4],.ret]) (sq [g r6 q3,ci 24 (sq [g r7 [4],.ret]) .skip])])]),g r8 [4],.ret]
theorem ok:compF Tryz.prog Tryz.f193 (an (rg 9) c [(1,4,[],(up 4),[])]) = some (32,c,[(4,none)]):=by kernel_rfl
abbrev p1:=P C r8 [4] R
abbrev p3:=P C r3 [4] R
abbrev p5:=P C r5 [4] R
abbrev p7:=P C r7 [4] R
abbrev p6:=cd (t 24) (p7 C R) (p1 C R)
abbrev p8:=P C r6 q3 (p6 C R)
abbrev p4:=cd (t 21) (p5 C R) (p8 C R)
abbrev p9:=P C r4 q2 (p4 C R)
abbrev p2:=cd (t 9) (p3 C R) (p9 C R)
abbrev p10:=P C r2 q1 (p2 C R)
abbrev p11:=Pd C r1 t1 q0 (p10 C R)
abbrev p12:=P C r0 q0 (p11 C R)
theorem s (S:St):X C c (retK R) S = p12 C R S:=by kernel_rfl
theorem E:type_of% @s:=@s
end wide_Compare
namespace math_bits_Div64
abbrev q0:=[0,1,2]
abbrev r0:List G:=[e 6 (.mv (u 0)),e 7 (.mv (u 0))]
abbrev q1:=[0,1,2,20]
abbrev r1:List G:=[m 19 2,bu 20 .eql 19 0]
abbrev r2:List G:=[e 21 (.ld false 1 (.global 0)),z .trap]
abbrev q2:=[0,1,2,24]
abbrev r3:List G:=[m 22 2,m 23 0,b 24 .leq 22 23]
abbrev r4:List G:=[e 25 (.ld false 1 (.global 1)),z .trap]
abbrev q3:=[0,1,2,27]
abbrev r5:List G:=[m 26 0,bu 27 .eql 26 0]
abbrev q4:=[6,7]
abbrev r6:List G:=[m 28 1,m 29 2,b 30 .quo 28 29,m 31 1,m 32 2,b 33 .rem 31 32]
abbrev t6:List G:=[m 6 30,m 7 33]
abbrev q5:=[0,1,2,8]
abbrev r7:List G:=[m 34 2,K1 35 196 34,e 36 (.cv .u64 (t 35)),m 8 36]
abbrev r8:List G:=[m 37 2,m 38 8,b 39 .shl 37 38,m 2 39]
abbrev q6:=[0,1,2,8,9]
abbrev r9:List G:=[m 40 2,bu 41 .shr 40 32,m 9 41]
abbrev q7:=[0,1,2,8,9,10]
abbrev r10:List G:=[m 42 2,bu 43 .and 42 4294967295,m 10 43]
abbrev q8:=[1,2,8,9,10,11]
abbrev r11:List G:=[m 44 0,m 45 8,b 46 .shl 44 45,m 47 1,m 48 8,e 49 (.bin .sub (u 64) (t 48)),b 50 .shr 47 49,b 51 .or 46 50,m 11 51]
abbrev q9:=[2,8,9,10,11,12]
abbrev r12:List G:=[m 52 1,m 53 8,b 54 .shl 52 53,m 12 54]
abbrev q10:=[2,8,9,10,11,12,13]
abbrev r13:List G:=[m 55 12,bu 56 .shr 55 32,m 13 56]
abbrev q11:=[2,8,9,10,11,13,14]
abbrev r14:List G:=[m 57 12,bu 58 .and 57 4294967295,m 14 58]
abbrev q12:=[2,8,9,10,11,13,14,15]
abbrev r15:List G:=[m 59 11,m 60 9,b 61 .quo 59 60,m 15 61]
abbrev q13:=[2,8,9,10,11,13,14,15,16]
abbrev r16:List G:=[m 62 11,m 63 15,m 64 9,b 65 .mul 63 64,b 66 .sub 62 65,m 16 66]
abbrev q14:=[2,8,9,10,11,13,14,15,16,78]
abbrev r17:List G:=[m 67 15,bu 68 .geq 67 4294967296,m 69 68,nm 70 69 15,nm 71 69 10,n 72 69 (.bin .mul (t 70) (t 71)),nm 73 69 16,n 74 69 (.bin .mul (u 4294967296) (t 73)),nm 75 69 13,n 76 69 (.bin .add (t 74) (t 75)),n 77 69 (.bin .gtr (t 72) (t 76)),o 78 69 77]
abbrev r18:List G:=[m 79 15,bu 80 .sub 79 1,m 15 80]
abbrev r19:List G:=[m 81 16,m 82 9,b 83 .add 81 82,m 16 83]
abbrev q15:=[2,8,9,10,11,13,14,15,16,85]
abbrev r20:List G:=[m 84 16,bu 85 .geq 84 4294967296]
abbrev q16:=[2,8,9,10,14,15,17]
abbrev r21:List G:=[m 86 11,bu 87 .mul 86 4294967296,m 88 13,b 89 .add 87 88,m 90 15,m 91 2,b 92 .mul 90 91,b 93 .sub 89 92,m 17 93]
abbrev q17:=[2,8,9,10,14,15,17,18]
abbrev r22:List G:=[m 94 17,m 95 9,b 96 .quo 94 95,m 18 96]
abbrev q18:=[2,8,9,10,14,15,16,17,18]
abbrev r23:List G:=[m 97 17,m 98 18,m 99 9,b 100 .mul 98 99,b 101 .sub 97 100,m 16 101]
abbrev q19:=[2,8,9,10,14,15,16,17,18,113]
abbrev r24:List G:=[m 102 18,bu 103 .geq 102 4294967296,m 104 103,nm 105 104 18,nm 106 104 10,n 107 104 (.bin .mul (t 105) (t 106)),nm 108 104 16,n 109 104 (.bin .mul (u 4294967296) (t 108)),nm 110 104 14,n 111 104 (.bin .add (t 109) (t 110)),n 112 104 (.bin .gtr (t 107) (t 111)),o 113 104 112]
abbrev r25:List G:=[m 114 18,bu 115 .sub 114 1,m 18 115]
abbrev r26:List G:=[m 116 16,m 117 9,b 118 .add 116 117,m 16 118]
abbrev q20:=[2,8,9,10,14,15,16,17,18,120]
abbrev r27:List G:=[m 119 16,bu 120 .geq 119 4294967296]
abbrev r28:List G:=[m 121 15,bu 122 .mul 121 4294967296,m 123 18,b 124 .add 122 123,m 125 17,bu 126 .mul 125 4294967296,m 127 14,b 128 .add 126 127,m 129 18,m 130 2,b 131 .mul 129 130,b 132 .sub 128 131,m 133 8,b 134 .shr 132 133,m 6 124,m 7 134]
abbrev c:MC:=sq [g r0 q0,sq [g r1 q1,ci 20 (g r2 q0) .skip],sq [g r3 q2,ci 24 (g r4 q0) .skip],sq [g r5 q3,ci 27 (sq [gd r6 t6 q4,.ret]) .skip],g r7 q5,g r8 q5,g r9 q6,g r10 q7,g r11 q8,g r12 q9,g r13 q10,g r14 q11,g r15 q12,g r16 q13,.block 0 (.loop (sq [sq [g r17 q14,ci 78 .skip (.exit 0)],.block 1 (sq [g r18 q13,g r19 q13,g r20 q15,ci 85 (.exit 0) .skip])])),g r21 q16,g r22 q17,g r23 q18,.block 2 (.loop (sq [sq [g r24 q19,ci 113 .skip (.exit 2)],.block 3 (sq [g r25 q18,g r26 q18,g r27 q20,ci 120 (.exit 2) .skip])])),g r28 q4,.ret]
theorem ok:compF Tryz.prog Tryz.f182 (an (rg 29) c [(6,6,[3,4,5],(up 3 ++ [(3,2),(4,2),(5,2)]),[])]) = some (135,c,[(6,none),(7,none)]):=by kernel_rfl
abbrev p1:=P C r28 q4 R
abbrev p3:=cd (t 120) (p1 C R) L1
abbrev p4:=P C r27 q20 (p3 C R L1)
abbrev p5:=P C r26 q18 (p4 C R L1)
abbrev p6:=P C r25 q18 (p5 C R L1)
abbrev p7:=cd (t 113) (p6 C R L1) (p1 C R)
abbrev p8:=P C r24 q19 (p7 C R L1)
def p2 (S:St):Prop:=LX C (fun L1=>(p8 C R L1)) S
theorem p2_l (S:St):p2 C R S = LX C (fun L1=>(p8 C R L1)) S:=rfl
abbrev p9:=P C r23 q18 (p2 C R)
abbrev p10:=P C r22 q17 (p9 C R)
abbrev p11:=P C r21 q16 (p10 C R)
abbrev p13:=cd (t 85) (p11 C R) L1
abbrev p14:=P C r20 q15 (p13 C R L1)
abbrev p15:=P C r19 q13 (p14 C R L1)
abbrev p16:=P C r18 q13 (p15 C R L1)
abbrev p17:=cd (t 78) (p16 C R L1) (p11 C R)
abbrev p18:=P C r17 q14 (p17 C R L1)
def p12 (S:St):Prop:=LX C (fun L1=>(p18 C R L1)) S
theorem p12_l (S:St):p12 C R S = LX C (fun L1=>(p18 C R L1)) S:=rfl
abbrev p19:=P C r16 q13 (p12 C R)
abbrev p20:=P C r15 q12 (p19 C R)
abbrev p21:=P C r14 q11 (p20 C R)
abbrev p22:=P C r13 q10 (p21 C R)
abbrev p23:=P C r12 q9 (p22 C R)
abbrev p24:=P C r11 q8 (p23 C R)
abbrev p25:=P C r10 q7 (p24 C R)
abbrev p26:=P C r9 q6 (p25 C R)
abbrev p27:=P C r8 q5 (p26 C R)
abbrev p28:=P C r7 q5 (p27 C R)
abbrev p30:=Pd C r6 t6 q4 R
abbrev p29:=cd (t 27) (p30 C R) (p28 C R)
abbrev p31:=P C r5 q3 (p29 C R)
abbrev p33:=P C r4 q0 (p31 C R)
abbrev p32:=cd (t 24) (p33 C R) (p31 C R)
abbrev p34:=P C r3 q2 (p32 C R)
abbrev p36:=P C r2 q0 (p34 C R)
abbrev p35:=cd (t 20) (p36 C R) (p34 C R)
abbrev p37:=P C r1 q1 (p35 C R)
abbrev p38:=P C r0 q0 (p37 C R)
theorem s (S:St):X C c (retK R) S = p38 C R S:=by kernel_rfl
theorem E:type_of% @s:=@s
end math_bits_Div64
end Go.Proofs.YtncmmbacoknefaaGreat

/- RefA: The reference of wide: lists of words. What its functions return, as exact integers. -/
namespace Go.Proofs.YtncmmbacoknefaaGreat
open Go.ChangeShapes Go.WideShapes Go.ChangeAt Go.RowKit
set_option linter.unusedVariables false
set_option linter.unusedSimpArgs false
theorem trim_done {a:Option Addr} {cap k:Nat} {ws:List Int} (h4:Ws ws) (hk:k≤ws.length) (hz:∀ j,k≤j→ws.getD j 0 = 0) (hl:0 < k→ws.getD (k - 1) 0≠0) :
  Ending.returned (.slice a k cap) = Ending.returned (.slice a (wl (VL ws)).length cap):=by rw [(wl_take h4 hk hz hl).2]
theorem rtrim_any (a:Option Addr) (len cap:Nat) (ws:List Int) (w:World) (h:SlU w (.slice a len cap) ws) :
  Calls Tryz.prog 154 #[.slice a len cap] w fun e w'=>e = .returned (.slice a (wl (VL ws)).length cap)∧w = w':=by
 obtain ⟨a',len',cap',e,h1,h2,h3,h4,h5⟩:=h
 cases e
 have H5:=hid h5
 have H4:=hid h4
 clear h5 h4
 go_enter Tryz.func154,Tryz.ntmps154
 go_wp2
 go_loop [0] (fun s=>∃ k:Nat,k≤len∧s = .slice a k cap∧Hid (∀ j,k≤j→ws.getD j 0 = 0)) (fun s=>slLen s)
 case atStart=>exact ⟨len,Nat.le_refl _,rfl,hid (fun j hj=>by rw [List.getD_eq_getElem?_getD,List.getElem?_eq_none (by omega)]; rfl)⟩
 case round =>
  obtain ⟨k,hk,rfl,hz⟩:=hrel
  rcases Nat.eq_zero_or_pos k with h0 | h0
  ·subst h0
   go_wp2
   go_ret
   exact ⟨trim_done H4.out (by omega) hz.out (by omega),rfl⟩
  ·obtain ⟨m,rfl⟩:∃ m,k = m + 1:=⟨k - 1,by omega⟩
   obtain ⟨b,off,rfl,hlt,hcell⟩:=H5.out (by omega)
   have hc:=hcell m (by omega)
   clear hcell
   have e1:((m + 1:Nat):Int) - 1 = (m:Int):=by omega
   by_cases hz0:ws.getD m 0 = 0
   ·rw [hz0] at hc
    have HZ0:=hid hz0
    clear hz0
    go_wp2
    all_goals
     go_round
     case rel=>exact ⟨m,by omega,by simp,hid (fun j hj=>(Nat.eq_or_lt_of_le hj).elim (fun e=>e ▸ HZ0.out) (fun e=>hz.out j e))⟩
     case measure=>simp [slLen]
   ·generalize hx:ws.getD m 0 = x at *
    have T:(x == 0) = false:=beq_eq_false_iff_ne.2 hz0
    have HX:=hid (And.intro hx hz0)
    clear hx hz0
    go_wp2
    go_ret
    exact ⟨trim_done H4.out (by omega) hz.out (fun _=>by simp only [Nat.add_sub_cancel]; rw [HX.out.1]; exact HX.out.2),rfl⟩
theorem info_u:∃ i,Tryz.prog.info? 34 = some i∧i.zero = some (.int .u64 0)∧i.size = 1∧i.bytes = 8:=by
 obtain ⟨i0,hi,hz0,hz1,hz2⟩:=info_parts info_u64
 exact ⟨i0,hi,hz0,hz1,hz2⟩
def MagP (w:World) (m:Int) (e:Ending) (w':World):Prop:=∃ v,e = .returned v∧SlF w' w.heap.size v (wl m)∧Below w.heap.size w w'
theorem rof_any (n:Bool) (a b c d:Int) (ha:U64 a) (hb:U64 b) (hc:U64 c) (hd:U64 d) (w:World) :
  Calls Tryz.prog 110 #[WV n a b c d] w (MagP w (MV a b c d)):=by
 obtain ⟨i0,hi,hz0,hz1,hz2⟩:=info_u
 have hw:Ws [a,b,c,d]:=by
  intro x hx
  simp at hx
  rcases hx with rfl | rfl | rfl | rfl <;> assumption
 have HW:=hid hw
 clear hw ha hb hc hd
 go_enter Tryz.func110,Tryz.ntmps110
 go_wp2_with (at_builtin; (refine wpList_append_u (ws:=[]) (ms:=[a,b,c,d]) (v:=.slice (some ⟨w.heap.size + 1,0,none⟩) 0 0) (src:=.slice (some ⟨w.heap.size,1,none⟩) 4 4) _ rfl (.tmp 3) (.tmp 5) 162 161 rfl w.heap.size Tryz.underlying162 Tryz.underlying161 hi hz0 hz1 hz2 rfl rfl ?own ?src ?small ?base ?_); rotate_right; intro v1 w1 hown hg hat)
 case own =>
  exact OwnU.empty (w.alloc _) _ rfl (by simp) (by simp)
 case src =>
  refine ⟨_,4,4,rfl,rfl,Nat.le_refl _,by decide,HW.out,fun _=>⟨w.heap.size,1,rfl,by go_size,fun i hi=>?_⟩⟩
  match i,hi with
  | 0,_=>simp [go_sem]
  | 1,_=>simp [go_sem]
  | 2,_=>simp [go_sem]
  | 3,_=>simp [go_sem]
 case small=>simp
 case base=>go_size
 have hb1:Below w.heap.size w w1:=(((Below.refl _ w).alloc (Nat.le_refl _) _).alloc (by simp) _).grown hg (by simp; omega) (fun k e=>by simp [Value.ownBlock] at e; omega)
 clear hg hat HW
 simp only [List.nil_append] at hown
 rcases hown.form with ⟨rfl,h0⟩ | ⟨g,cap,rfl,h1,h2,h3,h4,h5,h6⟩
 ·simp at h0
 have hs:=hown.sl
 have e:VL [a,b,c,d] = MV a b c d:=VL4 a b c d
 clear h1 h2 h3 h4 h5 h6
 have H:=hid (And.intro hs (And.intro hb1 e))
 have HC:=hid (SlF.canon (base:=w.heap.size) ⟨hs,hown.fr (by first | exact Nat.le_refl _ | (simp; done) | (simp; omega))⟩)
 clear hown hb1 e
 (repeat' (first | (go_big_may; (first | (go_at_call 154; refine (rtrim_any _ _ _ _ _ hs).mono ?_; rintro e w' ⟨rfl,rfl⟩))) | go_values | go_skip | go_guarded | go_step | go_upon | (simp only [Int.not_lt,Int.not_le] at *; go_simp) | (go_values <;> (try go_simp)) | (go_ite <;> go_prune <;> (try go_simp)) | (split <;> (first | (rename_i hx; exact (hx _ rfl).elim) | go_prune))))
 go_ret
 obtain ⟨hs,hb1,e⟩:=H.out
 have h2:=HC.out
 refine ⟨.slice (some ⟨g,0,none⟩) (wl (VL [a,b,c,d])).length cap,rfl,?_,hb1⟩
 rw [e] at h2 ⊢
 exact h2
def mcells (nb:Bool) (l:List Int):Array Value:=#[.bool nb,.int .u64 (l.getD 0 0),.int .u64 (l.getD 1 0),.int .u64 (l.getD 2 0),.int .u64 (l.getD 3 0)]
theorem mcells_nil (nb:Bool):mcells nb [] = #[.bool nb,.int .u64 0,.int .u64 0,.int .u64 0,.int .u64 0]:=rfl
theorem getD_takeD (ws:List Int) (i j:Nat):(ws.take i).getD j 0 = if j < i then ws.getD j 0 else 0:=by
 rw [List.getD_eq_getElem?_getD,List.getD_eq_getElem?_getD,List.getElem?_take]
 split <;> rfl
theorem mcells_at (nb:Bool) (ws:List Int) {i:Nat} (h:i < 4):(mcells nb (ws.take i))[1 + i]? = some (.int .u64 0):=by
 unfold mcells
 simp only [getD_takeD]
 match i,h with
 | 0,_=>simp
 | 1,_=>simp
 | 2,_=>simp
 | 3,_=>simp
theorem mcells_set (nb:Bool) (ws:List Int) {i:Nat} (h:i < 4):(mcells nb (ws.take i)).setIfInBounds (1 + i) (.int .u64 (ws.getD i 0)) = mcells nb (ws.take (i + 1)):=by
 unfold mcells
 simp only [getD_takeD]
 match i,h with
 | 0,_=>simp
 | 1,_=>simp
 | 2,_=>simp
 | 3,_=>simp
theorem cn_pos (neg:Bool) {m:Int} (h0:0≤m) (h:up4 m = 0):cn neg (lb0 m) (lb1 m) (lb2 m) (lb3 m) = (neg && decide (0 < (wl m).length)):=by
 have e:mz (lb0 m) (lb1 m) (lb2 m) (lb3 m) = !decide (0 < (wl m).length):=by
  have h1:=mz_iff (lb0_in m) (lb1_in m) (lb2_in m) (lb3_in m)
  rw [mv_lb4 h] at h1
  by_cases hm:m = 0
  ·rw [h1.2 hm,hm,wl_nil (Int.le_refl _)]; rfl
  ·have h2:(wl m).length≠0:=fun h=>wl_ne (show 0 < m by omega) (List.length_eq_zero_iff.1 h)
   have h3:mz (lb0 m) (lb1 m) (lb2 m) (lb3 m) = false:=by
    cases hz:mz (lb0 m) (lb1 m) (lb2 m) (lb3 m)
    ·rfl
    ·exact absurd (h1.1 hz) hm
   rw [h3]
   have h4:decide (0 < (wl m).length) = true:=dT (by omega)
   rw [h4]; rfl
 unfold cn; rw [e,Bool.not_not]
theorem we_mcells (neg:Bool) {m:Int} (h0:0≤m) (h:up4 m = 0):Value.agg (mcells (neg && decide (0 < (wl m).length)) (wl m)) = WE (sv neg m):=by
 obtain ⟨e0,e1,e2,e3,_⟩:=getD_wl4 h0 h
 rw [← sv_signed h0 h,cn_pos neg h0 h]
 unfold mcells
 rw [e0,e1,e2,e3]
set_option maxRecDepth 100000 in
theorem rwide_any (neg:Bool) (a:Option Addr) (len cap:Nat) (ws:List Int) (w:World) (h:SlU w (.slice a len cap) ws) :
  Calls Tryz.prog 111 #[.bool neg,.slice a len cap] w fun e w'=>e = .returned (.tuple #[WE (cl (sv neg (VL ws))),.bool (fb (sv neg (VL ws)))])∧Below w.heap.size w w':=by
 generalize hR:Value.tuple #[WE (cl (sv neg (VL ws))),.bool (fb (sv neg (VL ws)))] = R
 have HR:=hid hR
 clear hR
 have hm:=VL_nonneg h.ws
 have h':=h.alloc (.cells #[.bool false,.int .u64 0,.int .u64 0,.int .u64 0,.int .u64 0] 37 (0,0))
 have hcan:=h.canon
 have hlen:=wl_fit hm
 have hlo:=wl_words (VL ws)
 generalize hM:VL ws = m at *
 by_cases hu:up4 m = 0
 ·have hl4:(wl m).length≤4:=hlen.2 hu
  have hf:Fits (sv neg m):=(fits_sv hm).2 hu
  have E:=hid (And.intro ((we_mcells neg hm hu).trans (by rw [cl_fit hf]):_ = WE (cl (sv neg m))) (by rw [fb_fit hf]:true = fb (sv neg m)))
  obtain ⟨a',len',cap',e,h1,h2,h3,h4,h5⟩:=hcan
  cases e
  have H5:=hid h5
  have HM:=hid hM
  clear h5 hf hlen h4 h1 hM
  generalize hnb:(neg && decide (0 < (wl m).length)) = nb at *
  have HNB:=hid hnb
  generalize hk:(wl m).length = k at *
  have HK:=hid hk
  clear hk
  have hk':decide ((4:Int) < (k:Int)) = false:=dF (by omega)
  cases neg
  ·simp only [Bool.false_and,Bool.true_and] at hnb
   subst hnb
   go_enter Tryz.func111,Tryz.ntmps111
   go_wp2_with (go_at_call 154; refine (rtrim_any a len cap ws _ h').mono ?_; rintro e w' ⟨rfl,rfl⟩; rw [HM.out,HK.out])
   clear h'
   go_loopw [7] (fun s wr=>∃ i:Nat,i≤k∧s = .int .i64 i∧Below w.heap.size w wr∧w.heap.size + 2≤wr.heap.size∧Bx wr w.heap.size #[.bool false,.int .u64 0,.int .u64 0,.int .u64 0,.int .u64 0]∧Bx wr (w.heap.size + 1) (mcells false ((wl m).take i))) (fun s _=>k - (intOf s).toNat)
   case atStart =>
    exact ⟨0,Nat.zero_le _,rfl,by (repeat' (first | (with_reducible assumption) | (with_reducible exact Below.refl _ _) | (with_reducible refine Below.alloc ?_ ?_ _) | (with_reducible refine Below.setCell ?_ ?_ _) | (with_reducible refine Below.drew ?_) | (with_reducible refine below_more ?_ (by with_reducible assumption)) | go_size | omega | (with_reducible refine below_drewN ?_))),by go_size,Bx.of (by (repeat' (first | (with_reducible assumption) | ((with_reducible refine HB.new _ _ _ ?_) <;> (go_size; done)) | (with_reducible refine HB.old (by go_size) ?_) | (with_reducible refine HB.drew ?_) | (with_reducible refine HB.over5 ?_) | (with_reducible refine HB.over4 ?_) | (with_reducible refine HB.setne (by first | go_size | (dsimp only; omega)) ?_) | (with_reducible refine HN.set ?_) | (with_reducible refine HN.setne (by first | go_size | (dsimp only; omega)) ?_) | (with_reducible refine HN.drew ?_) | (with_reducible refine HN.old (by go_size) ?_) | (with_reducible exact HN.of5 (by assumption)) | (with_reducible exact HN.new5 _ _ (by go_size)) | (with_reducible exact HN.of4 (by assumption)) | (with_reducible exact HN.new4 _ _ (by go_size))))),Bx.of (by rw [List.take_zero,mcells_nil]; (repeat' (first | (with_reducible assumption) | ((with_reducible refine HB.new _ _ _ ?_) <;> (go_size; done)) | (with_reducible refine HB.old (by go_size) ?_) | (with_reducible refine HB.drew ?_) | (with_reducible refine HB.over5 ?_) | (with_reducible refine HB.over4 ?_) | (with_reducible refine HB.setne (by first | go_size | (dsimp only; omega)) ?_) | (with_reducible refine HN.set ?_) | (with_reducible refine HN.setne (by first | go_size | (dsimp only; omega)) ?_) | (with_reducible refine HN.drew ?_) | (with_reducible refine HN.old (by go_size) ?_) | (with_reducible exact HN.of5 (by assumption)) | (with_reducible exact HN.new5 _ _ (by go_size)) | (with_reducible exact HN.of4 (by assumption)) | (with_reducible exact HN.new4 _ _ (by go_size)))))⟩
   case round =>
    obtain ⟨i,hi,rfl,hb0,hn0,⟨B1,B1c,B1f,B1l⟩,⟨B2,B2c,B2f,B2l⟩⟩:=hrel
    by_cases hlt:i < k
    ·obtain ⟨b,off,rfl,hbl,hcell⟩:=H5.out (by omega)
     have hc:=(hb0.cell (p:=⟨b,off + i,none⟩) hbl).trans (hcell i hlt)
     have hi4:i < 4:=by omega
     have hm0:wr.cell? ⟨w.heap.size + 1,1 + i,none⟩ = some (.int .u64 0):=(B2c (1 + i)).trans (mcells_at _ _ hi4)
     clear hcell
     generalize hx:(wl m).getD i 0 = x at *
     have HX:=hid hx
     clear hx B2c B1c
     go_wp2
     go_roundw
     case rel=>exact ⟨i + 1,by omega,by go_num,by (repeat' (first | (with_reducible assumption) | (with_reducible exact Below.refl _ _) | (with_reducible refine Below.alloc ?_ ?_ _) | (with_reducible refine Below.setCell ?_ ?_ _) | (with_reducible refine Below.drew ?_) | (with_reducible refine below_more ?_ (by with_reducible assumption)) | go_size | omega | (with_reducible refine below_drewN ?_))),by (first | go_size | omega),Bx.of (by (repeat' (first | (with_reducible assumption) | ((with_reducible refine HB.new _ _ _ ?_) <;> (go_size; done)) | (with_reducible refine HB.old (by go_size) ?_) | (with_reducible refine HB.drew ?_) | (with_reducible refine HB.over5 ?_) | (with_reducible refine HB.over4 ?_) | (with_reducible refine HB.setne (by first | go_size | (dsimp only; omega)) ?_) | (with_reducible refine HN.set ?_) | (with_reducible refine HN.setne (by first | go_size | (dsimp only; omega)) ?_) | (with_reducible refine HN.drew ?_) | (with_reducible refine HN.old (by go_size) ?_) | (with_reducible exact HN.of5 (by assumption)) | (with_reducible exact HN.new5 _ _ (by go_size)) | (with_reducible exact HN.of4 (by assumption)) | (with_reducible exact HN.new4 _ _ (by go_size))))),Bx.of (HB.set B2 (by rw [← HX.out]; exact mcells_set _ _ hi4))⟩
     case measure=>simp [intOf]; try omega
    ·obtain rfl:i = k:=by omega
     have E2:mcells false ((wl m).take i) = mcells false (wl m):=by rw [List.take_of_length_le (by rw [HK.out]; exact Nat.le_refl _)]
     rw [E2] at B2 B2c
     clear E2
     have e0:(mcells false (wl m))[0]? = some (.bool false):=rfl
     have e1:(mcells false (wl m))[1]? = some (.int .u64 ((wl m).getD 0 0)):=rfl
     have e2:(mcells false (wl m))[2]? = some (.int .u64 ((wl m).getD 1 0)):=rfl
     have e3:(mcells false (wl m))[3]? = some (.int .u64 ((wl m).getD 2 0)):=rfl
     have e4:(mcells false (wl m))[4]? = some (.int .u64 ((wl m).getD 3 0)):=rfl
     (repeat' (first | go_values | go_skip | go_guarded | go_step | go_upon | (simp only [Int.not_lt,Int.not_le] at *; go_simp) | (go_values <;> (try go_simp)) | (go_ite <;> go_prune <;> (try go_simp)) | (split <;> (first | (rename_i hx; exact (hx _ rfl).elim) | go_prune))))
     refine bodyPost_ret (v:=.tuple #[_,.bool true]) ?_ rfl ⟨congrArg Ending.returned ((ret_w E.out.1 E.out.2).trans HR.out),by (repeat' (first | (with_reducible assumption) | (with_reducible exact Below.refl _ _) | (with_reducible refine Below.alloc ?_ ?_ _) | (with_reducible refine Below.setCell ?_ ?_ _) | (with_reducible refine Below.drew ?_) | (with_reducible refine below_more ?_ (by with_reducible assumption)) | go_size | omega | (with_reducible refine below_drewN ?_)))⟩
     simp [results,Tryz.results111,go_sem,B1c,B1f,B1l,mcells]
  ·simp only [Bool.false_and,Bool.true_and] at hnb
   subst hnb
   go_enter Tryz.func111,Tryz.ntmps111
   go_wp2_with (go_at_call 154; refine (rtrim_any a len cap ws _ h').mono ?_; rintro e w' ⟨rfl,rfl⟩; rw [HM.out,HK.out])
   clear h'
   go_loopw [7] (fun s wr=>∃ i:Nat,i≤k∧s = .int .i64 i∧Below w.heap.size w wr∧w.heap.size + 2≤wr.heap.size∧Bx wr w.heap.size #[.bool false,.int .u64 0,.int .u64 0,.int .u64 0,.int .u64 0]∧Bx wr (w.heap.size + 1) (mcells (decide (0 < k)) ((wl m).take i))) (fun s _=>k - (intOf s).toNat)
   case atStart =>
    exact ⟨0,Nat.zero_le _,rfl,by (repeat' (first | (with_reducible assumption) | (with_reducible exact Below.refl _ _) | (with_reducible refine Below.alloc ?_ ?_ _) | (with_reducible refine Below.setCell ?_ ?_ _) | (with_reducible refine Below.drew ?_) | (with_reducible refine below_more ?_ (by with_reducible assumption)) | go_size | omega | (with_reducible refine below_drewN ?_))),by go_size,Bx.of (by (repeat' (first | (with_reducible assumption) | ((with_reducible refine HB.new _ _ _ ?_) <;> (go_size; done)) | (with_reducible refine HB.old (by go_size) ?_) | (with_reducible refine HB.drew ?_) | (with_reducible refine HB.over5 ?_) | (with_reducible refine HB.over4 ?_) | (with_reducible refine HB.setne (by first | go_size | (dsimp only; omega)) ?_) | (with_reducible refine HN.set ?_) | (with_reducible refine HN.setne (by first | go_size | (dsimp only; omega)) ?_) | (with_reducible refine HN.drew ?_) | (with_reducible refine HN.old (by go_size) ?_) | (with_reducible exact HN.of5 (by assumption)) | (with_reducible exact HN.new5 _ _ (by go_size)) | (with_reducible exact HN.of4 (by assumption)) | (with_reducible exact HN.new4 _ _ (by go_size))))),Bx.of (by rw [List.take_zero,mcells_nil]; (repeat' (first | (with_reducible assumption) | ((with_reducible refine HB.new _ _ _ ?_) <;> (go_size; done)) | (with_reducible refine HB.old (by go_size) ?_) | (with_reducible refine HB.drew ?_) | (with_reducible refine HB.over5 ?_) | (with_reducible refine HB.over4 ?_) | (with_reducible refine HB.setne (by first | go_size | (dsimp only; omega)) ?_) | (with_reducible refine HN.set ?_) | (with_reducible refine HN.setne (by first | go_size | (dsimp only; omega)) ?_) | (with_reducible refine HN.drew ?_) | (with_reducible refine HN.old (by go_size) ?_) | (with_reducible exact HN.of5 (by assumption)) | (with_reducible exact HN.new5 _ _ (by go_size)) | (with_reducible exact HN.of4 (by assumption)) | (with_reducible exact HN.new4 _ _ (by go_size)))))⟩
   case round =>
    obtain ⟨i,hi,rfl,hb0,hn0,⟨B1,B1c,B1f,B1l⟩,⟨B2,B2c,B2f,B2l⟩⟩:=hrel
    by_cases hlt:i < k
    ·obtain ⟨b,off,rfl,hbl,hcell⟩:=H5.out (by omega)
     have hc:=(hb0.cell (p:=⟨b,off + i,none⟩) hbl).trans (hcell i hlt)
     have hi4:i < 4:=by omega
     have hm0:wr.cell? ⟨w.heap.size + 1,1 + i,none⟩ = some (.int .u64 0):=(B2c (1 + i)).trans (mcells_at _ _ hi4)
     clear hcell
     generalize hx:(wl m).getD i 0 = x at *
     have HX:=hid hx
     clear hx B2c B1c
     go_wp2
     go_roundw
     case rel=>exact ⟨i + 1,by omega,by go_num,by (repeat' (first | (with_reducible assumption) | (with_reducible exact Below.refl _ _) | (with_reducible refine Below.alloc ?_ ?_ _) | (with_reducible refine Below.setCell ?_ ?_ _) | (with_reducible refine Below.drew ?_) | (with_reducible refine below_more ?_ (by with_reducible assumption)) | go_size | omega | (with_reducible refine below_drewN ?_))),by (first | go_size | omega),Bx.of (by (repeat' (first | (with_reducible assumption) | ((with_reducible refine HB.new _ _ _ ?_) <;> (go_size; done)) | (with_reducible refine HB.old (by go_size) ?_) | (with_reducible refine HB.drew ?_) | (with_reducible refine HB.over5 ?_) | (with_reducible refine HB.over4 ?_) | (with_reducible refine HB.setne (by first | go_size | (dsimp only; omega)) ?_) | (with_reducible refine HN.set ?_) | (with_reducible refine HN.setne (by first | go_size | (dsimp only; omega)) ?_) | (with_reducible refine HN.drew ?_) | (with_reducible refine HN.old (by go_size) ?_) | (with_reducible exact HN.of5 (by assumption)) | (with_reducible exact HN.new5 _ _ (by go_size)) | (with_reducible exact HN.of4 (by assumption)) | (with_reducible exact HN.new4 _ _ (by go_size))))),Bx.of (HB.set B2 (by rw [← HX.out]; exact mcells_set _ _ hi4))⟩
     case measure=>simp [intOf]; try omega
    ·obtain rfl:i = k:=by omega
     have E2:mcells (decide (0 < i)) ((wl m).take i) = mcells (decide (0 < i)) (wl m):=by rw [List.take_of_length_le (by rw [HK.out]; exact Nat.le_refl _)]
     rw [E2] at B2 B2c
     clear E2
     have e0:(mcells (decide (0 < i)) (wl m))[0]? = some (.bool (decide (0 < i))):=rfl
     have e1:(mcells (decide (0 < i)) (wl m))[1]? = some (.int .u64 ((wl m).getD 0 0)):=rfl
     have e2:(mcells (decide (0 < i)) (wl m))[2]? = some (.int .u64 ((wl m).getD 1 0)):=rfl
     have e3:(mcells (decide (0 < i)) (wl m))[3]? = some (.int .u64 ((wl m).getD 2 0)):=rfl
     have e4:(mcells (decide (0 < i)) (wl m))[4]? = some (.int .u64 ((wl m).getD 3 0)):=rfl
     (repeat' (first | go_values | go_skip | go_guarded | go_step | go_upon | (simp only [Int.not_lt,Int.not_le] at *; go_simp) | (go_values <;> (try go_simp)) | (go_ite <;> go_prune <;> (try go_simp)) | (split <;> (first | (rename_i hx; exact (hx _ rfl).elim) | go_prune))))
     refine bodyPost_ret (v:=.tuple #[_,.bool true]) ?_ rfl ⟨congrArg Ending.returned ((ret_w E.out.1 E.out.2).trans HR.out),by (repeat' (first | (with_reducible assumption) | (with_reducible exact Below.refl _ _) | (with_reducible refine Below.alloc ?_ ?_ _) | (with_reducible refine Below.setCell ?_ ?_ _) | (with_reducible refine Below.drew ?_) | (with_reducible refine below_more ?_ (by with_reducible assumption)) | go_size | omega | (with_reducible refine below_drewN ?_)))⟩
     simp [results,Tryz.results111,go_sem,B1c,B1f,B1l,mcells]
 ·have hf:¬Fits (sv neg m):=fun h=>hu ((fits_sv hm).1 h)
  have E:=hid (And.intro (we_zero.symm.trans (by rw [cl_not hf]):WV false 0 0 0 0 = WE (cl (sv neg m))) (by rw [fb_not hf]:false = fb (sv neg m)))
  have hl4:4 < (wl m).length:=by
   rcases Nat.lt_or_ge 4 (wl m).length with h | h
   ·exact h
   ·exact absurd (hlen.1 h) hu
  have HM:=hid hM
  clear hf hlen hM hcan h hu
  generalize hk:(wl m).length = k at *
  have HK:=hid hk
  clear hk
  have hk':decide ((4:Int) < (k:Int)) = true:=dT (by omega)
  go_enter Tryz.func111,Tryz.ntmps111
  (repeat' (first | (go_big_may; (first | (go_at_call 154; refine (rtrim_any a len cap ws _ h').mono ?_; rintro e w' ⟨rfl,rfl⟩; rw [HM.out,HK.out]))) | go_values | go_skip | go_guarded | go_step | go_upon | (simp only [Int.not_lt,Int.not_le] at *; go_simp) | (go_values <;> (try go_simp)) | (go_ite <;> go_prune <;> (try go_simp)) | (split <;> (first | (rename_i hx; exact (hx _ rfl).elim) | go_prune))))
  refine bodyPost_ret (v:=.tuple #[WV false 0 0 0 0,.bool false]) ?_ rfl ⟨congrArg Ending.returned ((ret_w E.out.1 E.out.2).trans HR.out),by (repeat' (first | (with_reducible assumption) | (with_reducible exact Below.refl _ _) | (with_reducible refine Below.alloc ?_ ?_ _) | (with_reducible refine Below.setCell ?_ ?_ _) | (with_reducible refine Below.drew ?_) | (with_reducible refine below_more ?_ (by with_reducible assumption)) | go_size | omega | (with_reducible refine below_drewN ?_)))⟩
  simp [results,Tryz.results111,go_sem]
def Eqs (A B:List Int) (i:Nat):Prop:=∀ j,i≤j→A.getD j 0 = B.getD j 0
theorem drewN_two (w:World) (a b:Nat):(w.drewN a).drewN b = w.drewN (a + b):=by simp [World.drewN,Nat.add_assoc]
set_option maxRecDepth 100000 in
theorem rcompare_any (a a':Option Addr) (len cap len' cap':Nat) (m n:Int) (hm:0≤m) (hn:0≤n) (w:World) (h:SlU w (.slice a len cap) (wl m)) (h':SlU w (.slice a' len' cap') (wl n)) :
  Calls Tryz.prog 113 #[.slice a len cap,.slice a' len' cap'] w fun e w'=>e = .returned (.int .i64 (cm m n))∧∃ d,w' = w.drewN d:=by
 obtain ⟨a0,l0,c0,e,h1,h2,h3,h4,h5⟩:=h
 cases e
 obtain ⟨a1,l1,c1,e,g1,g2,g3,g4,g5⟩:=h'
 cases e
 generalize hR:cm m n = R
 have HR:=hid hR
 clear hR
 by_cases hl:len = len'
 ·subst hl
  have eA:=VL_wl hm
  have eB:=VL_wl hn
  have H5:=hid (And.intro h5 g5)
  have H4:=hid (And.intro (And.intro h1 g1) (And.intro (And.intro eA eB) (And.intro h4 g4)))
  clear h5 g5 h4 g4 h1 g1 eA eB
  generalize wl m = A at *
  generalize wl n = B at *
  have tl:decide ((len:Int) < (len:Int)) = false:=dF (by omega)
  go_enter Tryz.func113,Tryz.ntmps113
  go_wp2
  go_loopw [5] (fun s wr=>∃ (i d:Nat),i≤len∧s = .int .i64 ((i:Int) - 1)∧wr = w.drewN d∧Hid (Eqs A B i)) (fun s _=>(intOf s + 1).toNat)
  case atStart=>exact ⟨len,0,Nat.le_refl _,rfl,rfl,hid (fun j hj=>by rw [List.getD_eq_getElem?_getD,List.getD_eq_getElem?_getD,List.getElem?_eq_none (by rw [H4.out.1.1]; exact hj),List.getElem?_eq_none (by rw [H4.out.1.2]; exact hj)])⟩
  case round =>
   obtain ⟨i,d,hi,rfl,rfl,he⟩:=hrel
   rcases Nat.eq_zero_or_pos i with h0 | h0
   ·subst h0
    go_wp2
    go_ret
    obtain ⟨⟨l1,l2⟩,⟨e1,e2⟩,_⟩:=H4.out
    have:=VL_same (l1.trans l2.symm) (fun j=>he.out j (Nat.zero_le _))
    refine ⟨?_,d,rfl⟩
    rw [← HR.out]
    rw [this,e2] at e1
    rw [← e1,cm_eq]; rfl
   ·obtain ⟨q,rfl⟩:∃ q,i = q + 1:=⟨i - 1,by omega⟩
    have hql:q < len:=by omega
    obtain ⟨⟨l1,l2⟩,⟨e1,e2⟩,w1,w2⟩:=H4.out
    obtain ⟨b,off,rfl,hbl,hcell⟩:=H5.out.1 (by omega)
    obtain ⟨b',off',rfl,hbl',hcell'⟩:=H5.out.2 (by omega)
    have hc:=hcell q hql
    have hc':=hcell' q hql
    clear hcell hcell' H5
    have T3:A.getD q 0 < B.getD q 0→cm m n = -1:=fun h=>by
     have:=VL_top w1 w2 (l1.trans l2.symm) (by omega) (fun j hj=>he.out j hj) h
     rw [e1,e2] at this; exact cm_lt this
    have T4:B.getD q 0 < A.getD q 0→cm m n = 1:=fun h=>by
     have:=VL_top w2 w1 (l2.trans l1.symm) (by omega) (fun j hj=>(he.out j hj).symm) h
     rw [e1,e2] at this; exact cm_gt this
    have T5:A.getD q 0 = B.getD q 0→Eqs A B q:=fun h j hj=>(Nat.eq_or_lt_of_le hj).elim (fun e=>e ▸ h) (fun e=>he.out j e)
    generalize A.getD q 0 = x at *
    generalize B.getD q 0 = y at *
    have H3:=hid (And.intro T3 (And.intro T4 T5))
    clear T3 T4 T5 l1 l2 e1 e2 w1 w2 H4
    have e1:((q + 1:Nat):Int) - 1 = (q:Int):=by omega
    have hq0:(0:Int)≤(q:Int):=Int.natCast_nonneg _
    have hq1:(q:Int) < (len:Int):=by omega
    simp only [e1]
    clear e1
    rcases Int.lt_trichotomy x y with hxy | hxy | hxy
    ·have t1:decide (x < y) = true:=dT hxy
     go_wp2
     go_quiet (fail)
     go_wp2
     go_ret
     exact ⟨ret_i (by rw [← HR.out,H3.out.1 hxy]),_,drewN_two _ _ _⟩
    ·subst hxy
     have t1:decide (x < x) = false:=dF (by omega)
     go_wp2
     go_quiet (fail)
     go_wp2
     go_quiet (fail)
     go_wp2
     go_roundw
     case rel=>exact ⟨q,_,by omega,rfl,rfl,hid (H3.out.2.2 (by trivial))⟩
     case measure=>simp [intOf]; try omega
    ·have t1:decide (x < y) = false:=dF (by omega)
     have t2:decide (y < x) = true:=dT hxy
     go_wp2
     go_quiet (fail)
     go_wp2
     go_quiet (fail)
     go_wp2
     go_ret
     exact ⟨ret_i (by rw [← HR.out,H3.out.2.1 hxy]),_,by rw [drewN_two,drewN_two]⟩
 ·have T3:len < len'→cm m n = -1:=fun h=>cm_lt (wl_lt_of_len hm hn (by rw [h1,g1]; exact h))
  have T4:len' < len→cm m n = 1:=fun h=>cm_gt (wl_lt_of_len hn hm (by rw [h1,g1]; exact h))
  have H3:=hid (And.intro T3 T4)
  clear T3 T4 h5 g5 h4 g4 h1 g1
  have t0:((len:Int) != (len':Int)) = true:=bne_iff_ne.2 (by omega)
  rcases Nat.lt_or_ge len len' with hlt | hge
  ·have t1:decide (len < len') = true:=dT hlt
   have t2:decide ((len:Int) < (len':Int)) = true:=dT (by omega)
   go_enter Tryz.func113,Tryz.ntmps113
   go_wp2
   go_ret
   exact ⟨ret_i (by rw [← HR.out,H3.out.1 hlt]),0,rfl⟩
  ·have hlt:len' < len:=by omega
   have t1:decide (len < len') = false:=dF (by omega)
   have t2:decide ((len:Int) < (len':Int)) = false:=dF (by omega)
   go_enter Tryz.func113,Tryz.ntmps113
   go_wp2
   go_ret
   exact ⟨ret_i (by rw [← HR.out,H3.out.2 hlt]),0,rfl⟩
end Go.Proofs.YtncmmbacoknefaaGreat
