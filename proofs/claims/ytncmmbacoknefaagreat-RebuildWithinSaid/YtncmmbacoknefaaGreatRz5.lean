/- Several texts in one: Kb, Kc, Kd, Sh, CdRl, Rl, CdMq, Qm, Qs, Rm, CdSw, Sa, Sb, Sc, Sk, Kp, Sl, Sd, Sf, Re, L20, Rq, Ry, Rp, Cn, CdWv, Wv. -/
import Derived.Test.YtncmmbacoknefaaGreatProg
import Derived.Laws.CopyRow
import Derived.Test.YtncmmbacoknefaaGreatRz2
import Derived.Test.YtncmmbacoknefaaGreatRz4
set_option linter.defProp false

/- Kb: Cones: what both programs' Valid, Meet, Contains and Choose return. -/
namespace Go.Proofs.YtncmmbacoknefaaGreat
open Go Go.RowKit Sx
set_option linter.unusedVariables false
set_option linter.unusedSimpArgs false
structure Cn where
 o:Bool
 p:Int
 q:Int
 p1:Int
 q1:Int
def Cn.v (c:Cn):Value:=KX c.o c.p c.q c.p1 c.q1
def c0:Cn:=⟨false,0,0,0,0⟩
def cO:Cn:=⟨true,0,0,0,0⟩
structure Cl (p q p1 q1:Int):Prop where
 f:Fq p q
 g:Fq p1 q1
 le:p * q1≤p1 * q
def Cn.ok (c:Cn):Prop:=c = cO∨(c.o = false∧Cl c.p c.q c.p1 c.q1)
theorem cO_ok:cO.ok:=.inl rfl
theorem Cl.ok {p q p1 q1:Int} (h:Cl p q p1 q1):(Cn.mk false p q p1 q1).ok:=.inr ⟨rfl,h⟩
structure KV (v:Value) (t:Bool) (c:Cn):Prop where
 v1:∀ W,Gives Tryz.prog 159 [v] W (· = .bool t)
 v2:∀ W,Gives Tryz.prog 39 [v] W (· = .bool t)
 cells:∃ x0 x1 x2 x3 x4 x5 x6 x7 x8 x9 x10 x11 x12 x13 x14 x15 x16 x17 x18 x19 x20,v = .agg #[x0,x1,x2,x3,x4,x5,x6,x7,x8,x9,x10,x11,x12,x13,x14,x15,x16,x17,x18,x19,x20]
 is:t = true→v = c.v∧c.ok
def cmt (c c':Cn):Cn × Bool :=
 if c.o then (c',true) else if c'.o then (c,true) else
  let lo:=if c.p * c'.q < c'.p * c.q then (c'.p,c'.q) else (c.p,c.q)
  let hi:=if c'.p1 * c.q1 < c.p1 * c'.q1 then (c'.p1,c'.q1) else (c.p1,c.q1)
  if lo.1 * hi.2≤hi.1 * lo.2 then (⟨false,lo.1,lo.2,hi.1,hi.2⟩,true) else (c0,false)
def mtv (u:Bool) (c c':Cn):Cn × Bool:=if u then cmt c c' else (c0,false)
def mtV (u:Bool) (c c':Cn):Value:=.tuple #[(mtv u c c').1.v,.bool (mtv u c c').2]
def Cn.has (c:Cn) (p q:Int):Bool:=c.o || (decide (c.p * q≤p * c.q) && decide (p * c.q1≤c.p1 * q))
def cho (t:Bool) (c:Cn):Int × Int:=if t then (if c.o then (0,1) else btx c.p c.q c.p1 c.q1) else (0,0)
theorem cmt_ok {c c':Cn} (h:c.ok) (h':c'.ok):(cmt c c').2 = true→(cmt c c').1.ok:=by
 unfold cmt
 rcases h with rfl | ⟨ho,h⟩
 ·exact fun _=>h'
 ·rw [ho]
  rcases h' with rfl | ⟨ho',h'⟩
  ·exact fun _=>.inr ⟨ho,h⟩
  ·rw [ho']
   dsimp only
   (repeat' split) <;> intro e <;> first | (cases e; done) | (refine Cl.ok ⟨?_,?_,?_⟩ <;> first | exact h.f | exact h.g | exact h'.f | exact h'.g | assumption) | simp_all
theorem gx_kstart (W:World):Gives Tryz.prog 158 [] W (· = KX true 0 0 0 0):=by
 refine gives_known en_cone_Start ?_
 refine known_of (enter Tryz.func158 cone_Start.ok (args:=[]) (by simp) ?_)
 repeat' (first | simp (disch:=omega) only [sxE,cone_Start.E,Nat.reduceAdd,Nat.reduceEqDiff,Nat.reduceMul,Nat.reduceSub,Int.reduceAdd,Int.reduceSub,Int.reduceMul,Int.reduceNeg,Int.reduceLT,Int.reduceLE,Int.reduceEq,Int.reduceToNat,↓reduceIte,Int.reducePow,Nat.reduceLeDiff,Nat.reduceLT,ne_eq,eq_self,List.length_cons,List.length_nil,qxE,kxE] | (with_reducible refine cregF ?_))
theorem rx_kstart (W:World):Gives Tryz.prog 55 [] W (· = KX true 0 0 0 0):=by
 refine gives_known en_r13_Start ?_
 refine known_of (enter Tryz.func55 r13_Start.ok (args:=[]) (by simp) ?_)
 repeat' (first | simp (disch:=omega) only [sxE,r13_Start.E,Nat.reduceAdd,Nat.reduceEqDiff,Nat.reduceMul,Nat.reduceSub,Int.reduceAdd,Int.reduceSub,Int.reduceMul,Int.reduceNeg,Int.reduceLT,Int.reduceLE,Int.reduceEq,Int.reduceToNat,↓reduceIte,Int.reducePow,Nat.reduceLeDiff,Nat.reduceLT,ne_eq,eq_self,List.length_cons,List.length_nil,qxE,kxE] | (with_reducible refine cregF ?_))
set_option maxRecDepth 100000 in
theorem gx_kvalO (W:World):Gives Tryz.prog 159 [KX true 0 0 0 0] W (· = .bool true):=by
 have z:=fits_zero
 refine gives_known en_cone_Valid ?_
 refine known_of (enter Tryz.func159 cone_Valid.ok (args:=[_]) (by simp) ?_)
 repeat' (first | simp (disch:=omega) only [sxE,cone_Valid.E,Nat.reduceAdd,Nat.reduceEqDiff,Nat.reduceMul,Nat.reduceSub,Int.reduceAdd,Int.reduceSub,Int.reduceMul,Int.reduceNeg,Int.reduceLT,Int.reduceLE,Int.reduceEq,Int.reduceToNat,↓reduceIte,Int.reducePow,Nat.reduceLeDiff,Nat.reduceLT,ne_eq,eq_self,List.length_cons,List.length_nil,qxE,kxE] | (with_reducible refine Sx.call_at (f:=158) (fun W hW=>gx_kstart W) ?_) | (with_reducible refine eq_is (fun W=>by first | exact eqk_run z z z z z z z z W) ?_) | (with_reducible refine cregF ?_))
 rfl
set_option maxRecDepth 100000 in
theorem gx_kval {p q p1 q1:Int} (h:Cl p q p1 q1) (W:World):Gives Tryz.prog 159 [KX false p q p1 q1] W (· = .bool true):=by
 obtain ⟨f,g,le⟩:=h
 have c1:=fun W=>gx_rcompare f.cq g.cq W
 have c2:cq p q p1 q1≤0:=(km_le _ _).2 le
 refine gives_known en_cone_Valid ?_
 refine known_of (enter Tryz.func159 cone_Valid.ok (args:=[_]) (by simp) ?_)
 repeat' (first | simp (disch:=omega) only [sxE,cone_Valid.E,Nat.reduceAdd,Nat.reduceEqDiff,Nat.reduceMul,Nat.reduceSub,Int.reduceAdd,Int.reduceSub,Int.reduceMul,Int.reduceNeg,Int.reduceLT,Int.reduceLE,Int.reduceEq,Int.reduceToNat,↓reduceIte,Int.reducePow,Nat.reduceLeDiff,Nat.reduceLT,ne_eq,eq_self,List.length_cons,List.length_nil,qxE,kxE] | (with_reducible refine Sx.call_at (f:=186) (fun W hW=>f.v1 W) ?_) | (with_reducible refine Sx.call_at (f:=186) (fun W hW=>g.v1 W) ?_) | (with_reducible refine Sx.call_at (f:=179) (fun W hW=>c1 W) ?_) | (with_reducible refine cregF ?_))
 exact vb (decide_eq_true c2)
set_option maxRecDepth 100000 in
theorem rx_kvalO (W:World):Gives Tryz.prog 39 [KX true 0 0 0 0] W (· = .bool true):=by
 have z:=fits_zero
 refine gives_known en_r13_Valid ?_
 refine known_of (enter Tryz.func39 r13_Valid.ok (args:=[_]) (by simp) ?_)
 repeat' (first | simp (disch:=omega) only [sxE,r13_Valid.E,Nat.reduceAdd,Nat.reduceEqDiff,Nat.reduceMul,Nat.reduceSub,Int.reduceAdd,Int.reduceSub,Int.reduceMul,Int.reduceNeg,Int.reduceLT,Int.reduceLE,Int.reduceEq,Int.reduceToNat,↓reduceIte,Int.reducePow,Nat.reduceLeDiff,Nat.reduceLT,ne_eq,eq_self,List.length_cons,List.length_nil,qxE,kxE] | (with_reducible refine Sx.call_at (f:=55) (fun W hW=>rx_kstart W) ?_) | (with_reducible refine eq_is (fun W=>by first | exact eqk_run z z z z z z z z W) ?_) | (with_reducible refine cregF ?_))
 rfl
set_option maxRecDepth 100000 in
theorem rx_kval {p q p1 q1:Int} (h:Cl p q p1 q1) (W:World):Gives Tryz.prog 39 [KX false p q p1 q1] W (· = .bool true):=by
 obtain ⟨f,g,le⟩:=h
 have c1:=fun W=>rx_rcompare f.cq g.cq W
 have c2:cq p q p1 q1≤0:=(km_le _ _).2 le
 refine gives_known en_r13_Valid ?_
 refine known_of (enter Tryz.func39 r13_Valid.ok (args:=[_]) (by simp) ?_)
 repeat' (first | simp (disch:=omega) only [sxE,r13_Valid.E,Nat.reduceAdd,Nat.reduceEqDiff,Nat.reduceMul,Nat.reduceSub,Int.reduceAdd,Int.reduceSub,Int.reduceMul,Int.reduceNeg,Int.reduceLT,Int.reduceLE,Int.reduceEq,Int.reduceToNat,↓reduceIte,Int.reducePow,Nat.reduceLeDiff,Nat.reduceLT,ne_eq,eq_self,List.length_cons,List.length_nil,qxE,kxE] | (with_reducible refine Sx.call_at (f:=49) (fun W hW=>f.v2 W) ?_) | (with_reducible refine Sx.call_at (f:=49) (fun W hW=>g.v2 W) ?_) | (with_reducible refine Sx.call_at (f:=99) (fun W hW=>c1 W) ?_) | (with_reducible refine cregF ?_))
 exact vb (decide_eq_true c2)
theorem kv_ok {c:Cn} (h:c.ok):KV c.v true c:=by
 refine ⟨?_,?_,⟨_,_,_,_,_,_,_,_,_,_,_,_,_,_,_,_,_,_,_,_,_,rfl⟩,fun _=>⟨rfl,h⟩⟩
 all_goals
  rcases h with rfl | ⟨ho,h⟩
 ·exact gx_kvalO
 ·unfold Cn.v; rw [ho]; exact gx_kval h
 ·exact rx_kvalO
 ·unfold Cn.v; rw [ho]; exact rx_kval h
end Go.Proofs.YtncmmbacoknefaaGreat

/- Kc: Cones: what both programs' Meet, Contains and Choose return. (Printed by gen/cone.py.) -/
namespace Go.Proofs.YtncmmbacoknefaaGreat
open Go Go.RowKit Sx
set_option linter.unusedVariables false
set_option linter.unusedSimpArgs false
set_option maxRecDepth 100000 in
theorem rx_meetN {x0 x1 x2 x3 x4 x5 x6 x7 x8 x9 x10 x11 x12 x13 x14 x15 x16 x17 x18 x19 x20 y0 y1 y2 y3 y4 y5 y6 y7 y8 y9 y10 y11 y12 y13 y14 y15 y16 y17 y18 y19 y20:Value} {t t':Bool}
  (v:∀ W,Gives Tryz.prog 39 [.agg #[x0,x1,x2,x3,x4,x5,x6,x7,x8,x9,x10,x11,x12,x13,x14,x15,x16,x17,x18,x19,x20]] W (· = .bool t)) (v':∀ W,Gives Tryz.prog 39 [.agg #[y0,y1,y2,y3,y4,y5,y6,y7,y8,y9,y10,y11,y12,y13,y14,y15,y16,y17,y18,y19,y20]] W (· = .bool t')) (h:(t && t') = false) (W:World) :
  Gives Tryz.prog 45 [.agg #[x0,x1,x2,x3,x4,x5,x6,x7,x8,x9,x10,x11,x12,x13,x14,x15,x16,x17,x18,x19,x20],.agg #[y0,y1,y2,y3,y4,y5,y6,y7,y8,y9,y10,y11,y12,y13,y14,y15,y16,y17,y18,y19,y20]] W (· = .tuple #[KX false 0 0 0 0,.bool false]):=by
 refine gives_known en_r13_Meet ?_
 cases t
 ·refine known_of (enter Tryz.func45 r13_Meet.ok (args:=[_,_]) (by simp) ?_)
  repeat' (first | simp (disch:=omega) only [sxE,r13_Meet.E,Nat.reduceAdd,Nat.reduceEqDiff,Nat.reduceMul,Nat.reduceSub,Int.reduceAdd,Int.reduceSub,Int.reduceMul,Int.reduceNeg,Int.reduceLT,Int.reduceLE,Int.reduceEq,Int.reduceToNat,↓reduceIte,Int.reducePow,Nat.reduceLeDiff,Nat.reduceLT,ne_eq,eq_self,List.length_cons,List.length_nil,qxE,kxE] | (with_reducible refine Sx.call_at (f:=39) (fun W hW=>v W) ?_) | (with_reducible refine cregF ?_))
 ·obtain rfl:t' = false:=h
  refine known_of (enter Tryz.func45 r13_Meet.ok (args:=[_,_]) (by simp) ?_)
  repeat' (first | simp (disch:=omega) only [sxE,r13_Meet.E,Nat.reduceAdd,Nat.reduceEqDiff,Nat.reduceMul,Nat.reduceSub,Int.reduceAdd,Int.reduceSub,Int.reduceMul,Int.reduceNeg,Int.reduceLT,Int.reduceLE,Int.reduceEq,Int.reduceToNat,↓reduceIte,Int.reducePow,Nat.reduceLeDiff,Nat.reduceLT,ne_eq,eq_self,List.length_cons,List.length_nil,qxE,kxE] | (with_reducible refine Sx.call_at (f:=39) (fun W hW=>v W) ?_) | (with_reducible refine Sx.call_at (f:=39) (fun W hW=>v' W) ?_) | (with_reducible refine cregF ?_))
set_option maxRecDepth 100000 in
theorem rx_meetO {o:Bool} {p q p1 q1:Int} (v:∀ W,Gives Tryz.prog 39 [KX o p q p1 q1] W (· = .bool true)) (W:World):Gives Tryz.prog 45 [KX true 0 0 0 0,KX o p q p1 q1] W (· = .tuple #[KX o p q p1 q1,.bool true]):=by
 have v0:=fun W=>rx_kvalO W
 refine gives_known en_r13_Meet ?_
 refine known_of (enter Tryz.func45 r13_Meet.ok (args:=[_,_]) (by simp) ?_)
 repeat' (first | simp (disch:=omega) only [sxE,r13_Meet.E,Nat.reduceAdd,Nat.reduceEqDiff,Nat.reduceMul,Nat.reduceSub,Int.reduceAdd,Int.reduceSub,Int.reduceMul,Int.reduceNeg,Int.reduceLT,Int.reduceLE,Int.reduceEq,Int.reduceToNat,↓reduceIte,Int.reducePow,Nat.reduceLeDiff,Nat.reduceLT,ne_eq,eq_self,List.length_cons,List.length_nil,qxE,kxE] | (with_reducible refine Sx.call_at (f:=39) (fun W hW=>v0 W) ?_) | (with_reducible refine Sx.call_at (f:=39) (fun W hW=>v W) ?_) | (with_reducible refine cregF ?_))
set_option maxRecDepth 100000 in
theorem rx_meetR {p q p1 q1:Int} (h:Cl p q p1 q1) (W:World):Gives Tryz.prog 45 [KX false p q p1 q1,KX true 0 0 0 0] W (· = .tuple #[KX false p q p1 q1,.bool true]):=by
 have v0:=fun W=>rx_kvalO W
 have v:=fun W=>rx_kval h W
 refine gives_known en_r13_Meet ?_
 refine known_of (enter Tryz.func45 r13_Meet.ok (args:=[_,_]) (by simp) ?_)
 repeat' (first | simp (disch:=omega) only [sxE,r13_Meet.E,Nat.reduceAdd,Nat.reduceEqDiff,Nat.reduceMul,Nat.reduceSub,Int.reduceAdd,Int.reduceSub,Int.reduceMul,Int.reduceNeg,Int.reduceLT,Int.reduceLE,Int.reduceEq,Int.reduceToNat,↓reduceIte,Int.reducePow,Nat.reduceLeDiff,Nat.reduceLT,ne_eq,eq_self,List.length_cons,List.length_nil,qxE,kxE] | (with_reducible refine Sx.call_at (f:=39) (fun W hW=>v W) ?_) | (with_reducible refine Sx.call_at (f:=39) (fun W hW=>v0 W) ?_) | (with_reducible refine cregF ?_))
set_option maxRecDepth 100000 in
set_option maxHeartbeats 1000000 in
theorem rx_meetC {p q p1 q1 r s r1 s1:Int} (h:Cl p q p1 q1) (h':Cl r s r1 s1) (W:World):Gives Tryz.prog 45 [KX false p q p1 q1,KX false r s r1 s1] W (· = mtV true ⟨false,p,q,p1,q1⟩ ⟨false,r,s,r1,s1⟩):=by
 have v:=fun W=>rx_kval h W
 have v':=fun W=>rx_kval h' W
 have c1:=fun W=>rx_rcompare h'.f.cq h.f.cq W
 have c2:=fun W=>rx_rcompare h'.g.cq h.g.cq W
 have c3:=fun W=>rx_rcompare h.f.cq h.g.cq W
 have c4:=fun W=>rx_rcompare h.f.cq h'.g.cq W
 have c5:=fun W=>rx_rcompare h'.f.cq h.g.cq W
 have c6:=fun W=>rx_rcompare h'.f.cq h'.g.cq W
 refine gives_known en_r13_Meet ?_
 have k1:0 < cq r s p q↔p * s < r * q:=km_gt _ _
 have k2:cq r1 s1 p1 q1 < 0↔r1 * q1 < p1 * s1:=km_lt _ _
 have k3:0 < cq p q p1 q1↔¬ p * q1≤p1 * q:=by rw [Int.not_le]; exact km_gt _ _
 have k4:0 < cq p q r1 s1↔¬ p * s1≤r1 * q:=by rw [Int.not_le]; exact km_gt _ _
 have k5:0 < cq r s p1 q1↔¬ r * q1≤p1 * s:=by rw [Int.not_le]; exact km_gt _ _
 have k6:0 < cq r s r1 s1↔¬ r * s1≤r1 * s:=by rw [Int.not_le]; exact km_gt _ _
 clear h h'
 by_cases b1:p * s < r * q
 ·have d1:=k1.2 b1
  by_cases b2:r1 * q1 < p1 * s1
  ·have d2:=k2.2 b2
   by_cases b3:r * s1≤r1 * s
   ·have d3:¬ 0 < cq r s r1 s1:=fun e=>k6.1 e b3
    have e:mtV true ⟨false,p,q,p1,q1⟩ ⟨false,r,s,r1,s1⟩ = .tuple #[KX false r s r1 s1,.bool true]:=by simp [mtV,mtv,cmt,b1,b2,b3,Cn.v]
    rw [e]
    clear e k1 k2 k3 k4 k5 k6 b1 b2 b3
    refine known_of (enter Tryz.func45 r13_Meet.ok (args:=[_,_]) (by simp) ?_)
    repeat' (first | simp (disch:=omega) only [sxE,r13_Meet.E,Nat.reduceAdd,Nat.reduceEqDiff,Nat.reduceMul,Nat.reduceSub,Int.reduceAdd,Int.reduceSub,Int.reduceMul,Int.reduceNeg,Int.reduceLT,Int.reduceLE,Int.reduceEq,Int.reduceToNat,↓reduceIte,Int.reducePow,Nat.reduceLeDiff,Nat.reduceLT,ne_eq,eq_self,List.length_cons,List.length_nil,qxE,kxE] | (with_reducible refine Sx.call_at (f:=39) (fun W hW=>v W) ?_) | (with_reducible refine Sx.call_at (f:=39) (fun W hW=>v' W) ?_) | (with_reducible refine Sx.call_at (f:=99) (fun W hW=>c1 W) ?_) | (with_reducible refine Sx.call_at (f:=99) (fun W hW=>c2 W) ?_) | (with_reducible refine Sx.call_at (f:=99) (fun W hW=>c6 W) ?_) | (with_reducible refine cregF ?_))
   ·have d3:0 < cq r s r1 s1:=k6.2 b3
    have e:mtV true ⟨false,p,q,p1,q1⟩ ⟨false,r,s,r1,s1⟩ = .tuple #[KX false 0 0 0 0,.bool false]:=by simp [mtV,mtv,cmt,b1,b2,b3,Cn.v,c0]
    rw [e]
    clear e k1 k2 k3 k4 k5 k6 b1 b2 b3
    refine known_of (enter Tryz.func45 r13_Meet.ok (args:=[_,_]) (by simp) ?_)
    repeat' (first | simp (disch:=omega) only [sxE,r13_Meet.E,Nat.reduceAdd,Nat.reduceEqDiff,Nat.reduceMul,Nat.reduceSub,Int.reduceAdd,Int.reduceSub,Int.reduceMul,Int.reduceNeg,Int.reduceLT,Int.reduceLE,Int.reduceEq,Int.reduceToNat,↓reduceIte,Int.reducePow,Nat.reduceLeDiff,Nat.reduceLT,ne_eq,eq_self,List.length_cons,List.length_nil,qxE,kxE] | (with_reducible refine Sx.call_at (f:=39) (fun W hW=>v W) ?_) | (with_reducible refine Sx.call_at (f:=39) (fun W hW=>v' W) ?_) | (with_reducible refine Sx.call_at (f:=99) (fun W hW=>c1 W) ?_) | (with_reducible refine Sx.call_at (f:=99) (fun W hW=>c2 W) ?_) | (with_reducible refine Sx.call_at (f:=99) (fun W hW=>c6 W) ?_) | (with_reducible refine cregF ?_))
  ·have d2:¬ cq r1 s1 p1 q1 < 0:=fun e=>b2 (k2.1 e)
   by_cases b3:r * q1≤p1 * s
   ·have d3:¬ 0 < cq r s p1 q1:=fun e=>k5.1 e b3
    have e:mtV true ⟨false,p,q,p1,q1⟩ ⟨false,r,s,r1,s1⟩ = .tuple #[KX false r s p1 q1,.bool true]:=by simp [mtV,mtv,cmt,b1,b2,b3,Cn.v]
    rw [e]
    clear e k1 k2 k3 k4 k5 k6 b1 b2 b3
    refine known_of (enter Tryz.func45 r13_Meet.ok (args:=[_,_]) (by simp) ?_)
    repeat' (first | simp (disch:=omega) only [sxE,r13_Meet.E,Nat.reduceAdd,Nat.reduceEqDiff,Nat.reduceMul,Nat.reduceSub,Int.reduceAdd,Int.reduceSub,Int.reduceMul,Int.reduceNeg,Int.reduceLT,Int.reduceLE,Int.reduceEq,Int.reduceToNat,↓reduceIte,Int.reducePow,Nat.reduceLeDiff,Nat.reduceLT,ne_eq,eq_self,List.length_cons,List.length_nil,qxE,kxE] | (with_reducible refine Sx.call_at (f:=39) (fun W hW=>v W) ?_) | (with_reducible refine Sx.call_at (f:=39) (fun W hW=>v' W) ?_) | (with_reducible refine Sx.call_at (f:=99) (fun W hW=>c1 W) ?_) | (with_reducible refine Sx.call_at (f:=99) (fun W hW=>c2 W) ?_) | (with_reducible refine Sx.call_at (f:=99) (fun W hW=>c5 W) ?_) | (with_reducible refine cregF ?_))
   ·have d3:0 < cq r s p1 q1:=k5.2 b3
    have e:mtV true ⟨false,p,q,p1,q1⟩ ⟨false,r,s,r1,s1⟩ = .tuple #[KX false 0 0 0 0,.bool false]:=by simp [mtV,mtv,cmt,b1,b2,b3,Cn.v,c0]
    rw [e]
    clear e k1 k2 k3 k4 k5 k6 b1 b2 b3
    refine known_of (enter Tryz.func45 r13_Meet.ok (args:=[_,_]) (by simp) ?_)
    repeat' (first | simp (disch:=omega) only [sxE,r13_Meet.E,Nat.reduceAdd,Nat.reduceEqDiff,Nat.reduceMul,Nat.reduceSub,Int.reduceAdd,Int.reduceSub,Int.reduceMul,Int.reduceNeg,Int.reduceLT,Int.reduceLE,Int.reduceEq,Int.reduceToNat,↓reduceIte,Int.reducePow,Nat.reduceLeDiff,Nat.reduceLT,ne_eq,eq_self,List.length_cons,List.length_nil,qxE,kxE] | (with_reducible refine Sx.call_at (f:=39) (fun W hW=>v W) ?_) | (with_reducible refine Sx.call_at (f:=39) (fun W hW=>v' W) ?_) | (with_reducible refine Sx.call_at (f:=99) (fun W hW=>c1 W) ?_) | (with_reducible refine Sx.call_at (f:=99) (fun W hW=>c2 W) ?_) | (with_reducible refine Sx.call_at (f:=99) (fun W hW=>c5 W) ?_) | (with_reducible refine cregF ?_))
 ·have d1:¬ 0 < cq r s p q:=fun e=>b1 (k1.1 e)
  by_cases b2:r1 * q1 < p1 * s1
  ·have d2:=k2.2 b2
   by_cases b3:p * s1≤r1 * q
   ·have d3:¬ 0 < cq p q r1 s1:=fun e=>k4.1 e b3
    have e:mtV true ⟨false,p,q,p1,q1⟩ ⟨false,r,s,r1,s1⟩ = .tuple #[KX false p q r1 s1,.bool true]:=by simp [mtV,mtv,cmt,b1,b2,b3,Cn.v]
    rw [e]
    clear e k1 k2 k3 k4 k5 k6 b1 b2 b3
    refine known_of (enter Tryz.func45 r13_Meet.ok (args:=[_,_]) (by simp) ?_)
    repeat' (first | simp (disch:=omega) only [sxE,r13_Meet.E,Nat.reduceAdd,Nat.reduceEqDiff,Nat.reduceMul,Nat.reduceSub,Int.reduceAdd,Int.reduceSub,Int.reduceMul,Int.reduceNeg,Int.reduceLT,Int.reduceLE,Int.reduceEq,Int.reduceToNat,↓reduceIte,Int.reducePow,Nat.reduceLeDiff,Nat.reduceLT,ne_eq,eq_self,List.length_cons,List.length_nil,qxE,kxE] | (with_reducible refine Sx.call_at (f:=39) (fun W hW=>v W) ?_) | (with_reducible refine Sx.call_at (f:=39) (fun W hW=>v' W) ?_) | (with_reducible refine Sx.call_at (f:=99) (fun W hW=>c1 W) ?_) | (with_reducible refine Sx.call_at (f:=99) (fun W hW=>c2 W) ?_) | (with_reducible refine Sx.call_at (f:=99) (fun W hW=>c4 W) ?_) | (with_reducible refine cregF ?_))
   ·have d3:0 < cq p q r1 s1:=k4.2 b3
    have e:mtV true ⟨false,p,q,p1,q1⟩ ⟨false,r,s,r1,s1⟩ = .tuple #[KX false 0 0 0 0,.bool false]:=by simp [mtV,mtv,cmt,b1,b2,b3,Cn.v,c0]
    rw [e]
    clear e k1 k2 k3 k4 k5 k6 b1 b2 b3
    refine known_of (enter Tryz.func45 r13_Meet.ok (args:=[_,_]) (by simp) ?_)
    repeat' (first | simp (disch:=omega) only [sxE,r13_Meet.E,Nat.reduceAdd,Nat.reduceEqDiff,Nat.reduceMul,Nat.reduceSub,Int.reduceAdd,Int.reduceSub,Int.reduceMul,Int.reduceNeg,Int.reduceLT,Int.reduceLE,Int.reduceEq,Int.reduceToNat,↓reduceIte,Int.reducePow,Nat.reduceLeDiff,Nat.reduceLT,ne_eq,eq_self,List.length_cons,List.length_nil,qxE,kxE] | (with_reducible refine Sx.call_at (f:=39) (fun W hW=>v W) ?_) | (with_reducible refine Sx.call_at (f:=39) (fun W hW=>v' W) ?_) | (with_reducible refine Sx.call_at (f:=99) (fun W hW=>c1 W) ?_) | (with_reducible refine Sx.call_at (f:=99) (fun W hW=>c2 W) ?_) | (with_reducible refine Sx.call_at (f:=99) (fun W hW=>c4 W) ?_) | (with_reducible refine cregF ?_))
  ·have d2:¬ cq r1 s1 p1 q1 < 0:=fun e=>b2 (k2.1 e)
   by_cases b3:p * q1≤p1 * q
   ·have d3:¬ 0 < cq p q p1 q1:=fun e=>k3.1 e b3
    have e:mtV true ⟨false,p,q,p1,q1⟩ ⟨false,r,s,r1,s1⟩ = .tuple #[KX false p q p1 q1,.bool true]:=by simp [mtV,mtv,cmt,b1,b2,b3,Cn.v]
    rw [e]
    clear e k1 k2 k3 k4 k5 k6 b1 b2 b3
    refine known_of (enter Tryz.func45 r13_Meet.ok (args:=[_,_]) (by simp) ?_)
    repeat' (first | simp (disch:=omega) only [sxE,r13_Meet.E,Nat.reduceAdd,Nat.reduceEqDiff,Nat.reduceMul,Nat.reduceSub,Int.reduceAdd,Int.reduceSub,Int.reduceMul,Int.reduceNeg,Int.reduceLT,Int.reduceLE,Int.reduceEq,Int.reduceToNat,↓reduceIte,Int.reducePow,Nat.reduceLeDiff,Nat.reduceLT,ne_eq,eq_self,List.length_cons,List.length_nil,qxE,kxE] | (with_reducible refine Sx.call_at (f:=39) (fun W hW=>v W) ?_) | (with_reducible refine Sx.call_at (f:=39) (fun W hW=>v' W) ?_) | (with_reducible refine Sx.call_at (f:=99) (fun W hW=>c1 W) ?_) | (with_reducible refine Sx.call_at (f:=99) (fun W hW=>c2 W) ?_) | (with_reducible refine Sx.call_at (f:=99) (fun W hW=>c3 W) ?_) | (with_reducible refine cregF ?_))
   ·have d3:0 < cq p q p1 q1:=k3.2 b3
    have e:mtV true ⟨false,p,q,p1,q1⟩ ⟨false,r,s,r1,s1⟩ = .tuple #[KX false 0 0 0 0,.bool false]:=by simp [mtV,mtv,cmt,b1,b2,b3,Cn.v,c0]
    rw [e]
    clear e k1 k2 k3 k4 k5 k6 b1 b2 b3
    refine known_of (enter Tryz.func45 r13_Meet.ok (args:=[_,_]) (by simp) ?_)
    repeat' (first | simp (disch:=omega) only [sxE,r13_Meet.E,Nat.reduceAdd,Nat.reduceEqDiff,Nat.reduceMul,Nat.reduceSub,Int.reduceAdd,Int.reduceSub,Int.reduceMul,Int.reduceNeg,Int.reduceLT,Int.reduceLE,Int.reduceEq,Int.reduceToNat,↓reduceIte,Int.reducePow,Nat.reduceLeDiff,Nat.reduceLT,ne_eq,eq_self,List.length_cons,List.length_nil,qxE,kxE] | (with_reducible refine Sx.call_at (f:=39) (fun W hW=>v W) ?_) | (with_reducible refine Sx.call_at (f:=39) (fun W hW=>v' W) ?_) | (with_reducible refine Sx.call_at (f:=99) (fun W hW=>c1 W) ?_) | (with_reducible refine Sx.call_at (f:=99) (fun W hW=>c2 W) ?_) | (with_reducible refine Sx.call_at (f:=99) (fun W hW=>c3 W) ?_) | (with_reducible refine cregF ?_))
theorem rx_meet {v v':Value} {t t':Bool} {c c':Cn} (h:KV v t c) (h':KV v' t' c') (W:World):Gives Tryz.prog 45 [v,v'] W (· = mtV (t && t') c c'):=by
 cases hb:t && t'
 ·obtain ⟨x0,x1,x2,x3,x4,x5,x6,x7,x8,x9,x10,x11,x12,x13,x14,x15,x16,x17,x18,x19,x20,rfl⟩:=h.cells
  obtain ⟨y0,y1,y2,y3,y4,y5,y6,y7,y8,y9,y10,y11,y12,y13,y14,y15,y16,y17,y18,y19,y20,rfl⟩:=h'.cells
  exact rx_meetN h.v2 h'.v2 hb W
 ·obtain ⟨rfl,rfl⟩:t = true∧t' = true:=by simpa using hb
  obtain ⟨rfl,hc⟩:=h.is rfl
  obtain ⟨rfl,hc'⟩:=h'.is rfl
  have v:=h'.v2
  obtain ⟨o,p,q,p1,q1⟩:=c
  obtain ⟨o',r,s,r1,s1⟩:=c'
  rcases hc with e | ⟨e,hc⟩
  ·cases e
   exact rx_meetO v W
  ·cases e
   rcases hc' with e | ⟨e,hc'⟩
   ·cases e
    exact rx_meetR hc W
   ·cases e
    exact rx_meetC hc hc' W
set_option maxRecDepth 100000 in
theorem rx_choose {v:Value} {t:Bool} {c:Cn} (h:KV v t c) (W:World):Gives Tryz.prog 44 [v] W (· = RX (cho t c).1 (cho t c).2):=by
 have v1:=h.v2
 cases t
 ·obtain ⟨x0,x1,x2,x3,x4,x5,x6,x7,x8,x9,x10,x11,x12,x13,x14,x15,x16,x17,x18,x19,x20,rfl⟩:=h.cells
  show Gives _ _ _ W (· = RX 0 0)
  refine gives_known en_r13_Choose ?_
  refine known_of (enter Tryz.func44 r13_Choose.ok (args:=[_]) (by simp) ?_)
  repeat' (first | simp (disch:=omega) only [sxE,r13_Choose.E,Nat.reduceAdd,Nat.reduceEqDiff,Nat.reduceMul,Nat.reduceSub,Int.reduceAdd,Int.reduceSub,Int.reduceMul,Int.reduceNeg,Int.reduceLT,Int.reduceLE,Int.reduceEq,Int.reduceToNat,↓reduceIte,Int.reducePow,Nat.reduceLeDiff,Nat.reduceLT,ne_eq,eq_self,List.length_cons,List.length_nil,qxE,kxE] | (with_reducible refine Sx.call_at (f:=39) (fun W hW=>v1 W) ?_) | (with_reducible refine cregF ?_))
 ·obtain ⟨rfl,hc⟩:=h.is rfl
  clear h
  obtain ⟨o,r,k,r1,k1⟩:=c
  rcases hc with e | ⟨e,hc⟩
  ·cases e
   change ∀ W,Gives _ _ [KX true 0 0 0 0] W _ at v1
   have o0:=fun W=>rx_rof (z:=0) ⟨by decide,by decide⟩ W
   show Gives _ _ [KX true 0 0 0 0] W (· = RX 0 1)
   refine gives_known en_r13_Choose ?_
   refine known_of (enter Tryz.func44 r13_Choose.ok (args:=[_]) (by simp) ?_)
   repeat' (first | simp (disch:=omega) only [sxE,r13_Choose.E,Nat.reduceAdd,Nat.reduceEqDiff,Nat.reduceMul,Nat.reduceSub,Int.reduceAdd,Int.reduceSub,Int.reduceMul,Int.reduceNeg,Int.reduceLT,Int.reduceLE,Int.reduceEq,Int.reduceToNat,↓reduceIte,Int.reducePow,Nat.reduceLeDiff,Nat.reduceLT,ne_eq,eq_self,List.length_cons,List.length_nil,qxE,kxE] | (with_reducible refine Sx.call_at (f:=39) (fun W hW=>v1 W) ?_) | (with_reducible refine Sx.call_at (f:=78) (fun W hW=>o0 W) ?_) | (with_reducible refine cregF ?_))
  ·cases e
   change ∀ W,Gives _ _ [KX false r k r1 k1] W _ at v1
   have bt:=fun W=>rx_bt hc.f hc.g hc.le W
   show Gives _ _ [KX false r k r1 k1] W (· = RX (btx r k r1 k1).1 (btx r k r1 k1).2)
   refine gives_known en_r13_Choose ?_
   generalize btx r k r1 k1 = x at *
   refine known_of (enter Tryz.func44 r13_Choose.ok (args:=[_]) (by simp) ?_)
   repeat' (first | simp (disch:=omega) only [sxE,r13_Choose.E,Nat.reduceAdd,Nat.reduceEqDiff,Nat.reduceMul,Nat.reduceSub,Int.reduceAdd,Int.reduceSub,Int.reduceMul,Int.reduceNeg,Int.reduceLT,Int.reduceLE,Int.reduceEq,Int.reduceToNat,↓reduceIte,Int.reducePow,Nat.reduceLeDiff,Nat.reduceLT,ne_eq,eq_self,List.length_cons,List.length_nil,qxE,kxE] | (with_reducible refine Sx.call_at (f:=39) (fun W hW=>v1 W) ?_) | (with_reducible refine Sx.call_at (f:=101) (fun W hW=>bt W) ?_) | (with_reducible refine cregF ?_))
end Go.Proofs.YtncmmbacoknefaaGreat

/- Kd: Cones: what both programs' Through return. -/
namespace Go.Proofs.YtncmmbacoknefaaGreat
open Go Go.RowKit Sx
set_option linter.unusedVariables false
set_option linter.unusedSimpArgs false
def thok (t:Bool) (z eps dt:Int):Bool:=t && (decide (ab z < 73786976294838206464) && (decide (0≤eps) && (decide (eps≤4611686018427387904) && decide (dt≠0))))
def thc (z v eps dt:Int):Cn:=⟨false,mn (v - z - eps) dt,mD (v - z - eps) dt,mn (v - z + eps) dt,mD (v - z + eps) dt⟩
def thV (t:Bool) (z v eps dt:Int):Value:=if thok t z eps dt then .tuple #[(thc z v eps dt).v,.bool true] else .tuple #[KX false 0 0 0 0,.bool false]
theorem mk_law {n d:Int} (hd:0 < d):0 < mD n d∧mn n d * d = n * mD n d∧ab (mn n d)≤ab n∧mD n d≤d∧gc (mn n d) (mD n d) = 1:=by
 have h0:d≠0:=by omega
 have hg:=gc_pos (x:=n) h0
 have e:¬ d < 0:=by omega
 have a1:mn n d = n / gc n d:=by unfold mn; rw [if_neg e]
 have a2:mD n d = d / gc n d:=by unfold mD; rw [ab_pos (by omega)]
 have k1:n / gc n d * gc n d = n:=Int.ediv_mul_cancel (gc_dvd_l n d)
 have k2:d / gc n d * gc n d = d:=Int.ediv_mul_cancel (gc_dvd_r n d)
 have b1:ab (mn n d)≤ab n:=by
  rw [a1]
  exact ab_fdiv_le n hg
 have b2:mD n d≤d:=by
  rw [a2]
  have:=ab_fdiv_le d hg
  rw [ab_pos (show 0≤d by omega)] at this
  have:d / gc n d≤ab (d / gc n d):=by unfold ab; split <;> omega
  omega
 refine ⟨mk_pos h0,?_,b1,b2,mk_gc h0⟩
 rw [a1,a2]
 calc n / gc n d * d = n / gc n d * (d / gc n d * gc n d):=by rw [k2]
  _ = (n / gc n d * gc n d) * (d / gc n d):=by rw [Int.mul_comm (d / gc n d),← Int.mul_assoc]
  _ = n * (d / gc n d):=by rw [k1]
theorem mk_fq {n d:Int} (hn:Bd 100 n) (hd:U64 d) (h0:d≠0):mok true n d = true∧Fq (mn n d) (mD n d):=by
 obtain ⟨h1,-,h2,h3,h4⟩:=mk_law (n:=n) (d:=d) (by have:=hd.1; omega)
 have c1:Bd 127 (mn n d):=bd_le (bd_of_le hn h2) (by decide)
 have c2:Bd 127 (mD n d):=bd_le (bd_of_le (bd_u64 hd) (by rw [ab_pos (by omega),ab_pos (by omega)]; exact h3)) (by decide)
 refine ⟨?_,⟨h1,c1,c2,h4⟩⟩
 have e1:decide (ab (mn n d) < ((2 ^ 127:Nat):Int)) = true:=decide_eq_true c1
 have e2:decide (ab (mD n d) < ((2 ^ 127:Nat):Int)) = true:=decide_eq_true c2
 unfold mok
 rw [e1,e2,decide_eq_false h0]
 rfl
theorem mk_le {n m d:Int} (hd:0 < d) (h:n≤m):mn n d * mD m d≤mn m d * mD n d:=by
 obtain ⟨h1,h2,-⟩:=mk_law (n:=n) hd
 obtain ⟨g1,g2,-⟩:=mk_law (n:=m) hd
 have a:=Int.mul_le_mul_of_nonneg_right h (Int.le_of_lt (Int.mul_pos h1 g1))
 have e1:mn n d * mD m d * d = n * (mD n d * mD m d):=by rw [Int.mul_right_comm,h2,Int.mul_assoc]
 have e2:mn m d * mD n d * d = m * (mD n d * mD m d):=by rw [Int.mul_right_comm,g2,Int.mul_assoc,Int.mul_comm (mD m d)]
 rw [← e1,← e2] at a
 exact Int.le_of_mul_le_mul_right a hd
structure ThP (z v eps dt:Int):Prop where
 fz:Fits z
 fr:Fits (v - z)
 fl:Fits (v - z - eps)
 fu:Fits (v - z + eps)
 ml:mok true (v - z - eps) dt = true
 mu:mok true (v - z + eps) dt = true
 cl:Cl (mn (v - z - eps) dt) (mD (v - z - eps) dt) (mn (v - z + eps) dt) (mD (v - z + eps) dt)
theorem th_p {z v eps dt:Int} (hz:ab z < 73786976294838206464) (hv:I64 v) (he:0≤eps∧eps≤4611686018427387904) (hd:U64 dt) (h0:dt≠0):ThP z v eps dt:=by
 have ie:I64 eps:=⟨by omega,by omega⟩
 have b0:Bd 66 z:=hz
 have b1:Bd 70 (v - z):=bd_sub (bd_i64 hv) b0 (by decide) (by decide)
 have b2:Bd 100 (v - z - eps):=bd_sub b1 (bd_i64 ie) (by decide) (by decide)
 have b3:Bd 100 (v - z + eps):=bd_add b1 (bd_i64 ie) (by decide) (by decide)
 obtain ⟨m1,f1⟩:=mk_fq b2 hd h0
 obtain ⟨m2,f2⟩:=mk_fq b3 hd h0
 exact ⟨b0.fits,b1.fits,b2.fits,b3.fits,m1,m2,f1,f2,mk_le (by have:=hd.1; omega) (by omega)⟩
theorem thok_iff {t:Bool} {z eps dt:Int}:thok t z eps dt = true↔t = true∧ab z < 73786976294838206464∧0≤eps∧eps≤4611686018427387904∧dt≠0:=by
 unfold thok
 simp only [Bool.and_eq_true,decide_eq_true_eq]
theorem thV_no {t:Bool} {z v eps dt:Int} (h:¬ (t = true∧ab z < 73786976294838206464∧0≤eps∧eps≤4611686018427387904∧dt≠0)):thV t z v eps dt = .tuple #[KX false 0 0 0 0,.bool false]:=by
 unfold thV
 rw [if_neg (fun e=>h (thok_iff.1 e))]
theorem thV_yes {z v eps dt:Int} (hz:ab z < 73786976294838206464) (h1:0≤eps) (h2:eps≤4611686018427387904) (h0:dt≠0):thV true z v eps dt = .tuple #[KX false (mn (v - z - eps) dt) (mD (v - z - eps) dt) (mn (v - z + eps) dt) (mD (v - z + eps) dt),.bool true]:=by
 unfold thV
 rw [if_pos (thok_iff.2 ⟨rfl,hz,h1,h2,h0⟩)]
 rfl
theorem rx_tol {e:Int} (h:I64 e) (W:World):Gives Tryz.prog 93 [.int .i64 e] W (· = .bool (decide (0≤e∧e≤4611686018427387904))):=by
 refine gives_known en_r13_Tolerance ?_
 by_cases h1:0≤e
 ·rw [show decide (0≤e∧e≤4611686018427387904) = decide (e≤4611686018427387904) by rw [decide_eq_decide]; exact ⟨fun x=>x.2,fun x=>⟨h1,x⟩⟩]
  refine known_of (enter Tryz.func93 r13_Tolerance.ok (args:=[_]) (by simp) ?_)
  repeat' (first | simp (disch:=omega) only [sxE,r13_Tolerance.E,Nat.reduceAdd,Nat.reduceEqDiff,Nat.reduceMul,Nat.reduceSub,Int.reduceAdd,Int.reduceSub,Int.reduceMul,Int.reduceNeg,Int.reduceLT,Int.reduceLE,Int.reduceEq,Int.reduceToNat,↓reduceIte,Int.reducePow,Nat.reduceLeDiff,Nat.reduceLT,ne_eq,eq_self,List.length_cons,List.length_nil,qxE] | (with_reducible refine cregF ?_))
 ·rw [show decide (0≤e∧e≤4611686018427387904) = false from decide_eq_false fun x=>h1 x.1]
  refine known_of (enter Tryz.func93 r13_Tolerance.ok (args:=[_]) (by simp) ?_)
  repeat' (first | simp (disch:=omega) only [sxE,r13_Tolerance.E,Nat.reduceAdd,Nat.reduceEqDiff,Nat.reduceMul,Nat.reduceSub,Int.reduceAdd,Int.reduceSub,Int.reduceMul,Int.reduceNeg,Int.reduceLT,Int.reduceLE,Int.reduceEq,Int.reduceToNat,↓reduceIte,Int.reducePow,Nat.reduceLeDiff,Nat.reduceLT,ne_eq,eq_self,List.length_cons,List.length_nil,qxE] | (with_reducible refine cregF ?_))
theorem rx_limit {z:Int} (h:Fits z) (W:World):Gives Tryz.prog 54 [WX (ab z),.agg #[.bool false,.int .u64 0,.int .u64 4,.int .u64 0,.int .u64 0]] W (· = .int .i64 (cm (ab z) 73786976294838206464)):=by
 have:=rx_compare (fits_ab h) ((fits_lt 73786976294838206464).2 (by decide)) W
 have e':WX 73786976294838206464 = .agg #[.bool false,.int .u64 0,.int .u64 4,.int .u64 0,.int .u64 0]:=by rfl
 rw [e'] at this
 exact this
set_option maxRecDepth 100000 in
set_option maxHeartbeats 1000000 in
theorem rx_through {b:Value} {t:Bool} {z v eps dt:Int} (h:RW b t z) (hv:I64 v) (he:I64 eps) (hd:U64 dt) (W:World):Gives Tryz.prog 40 [b,.int .i64 v,.int .i64 eps,.int .u64 dt] W (· = thV t z v eps dt):=by
 refine gives_known en_r13_Through ?_
 have v1:=fun W=>ry_valid h W
 have tl:=fun W=>rx_tol he W
 rcases h with ⟨rfl,rfl,h⟩ | ⟨rfl,rfl,rfl⟩
 ·have lm:=fun W=>rx_limit h W
  have k1:=km_ge0 (ab z) 73786976294838206464
  by_cases hok:ab z < 73786976294838206464∧0≤eps∧eps≤4611686018427387904∧dt≠0
  ·obtain ⟨h1,h2,h3,h4⟩:=hok
   rw [thV_yes h1 h2 h3 h4]
   have P:=th_p h1 hv ⟨h2,h3⟩ hd h4
   have fe:=(bd_i64 he).fits
   have fd:=(bd_u64 hd).fits
   have o1:=fun W=>rx_of hv W
   have o2:=fun W=>rx_of he W
   have o3:=fun W=>rx_ofU hd W
   have u1:=fun W=>rx_sub (bd_i64 hv).fits P.fz P.fr W
   have u2:=fun W=>rx_sub P.fr fe P.fl W
   have u3:=fun W=>rx_add P.fr fe P.fu W
   have m1:=fun W=>rx_make P.fl fd W
   have m2:=fun W=>rx_make P.fu fd W
   rw [mkV_yes P.ml] at m1
   rw [mkV_yes P.mu] at m2
   have d1:¬ 0≤cm (ab z) 73786976294838206464:=fun e=>by have:=k1.1 e; omega
   have d4:(dt == 0) = false:=beq_eq_false_iff_ne.2 h4
   rw [decide_eq_true (show 0≤eps∧eps≤4611686018427387904 from ⟨h2,h3⟩)] at tl
   clear h h1 P k1
   generalize mn (v - z - eps) dt = N1 at *
   generalize mD (v - z - eps) dt = D1 at *
   generalize mn (v - z + eps) dt = N2 at *
   generalize mD (v - z + eps) dt = D2 at *
   generalize cm (ab z) 73786976294838206464 = cc at *
   refine known_of (enter Tryz.func40 r13_Through.ok (args:=[_,_,_,_]) (by simp) ?_)
   repeat' (first | simp (disch:=omega) only [sxE,r13_Through.E,Nat.reduceAdd,Nat.reduceEqDiff,Nat.reduceMul,Nat.reduceSub,Int.reduceAdd,Int.reduceSub,Int.reduceMul,Int.reduceNeg,Int.reduceLT,Int.reduceLE,Int.reduceEq,Int.reduceToNat,↓reduceIte,Int.reducePow,Nat.reduceLeDiff,Nat.reduceLT,ne_eq,eq_self,List.length_cons,List.length_nil,qxE,kxE,d4] | (with_reducible refine Sx.call_at (f:=100) (fun W hW=>v1 W) ?_) | (with_reducible refine Sx.call_at (f:=54) (fun W hW=>lm W) ?_) | (with_reducible refine Sx.call_at (f:=93) (fun W hW=>tl W) ?_) | (with_reducible refine Sx.call_at (f:=50) (fun W hW=>o1 W) ?_) | (with_reducible refine Sx.call_at (f:=50) (fun W hW=>o2 W) ?_) | (with_reducible refine Sx.call_at (f:=75) (fun W hW=>o3 W) ?_) | (with_reducible refine Sx.call_at (f:=53) (fun W hW=>u1 W) ?_) | (with_reducible refine Sx.call_at (f:=53) (fun W hW=>u2 W) ?_) | (with_reducible refine Sx.call_at (f:=51) (fun W hW=>u3 W) ?_) | (with_reducible refine Sx.call_at (f:=77) (fun W hW=>m1 W) ?_) | (with_reducible refine Sx.call_at (f:=77) (fun W hW=>m2 W) ?_) | (with_reducible refine cregF ?_))
  ·rw [thV_no (fun e=>hok e.2)]
   by_cases h1:ab z < 73786976294838206464
   ·have d1:¬ 0≤cm (ab z) 73786976294838206464:=fun e=>by have:=k1.1 e; omega
    by_cases h2:0≤eps∧eps≤4611686018427387904
    ·obtain rfl:dt = 0:=Decidable.byContradiction fun e=>hok ⟨h1,h2.1,h2.2,e⟩
     have d4:((0:Int) == 0) = true:=rfl
     rw [decide_eq_true h2] at tl
     clear k1 hok h1
     generalize cm (ab z) 73786976294838206464 = cc at *
     refine known_of (enter Tryz.func40 r13_Through.ok (args:=[_,_,_,_]) (by simp) ?_)
     repeat' (first | simp (disch:=omega) only [sxE,r13_Through.E,Nat.reduceAdd,Nat.reduceEqDiff,Nat.reduceMul,Nat.reduceSub,Int.reduceAdd,Int.reduceSub,Int.reduceMul,Int.reduceNeg,Int.reduceLT,Int.reduceLE,Int.reduceEq,Int.reduceToNat,↓reduceIte,Int.reducePow,Nat.reduceLeDiff,Nat.reduceLT,ne_eq,eq_self,List.length_cons,List.length_nil,qxE,kxE,d4] | (with_reducible refine Sx.call_at (f:=100) (fun W hW=>v1 W) ?_) | (with_reducible refine Sx.call_at (f:=54) (fun W hW=>lm W) ?_) | (with_reducible refine Sx.call_at (f:=93) (fun W hW=>tl W) ?_) | (with_reducible refine cregF ?_))
    ·rw [decide_eq_false h2] at tl
     clear k1 hok h1
     generalize cm (ab z) 73786976294838206464 = cc at *
     refine known_of (enter Tryz.func40 r13_Through.ok (args:=[_,_,_,_]) (by simp) ?_)
     repeat' (first | simp (disch:=omega) only [sxE,r13_Through.E,Nat.reduceAdd,Nat.reduceEqDiff,Nat.reduceMul,Nat.reduceSub,Int.reduceAdd,Int.reduceSub,Int.reduceMul,Int.reduceNeg,Int.reduceLT,Int.reduceLE,Int.reduceEq,Int.reduceToNat,↓reduceIte,Int.reducePow,Nat.reduceLeDiff,Nat.reduceLT,ne_eq,eq_self,List.length_cons,List.length_nil,qxE,kxE] | (with_reducible refine Sx.call_at (f:=100) (fun W hW=>v1 W) ?_) | (with_reducible refine Sx.call_at (f:=54) (fun W hW=>lm W) ?_) | (with_reducible refine Sx.call_at (f:=93) (fun W hW=>tl W) ?_) | (with_reducible refine cregF ?_))
   ·have d1:0≤cm (ab z) 73786976294838206464:=k1.2 (by omega)
    clear k1 hok h1
    generalize cm (ab z) 73786976294838206464 = cc at *
    refine known_of (enter Tryz.func40 r13_Through.ok (args:=[_,_,_,_]) (by simp) ?_)
    repeat' (first | simp (disch:=omega) only [sxE,r13_Through.E,Nat.reduceAdd,Nat.reduceEqDiff,Nat.reduceMul,Nat.reduceSub,Int.reduceAdd,Int.reduceSub,Int.reduceMul,Int.reduceNeg,Int.reduceLT,Int.reduceLE,Int.reduceEq,Int.reduceToNat,↓reduceIte,Int.reducePow,Nat.reduceLeDiff,Nat.reduceLT,ne_eq,eq_self,List.length_cons,List.length_nil,qxE,kxE] | (with_reducible refine Sx.call_at (f:=100) (fun W hW=>v1 W) ?_) | (with_reducible refine Sx.call_at (f:=54) (fun W hW=>lm W) ?_) | (with_reducible refine Sx.call_at (f:=93) (fun W hW=>tl W) ?_) | (with_reducible refine cregF ?_))
 ·rw [thV_no (fun e=>Bool.noConfusion e.1)]
  refine known_of (enter Tryz.func40 r13_Through.ok (args:=[_,_,_,_]) (by simp) ?_)
  repeat' (first | simp (disch:=omega) only [sxE,r13_Through.E,Nat.reduceAdd,Nat.reduceEqDiff,Nat.reduceMul,Nat.reduceSub,Int.reduceAdd,Int.reduceSub,Int.reduceMul,Int.reduceNeg,Int.reduceLT,Int.reduceLE,Int.reduceEq,Int.reduceToNat,↓reduceIte,Int.reducePow,Nat.reduceLeDiff,Nat.reduceLT,ne_eq,eq_self,List.length_cons,List.length_nil,qxE,kxE] | (with_reducible refine Sx.call_at (f:=100) (fun W hW=>v1 W) ?_) | (with_reducible refine cregF ?_))
end Go.Proofs.YtncmmbacoknefaaGreat

/- Sh: What swing and pieces share. -/
namespace Go.Proofs.YtncmmbacoknefaaGreat
open Go Go.RowKit Sx
set_option linter.unusedVariables false
set_option linter.unusedSimpArgs false
abbrev kc (c:Cn):List Value:=[.bool c.o,.bool (sg c.p),.int .u64 (lb0 (ab c.p)),.int .u64 (lb1 (ab c.p)),.int .u64 (lb2 (ab c.p)),.int .u64 (lb3 (ab c.p)),.bool (sg c.q),.int .u64 (lb0 (ab c.q)),.int .u64 (lb1 (ab c.q)),.int .u64 (lb2 (ab c.q)),.int .u64 (lb3 (ab c.q)),.bool (sg c.p1),.int .u64 (lb0 (ab c.p1)),.int .u64 (lb1 (ab c.p1)),.int .u64 (lb2 (ab c.p1)),.int .u64 (lb3 (ab c.p1)),.bool (sg c.q1),.int .u64 (lb0 (ab c.q1)),.int .u64 (lb1 (ab c.q1)),.int .u64 (lb2 (ab c.q1)),.int .u64 (lb3 (ab c.q1))]
abbrev rc (p q:Int):List Value:=[.bool (sg p),.int .u64 (lb0 (ab p)),.int .u64 (lb1 (ab p)),.int .u64 (lb2 (ab p)),.int .u64 (lb3 (ab p)),.bool (sg q),.int .u64 (lb0 (ab q)),.int .u64 (lb1 (ab q)),.int .u64 (lb2 (ab q)),.int .u64 (lb3 (ab q))]
theorem wrap_subw {a b:Int} (ha:I64 a) (hb:I64 b) (h:a≤b):IntKind.u64.wrap (IntKind.u64.wrap b - IntKind.u64.wrap a) = b - a:=by
 have h1:=ha.1
 have h2:=ha.2
 have h3:=hb.1
 have h4:=hb.2
 rw [IntKind.wrap_u64,IntKind.wrap_u64,IntKind.wrap_u64]
 omega
theorem gx_dist {a b:Int} (ha:I64 a) (hb:I64 b) (h:b≤a) (W:World):Gives Tryz.prog 135 [.int .i64 a,.int .i64 b] W (· = .int .u64 (a - b)):=by
 refine gives_known en_checked_Distance ?_
 have w1:=wrap_subw hb ha h
 have m1:(if a < b then b else a) = a:=if_neg (by omega)
 have m2:(if b < a then b else a) = b:=by split <;> omega
 clear ha hb
 refine known_of (enter Tryz.func135 checked_Distance.ok (args:=[_,_]) (by simp) ?_)
 repeat' (first | simp (disch:=omega) only [sxE,checked_Distance.E,Nat.reduceAdd,Nat.reduceEqDiff,Nat.reduceMul,Nat.reduceSub,Int.reduceAdd,Int.reduceSub,Int.reduceMul,Int.reduceNeg,Int.reduceLT,Int.reduceLE,Int.reduceEq,Int.reduceToNat,↓reduceIte,Int.reducePow,Nat.reduceLeDiff,Nat.reduceLT,ne_eq,eq_self,List.length_cons,List.length_nil,m1,m2,w1] | (with_reducible refine cregF ?_))
theorem i64_fits {x:Int} (h:I64 x):Fits x:=(bd_i64 h).fits
theorem ab_66 {x:Int} (h:I64 x):ab x < 73786976294838206464:=by
 have:=h.1
 have:=h.2
 unfold ab
 split <;> omega
def tolz (t:Int):Bool:=decide (0≤t) && decide (t≤4611686018427387904)
theorem tolz_iff {t:Int}:tolz t = true↔0≤t∧t≤4611686018427387904:=by unfold tolz; simp
theorem take_snoc' {ss:Smps} {i:Nat} (h:i < ss.length):ss.take (i + 1) = ss.take i ++ [ss.getD i (0,0)]:=by
 rw [List.take_add_one,getD_some (d:=(0,0)) h]; rfl
theorem cmt_o {c:Cn} {p q p1 q1:Int} (h:(cmt c ⟨false,p,q,p1,q1⟩).2 = true):(cmt c ⟨false,p,q,p1,q1⟩).1.o = false:=by
 unfold cmt at h ⊢
 dsimp only at h ⊢
 by_cases c1:c.o = true
 ·rw [if_pos c1]
 ·rw [if_neg c1] at h ⊢
  rw [if_neg (by decide)] at h ⊢
  generalize (if c.p * q < p * c.q then (p,q) else (c.p,c.q)) = A at *
  generalize (if p1 * c.q1 < c.p1 * q1 then (p1,q1) else (c.p1,c.q1)) = B at *
  split <;> rfl
theorem i64_0:I64 0:=⟨by decide,by decide⟩
namespace Sx
end Sx
theorem incr_lt {ss:Smps} (h:incr ss = true) {a:Nat}:∀ {j:Nat},a + j + 1 < ss.length→(ss.getD a (0,0)).1 < (ss.getD (a + j + 1) (0,0)).1
 | 0,hj=>of_decide_eq_true h a (by omega)
 | j + 1,hj=>by
  have h1:=incr_lt h (a:=a) (j:=j) (by omega)
  have h2:=of_decide_eq_true h (a + j + 1) (by omega)
  rw [show a + (j + 1) + 1 = a + j + 1 + 1 by omega]
  omega
theorem rx_sdist {a b:Int} (ha:I64 a) (hb:I64 b) (h:b≤a) (W:World):Gives Tryz.prog 42 [.int .i64 a,.int .i64 b] W (· = .int .u64 (a - b)):=by
 refine gives_known en_r01_Distance ?_
 have w1:=wrap_subw hb ha h
 have h':¬ a < b:=by omega
 clear ha hb
 refine known_of (enter Tryz.func42 r01_Distance.ok (args:=[_,_]) (by simp) ?_)
 repeat' (first | simp (disch:=omega) only [sxE,r01_Distance.E,Nat.reduceAdd,Nat.reduceEqDiff,Nat.reduceMul,Nat.reduceSub,Int.reduceAdd,Int.reduceSub,Int.reduceMul,Int.reduceNeg,Int.reduceLT,Int.reduceLE,Int.reduceEq,Int.reduceToNat,↓reduceIte,Int.reducePow,Nat.reduceLeDiff,Nat.reduceLT,ne_eq,eq_self,List.length_cons,List.length_nil,w1] | (with_reducible refine cregF ?_))
theorem all1_app:∀ a b:List Value,all1 (a ++ b) = (all1 a && all1 b)
 | [],b=>by rw [List.nil_append]; show _ = (true && _); rw [Bool.true_and]
 | v :: a,b=>by
  show (one v && all1 (a ++ b)) = ((one v && all1 a) && all1 b)
  rw [all1_app a b,Bool.and_assoc]
theorem weq_self (n:Bool) (a b c d:Int):weq n a b c d n a b c d = true:=by simp [weq,meq]
theorem eq_ratio8_self (n:Bool) (a b c d:Int) (n1:Bool) (a1 b1 c1 d1:Int) (w:World) :
  (Op.equalIn 9998 39 (.agg #[.bool n,.int .u64 a,.int .u64 b,.int .u64 c,.int .u64 d,.bool n1,.int .u64 a1,.int .u64 b1,.int .u64 c1,.int .u64 d1]) (.agg #[.bool n,.int .u64 a,.int .u64 b,.int .u64 c,.int .u64 d,.bool n1,.int .u64 a1,.int .u64 b1,.int .u64 c1,.int .u64 d1])).run Tryz.prog w = .ok true w:=by
 have h:=fun W=>eq_wide n a b c d n a b c d 9994 W
 have h':=fun W=>eq_wide n1 a1 b1 c1 d1 n1 a1 b1 c1 d1 9994 W
 simp only [weq_self] at h h'
 simp [go_sem,h,h']
theorem eq_cone9_self (o:Bool) (n:Bool) (a b c d:Int) (n1:Bool) (a1 b1 c1 d1:Int) (m:Bool) (e f g h:Int) (m1:Bool) (e1 f1 g1 h1:Int) (w:World) :
  (Op.equalIn 9999 73 (KR o n a b c d n1 a1 b1 c1 d1 m e f g h m1 e1 f1 g1 h1) (KR o n a b c d n1 a1 b1 c1 d1 m e f g h m1 e1 f1 g1 h1)).run Tryz.prog w = .ok true w:=by
 have E1:=fun W=>eq_ratio8_self n a b c d n1 a1 b1 c1 d1 W
 have E2:=fun W=>eq_ratio8_self m e f g h m1 e1 f1 g1 h1 W
 unfold KR
 cases o <;> simp [go_sem,E1,E2]
theorem eqcn_run {ng:Bool} {xo yo:Operand} (o:Bool) (n:Bool) (a b c d:Int) (n1:Bool) (a1 b1 c1 d1:Int) (m:Bool) (e f g h:Int) (m1:Bool) (e1 f1 g1 h1:Int) (W:World) :
  ((do eqGuard (if ng then .neq else .eql) 73 xo yo (KR o n a b c d n1 a1 b1 c1 d1 m e f g h m1 e1 f1 g1 h1) (KR o n a b c d n1 a1 b1 c1 d1 m e f g h m1 e1 f1 g1 h1); binOp (if ng then .neq else .eql) 73 (KR o n a b c d n1 a1 b1 c1 d1 m e f g h m1 e1 f1 g1 h1) (KR o n a b c d n1 a1 b1 c1 d1 m e f g h m1 e1 f1 g1 h1)):Sem Value).run Tryz.prog W = .ok (.bool (!ng)) W:=by
 have:=eqb_run (ng:=ng) (xo:=xo) (yo:=yo) guardT_cone (eq_cone o n a b c d n1 a1 b1 c1 d1 m e f g h m1 e1 f1 g1 h1 o n a b c d n1 a1 b1 c1 d1 m e f g h m1 e1 f1 g1 h1 W)
 simp only [weq_self,beq_self_eq_true,Bool.and_self] at this
 exact this.trans (by cases ng <;> rfl)
theorem eqkx_run {ng:Bool} {xo yo:Operand} {o:Bool} {p q p1 q1:Int} (W:World) :
  ((do eqGuard (if ng then .neq else .eql) 73 xo yo (KX o p q p1 q1) (KX o p q p1 q1); binOp (if ng then .neq else .eql) 73 (KX o p q p1 q1) (KX o p q p1 q1)):Sem Value).run Tryz.prog W = .ok (.bool (!ng)) W :=
 eqcn_run _ _ _ _ _ _ _ _ _ _ _ _ _ _ _ _ _ _ _ _ _ W
end Go.Proofs.YtncmmbacoknefaaGreat

/- CdRl: MADE BY PROGRAM (sxgen.py): the small code of some functions, points of it and their equations. -/
namespace Go.Proofs.YtncmmbacoknefaaGreat
open Go Go.RowKit Sx Sx.Q
set_option linter.unusedVariables false
variable (C:Cx) (R L1 L2 L3 L4:St→Prop)
namespace rebuild_run
abbrev q0:=[2,3,4]
abbrev r0:List G:=[e 3 (.box true 5 (t 0)),e 4 (.box true 10 (t 1)),e 6 (.mv (.const (.slice none 0 0)))]
abbrev q1:=[2,3,4,7]
abbrev r1:List G:=[m 10 2,e 11 (.len false (t 10)),e 12 (.gen false (.mks 23) [(t 11),(t 11)]),m 7 12]
abbrev q2:=[2,3,4,7,13,14,15]
abbrev r2:List G:=[m 13 2,e 14 (.len false (t 13)),Mi 15 0]
abbrev q3:=[2,3,4,7,13,14,15,16]
abbrev r3:List G:=[b 16 .lss 15 14]
abbrev q4:=[2,3,4,7,8,9,13,14,15]
abbrev r4:List G:=[m 17 15,j 18 1 13 15,l 19 18,m 8 17,m 9 19]
abbrev r5:List G:=[m 20 7,m 21 8,L 22 5 3,L 23 10 4,m 24 9,m 25 2,e 26 (.is 1 (t 25) (i 0)),l 27 26,k2 28 135 24 27,k3 29 84 22 23 28,j 30 1 20 21]
abbrev t5:List G:=[v 30 29]
abbrev r6:List G:=[bi 31 .add 15 1,m 15 31]
abbrev r7:List G:=[m 32 7,m 6 32]
abbrev c:MC:=sq [g r0 q0,g r1 q1,sq [g r2 q2,.block 0 (.loop (sq [g r3 q3,ci 16 .skip (.exit 0),.block 1 (sq [g r4 q4,gd r5 t5 q2]),g r6 q2]))],g r7 [6],.ret]
theorem ok:compF Tryz.prog Tryz.f80 (an (rg 8) c [(5,11,[],(up 11),[])]) = some (33,c,[(6,none)]):=by kernel_rfl
abbrev p1:=P C r7 [6] R
abbrev p3:=P C r6 q2 L1
abbrev p4:=Pd C r5 t5 q2 (p3 C L1)
abbrev p5:=P C r4 q4 (p4 C L1)
abbrev p6:=cd (t 16) (p5 C L1) (p1 C R)
abbrev p7:=P C r3 q3 (p6 C R L1)
def p2 (S:St):Prop:=LX C (fun L1=>(p7 C R L1)) S
theorem p2_l (S:St):p2 C R S = LX C (fun L1=>(p7 C R L1)) S:=rfl
abbrev p8:=P C r2 q2 (p2 C R)
abbrev p9:=P C r1 q1 (p8 C R)
abbrev p10:=P C r0 q0 (p9 C R)
theorem s (S:St):X C c (retK R) S = p10 C R S:=by kernel_rfl
theorem E:type_of% @s:=@s
end rebuild_run
namespace rebuild_Lines
abbrev q0:=[0,1]
abbrev r0:List G:=[e 4 (.mv (.const (.slice none 0 0))),Mi 5 0]
abbrev q1:=[0,1,11]
abbrev r1:List G:=[m 9 1,K1 10 79 9,e 11 (.un .not (t 10))]
abbrev q2:=[4,5]
abbrev r2:List G:=[e 4 (.mv (.const (.slice none 0 0))),Mi 5 7]
abbrev q3:=[0,1,6]
abbrev r3:List G:=[e 6 (.mv (.const (.slice none 0 0)))]
abbrev q4:=[1,6,12,13,14]
abbrev r4:List G:=[m 12 0,e 13 (.len false (t 12)),Mi 14 0]
abbrev q5:=[1,6,12,13,14,15]
abbrev r5:List G:=[b 15 .lss 14 13]
abbrev q6:=[1,6,8,12,13,14]
abbrev z0:List Value:=[.int .i64 0,.int .i64 0,.bool false,.int .u64 0,.int .u64 0,.int .u64 0,.int .u64 0,.bool false,.int .u64 0,.int .u64 0,.int .u64 0,.int .u64 0]
abbrev r6:List G:=[j 16 12 12 14,L 17 12 16,e 8 (.new z0),V 12 8 17]
abbrev q7:=[1,6,8,12,13,14,30]
abbrev r7:List G:=[a 18 0 8,l 19 18,bi 20 .lss 19 1,m 21 20,na 22 21 0 8,nl 23 21 22,nm 24 21 1,n 25 21 (.len false (t 24)),nm 26 21 6,n 27 21 (.len false (t 26)),n 28 21 (.bin .sub (t 25) (t 27)),n 29 21 (.bin .gtr (t 23) (t 28)),o 30 21 29]
abbrev r8:List G:=[e 4 (.mv (.const (.slice none 0 0))),Mi 5 10]
abbrev r9:List G:=[m 31 6,a 32 1 8,l 33 32,k1 34 81 33,a 35 2 8,L 36 10 35,m 37 1,m 38 6,e 39 (.len false (t 38)),m 40 6,e 41 (.len false (t 40)),a 42 0 8,l 43 42,b 44 .add 41 43,e 45 (.gen true (.sl 23 true true false) [(t 37),(t 39),(t 44)]),K3 46 80 34 36 45,e 47 (.gen false (.bi .append [23,23] 23 [false,false]) [(t 31),(t 46)])]
abbrev t9:List G:=[m 6 47]
abbrev r10:List G:=[bi 48 .add 14 1,m 14 48]
abbrev q8:=[6,53]
abbrev r11:List G:=[m 49 6,e 50 (.len false (t 49)),m 51 1,e 52 (.len false (t 51)),b 53 .neq 50 52]
abbrev r12:List G:=[e 4 (.mv (.const (.slice none 0 0))),Mi 5 10]
abbrev r13:List G:=[m 54 6,m 4 54,Mi 5 0]
abbrev c:MC:=sq [g r0 q0,sq [g r1 q1,ci 11 (sq [g r2 q2,.ret]) .skip],g r3 q3,sq [g r4 q4,.block 0 (.loop (sq [g r5 q5,ci 15 .skip (.exit 0),.block 1 (sq [g r6 q6,sq [g r7 q7,ci 30 (sq [g r8 q2,.ret]) .skip],gk false false r9 t9 q4]),g r10 q4]))],sq [g r11 q8,ci 53 (sq [g r12 q2,.ret]) .skip],g r13 q2,.ret]
theorem ok:compF Tryz.prog Tryz.f23 (an (rg 14) c [(9,300017,[],(up 15 ++ [(15,1),(16,1)]),[])]) = some (55,c,[(4,none),(5,none)]):=by kernel_rfl
abbrev p1:=P C r13 q2 R
abbrev p3:=P C r12 q2 R
abbrev p2:=cd (t 53) (p3 C R) (p1 C R)
abbrev p4:=P C r11 q8 (p2 C R)
abbrev p6:=P C r10 q4 L1
abbrev p7:=Pc C false false r9 t9 q4 (p6 C L1)
abbrev p9:=P C r8 q2 R
abbrev p8:=cd (t 30) (p9 C R) (p7 C L1)
abbrev p10:=P C r7 q7 (p8 C R L1)
abbrev p11:=P C r6 q6 (p10 C R L1)
abbrev p12:=cd (t 15) (p11 C R L1) (p4 C R)
abbrev p13:=P C r5 q5 (p12 C R L1)
def p5 (S:St):Prop:=LX C (fun L1=>(p13 C R L1)) S
theorem p5_l (S:St):p5 C R S = LX C (fun L1=>(p13 C R L1)) S:=rfl
abbrev p14:=P C r4 q4 (p5 C R)
abbrev p15:=P C r3 q3 (p14 C R)
abbrev p17:=P C r2 q2 R
abbrev p16:=cd (t 11) (p17 C R) (p15 C R)
abbrev p18:=P C r1 q1 (p16 C R)
abbrev p19:=P C r0 q0 (p18 C R)
theorem s (S:St):X C c (retK R) S = p19 C R S:=by kernel_rfl
theorem E:type_of% @s:=@s
end rebuild_Lines
end Go.Proofs.YtncmmbacoknefaaGreat

/- Rl: Lines, raw; what they stand for; rebuild.run. -/
namespace Go.Proofs.YtncmmbacoknefaaGreat
open Go Go.RowKit Sx
set_option linter.unusedVariables false
set_option linter.unusedSimpArgs false
structure RlN where
 n:Int
 v:Int
 g:Bool
 a:Int
 b:Int
 c:Int
 d:Int
 h:Bool
 e:Int
 f:Int
 i:Int
 j:Int
 p:Int
 q:Int
def rls (x:RlN):Value:=.agg #[.bool x.g,.int .u64 x.a,.int .u64 x.b,.int .u64 x.c,.int .u64 x.d,.bool x.h,.int .u64 x.e,.int .u64 x.f,.int .u64 x.i,.int .u64 x.j]
def rlc (x:RlN):List Value:=[.int .i64 x.n,.int .i64 x.v,.bool x.g,.int .u64 x.a,.int .u64 x.b,.int .u64 x.c,.int .u64 x.d,.bool x.h,.int .u64 x.e,.int .u64 x.f,.int .u64 x.i,.int .u64 x.j]
def rlcs (l:List RlN):List Value:=l.flatMap rlc
def rl0:RlN:=⟨0,0,false,0,0,0,0,false,0,0,0,0,0,1⟩
structure RlOk (x:RlN):Prop where
 n:I64 x.n
 v:I64 x.v
 q:CQ (rls x) x.p x.q
def rlv (x:RlN) (dt:Int):Int:=vl (vz x.v + atq x.p x.q dt)
def rlvs (x:RlN) (T:List Int) (a:Nat):Nat→List Int
 | 0=>[]
 | k + 1=>rlvs x T a k ++ [rlv x (T.getD (a + k) 0 - T.getD a 0)]
theorem rlvs_len (x:RlN) (T:List Int) (a:Nat):∀ k,(rlvs x T a k).length = k
 | 0=>rfl
 | k + 1=>by unfold rlvs; rw [List.length_append,rlvs_len x T a k]; rfl
def rlch:List RlN→Int→Bool
 | [],left=>decide (left = 0)
 | x :: l,left=>decide (1≤x.n) && (decide (x.n≤left) && rlch l (left - x.n))
def rlall (T:List Int):List RlN→Nat→List Int
 | [],_=>[]
 | x :: l,a=>rlvs x T a x.n.toNat ++ rlall T l (a + x.n.toNat)
def rlerr (L:List RlN) (T:List Int):Int:=if incz T = true then (if rlch L T.length = true then 0 else 10) else 7
def rlout (L:List RlN) (T:List Int):List Int:=if rlerr L T = 0 then rlall T L 0 else []
theorem vl_in (z:Int):I64 (vl z):=by
 unfold vl
 split
 ·exact ⟨by decide,by decide⟩
 ·split
  ·exact ⟨by decide,by decide⟩
  ·exact ⟨by omega,by omega⟩
theorem rdrop {L:List RlN} {i:Nat} (h:i < L.length):L.drop i = L.getD i rl0 :: L.drop (i + 1):=by
 rw [List.drop_eq_getElem_cons h,List.getD_eq_getElem?_getD,List.getElem?_eq_getElem h]
 rfl
def SlL (W:World) (v:Value) (L:List RlN):Prop:=∃ (a:Option Addr) (cap:Nat),v = .slice a L.length cap∧L.length≤cap∧cap≤maxLen∧(∀ x∈L,RlOk x) ∧
 (0 < L.length→∃ b off,a = some ⟨b,off,none⟩∧b < W.heap.size∧∀ i,i < L.length→∀ (j:Nat) u,(rlc (L.getD i rl0))[j]? = some u→W.cell? ⟨b,off + i * 12 + j,none⟩ = some u)
theorem SlL.below {W W':World} {v:Value} {L:List RlN} (h:SlL W v L) (hb:Below W.heap.size W W'):SlL W' v L:=by
 obtain ⟨a,cap,rfl,h1,h2,h3,hc⟩:=h
 refine ⟨a,cap,rfl,h1,h2,h3,fun hl=>?_⟩
 obtain ⟨b,off,rfl,hb',hcs⟩:=hc hl
 exact ⟨b,off,rfl,Nat.lt_of_lt_of_le hb' hb.size,fun i hi j u hu=>(hb.cell (p:=⟨b,off + i * 12 + j,none⟩) hb').trans (hcs i hi j u hu)⟩
theorem rlcs_at:∀ {ls:List RlN} {i j:Nat},i < ls.length→j < 12→(rlcs ls)[12 * i + j]? = (rlc (ls.getD i rl0))[j]?
 | [],i,j,h,_=>absurd h (Nat.not_lt_zero _)
 | x :: ls,0,j,h,hj=>by
  show (rlc x ++ rlcs ls)[12 * 0 + j]? = _
  rw [List.getElem?_append_left (by show _ < 12; omega)]
  rw [Nat.mul_zero,Nat.zero_add]
  rfl
 | x :: ls,i + 1,j,h,hj=>by
  show (rlc x ++ rlcs ls)[12 * (i + 1) + j]? = _
  rw [List.getElem?_append_right (by show 12≤_; omega),show 12 * (i + 1) + j - (rlc x).length = 12 * i + j from by show 12 * (i + 1) + j - 12 = _; omega]
  exact rlcs_at (by simpa using h) hj
theorem rlcs_len (l:List RlN):(rlcs l).length = l.length * 12:=by
 induction l with
 | nil=>rfl
 | cons x l ih=>show (rlc x ++ rlcs l).length = _; rw [List.length_append,ih,List.length_cons]; show 12 + _ = _; omega
theorem sll_row {W:World} {base:Nat} {e:TypeId} {v:Value} {L:List RlN} (h:W.ownsRow base e 12 v L.length (rlcs L)) (hz:∀ x∈L,RlOk x):SlL W v L:=by
 obtain ⟨a,cap,rfl,h1,h2,hc⟩:=own_slice h (by rw [rlcs_len])
 refine ⟨a,cap,rfl,h1,h2,hz,fun hl=>?_⟩
 obtain ⟨g,rfl,_,hg,hcs⟩:=hc hl
 refine ⟨g,0,rfl,hg,fun i hi j u hu=>?_⟩
 have hj:j < 12:=(List.getElem?_eq_some_iff.1 hu).1
 rw [show 0 + i * 12 + j = 12 * i + j by omega]
 exact hcs _ _ ((rlcs_at hi hj).trans hu)
namespace Sx
variable {C:Cx} {S:St} {K:St→Prop} {d:Option Nat}
theorem ldP_L {b off len cap o m:Nat} {t:Bool} {L:List RlN} (i j:Nat) (l:List Value) (h:SlL C.w0 (.slice (some ⟨b,off,none⟩) len cap) L) (ho:o = off + i * 12 + j) (hi:i < L.length) (hl:l.length = m) (hs:∀ k v,l[k]? = some v→(rlc (L.getD i rl0))[j + k]? = some v) (hk:K (S.put d (.v (mk t l)))):ldP C t m ⟨b,o,none⟩ d K S:=by
 subst ho
 obtain ⟨a',c',e,-,-,-,hc⟩:=h
 cases e
 obtain ⟨b',off',e',hlt,hcs⟩:=hc (by omega)
 cases e'
 exact ldP_old hl hlt (fun k v hv=>by
  rw [show off + i * 12 + j + k = off + i * 12 + (j + k) by omega]
  exact hcs i hi (j + k) v (hs k v hv)) hk
end Sx
theorem slz_sub {W:World} {a:Option Addr} {len cap l n:Nat} {T:List Int} (h:SlZ W .i64 (.slice a len cap) T) (hn:l + n≤len):SlZ W .i64 (.slice (slA a l cap 1) n (cap - l)) ((T.drop l).take n):=by
 obtain ⟨a9,l9,c9,e9,h1,h2,h3,h4,h5⟩:=h
 cases e9
 refine ⟨_,n,_,rfl,by rw [List.length_take,List.length_drop]; omega,by omega,by omega,fun z hz=>h4 z (List.mem_of_mem_drop (List.mem_of_mem_take hz)),fun h0=>?_⟩
 obtain ⟨g,off,rfl,h7,h8⟩:=h5 (by omega)
 refine ⟨g,off + l,?_,h7,fun i hi=>?_⟩
 ·unfold slA
  rw [if_neg (by omega)]
  show some ((⟨g,off,none⟩:Addr).add (l * 1)) = _
  rw [Addr.add_lit,Nat.mul_one]
 ·rw [show off + l + i = off + (l + i) by omega,h8 (l + i) (by omega),List.getD_eq_getElem?_getD,List.getD_eq_getElem?_getD,List.getElem?_take_of_lt hi,List.getElem?_drop]
theorem sub_get {T:List Int} {l n i:Nat} (h:i < n):((T.drop l).take n).getD i 0 = T.getD (l + i) 0:=by
 rw [List.getD_eq_getElem?_getD,List.getD_eq_getElem?_getD,List.getElem?_take_of_lt h,List.getElem?_drop]
theorem incz_le {T:List Int} (h:incz T = true):∀ {j i:Nat},i≤j→j < T.length→T.getD i 0≤T.getD j 0
 | 0,i,hij,hj=>by
  obtain rfl:i = 0:=by omega
  exact Int.le_refl _
 | j + 1,i,hij,hj=>by
  have h':=of_decide_eq_true h
  by_cases e:i = j + 1
  ·rw [e]; exact Int.le_refl _
  ·have h1:=incz_le h (i:=i) (j:=j) (by omega) (by omega)
   have h2:=h' j (by omega)
   omega
def rpv (vs:List Int) (k:Nat):List Value:=(vs.take k).map (Value.int .i64) ++ List.replicate (vs.length - k) (.int .i64 0)
theorem rpv_0 (vs:List Int):rpv vs 0 = List.replicate vs.length (.int .i64 0):=rfl
theorem rpv_n (vs:List Int):rpv vs vs.length = vs.map (Value.int .i64):=by
 unfold rpv
 rw [List.take_length,Nat.sub_self,List.replicate_zero,List.append_nil]
theorem rpv_len {vs:List Int} {k:Nat} (h:k≤vs.length):(rpv vs k).length = vs.length:=by
 unfold rpv
 rw [List.length_append,List.length_map,List.length_take,List.length_replicate]
 omega
theorem rpv_set {vs:List Int} {k:Nat} (h:k < vs.length):(rpv vs k).set k (.int .i64 (vs.getD k 0)) = rpv vs (k + 1):=by
 unfold rpv
 rw [List.set_append,if_neg (by rw [List.length_map,List.length_take]; omega),List.length_map,List.length_take,show k - min k vs.length = 0 by omega,show vs.length - k = (vs.length - (k + 1)) + 1 by omega,List.replicate_succ,List.set_cons_zero,List.take_add_one,List.getElem?_eq_getElem h,List.map_append,List.append_assoc,List.getD_eq_getElem?_getD,List.getElem?_eq_getElem h]
 rfl
theorem en_run (l:Array Value) (W:World):(callFunc 80 l).run Tryz.prog W = .ok (.enter 80 l) W:=Sx.en_of Tryz.func80 (by kernel_rfl) (by kernel_rfl) l W
theorem rlvs_at {x:RlN} {T:List Int} {a:Nat}:∀ {n k:Nat},k < n→(rlvs x T a n).getD k 0 = rlv x (T.getD (a + k) 0 - T.getD a 0)
 | n + 1,k,h=>by
  unfold rlvs
  by_cases e:k < n
  ·rw [List.getD_eq_getElem?_getD,List.getElem?_append_left (by rw [rlvs_len]; exact e),← List.getD_eq_getElem?_getD]
   exact rlvs_at e
  ·obtain rfl:k = n:=by omega
   rw [List.getD_eq_getElem?_getD,List.getElem?_append_right (by rw [rlvs_len]; exact Nat.le_refl _),rlvs_len,Nat.sub_self]
   rfl
theorem qget' {zs:List Int} (hz:∀ z∈zs,I64 z) (i:Nat):I64 (zs.getD i 0):=by
 by_cases h:i < zs.length
 ·rw [List.getD_eq_getElem?_getD,List.getElem?_eq_getElem h]
  exact hz _ (List.getElem_mem h)
 ·rw [List.getD_eq_getElem?_getD,List.getElem?_eq_none (by omega)]
  exact ⟨by decide,by decide⟩
set_option maxRecDepth 100000 in
set_option maxHeartbeats 1000000 in
theorem gx_run {w:World} {s:Option Addr} {n cap:Nat} {zs:List Int} {x:RlN} (hx:RlOk x) (h:SlZ w .i64 (.slice s n cap) zs) (hn:1≤n) (hN:8 * n≤140737488355328) (hge:∀ i,i < n→zs.getD 0 0≤zs.getD i 0):Calls Tryz.prog 80 #[WX x.v,rls x,.slice s n cap] w fun e w'=>∃ g,e = .returned (.slice (some ⟨g,0,none⟩) n n)∧Below w.heap.size w w'∧w.heap.size≤g∧HB w' g ((rlvs x zs 0 n).map (Value.int .i64)).toArray:=by
 obtain ⟨s9,l9,c9,e9,h1,h2,h3,h4,h5⟩:=id h
 cases e9
 have h3':=h3
 simp only [maxLen] at h3'
 have hz:∀ z∈zs,I64 z:=fun z hz=>I64.of_wf (h4 z hz)
 obtain ⟨bz,off,rfl,-,-⟩:=h5 (by omega)
 refine (enterX Tryz.func80 rebuild_run.ok (args:=[WX x.v,rls x,.slice (some ⟨bz,off,none⟩) n cap]) (R:=fun u X=>∃ g,u = .slice (some ⟨g,0,none⟩) n n∧X = kX w.heap.size [.g (cK g ((rlvs x zs 0 n).map (Value.int .i64)))]) (by simp) ?run).mono ?fin
 case fin =>
  rintro e w' ⟨u,X,rfl,⟨g,rfl,rfl⟩,hX,hbl,-⟩
  have k1:(cK g ((rlvs x zs 0 n).map (Value.int .i64))).ok w.heap.size w':=hX _ List.mem_cons_self
  exact ⟨g,rfl,hbl,k1.1,k1.2⟩
 case run =>
  have hl:=rlvs_len x zs 0 n
  have hat:=fun k (hk:k < n)=>rlvs_at (x:=x) (T:=zs) (a:=0) hk
  generalize hvs:rlvs x zs 0 n = vs at *
  obtain ⟨xn,xv,g,a,b,c,d,hh,e,f,i,j,p,q⟩:=x
  obtain ⟨hxn,hxv,hxq⟩:=hx
  dsimp only [rls] at *
  have fv:=(i64_fits hxv).rw
  repeat' (first | simp (disch:=omega) only [sxE,rebuild_run.E,Nat.reduceAdd,Nat.reduceEqDiff,Nat.reduceMul,Nat.reduceSub,Int.reduceAdd,Int.reduceSub,Int.reduceMul,Int.reduceNeg,Int.reduceLT,Int.reduceLE,Int.reduceEq,Int.reduceToNat,↓reduceIte,Int.reducePow,Nat.reduceLeDiff,Nat.reduceLT,ne_eq,eq_self,List.length_cons,List.length_nil,qxE] | (with_reducible refine cregF ?_))
  refine genA_mk rfl (L:=[]) (z:=.int .i64 0) (bytes:=8) Tryz.underlying23 (by kernel_rfl) rfl (by omega) (by omega) (kX_nil _) fun b1 hb1=>?_
  clear hb1
  rw [show List.replicate n (Value.int .i64 0) = rpv vs 0 by rw [rpv_0,hl]]
  repeat' (first | simp (disch:=omega) only [sxE,rebuild_run.E,Nat.reduceAdd,Nat.reduceEqDiff,Nat.reduceMul,Nat.reduceSub,Int.reduceAdd,Int.reduceSub,Int.reduceMul,Int.reduceNeg,Int.reduceLT,Int.reduceLE,Int.reduceEq,Int.reduceToNat,↓reduceIte,Int.reducePow,Nat.reduceLeDiff,Nat.reduceLT,ne_eq,eq_self,List.length_cons,List.length_nil,qxE] | (with_reducible refine cregF ?_))
  rw [rebuild_run.p2_l]
  refine LX_inv (fun k:Nat=>⟨2,[(2,.v (.slice (some ⟨bz,off,none⟩) n cap)),(3,.p 0 0),(4,.p 1 0),(7,.v (.slice (some ⟨b1,0,none⟩) n n)),(13,.v (.slice (some ⟨bz,off,none⟩) n cap)),(14,.v (.int .i64 (n:Int))),(15,.v (.int .i64 (k:Int)))],[(1,[.bool g,.int .u64 a,.int .u64 b,.int .u64 c,.int .u64 d,.bool hh,.int .u64 e,.int .u64 f,.int .u64 i,.int .u64 j]),(0,[.bool (sg xv),.int .u64 (lb0 (ab xv)),.int .u64 (lb1 (ab xv)),.int .u64 (lb2 (ab xv)),.int .u64 (lb3 (ab xv))])],kX w.heap.size [.g (cK b1 (rpv vs k))]⟩) (fun k=>k≤n) (fun k=>n - k) ?round 0 (Nat.zero_le _) ?start
  case start =>
   have c0:((0:Nat):Int) = 0:=rfl
   simp (disch:=omega) only [sxE,rebuild_run.E,Nat.reduceAdd,Nat.reduceEqDiff,Nat.reduceMul,Nat.reduceSub,Int.reduceAdd,Int.reduceSub,Int.reduceMul,Int.reduceNeg,Int.reduceLT,Int.reduceLE,Int.reduceEq,Int.reduceToNat,↓reduceIte,Int.reducePow,Nat.reduceLeDiff,Nat.reduceLT,ne_eq,eq_self,List.length_cons,List.length_nil,c0]
  case round =>
   intro k hk
   try dsimp only at hk ⊢
   by_cases hlt:k < n
   ·have e0:(k:Int) + 1 = ((k + 1:Nat):Int):=by omega
    have i1:=qget' hz k
    have i0:=qget' hz 0
    have hle:=hge k hlt
    have ds:=fun W=>gx_dist i1 i0 hle W
    have iD:U64 (zs.getD k 0 - zs.getD 0 0):=⟨by omega,by have:=i1.2; have:=i0.1; omega⟩
    have va:=fun W=>gx_value fv hxq iD W
    have hset:=rpv_set (vs:=vs) (k:=k) (by omega)
    rw [hat k hlt,Nat.zero_add] at hset
    unfold rlv at hset
    dsimp only at hset
    clear hat i1 i0 hle hge
    generalize vl (vz xv + atq p q (zs.getD k 0 - zs.getD 0 0)) = V at *
    repeat' (first | simp (disch:=omega) only [sxE,rebuild_run.E,Nat.reduceAdd,Nat.reduceEqDiff,Nat.reduceMul,Nat.reduceSub,Int.reduceAdd,Int.reduceSub,Int.reduceMul,Int.reduceNeg,Int.reduceLT,Int.reduceLE,Int.reduceEq,Int.reduceToNat,↓reduceIte,Int.reducePow,Nat.reduceLeDiff,Nat.reduceLT,ne_eq,eq_self,List.length_cons,List.length_nil,qxE] | (with_reducible refine ldP_blk bz ?_; first | refine ldP_z 0 h (by omega) (by omega) ?_ | refine ldP_z k h (by omega) (by omega) ?_) | (with_reducible refine Sx.call_at (f:=135) (fun W hW=>ds W) ?_) | (with_reducible refine Sx.call_at (f:=84) (fun W hW=>va W) ?_) | (with_reducible refine cregF ?_))
    rw [show 0 + k * 1 = k by omega]
    refine stP_c (R:=[]) (cs':=rpv vs (k + 1)) rfl List.mem_cons_self (fun k hk=>by cases hk) (by rw [ovrO_one (by rw [rpv_len (by omega)]; omega),hset]) rfl ?_
    repeat' (first | simp (disch:=omega) only [sxE,rebuild_run.E,Nat.reduceAdd,Nat.reduceEqDiff,Nat.reduceMul,Nat.reduceSub,Int.reduceAdd,Int.reduceSub,Int.reduceMul,Int.reduceNeg,Int.reduceLT,Int.reduceLE,Int.reduceEq,Int.reduceToNat,↓reduceIte,Int.reducePow,Nat.reduceLeDiff,Nat.reduceLT,ne_eq,eq_self,List.length_cons,List.length_nil,qxE] | (with_reducible refine cregF ?_))
    rw [e0]
    exact ⟨k + 1,by omega,by omega,rfl,.inl rfl⟩
   ·obtain rfl:k = n:=by omega
    rw [← hl,rpv_n]
    repeat' (first | simp (disch:=omega) only [sxE,rebuild_run.E,Nat.reduceAdd,Nat.reduceEqDiff,Nat.reduceMul,Nat.reduceSub,Int.reduceAdd,Int.reduceSub,Int.reduceMul,Int.reduceNeg,Int.reduceLT,Int.reduceLE,Int.reduceEq,Int.reduceToNat,↓reduceIte,Int.reducePow,Nat.reduceLeDiff,Nat.reduceLT,ne_eq,eq_self,List.length_cons,List.length_nil,qxE] | (with_reducible refine cregF ?_))
    exact ⟨b1,rfl,rfl⟩
end Go.Proofs.YtncmmbacoknefaaGreat

/- CdMq: MADE BY PROGRAM (sxgen.py): the small code of some functions, points of it and their equations. -/
namespace Go.Proofs.YtncmmbacoknefaaGreat
open Go Go.RowKit Sx Sx.Q
set_option linter.unusedVariables false
variable (C:Cx) (R L1 L2 L3 L4:St→Prop)
namespace r15_Start
abbrev q0:=[0,2]
abbrev r0:List G:=[e 2 (.new [.int .i64 0,.int .i64 0,.int .i64 0,.int .i64 0]),Mi 3 0]
abbrev q1:=[0,2,6]
abbrev r1:List G:=[m 4 0,K1 5 93 4,e 6 (.un .not (t 5))]
abbrev q2:=[2,3]
abbrev r2:List G:=[e 7 (.bd [.int .i64 0,.int .i64 0,.int .i64 0,.int .i64 0] []),V 4 2 7,Mi 3 9]
abbrev r3:List G:=[m 8 0,e 9 (.bd [.int .i64 0,.int .i64 0,.int .i64 0,.int .i64 0] [(0,1,(t 8))]),V 4 2 9,Mi 3 0]
abbrev c:MC:=sq [g r0 q0,sq [g r1 q1,ci 6 (sq [g r2 q2,.ret]) .skip],g r3 q2,.ret]
theorem ok:compF Tryz.prog Tryz.f85 (an (rg 4) c []) = some (10,c,[(2,some (true,4)),(3,none)]):=by kernel_rfl
abbrev p1:=P C r3 q2 R
abbrev p3:=P C r2 q2 R
abbrev p2:=cd (t 6) (p3 C R) (p1 C R)
abbrev p4:=P C r1 q1 (p2 C R)
abbrev p5:=P C r0 q0 (p4 C R)
theorem s (S:St):X C c (retK R) S = p5 C R S:=by kernel_rfl
theorem E:type_of% @s:=@s
end r15_Start
namespace r15_fits
abbrev r0:List G:=[e 1 (.box true 4 (t 0)),Mb 2 false]
abbrev r1:List G:=[a 3 2 1,l 4 3,a 5 3 1,l 6 5,k2 7 42 4 6,a 8 0 1,l 9 8,e 10 (.cv .u64 (t 9)),e 11 (.bin .mul (u 2) (t 10)),b 12 .leq 7 11]
abbrev t1:List G:=[m 2 12]
abbrev c:MC:=sq [g r0 [1],gd r1 t1 [2],.ret]
theorem ok:compF Tryz.prog Tryz.f142 (an (rg 2) c [(1,10,[],(up 10),[])]) = some (13,c,[(2,none)]):=by kernel_rfl
abbrev p1:=Pd C r1 t1 [2] R
abbrev p2:=P C r0 [1] (p1 C R)
theorem s (S:St):X C c (retK R) S = p2 C R S:=by kernel_rfl
theorem E:type_of% @s:=@s
end r15_fits
namespace r15_Valid
abbrev r0:List G:=[e 1 (.box true 4 (t 0)),Mb 2 false]
abbrev q0:=[1,6]
abbrev r1:List G:=[a 3 0 1,l 4 3,K1 5 93 4,e 6 (.un .not (t 5))]
abbrev r2:List G:=[Mb 2 false]
abbrev q1:=[1,9]
abbrev r3:List G:=[a 7 1 1,l 8 7,bi 9 .eql 8 0]
abbrev r4:List G:=[a 10 2 1,l 11 10,bi 12 .eql 11 0,m 13 12,ya 14 13 3 1,yl 15 13 14,y 16 13 (.bin .eql (t 15) (i 0)),w 17 13 16,m 2 17]
abbrev r5:List G:=[a 18 1 1,l 19 18,bi 20 .gtr 19 0,m 21 20,ya 22 21 1 1,yl 23 21 22,y 24 21 (.bin .leq (t 23) (i 1073741824)),w 25 21 24,m 26 25,ya 27 26 2 1,yl 28 26 27,ya 29 26 3 1,yl 30 26 29,y 31 26 (.bin .leq (t 28) (t 30)),w 32 26 31,m 33 32,y 34 33 (.ld true 4 (t 1)),y 35 33 (.call false 142 [(t 34)]),w 36 33 35,m 37 36,ya 38 37 1 1,yl 39 37 38,y 40 37 (.bin .gtr (t 39) (i 1)),ym 41 37 40,na 42 41 2 1,nl 43 41 42,na 44 41 3 1,nl 45 41 44,n 46 41 (.bin .eql (t 43) (t 45)),y 47 37 (.pick (t 41) bt (t 46)),w 48 37 47,m 2 48]
abbrev c:MC:=sq [g r0 [1],sq [g r1 q0,ci 6 (sq [g r2 [2],.ret]) .skip],sq [g r3 q1,ci 9 (sq [g r4 [2],.ret]) .skip],g r5 [2],.ret]
theorem ok:compF Tryz.prog Tryz.f141 (an (rg 6) c []) = some (49,c,[(2,none)]):=by kernel_rfl
abbrev p1:=P C r5 [2] R
abbrev p3:=P C r4 [2] R
abbrev p2:=cd (t 9) (p3 C R) (p1 C R)
abbrev p4:=P C r3 q1 (p2 C R)
abbrev p6:=P C r2 [2] R
abbrev p5:=cd (t 6) (p6 C R) (p4 C R)
abbrev p7:=P C r1 q0 (p5 C R)
abbrev p8:=P C r0 [1] (p7 C R)
theorem s (S:St):X C c (retK R) S = p8 C R S:=by kernel_rfl
theorem E:type_of% @s:=@s
end r15_Valid
namespace r15_Step
abbrev q0:=[1,2,4]
abbrev r0:List G:=[e 2 (.box true 4 (t 0)),e 4 (.new [.int .i64 0,.int .i64 0,.int .i64 0,.int .i64 0]),e 5 (.mv (.const (.slice none 0 0))),Mi 6 0]
abbrev q1:=[1,2,4,12]
abbrev r1:List G:=[L 10 4 2,K1 11 141 10,e 12 (.un .not (t 11))]
abbrev q2:=[4,5,6]
abbrev r2:List G:=[e 13 (.bd [.int .i64 0,.int .i64 0,.int .i64 0,.int .i64 0] []),V 4 4 13,e 5 (.mv (.const (.slice none 0 0))),Mi 6 1]
abbrev q3:=[1,2,4,16]
abbrev r3:List G:=[a 14 1 2,l 15 14,bi 16 .eql 15 1073741824]
abbrev r4:List G:=[e 17 (.bd [.int .i64 0,.int .i64 0,.int .i64 0,.int .i64 0] []),V 4 4 17,e 5 (.mv (.const (.slice none 0 0))),Mi 6 3]
abbrev q4:=[1,2,4,7]
abbrev r5:List G:=[a 18 0 2,l 19 18,a 20 1 2,l 21 20,bi 22 .add 21 1,a 23 2 2,l 24 23,m 25 1,e 26 (.mm false (t 24) (t 25)),a 27 3 2,l 28 27,m 29 1,e 30 (.mm true (t 28) (t 29)),e 31 (.bd [.int .i64 0,.int .i64 0,.int .i64 0,.int .i64 0] [(0,1,(t 19)),(1,1,(t 22)),(2,1,(t 26)),(3,1,(t 30))]),e 7 (.new [.int .i64 0,.int .i64 0,.int .i64 0,.int .i64 0]),V 4 7 31]
abbrev q5:=[1,2,4,7,38]
abbrev r6:List G:=[a 32 1 2,l 33 32,bi 34 .gtr 33 0,m 35 34,y 36 35 (.ld true 4 (t 7)),y 37 35 (.call false 142 [(t 36)]),w 38 35 37]
abbrev r7:List G:=[L 39 4 7,V 4 4 39,e 5 (.mv (.const (.slice none 0 0))),Mi 6 0]
abbrev q6:=[1,2,4,8]
abbrev r8:List G:=[L 41 4 2,K1 42 87 41,m 40 42,x 43 40 0,x 44 40 1,m 8 43,m 9 44]
abbrev r9:List G:=[a 45 0 2,l 46 45,m 47 1,m 48 1,e 49 (.bd [.int .i64 0,.int .i64 0,.int .i64 0,.int .i64 0] [(0,1,(t 46)),(1,1,(i 1)),(2,1,(t 47)),(3,1,(t 48))]),m 50 8,V 4 4 49,m 5 50,Mi 6 0]
abbrev c:MC:=sq [g r0 q0,sq [g r1 q1,ci 12 (sq [g r2 q2,.ret]) .skip],sq [g r3 q3,ci 16 (sq [g r4 q2,.ret]) .skip],g r5 q4,sq [g r6 q5,ci 38 (sq [g r7 q2,.ret]) .skip],g r8 q6,g r9 q2,.ret]
theorem ok:compF Tryz.prog Tryz.f86 (an (rg 10) c []) = some (51,c,[(4,some (true,4)),(5,none),(6,none)]):=by kernel_rfl
abbrev p1:=P C r9 q2 R
abbrev p2:=P C r8 q6 (p1 C R)
abbrev p4:=P C r7 q2 R
abbrev p3:=cd (t 38) (p4 C R) (p2 C R)
abbrev p5:=P C r6 q5 (p3 C R)
abbrev p6:=P C r5 q4 (p5 C R)
abbrev p8:=P C r4 q2 R
abbrev p7:=cd (t 16) (p8 C R) (p6 C R)
abbrev p9:=P C r3 q3 (p7 C R)
abbrev p11:=P C r2 q2 R
abbrev p10:=cd (t 12) (p11 C R) (p9 C R)
abbrev p12:=P C r1 q1 (p10 C R)
abbrev p13:=P C r0 q0 (p12 C R)
theorem s (S:St):X C c (retK R) S = p13 C R S:=by kernel_rfl
theorem E:type_of% @s:=@s
end r15_Step
namespace r15_Finish
abbrev r0:List G:=[e 1 (.box true 4 (t 0)),e 2 (.mv (.const (.slice none 0 0))),Mi 3 0]
abbrev q0:=[1,6]
abbrev r1:List G:=[L 4 4 1,K1 5 141 4,e 6 (.un .not (t 5))]
abbrev q1:=[2,3]
abbrev r2:List G:=[e 2 (.mv (.const (.slice none 0 0))),Mi 3 1]
abbrev q2:=[1,9]
abbrev r3:List G:=[a 7 1 1,l 8 7,bi 9 .eql 8 0]
abbrev r4:List G:=[e 2 (.mv (.const (.slice none 0 0))),Mi 3 0]
abbrev r5:List G:=[a 10 1 1,l 11 10,a 12 2 1,l 13 12,a 14 3 1,l 15 14,k2 16 143 13 15,e 17 (.bd [.int .i64 0,.int .i64 0] [(0,1,(t 11)),(1,1,(t 16))]),e 18 (.gen false (.bsl 52 1 [0]) [(t 17)])]
abbrev t5:List G:=[m 2 18,Mi 3 0]
abbrev c:MC:=sq [g r0 [1],sq [g r1 q0,ci 6 (sq [g r2 q1,.ret]) .skip],sq [g r3 q2,ci 9 (sq [g r4 q1,.ret]) .skip],gk true false r5 t5 q1,.ret]
theorem ok:compF Tryz.prog Tryz.f87 (an (rg 6) c [(5,200009,[],(up 8 ++ [(8,1)]),[])]) = some (19,c,[(2,none),(3,none)]):=by kernel_rfl
abbrev p1:=Pc C true false r5 t5 q1 R
abbrev p3:=P C r4 q1 R
abbrev p2:=cd (t 9) (p3 C R) (p1 C R)
abbrev p4:=P C r3 q2 (p2 C R)
abbrev p6:=P C r2 q1 R
abbrev p5:=cd (t 6) (p6 C R) (p4 C R)
abbrev p7:=P C r1 q0 (p5 C R)
abbrev p8:=P C r0 [1] (p7 C R)
theorem s (S:St):X C c (retK R) S = p8 C R S:=by kernel_rfl
theorem E:type_of% @s:=@s
end r15_Finish
namespace r15_All
abbrev q0:=[0,1]
abbrev r0:List G:=[e 4 (.mv (.const (.slice none 0 0))),Mi 5 0]
abbrev q1:=[0,6,7]
abbrev r1:List G:=[m 14 1,K1 15 85 14,m 13 15,x 16 13 0,x 17 13 1,e 6 (.new [.int .i64 0,.int .i64 0,.int .i64 0,.int .i64 0]),V 4 6 16,m 7 17]
abbrev q2:=[0,6,7,19]
abbrev r2:List G:=[m 18 7,bi 19 .neq 18 0]
abbrev q3:=[4,5]
abbrev r3:List G:=[m 20 7,e 4 (.mv (.const (.slice none 0 0))),m 5 20]
abbrev q4:=[0,6,23]
abbrev r4:List G:=[m 21 0,e 22 (.len false (t 21)),bi 23 .gtr 22 1073741824]
abbrev r5:List G:=[e 4 (.mv (.const (.slice none 0 0))),Mi 5 3]
abbrev q5:=[0,6,8]
abbrev r6:List G:=[e 8 (.mv (.const (.slice none 0 0)))]
abbrev q6:=[0,6,8,9]
abbrev r7:List G:=[Mi 9 0]
abbrev q7:=[0,6,8,9,27]
abbrev r8:List G:=[m 24 9,m 25 0,e 26 (.len false (t 25)),b 27 .lss 24 26]
abbrev r10:List G:=[e 10 (.mv (.const (.slice none 0 0)))]
abbrev q8:=[0,6,8,9,10]
abbrev r11:List G:=[L 31 4 6,m 32 0,m 33 9,j 34 1 32 33,l 35 34,K2 36 86 31 35,m 30 36,x 37 30 0,x 38 30 1,x 39 30 2]
abbrev t11:List G:=[V 4 6 37,m 10 38]
abbrev r12:List G:=[m 40 8,m 41 10,e 42 (.gen false (.bi .append [52,52] 52 [false,false]) [(t 40),(t 41)]),m 8 42]
abbrev r9:List G:=[m 28 9,bi 29 .add 28 1,m 9 29]
abbrev q9:=[8,11]
abbrev r13:List G:=[L 44 4 6,K1 45 87 44,m 43 45,x 46 43 0,x 47 43 1,m 11 46,m 12 47]
abbrev r14:List G:=[m 48 8,m 49 11,e 50 (.gen false (.bi .append [52,52] 52 [false,false]) [(t 48),(t 49)]),m 4 50,Mi 5 0]
abbrev c:MC:=sq [g r0 q0,g r1 q1,sq [g r2 q2,ci 19 (sq [g r3 q3,.ret]) .skip],sq [g r4 q4,ci 23 (sq [g r5 q3,.ret]) .skip],g r6 q5,sq [g r7 q6,.block 0 (.loop (sq [sq [g r8 q7,ci 27 .skip (.exit 0)],.block 1 (sq [g r10 q6,gk true false r11 t11 q8,g r12 q6]),g r9 q6]))],g r13 q9,g r14 q3,.ret]
theorem ok:compF Tryz.prog Tryz.f27 (an [0,1,2,3,4,5,6,7,8,10,11,12,9,13,14] c [(11,200010,[8,9],(up 5 ++ [(5,1),(6,0),(7,0),(8,2),(9,2)]),[])]) = some (51,c,[(4,none),(5,none)]):=by kernel_rfl
abbrev p1:=P C r14 q3 R
abbrev p2:=P C r13 q9 (p1 C R)
abbrev p4:=P C r9 q6 L1
abbrev p5:=P C r12 q6 (p4 C L1)
abbrev p6:=Pc C true false r11 t11 q8 (p5 C L1)
abbrev p7:=P C r10 q6 (p6 C L1)
abbrev p8:=cd (t 27) (p7 C L1) (p2 C R)
abbrev p9:=P C r8 q7 (p8 C R L1)
def p3 (S:St):Prop:=LX C (fun L1=>(p9 C R L1)) S
theorem p3_l (S:St):p3 C R S = LX C (fun L1=>(p9 C R L1)) S:=rfl
abbrev p10:=P C r7 q6 (p3 C R)
abbrev p11:=P C r6 q5 (p10 C R)
abbrev p13:=P C r5 q3 R
abbrev p12:=cd (t 23) (p13 C R) (p11 C R)
abbrev p14:=P C r4 q4 (p12 C R)
abbrev p16:=P C r3 q3 R
abbrev p15:=cd (t 19) (p16 C R) (p14 C R)
abbrev p17:=P C r2 q2 (p15 C R)
abbrev p18:=P C r1 q1 (p17 C R)
abbrev p19:=P C r0 q0 (p18 C R)
theorem s (S:St):X C c (retK R) S = p19 C R S:=by kernel_rfl
theorem E:type_of% @s:=@s
end r15_All
namespace r01_Mid
abbrev q0:=[0,1]
abbrev r0:List G:=[Mi 4 0]
abbrev q1:=[0,1,7]
abbrev r1:List G:=[m 5 0,m 6 1,b 7 .gtr 5 6]
abbrev r2:List G:=[m 8 1,m 9 0,m 0 8,m 1 9]
abbrev r3:List G:=[m 10 0,m 11 0,m 12 1,K2 13 42 11 12,bu 14 .quo 13 2,K2 15 172 10 14,m 4 15]
abbrev c:MC:=sq [g r0 q0,sq [g r1 q1,ci 7 (g r2 q0) .skip],g r3 [4],.ret]
theorem ok:compF Tryz.prog Tryz.f143 (an (rg 4) c []) = some (16,c,[(4,none)]):=by kernel_rfl
abbrev p1:=P C r3 [4] R
abbrev p3:=P C r2 q0 (p1 C R)
abbrev p2:=cd (t 7) (p3 C R) (p1 C R)
abbrev p4:=P C r1 q1 (p2 C R)
abbrev p5:=P C r0 q0 (p4 C R)
theorem s (S:St):X C c (retK R) S = p5 C R S:=by kernel_rfl
theorem E:type_of% @s:=@s
end r01_Mid
namespace r01_Apply
abbrev q0:=[0,1]
abbrev r0:List G:=[Mi 4 0]
abbrev r1:List G:=[m 5 0,e 6 (.cv .u64 (t 5)),m 7 1,b 8 .add 6 7,e 9 (.cv .i64 (t 8)),m 4 9]
abbrev c:MC:=sq [g r0 q0,g r1 [4],.ret]
theorem ok:compF Tryz.prog Tryz.f172 (an (rg 2) c []) = some (10,c,[(4,none)]):=by kernel_rfl
abbrev p1:=P C r1 [4] R
abbrev p2:=P C r0 q0 (p1 C R)
theorem s (S:St):X C c (retK R) S = p2 C R S:=by kernel_rfl
theorem E:type_of% @s:=@s
end r01_Apply
end Go.Proofs.YtncmmbacoknefaaGreat

/- Qm: midrange: the reference's All; its segments, plain. -/
namespace Go.Proofs.YtncmmbacoknefaaGreat
open Go Go.RowKit Sx
set_option linter.unusedVariables false
set_option linter.unusedSimpArgs false
structure MqS where
 t:Int
 n:Int
 lo:Int
 hi:Int
abbrev mqv (s:MqS):Value:=.agg #[.int .i64 s.t,.int .i64 s.n,.int .i64 s.lo,.int .i64 s.hi]
def qmi (a b:Int):Int:=if b < a then b else a
def qma (a b:Int):Int:=if a < b then b else a
def mqx (s:MqS) (v:Int):MqS:=⟨s.t,s.n + 1,qmi s.lo v,qma s.hi v⟩
def mqb (t v:Int):MqS:=⟨t,1,v,v⟩
def mqf (s:MqS):Bool:=decide (s.hi - s.lo≤2 * s.t)
def mqg (s:MqS) (v:Int):Bool:=decide (0 < s.n) && mqf (mqx s v)
def mqn (s:MqS) (v:Int):MqS:=if mqg s v = true then mqx s v else mqb s.t v
def mql (s:MqS):Smps:=if s.n = 0 then [] else [(s.n,(s.lo + s.hi) / 2)]
def mqe (s:MqS) (v:Int):Smps:=if mqg s v = true then [] else mql s
structure MqG (s:MqS):Prop where
 t:0≤s.t∧s.t≤4611686018427387904
 n:0≤s.n∧s.n≤1073741824
 lo:I64 s.lo
 hi:I64 s.hi
 le:s.lo≤s.hi
 z:s.n = 0→s.lo = 0∧s.hi = 0
 f:s.hi - s.lo≤2 * s.t
 o:s.n = 1→s.lo = s.hi
theorem qmi_in {a b:Int} (ha:I64 a) (hb:I64 b):I64 (qmi a b):=by unfold qmi; split <;> assumption
theorem qma_in {a b:Int} (ha:I64 a) (hb:I64 b):I64 (qma a b):=by unfold qma; split <;> assumption
theorem qm_le {a b v:Int} (h:a≤b):qmi a v≤qma b v:=by unfold qmi qma; split <;> split <;> omega
theorem mqb_g {t v:Int} (ht:0≤t∧t≤4611686018427387904) (hv:I64 v):MqG (mqb t v):=⟨ht,⟨by show (0:Int)≤1; decide,by show (1:Int)≤_; decide⟩,hv,hv,Int.le_refl _,fun h=>(by cases (show (1:Int) = 0 from h)),by show v - v≤2 * t; omega,fun _=>rfl⟩
theorem MqG.next {s:MqS} (h:MqG s) (hN:s.n < 1073741824) {v:Int} (hv:I64 v):MqG (mqn s v):=by
 unfold mqn
 split
 ·rename_i hg
  unfold mqg mqf at hg
  rw [Bool.and_eq_true,decide_eq_true_eq,decide_eq_true_eq] at hg
  have:=h.n
  exact ⟨h.t,⟨by show 0≤s.n + 1; omega,by show s.n + 1≤_; omega⟩,qmi_in h.lo hv,qma_in h.hi hv,qm_le h.le,fun e=>by have e:s.n + 1 = 0:=e; omega,hg.2,fun e=>by have e:s.n + 1 = 1:=e; omega⟩
 ·exact mqb_g h.t hv
theorem mqn_t (s:MqS) (v:Int):(mqn s v).t = s.t:=by unfold mqn; split <;> rfl
theorem mqn_n {s:MqS} (h:0≤s.n) (v:Int):(mqn s v).n≤s.n + 1:=by
 unfold mqn
 split
 ·exact Int.le_refl _
 ·show (1:Int)≤s.n + 1; omega
theorem mql_len (s:MqS):(mql s).length≤1:=by unfold mql; split <;> simp
theorem mqe_len (s:MqS) (v:Int):(mqe s v).length≤1:=by
 unfold mqe
 split
 ·simp
 ·exact mql_len s
def mqa (a:MqS × Smps) (v:Int):MqS × Smps:=(mqn a.1 v,a.2 ++ mqe a.1 v)
def mq0 (t:Int):MqS:=⟨t,0,0,0⟩
def mqF (t:Int) (zs:List Int):MqS × Smps:=zs.foldl mqa (mq0 t,[])
theorem mqF_snoc (t:Int) (zs:List Int) (x:Int):mqF t (zs ++ [x]) = mqa (mqF t zs) x:=by unfold mqF; rw [List.foldl_append]; rfl
def mqall (t:Int) (zs:List Int):Smps:=(mqF t zs).2 ++ mql (mqF t zs).1
structure MqI (t:Int) (i:Nat) (a:MqS × Smps):Prop where
 g:MqG a.1
 t:a.1.t = t
 n:a.1.n≤i
 len:a.2.length≤i
theorem qtake {zs:List Int} {i:Nat} (h:i < zs.length):zs.take (i + 1) = zs.take i ++ [zs.getD i 0]:=by
 rw [List.take_add_one,List.getElem?_eq_getElem h,List.getD_eq_getElem?_getD,List.getElem?_eq_getElem h]
 rfl
theorem qget {zs:List Int} (hz:∀ z∈zs,I64 z) (i:Nat):I64 (zs.getD i 0):=by
 by_cases h:i < zs.length
 ·rw [List.getD_eq_getElem?_getD,List.getElem?_eq_getElem h]
  exact hz _ (List.getElem_mem h)
 ·rw [List.getD_eq_getElem?_getD,List.getElem?_eq_none (by omega)]
  exact ⟨by decide,by decide⟩
theorem mq0_g {t:Int} (ht:0≤t∧t≤4611686018427387904):MqG (mq0 t):=⟨ht,⟨Int.le_refl _,by show (0:Int)≤_; decide⟩,⟨by show _≤(0:Int); decide,by show (0:Int)≤_; decide⟩,⟨by show _≤(0:Int); decide,by show (0:Int)≤_; decide⟩,Int.le_refl _,fun _=>⟨rfl,rfl⟩,by show (0:Int) - 0≤2 * t; omega,fun h=>(by cases (show (0:Int) = 1 from h))⟩
theorem mqi_at {t:Int} {zs:List Int} (ht:0≤t∧t≤4611686018427387904) (hz:∀ z∈zs,I64 z) (hl:zs.length≤1073741824):∀ i,i≤zs.length→MqI t i (mqF t (zs.take i))
 | 0,_=>⟨by rw [List.take_zero]; exact mq0_g ht,by rw [List.take_zero]; rfl,by rw [List.take_zero]; exact Int.le_refl _,by rw [List.take_zero]; exact Nat.le_refl _⟩
 | i + 1,hi=>by
  have h:=mqi_at ht hz hl i (by omega)
  rw [qtake (by omega),mqF_snoc]
  have h1:=h.n
  have h2:=mqe_len (mqF t (zs.take i)).1 (zs.getD i 0)
  have h3:=h.len
  have h4:=mqn_n h.g.n.1 (zs.getD i 0)
  refine ⟨h.g.next (by omega) (qget hz i),(mqn_t _ _).trans h.t,?_,?_⟩
  ·show (mqn _ _).n≤((i + 1:Nat):Int); omega
  ·show ((mqF t (zs.take i)).2 ++ mqe (mqF t (zs.take i)).1 (zs.getD i 0)).length≤i + 1; rw [List.length_append]; omega
theorem elt_constq:ElT Tryz.prog 52 129 2 16:=elT (z:=.agg #[.int .i64 0,.int .i64 0]) Tryz.underlying52 (by kernel_rfl) rfl (by decide)
theorem scells_1q (ls:Smps):all1 (scells ls) = true:=by
 induction ls with
 | nil=>rfl
 | cons x l ih =>
  show all1 (scell x ++ scells l) = true
  rw [all1_app,ih]
  rfl
theorem scells_apq (a b:Smps):scells (a ++ b) = scells a ++ scells b:=by unfold scells; rw [List.flatMap_append]
theorem u64_dbl {t:Int} (ht:0≤t∧t≤4611686018427387904):IntKind.u64.wrap (2 * IntKind.u64.wrap t) = 2 * t:=by
 rw [IntKind.wrap_u64,IntKind.wrap_u64]
 omega
theorem wrap_app {a d:Int} (ha:I64 a) (h0:0≤d) (h:I64 (a + d)):IntKind.i64.wrap (IntKind.u64.wrap (IntKind.u64.wrap a + d)) = a + d:=by
 have h1:=ha.1
 have h2:=ha.2
 have h3:=h.1
 have h4:=h.2
 rw [IntKind.wrap_i64,IntKind.wrap_u64,IntKind.wrap_u64]
 omega
theorem rx_dst {a b:Int} (ha:I64 a) (hb:I64 b) (h:a≤b) (W:World):Gives Tryz.prog 42 [.int .i64 a,.int .i64 b] W (· = .int .u64 (b - a)):=by
 by_cases e:a = b
 ·subst e
  rw [show a - a = a - a from rfl]
  exact rx_sdist ha ha (Int.le_refl _) W
 ·refine gives_known en_r01_Distance ?_
  have w1:=wrap_subw ha hb h
  have h':a < b:=by omega
  clear ha hb e
  refine known_of (enter Tryz.func42 r01_Distance.ok (args:=[_,_]) (by simp) ?_)
  repeat' (first | simp (disch:=omega) only [sxE,r01_Distance.E,Nat.reduceAdd,Nat.reduceEqDiff,Nat.reduceMul,Nat.reduceSub,Int.reduceAdd,Int.reduceSub,Int.reduceMul,Int.reduceNeg,Int.reduceLT,Int.reduceLE,Int.reduceEq,Int.reduceToNat,↓reduceIte,Int.reducePow,Nat.reduceLeDiff,Nat.reduceLT,ne_eq,eq_self,List.length_cons,List.length_nil,w1] | (with_reducible refine cregF ?_))
theorem rx_app {a d:Int} (ha:I64 a) (h0:0≤d) (h:I64 (a + d)) (W:World):Gives Tryz.prog 172 [.int .i64 a,.int .u64 d] W (· = .int .i64 (a + d)):=by
 refine gives_known en_r01_Apply ?_
 have w1:=wrap_app ha h0 h
 clear ha h0 h
 refine known_of (enter Tryz.func172 r01_Apply.ok (args:=[_,_]) (by simp) ?_)
 repeat' (first | simp (disch:=omega) only [sxE,r01_Apply.E,Nat.reduceAdd,Nat.reduceEqDiff,Nat.reduceMul,Nat.reduceSub,Int.reduceAdd,Int.reduceSub,Int.reduceMul,Int.reduceNeg,Int.reduceLT,Int.reduceLE,Int.reduceEq,Int.reduceToNat,↓reduceIte,Int.reducePow,Nat.reduceLeDiff,Nat.reduceLT,ne_eq,eq_self,List.length_cons,List.length_nil,w1] | (with_reducible refine cregF ?_))
theorem rx_mid {a b:Int} (ha:I64 a) (hb:I64 b) (h:a≤b) (W:World):Gives Tryz.prog 143 [.int .i64 a,.int .i64 b] W (· = .int .i64 ((a + b) / 2)):=by
 refine gives_known en_r01_Mid ?_
 have d:=fun W=>rx_dst ha hb h W
 have e:(a + b) / 2 = a + (b - a) / 2:=by omega
 have p:=fun W=>rx_app (d:=(b - a) / 2) ha (by omega) ⟨by have:=ha.1; omega,by have:=hb.2; omega⟩ W
 rw [e]
 have q:(b - a).tdiv 2 = (b - a) / 2:=Int.tdiv_eq_ediv_of_nonneg (by omega)
 have wq:IntKind.u64.wrap ((b - a) / 2) = (b - a) / 2:=u64_wrap_id _ ⟨by omega,by have:=ha.1; have:=hb.2; omega⟩
 clear ha hb e
 refine known_of (enter Tryz.func143 r01_Mid.ok (args:=[_,_]) (by simp) ?_)
 repeat' (first | simp (disch:=omega) only [sxE,r01_Mid.E,Nat.reduceAdd,Nat.reduceEqDiff,Nat.reduceMul,Nat.reduceSub,Int.reduceAdd,Int.reduceSub,Int.reduceMul,Int.reduceNeg,Int.reduceLT,Int.reduceLE,Int.reduceEq,Int.reduceToNat,↓reduceIte,Int.reducePow,Nat.reduceLeDiff,Nat.reduceLT,ne_eq,eq_self,List.length_cons,List.length_nil,q,wq] | (with_reducible refine Sx.call_at (f:=42) (fun W hW=>d W) ?_) | (with_reducible refine Sx.call_at (f:=172) (fun W hW=>p W) ?_) | (with_reducible refine cregF ?_))
theorem rx_qfits {s:MqS} (hl:I64 s.lo) (hh:I64 s.hi) (h:s.lo≤s.hi) (ht:0≤s.t∧s.t≤4611686018427387904) (W:World):Gives Tryz.prog 142 [mqv s] W (· = .bool (mqf s)):=by
 refine gives_known en_r15_fits ?_
 have d:=fun W=>rx_dst hl hh h W
 have w1:=u64_dbl ht
 unfold mqf
 obtain ⟨t,n,lo,hi⟩:=s
 dsimp only at *
 clear hl hh ht
 generalize hi - lo = D at *
 refine known_of (enter Tryz.func142 r15_fits.ok (args:=[_]) (by simp) ?_)
 repeat' (first | simp (disch:=omega) only [sxE,r15_fits.E,Nat.reduceAdd,Nat.reduceEqDiff,Nat.reduceMul,Nat.reduceSub,Int.reduceAdd,Int.reduceSub,Int.reduceMul,Int.reduceNeg,Int.reduceLT,Int.reduceLE,Int.reduceEq,Int.reduceToNat,↓reduceIte,Int.reducePow,Nat.reduceLeDiff,Nat.reduceLT,ne_eq,eq_self,List.length_cons,List.length_nil,w1] | (with_reducible refine Sx.call_at (f:=42) (fun W hW=>d W) ?_) | (with_reducible refine cregF ?_))
theorem rx_qval {s:MqS} (h:MqG s) (W:World):Gives Tryz.prog 141 [mqv s] W (· = .bool true):=by
 refine gives_known en_r15_Valid ?_
 have f:=fun W=>rx_qfits h.lo h.hi h.le h.t W
 have e:mqf s = true:=decide_eq_true h.f
 rw [e] at f
 have it:I64 s.t:=⟨by have:=h.t; omega,by have:=h.t; omega⟩
 have k:=fun W=>rx_tol it W
 obtain ⟨t,n,lo,hi⟩:=s
 have hn:=h.n
 have hz:=h.z
 have ho:=h.o
 have hle:=h.le
 have ht:=h.t
 dsimp only at *
 rw [show decide (0≤t∧t≤4611686018427387904) = true from decide_eq_true ht] at k
 clear h it e
 refine known_of (enter Tryz.func141 r15_Valid.ok (args:=[_]) (by simp) ?_)
 by_cases h0:n = 0
 ·obtain ⟨e1,e2⟩:=hz h0
  subst h0
  subst e1
  subst e2
  repeat' (first | simp (disch:=omega) only [sxE,r15_Valid.E,Nat.reduceAdd,Nat.reduceEqDiff,Nat.reduceMul,Nat.reduceSub,Int.reduceAdd,Int.reduceSub,Int.reduceMul,Int.reduceNeg,Int.reduceLT,Int.reduceLE,Int.reduceEq,Int.reduceToNat,↓reduceIte,Int.reducePow,Nat.reduceLeDiff,Nat.reduceLT,ne_eq,eq_self,List.length_cons,List.length_nil,beq_self_eq_true,Bool.not_true] | (with_reducible refine Sx.call_at (f:=93) (fun W hW=>k W) ?_) | (with_reducible refine cregF ?_))
 ·have b0:(n == 0) = false:=beq_eq_false_iff_ne.2 h0
  by_cases h1:n = 1
  ·have e1:=ho h1
   subst h1
   subst e1
   repeat' (first | simp (disch:=omega) only [sxE,r15_Valid.E,Nat.reduceAdd,Nat.reduceEqDiff,Nat.reduceMul,Nat.reduceSub,Int.reduceAdd,Int.reduceSub,Int.reduceMul,Int.reduceNeg,Int.reduceLT,Int.reduceLE,Int.reduceEq,Int.reduceToNat,↓reduceIte,Int.reducePow,Nat.reduceLeDiff,Nat.reduceLT,ne_eq,eq_self,List.length_cons,List.length_nil,b0,beq_self_eq_true,Bool.not_true] | (with_reducible refine Sx.call_at (f:=93) (fun W hW=>k W) ?_) | (with_reducible refine Sx.call_at (f:=142) (fun W hW=>f W) ?_) | (with_reducible refine cregF ?_))
  ·repeat' (first | simp (disch:=omega) only [sxE,r15_Valid.E,Nat.reduceAdd,Nat.reduceEqDiff,Nat.reduceMul,Nat.reduceSub,Int.reduceAdd,Int.reduceSub,Int.reduceMul,Int.reduceNeg,Int.reduceLT,Int.reduceLE,Int.reduceEq,Int.reduceToNat,↓reduceIte,Int.reducePow,Nat.reduceLeDiff,Nat.reduceLT,ne_eq,eq_self,List.length_cons,List.length_nil,b0,beq_self_eq_true,Bool.not_true] | (with_reducible refine Sx.call_at (f:=93) (fun W hW=>k W) ?_) | (with_reducible refine Sx.call_at (f:=142) (fun W hW=>f W) ?_) | (with_reducible refine cregF ?_))
def QlB (w:World) (ls:Smps) (er:Int) (en:Ending) (w':World):Prop:=∃ v,en = .returned (.tuple #[v,.int .i64 er])∧w'.ownsRow w.heap.size 129 2 v ls.length (scells ls)∧Below w.heap.size w w'
theorem rx_qstart {t:Int} (ht:0≤t∧t≤4611686018427387904) (W:World):Gives Tryz.prog 85 [.int .i64 t] W (· = .tuple #[mqv (mq0 t),.int .i64 0]):=by
 refine gives_known en_r15_Start ?_
 have k:=fun W=>rx_tol (e:=t) ⟨by omega,by omega⟩ W
 rw [decide_eq_true ht] at k
 show Calls _ _ _ _ _
 unfold mq0
 clear ht
 refine known_of (enter Tryz.func85 r15_Start.ok (args:=[_]) (by simp) ?_)
 repeat' (first | simp (disch:=omega) only [sxE,r15_Start.E,Nat.reduceAdd,Nat.reduceEqDiff,Nat.reduceMul,Nat.reduceSub,Int.reduceAdd,Int.reduceSub,Int.reduceMul,Int.reduceNeg,Int.reduceLT,Int.reduceLE,Int.reduceEq,Int.reduceToNat,↓reduceIte,Int.reducePow,Nat.reduceLeDiff,Nat.reduceLT,ne_eq,eq_self,List.length_cons,List.length_nil,Bool.not_true] | (with_reducible refine Sx.call_at (f:=93) (fun W hW=>k W) ?_) | (with_reducible refine cregF ?_))
set_option maxRecDepth 100000 in
theorem rx_qfin {w:World} {s:MqS} (h:MqG s):Calls Tryz.prog 87 #[mqv s] w (QlB w (mql s) 0):=by
 refine (enterX Tryz.func87 r15_Finish.ok (args:=[mqv s]) (R:=fun u X=>∃ v L,u = .tuple #[v,.int .i64 0]∧X = kX w.heap.size L∧rowOf L 129 2 v (mql s).length (scells (mql s))) (by simp) ?run).mono ?fin
 case fin =>
  rintro e w' ⟨u,X,rfl,⟨v,L,rfl,rfl,hr⟩,hX,hbl,-⟩
  exact ⟨v,rfl,hr.own hX,hbl⟩
 case run =>
  have kv:=fun W=>rx_qval h W
  have hn1:=h.n
  by_cases hn:s.n = 0
  ·have e:mql s = []:=if_pos hn
   rw [e]
   obtain ⟨t,n,lo,hi⟩:=s
   dsimp only at *
   subst hn
   clear e h
   repeat' (first | simp (disch:=omega) only [sxE,r15_Finish.E,Nat.reduceAdd,Nat.reduceEqDiff,Nat.reduceMul,Nat.reduceSub,Int.reduceAdd,Int.reduceSub,Int.reduceMul,Int.reduceNeg,Int.reduceLT,Int.reduceLE,Int.reduceEq,Int.reduceToNat,↓reduceIte,Int.reducePow,Nat.reduceLeDiff,Nat.reduceLT,ne_eq,eq_self,List.length_cons,List.length_nil,Bool.not_true,beq_self_eq_true] | (with_reducible refine Sx.call_at (f:=141) (fun W hW=>kv W) ?_) | (with_reducible refine cregF ?_))
   exact ⟨.slice none 0 0,[],rfl,kX_nil _,.inl ⟨rfl,rfl,rfl⟩⟩
  ·have e:mql s = [(s.n,(s.lo + s.hi) / 2)]:=if_neg hn
   have m:=fun W=>rx_mid h.lo h.hi h.le W
   rw [e]
   obtain ⟨t,n,lo,hi⟩:=s
   dsimp only at *
   generalize (lo + hi) / 2 = q at *
   have b0:(n == 0) = false:=beq_eq_false_iff_ne.2 hn
   clear e h
   repeat' (first | simp (disch:=omega) only [sxE,r15_Finish.E,Nat.reduceAdd,Nat.reduceEqDiff,Nat.reduceMul,Nat.reduceSub,Int.reduceAdd,Int.reduceSub,Int.reduceMul,Int.reduceNeg,Int.reduceLT,Int.reduceLE,Int.reduceEq,Int.reduceToNat,↓reduceIte,Int.reducePow,Nat.reduceLeDiff,Nat.reduceLT,ne_eq,eq_self,List.length_cons,List.length_nil,b0,Bool.not_true] | (with_reducible refine Sx.call_at (f:=141) (fun W hW=>kv W) ?_) | (with_reducible refine Sx.call_at (f:=143) (fun W hW=>m W) ?_) | (refine genA_w (L:=[]) (cs:=scells [(n,q)]) (e:=129) (s:=2) (n:=1) (kX_nil _) (by simp [maxLen]) rfl (fun W=>by kernel_rfl) fun b hb=>?_) | (with_reducible refine cregF ?_))
   exact ⟨_,_,rfl,rfl,.inr (List.mem_singleton.2 rfl)⟩
set_option maxRecDepth 100000 in
set_option maxHeartbeats 1000000 in
theorem rx_qstp {w:World} {s:MqS} {v:Int} (h:MqG s) (hN:s.n < 1073741824) (hv:I64 v):Calls Tryz.prog 86 #[mqv s,.int .i64 v] w fun en w'=>∃ u,en = .returned (.tuple #[mqv (mqn s v),u,.int .i64 0])∧w'.ownsRow w.heap.size 129 2 u (mqe s v).length (scells (mqe s v))∧Below w.heap.size w w':=by
 refine (enterX Tryz.func86 r15_Step.ok (args:=[mqv s,.int .i64 v]) (R:=fun u X=>∃ y L,u = .tuple #[mqv (mqn s v),y,.int .i64 0]∧X = kX w.heap.size L∧rowOf L 129 2 y (mqe s v).length (scells (mqe s v))) (by simp) ?run).mono ?fin
 case fin =>
  rintro e w' ⟨u,X,rfl,⟨y,L,rfl,rfl,hr⟩,hX,hbl,-⟩
  exact ⟨y,rfl,hr.own hX,hbl⟩
 case run =>
  have kv:=fun W=>rx_qval h W
  have fi:=fun W:World=>rx_qfin (w:=W) h
  have hn:=h.n
  have hb:(s.n == 1073741824) = false:=beq_eq_false_iff_ne.2 (by omega)
  have ft:=fun W=>rx_qfits (s:=mqx s v) (qmi_in h.lo hv) (qma_in h.hi hv) (qm_le h.le) h.t W
  clear h
  
  by_cases h0:0 < s.n
  ·have e1:mqn s v = if mqf (mqx s v) = true then mqx s v else mqb s.t v:=by unfold mqn mqg; rw [decide_eq_true h0,Bool.true_and]
   have e2:mqe s v = if mqf (mqx s v) = true then [] else mql s:=by unfold mqe mqg; rw [decide_eq_true h0,Bool.true_and]
   rw [e1,e2]
   clear e1 e2
   generalize mql s = ls at *
   generalize mqf (mqx s v) = r at *
   obtain ⟨t,n,lo,hi⟩:=s
   dsimp only [mqx] at *
   generalize hlo:qmi lo v = lo' at *
   generalize hhi:qma hi v = hi' at *
   unfold qmi at hlo
   unfold qma at hhi
   cases r
   ·rw [if_neg (by decide),if_neg (by decide)]
    repeat' (first | simp (disch:=omega) only [sxE,r15_Step.E,Nat.reduceAdd,Nat.reduceEqDiff,Nat.reduceMul,Nat.reduceSub,Int.reduceAdd,Int.reduceSub,Int.reduceMul,Int.reduceNeg,Int.reduceLT,Int.reduceLE,Int.reduceEq,Int.reduceToNat,↓reduceIte,Int.reducePow,Nat.reduceLeDiff,Nat.reduceLT,ne_eq,eq_self,List.length_cons,List.length_nil,hb,hlo,hhi,Bool.not_true] | (with_reducible refine Sx.call_at (f:=141) (fun W hW=>kv W) ?_) | (with_reducible refine Sx.call_at (f:=142) (fun W hW=>ft W) ?_) | (with_reducible refine cregF ?_))
    refine asks_rowB (L:=[]) (e:=129) (s:=2) (ι:=Unit) (fun _=>True) (fun _=>ls.length) (fun _=>scells ls) (fun _ y=>.tuple #[y,.int .i64 0]) en_r15_Finish (kX_nil _) (fun W hW hok=>by
    refine (fi W).mono ?_
    rintro e w' ⟨y,q1,q2,q3⟩
    exact ⟨(),y,trivial,q1,q2,q3⟩) ?_
    rintro - a5 c5 - - - - -
    repeat' (first | simp (disch:=omega) only [sxE,r15_Step.E,Nat.reduceAdd,Nat.reduceEqDiff,Nat.reduceMul,Nat.reduceSub,Int.reduceAdd,Int.reduceSub,Int.reduceMul,Int.reduceNeg,Int.reduceLT,Int.reduceLE,Int.reduceEq,Int.reduceToNat,↓reduceIte,Int.reducePow,Nat.reduceLeDiff,Nat.reduceLT,ne_eq,eq_self,List.length_cons,List.length_nil,Bool.not_true] | (with_reducible refine cregF ?_))
    exact ⟨_,_,rfl,rfl,.inr (List.mem_singleton.2 rfl)⟩
   ·rw [if_pos rfl,if_pos rfl]
    repeat' (first | simp (disch:=omega) only [sxE,r15_Step.E,Nat.reduceAdd,Nat.reduceEqDiff,Nat.reduceMul,Nat.reduceSub,Int.reduceAdd,Int.reduceSub,Int.reduceMul,Int.reduceNeg,Int.reduceLT,Int.reduceLE,Int.reduceEq,Int.reduceToNat,↓reduceIte,Int.reducePow,Nat.reduceLeDiff,Nat.reduceLT,ne_eq,eq_self,List.length_cons,List.length_nil,hb,hlo,hhi,Bool.not_true] | (with_reducible refine Sx.call_at (f:=141) (fun W hW=>kv W) ?_) | (with_reducible refine Sx.call_at (f:=142) (fun W hW=>ft W) ?_) | (with_reducible refine cregF ?_))
    exact ⟨.slice none 0 0,[],rfl,kX_nil _,.inl ⟨rfl,rfl,rfl⟩⟩
  ·have e1:mqn s v = mqb s.t v:=by unfold mqn mqg; rw [decide_eq_false h0,Bool.false_and,if_neg (by decide)]
   have e2:mqe s v = mql s:=by unfold mqe mqg; rw [decide_eq_false h0,Bool.false_and,if_neg (by decide)]
   rw [e1,e2]
   clear e1 e2 ft
   generalize mql s = ls at *
   obtain ⟨t,n,lo,hi⟩:=s
   dsimp only at *
   repeat' (first | simp (disch:=omega) only [sxE,r15_Step.E,Nat.reduceAdd,Nat.reduceEqDiff,Nat.reduceMul,Nat.reduceSub,Int.reduceAdd,Int.reduceSub,Int.reduceMul,Int.reduceNeg,Int.reduceLT,Int.reduceLE,Int.reduceEq,Int.reduceToNat,↓reduceIte,Int.reducePow,Nat.reduceLeDiff,Nat.reduceLT,ne_eq,eq_self,List.length_cons,List.length_nil,hb,Bool.not_true] | (with_reducible refine Sx.call_at (f:=141) (fun W hW=>kv W) ?_) | (with_reducible refine cregF ?_))
   refine asks_rowB (L:=[]) (e:=129) (s:=2) (ι:=Unit) (fun _=>True) (fun _=>ls.length) (fun _=>scells ls) (fun _ y=>.tuple #[y,.int .i64 0]) en_r15_Finish (kX_nil _) (fun W hW hok=>by
    refine (fi W).mono ?_
    rintro e w' ⟨y,q1,q2,q3⟩
    exact ⟨(),y,trivial,q1,q2,q3⟩) ?_
   rintro - a5 c5 - - - - -
   repeat' (first | simp (disch:=omega) only [sxE,r15_Step.E,Nat.reduceAdd,Nat.reduceEqDiff,Nat.reduceMul,Nat.reduceSub,Int.reduceAdd,Int.reduceSub,Int.reduceMul,Int.reduceNeg,Int.reduceLT,Int.reduceLE,Int.reduceEq,Int.reduceToNat,↓reduceIte,Int.reducePow,Nat.reduceLeDiff,Nat.reduceLT,ne_eq,eq_self,List.length_cons,List.length_nil,Bool.not_true] | (with_reducible refine cregF ?_))
   exact ⟨_,_,rfl,rfl,.inr (List.mem_singleton.2 rfl)⟩
set_option maxRecDepth 100000 in
set_option maxHeartbeats 1000000 in
theorem rx_qall {w:World} {v:Value} {zs:List Int} {t:Int} (h:SlZ w .i64 v zs) (ht:0≤t∧t≤4611686018427387904) (hl:zs.length≤1073741824):Calls Tryz.prog 27 #[v,.int .i64 t] w (QlB w (mqall t zs) 0):=by
 obtain ⟨a,len,cap,rfl,hlen0,h1,h2,h3,h4⟩:=id h
 subst hlen0
 have h2':=h2
 simp only [maxLen] at h2'
 have hz:∀ z∈zs,I64 z:=fun z hz=>I64.of_wf (h3 z hz)
 refine (enterX Tryz.func27 r15_All.ok (args:=[.slice a zs.length cap,.int .i64 t]) (R:=fun u X=>∃ v L,u = .tuple #[v,.int .i64 0]∧X = kX w.heap.size L∧rowOf L 129 2 v (mqall t zs).length (scells (mqall t zs))) (by simp) ?run).mono ?fin
 case fin =>
  rintro e w' ⟨u,X,rfl,⟨v,L,rfl,rfl,hr⟩,hX,hbl,-⟩
  exact ⟨v,rfl,hr.own hX,hbl⟩
 case run =>
  have k1:=fun W=>rx_qstart ht W
  have HI:=fun i hi=>mqi_at ht hz hl i hi
  clear ht
  repeat' (first | simp (disch:=omega) only [sxE,r15_All.E,Nat.reduceAdd,Nat.reduceEqDiff,Nat.reduceMul,Nat.reduceSub,Int.reduceAdd,Int.reduceSub,Int.reduceMul,Int.reduceNeg,Int.reduceLT,Int.reduceLE,Int.reduceEq,Int.reduceToNat,↓reduceIte,Int.reducePow,Nat.reduceLeDiff,Nat.reduceLT,ne_eq,eq_self,List.length_cons,List.length_nil,Bool.not_true] | (with_reducible refine Sx.call_at (f:=85) (fun W hW=>k1 W) ?_) | (with_reducible refine cregF ?_))
  rw [r15_All.p3_l]
  refine LX_inv (fun x:Nat × Value=>⟨1,[(0,.v (.slice a zs.length cap)),(6,.p 0 0),(8,.v x.2),(9,.v (.int .i64 (x.1:Int)))],[(0,[.int .i64 (mqF t (zs.take x.1)).1.t,.int .i64 (mqF t (zs.take x.1)).1.n,.int .i64 (mqF t (zs.take x.1)).1.lo,.int .i64 (mqF t (zs.take x.1)).1.hi])],kX w.heap.size [.g (wK 129 2 x.2 (mqF t (zs.take x.1)).2.length (scells (mqF t (zs.take x.1)).2))]⟩) (fun x=>x.1≤zs.length) (fun x=>zs.length - x.1) ?round (0,.slice none 0 0) (Nat.zero_le _) ?start
  case start =>
   have c0:((0:Nat):Int) = 0:=rfl
   simp (disch:=omega) only [sxE,r15_All.E,Nat.reduceAdd,Nat.reduceEqDiff,Nat.reduceMul,Nat.reduceSub,Int.reduceAdd,Int.reduceSub,Int.reduceMul,Int.reduceNeg,Int.reduceLT,Int.reduceLE,Int.reduceEq,Int.reduceToNat,↓reduceIte,Int.reducePow,Nat.reduceLeDiff,Nat.reduceLT,ne_eq,eq_self,List.length_cons,List.length_nil,c0]
   refine ⟨?_,?_⟩
   ·rfl
   ·rw [kX_nil w.heap.size]
    refine extS_of (L:=[]) fun k hk=>?_
    rw [List.mem_singleton.1 hk]
    exact .inr ⟨rfl,fun W=>wK_nil _ _ _ W⟩
  case round =>
   rintro ⟨i,v⟩ hi'
   try dsimp only at hi' ⊢
   by_cases hlt:i < zs.length
   ·obtain ⟨b',off,rfl,-,-⟩:=h4 (by omega)
    have hsi:=HI i hi'
    have hG:=hsi.g
    have enx:mqF t (zs.take (i + 1)) = mqa (mqF t (zs.take i)) (zs.getD i 0):=by rw [qtake hlt,mqF_snoc]
    have hx:=qget hz i
    have e0:(i:Int) + 1 = ((i + 1:Nat):Int):=by omega
    have hN:=hsi.n
    have hlen:=hsi.len
    have hle2:=mqe_len (mqF t (zs.take i)).1 (zs.getD i 0)
    unfold mqa at enx
    generalize hA:mqF t (zs.take i) = A at *
    obtain ⟨⟨st,sn,sl,sh⟩,ls⟩:=A
    clear hA h3 h4 hsi HI
    dsimp only at hG hlen enx hle2 hN ⊢
    repeat' (first | simp (disch:=omega) only [sxE,r15_All.E,Nat.reduceAdd,Nat.reduceEqDiff,Nat.reduceMul,Nat.reduceSub,Int.reduceAdd,Int.reduceSub,Int.reduceMul,Int.reduceNeg,Int.reduceLT,Int.reduceLE,Int.reduceEq,Int.reduceToNat,↓reduceIte,Int.reducePow,Nat.reduceLeDiff,Nat.reduceLT,ne_eq,eq_self,List.length_cons,List.length_nil] | (with_reducible refine ldP_blk b' ?_; refine ldP_z i h ?_ ?_ ?_; omega; omega) | (with_reducible refine cregF ?_))
    refine asks_rowB (L:=[.g (wK 129 2 v ls.length (scells ls))]) (e:=129) (s:=2) (ι:=Unit) (fun _=>True) (fun _=>(mqe ⟨st,sn,sl,sh⟩ (zs.getD i 0)).length) (fun _=>scells (mqe ⟨st,sn,sl,sh⟩ (zs.getD i 0))) (fun _ v=>.tuple #[mqv (mqn ⟨st,sn,sl,sh⟩ (zs.getD i 0)),v,.int .i64 0]) en_r15_Step rfl (fun W hW hok=>?_) ?_
    ·exact (rx_qstp (w:=W) hG (by show sn < 1073741824; omega) hx).mono fun e w' ⟨v,h1,h2,h3⟩=>⟨(),v,trivial,h1,h2,h3⟩
    rintro - a2 c2 - - - - -
    generalize mqe ⟨st,sn,sl,sh⟩ (zs.getD i 0) = es at *
    generalize mqn ⟨st,sn,sl,sh⟩ (zs.getD i 0) = s' at *
    clear hG hx hN
    obtain ⟨st',sn',sl',sh'⟩:=s'
    repeat' (first | simp (disch:=omega) only [sxE,r15_All.E,Nat.reduceAdd,Nat.reduceEqDiff,Nat.reduceMul,Nat.reduceSub,Int.reduceAdd,Int.reduceSub,Int.reduceMul,Int.reduceNeg,Int.reduceLT,Int.reduceLE,Int.reduceEq,Int.reduceToNat,↓reduceIte,Int.reducePow,Nat.reduceLeDiff,Nat.reduceLT,ne_eq,eq_self,List.length_cons,List.length_nil] | (refine genA_appR rfl [] elt_constq rfl (.inr (List.mem_cons_of_mem _ List.mem_cons_self)) (.inr List.mem_cons_self) (.inl fun _ h=>h) (scells_1q _) (by simp only [maxLen]; omega) (by omega) (fun k hk=>by cases hk) fun a3 c3 _ _ _ _=>?_) | (with_reducible refine cregF ?_))
    rw [e0]
    refine ⟨(i + 1,.slice a3 (ls.length + es.length) c3),by dsimp only; omega,by dsimp only; omega,⟨rfl,rfl⟩,?_,.inl ?_⟩
    ·dsimp only
     rw [enx]
    ·dsimp only
     rw [enx]
     dsimp only
     rw [List.length_append,scells_apq]
   ·obtain rfl:i = zs.length:=by omega
    have hsi:=HI _ (Nat.le_refl _)
    rw [List.take_length] at hsi ⊢
    have hG:=hsi.g
    have hlen:=hsi.len
    have hll:=mql_len (mqF t zs).1
    unfold mqall
    generalize hA:mqF t zs = A at *
    obtain ⟨⟨st,sn,sl,sh⟩,ls⟩:=A
    clear hA h3 h4 hsi HI
    dsimp only at hG hlen hll ⊢
    repeat' (first | simp (disch:=omega) only [sxE,r15_All.E,Nat.reduceAdd,Nat.reduceEqDiff,Nat.reduceMul,Nat.reduceSub,Int.reduceAdd,Int.reduceSub,Int.reduceMul,Int.reduceNeg,Int.reduceLT,Int.reduceLE,Int.reduceEq,Int.reduceToNat,↓reduceIte,Int.reducePow,Nat.reduceLeDiff,Nat.reduceLT,ne_eq,eq_self,List.length_cons,List.length_nil] | (with_reducible refine cregF ?_))
    refine asks_rowB (L:=[.g (wK 129 2 v ls.length (scells ls))]) (e:=129) (s:=2) (ι:=Unit) (fun _=>True) (fun _=>(mql ⟨st,sn,sl,sh⟩).length) (fun _=>scells (mql ⟨st,sn,sl,sh⟩)) (fun _ v=>.tuple #[v,.int .i64 0]) en_r15_Finish rfl (fun W hW hok=>?_) ?_
    ·exact (rx_qfin (w:=W) hG).mono fun e w' ⟨v,h1,h2,h3⟩=>⟨(),v,trivial,h1,h2,h3⟩
    rintro - a2 c2 - - - - -
    generalize mql ⟨st,sn,sl,sh⟩ = es at *
    clear hG
    repeat' (first | simp (disch:=omega) only [sxE,r15_All.E,Nat.reduceAdd,Nat.reduceEqDiff,Nat.reduceMul,Nat.reduceSub,Int.reduceAdd,Int.reduceSub,Int.reduceMul,Int.reduceNeg,Int.reduceLT,Int.reduceLE,Int.reduceEq,Int.reduceToNat,↓reduceIte,Int.reducePow,Nat.reduceLeDiff,Nat.reduceLT,ne_eq,eq_self,List.length_cons,List.length_nil] | (refine genA_appR rfl [] elt_constq rfl (.inr (List.mem_cons_of_mem _ List.mem_cons_self)) (.inr List.mem_cons_self) (.inl fun _ h=>h) (scells_1q _) (by simp only [maxLen]; omega) (by omega) (fun k hk=>by cases hk) fun a3 c3 _ _ _ _=>?_) | (with_reducible refine cregF ?_))
    refine ⟨_,_,rfl,rfl,.inr ?_⟩
    rw [List.length_append,scells_apq]
    exact List.mem_singleton.2 rfl
end Go.Proofs.YtncmmbacoknefaaGreat

/- Qs: midrange: the segments, plain; what constants stand for. -/
namespace Go.Proofs.YtncmmbacoknefaaGreat
open Go Go.RowKit Sx
set_option linter.unusedVariables false
set_option linter.unusedSimpArgs false
def cz1 (c:Int × Int):List Int:=if 1≤c.1∧c.1≤1073741824 then List.replicate c.1.toNat c.2 else []
def cz (cs:Smps):List Int:=cs.flatMap cz1
theorem cz_take {cs:Smps} {i:Nat} (h:i < cs.length):cz (cs.take (i + 1)) = cz (cs.take i) ++ cz1 (cs.getD i (0,0)):=by
 unfold cz
 rw [List.take_add_one,List.getElem?_eq_getElem h,List.flatMap_append,List.getD_eq_getElem?_getD,List.getElem?_eq_getElem h]
 simp
theorem cz_le {cs:Smps} (i:Nat):(cz (cs.take i)).length≤(cz cs).length:=by
 have e:cz cs = cz (cs.take i) ++ cz (cs.drop i):=by
  unfold cz
  rw [← List.flatMap_append,List.take_append_drop]
 rw [e,List.length_append]
 omega
theorem cz_cons (c:Int × Int) (cs:Smps):cz (c :: cs) = cz1 c ++ cz cs:=rfl
theorem cz_in {cs:Smps} (h:∀ c∈cs,I64 c.2):∀ z∈cz cs,I64 z:=fun z hz=>by
 unfold cz at hz
 obtain ⟨c,hc,hz⟩:=List.mem_flatMap.1 hz
 unfold cz1 at hz
 split at hz
 ·rw [(List.mem_replicate.1 hz).2]; exact h c hc
 ·cases hz
def qlo (zs:List Int) (a:Nat):Nat→Int
 | 0=>zs.getD a 0
 | j + 1=>qmi (qlo zs a j) (zs.getD (a + (j + 1)) 0)
def qhi (zs:List Int) (a:Nat):Nat→Int
 | 0=>zs.getD a 0
 | j + 1=>qma (qhi zs a j) (zs.getD (a + (j + 1)) 0)
def qst (t:Int) (zs:List Int) (a m:Nat):MqS:=⟨t,(m:Int) + 1,qlo zs a m,qhi zs a m⟩
theorem mqx_qst (t:Int) (zs:List Int) (a m:Nat):mqx (qst t zs a m) (zs.getD (a + (m + 1)) 0) = qst t zs a (m + 1):=by
 show (⟨t,(m:Int) + 1 + 1,qmi (qlo zs a m) (zs.getD (a + (m + 1)) 0),qma (qhi zs a m) (zs.getD (a + (m + 1)) 0)⟩:MqS) = ⟨t,((m + 1:Nat):Int) + 1,_,_⟩
 rw [show ((m + 1:Nat):Int) + 1 = (m:Int) + 1 + 1 by omega]
 rfl
def qsg (zs:List Int) (a m:Nat):Int × Int:=((m:Int) + 1,(qlo zs a m + qhi zs a m) / 2)
theorem mql_qst (t:Int) (zs:List Int) (a m:Nat):mql (qst t zs a m) = [qsg zs a m]:=by
 unfold mql
 rw [if_neg (show ¬ (qst t zs a m).n = 0 by show ¬ (m:Int) + 1 = 0; omega)]
 rfl
def QOk (t:Int) (zs:List Int):Nat→Smps→Nat→Prop
 | a,[],e=>a = e
 | a,x :: l,e=>∃ m,x = qsg zs a m∧a + m + 1≤e∧mqf (qst t zs a m) = true∧QOk t zs (a + m + 1) l e
theorem QOk.le {t:Int} {zs:List Int}:∀ {l:Smps} {a e:Nat},QOk t zs a l e→a≤e
 | [],a,e,h=>Nat.le_of_eq h
 | x :: l,a,e,⟨m,_,_,_,h⟩=>by have:=QOk.le h; omega
theorem QOk.snoc {t:Int} {zs:List Int} {b m:Nat} (hf:mqf (qst t zs b m) = true):∀ {l:Smps} {a:Nat},QOk t zs a l b→QOk t zs a (l ++ [qsg zs b m]) (b + m + 1)
 | [],a,h=>by
  have h:a = b:=h
  subst h
  exact ⟨m,rfl,Nat.le_refl _,hf,rfl⟩
 | x :: l,a,⟨n,h1,h2,h3,h⟩=>⟨n,h1,by have:=h.le; omega,h3,QOk.snoc hf h⟩
theorem qf_zero {t:Int} (ht:0≤t) (zs:List Int) (a:Nat):mqf (qst t zs a 0) = true:=decide_eq_true (by show zs.getD a 0 - zs.getD a 0≤2 * t; omega)
theorem mqj_at {t:Int} {zs:List Int} (ht:0≤t):∀ i,i + 1≤zs.length→∃ a m,a + m = i∧QOk t zs 0 (mqF t (zs.take (i + 1))).2 a∧(mqF t (zs.take (i + 1))).1 = qst t zs a m∧mqf (qst t zs a m) = true
 | 0,h=>by
  have e1:mqF t (zs.take (0 + 1)) = (mqb t (zs.getD 0 0),[]):=by
   rw [qtake (by omega),mqF_snoc]
   rfl
  rw [e1]
  exact ⟨0,0,rfl,rfl,rfl,qf_zero ht zs 0⟩
 | i + 1,h=>by
  obtain ⟨a,m,h1,h2,h3,h4⟩:=mqj_at (zs:=zs) ht i (by omega)
  rw [qtake (by omega),mqF_snoc]
  generalize mqF t (zs.take (i + 1)) = A at *
  obtain ⟨s,l⟩:=A
  dsimp only at h2 h3
  subst h3
  have hi:i + 1 = a + (m + 1):=by omega
  have hm:mqg (qst t zs a m) (zs.getD (i + 1) 0) = mqf (qst t zs a (m + 1)):=by
   unfold mqg
   rw [hi,mqx_qst,show decide (0 < (qst t zs a m).n) = true from decide_eq_true (by show (0:Int) < (m:Int) + 1; omega),Bool.true_and]
  show ∃ a' m',a' + m' = i + 1∧QOk t zs 0 (l ++ mqe (qst t zs a m) (zs.getD (i + 1) 0)) a'∧mqn (qst t zs a m) (zs.getD (i + 1) 0) = qst t zs a' m'∧mqf (qst t zs a' m') = true
  cases hb:mqf (qst t zs a (m + 1))
  ·rw [hb] at hm
   refine ⟨i + 1,0,rfl,?_,?_,qf_zero ht zs _⟩
   ·unfold mqe
    rw [hm,if_neg (by decide),mql_qst,show i + 1 = a + m + 1 by omega]
    exact h2.snoc h4
   ·unfold mqn
    rw [hm,if_neg (by decide)]
    rfl
  ·rw [hb] at hm
   refine ⟨a,m + 1,by omega,?_,?_,hb⟩
   ·unfold mqe
    rw [hm,if_pos rfl,List.append_nil]
    exact h2
   ·unfold mqn
    rw [hm,if_pos rfl,hi]
    exact mqx_qst t zs a m
theorem mqall_ok {t:Int} {zs:List Int} (ht:0≤t):QOk t zs 0 (mqall t zs) zs.length:=by
 cases hn:zs.length with
 | zero =>
  obtain rfl:zs = []:=List.eq_nil_of_length_eq_zero hn
  rfl
 | succ i =>
  obtain ⟨a,m,h1,h2,h3,h4⟩:=mqj_at (t:=t) (zs:=zs) ht i (by omega)
  rw [show zs.take (i + 1) = zs by rw [← hn]; exact List.take_length] at h2 h3
  have e:mqall t zs = (mqF t zs).2 ++ [qsg zs a m]:=by
   unfold mqall
   rw [h3,mql_qst]
  rw [e,← h1]
  exact h2.snoc h4
theorem qlo_le {zs:List Int} {a:Nat}:∀ {m j:Nat},j≤m→qlo zs a m≤zs.getD (a + j) 0∧zs.getD (a + j) 0≤qhi zs a m
 | 0,j,h=>by
  obtain rfl:j = 0:=by omega
  exact ⟨Int.le_refl _,Int.le_refl _⟩
 | m + 1,j,h=>by
  have e1:qlo zs a (m + 1) = qmi (qlo zs a m) (zs.getD (a + (m + 1)) 0):=rfl
  have e2:qhi zs a (m + 1) = qma (qhi zs a m) (zs.getD (a + (m + 1)) 0):=rfl
  rw [e1,e2]
  by_cases hj:j = m + 1
  ·subst hj
   unfold qmi qma
   constructor <;> split <;> omega
  ·obtain ⟨q1,q2⟩:=qlo_le (zs:=zs) (a:=a) (m:=m) (j:=j) (by omega)
   unfold qmi qma
   constructor <;> split <;> omega
theorem qlo_in {zs:List Int} (hz:∀ z∈zs,I64 z) (a:Nat):∀ m:Nat,I64 (qlo zs a m)∧I64 (qhi zs a m)
 | 0=>⟨qget hz a,qget hz a⟩
 | m + 1=>⟨qmi_in (qlo_in hz a m).1 (qget hz _),qma_in (qlo_in hz a m).2 (qget hz _)⟩
theorem QOk.in64 {t:Int} {zs:List Int} (hz:∀ z∈zs,I64 z) (hl:zs.length≤1073741824):∀ {l:Smps} {a e:Nat},e≤zs.length→QOk t zs a l e→∀ c∈l,I64 c.1∧I64 c.2
 | [],a,e,_,h,c,hc=>by cases hc
 | x :: l,a,e,he,⟨m,h1,h2,h3,h⟩,c,hc=>by
  rcases List.mem_cons.1 hc with rfl | hc
  ·obtain ⟨⟨q1,q2⟩,⟨q3,q4⟩⟩:=qlo_in hz a m
   rw [h1]
   exact ⟨⟨by show _≤(m:Int) + 1; omega,by show (m:Int) + 1≤_; omega⟩,⟨by show _≤(qlo zs a m + qhi zs a m) / 2; omega,by show (qlo zs a m + qhi zs a m) / 2≤_; omega⟩⟩
  ·exact h.in64 hz hl he c hc
theorem QOk.cz_len {t:Int} {zs:List Int} (hl:zs.length≤1073741824):∀ {l:Smps} {a e:Nat},e≤zs.length→QOk t zs a l e→a + (cz l).length = e
 | [],a,e,_,h=>h
 | x :: l,a,e,he,⟨m,h1,h2,h3,h⟩=>by
  have:=h.cz_len hl he
  rw [cz_cons,List.length_append,h1]
  unfold qsg cz1
  dsimp only
  rw [if_pos ⟨by omega,by omega⟩,List.length_replicate]
  omega
theorem QOk.cz_near {t:Int} {zs:List Int} (hl:zs.length≤1073741824):∀ {l:Smps} {a e:Nat},e≤zs.length→QOk t zs a l e→∀ j,j < (cz l).length→(cz l).getD j 0 - zs.getD (a + j) 0≤t∧zs.getD (a + j) 0 - (cz l).getD j 0≤t
 | [],a,e,_,h,j,hj=>absurd hj (Nat.not_lt_zero _)
 | x :: l,a,e,he,⟨m,h1,h2,h3,h⟩,j,hj=>by
  have ih:=h.cz_near hl he
  have e1:cz1 x = List.replicate (m + 1) ((qlo zs a m + qhi zs a m) / 2):=by
   rw [h1]
   unfold qsg cz1
   dsimp only
   rw [if_pos ⟨by omega,by omega⟩]
   congr 1
  rw [cz_cons,e1] at hj ⊢
  by_cases hjm:j < m + 1
  ·have e2:(List.replicate (m + 1) ((qlo zs a m + qhi zs a m) / 2) ++ cz l).getD j 0 = (qlo zs a m + qhi zs a m) / 2:=by
    rw [List.getD_eq_getElem?_getD,List.getElem?_append_left (by rw [List.length_replicate]; exact hjm),List.getElem?_replicate,if_pos hjm]
    rfl
   rw [e2]
   have h3':qhi zs a m - qlo zs a m≤2 * t:=of_decide_eq_true h3
   obtain ⟨q1,q2⟩:=qlo_le (zs:=zs) (a:=a) (m:=m) (j:=j) (by omega)
   omega
  ·have e2:(List.replicate (m + 1) ((qlo zs a m + qhi zs a m) / 2) ++ cz l).getD j 0 = (cz l).getD (j - (m + 1)) 0:=by
    rw [List.getD_eq_getElem?_getD,List.getElem?_append_right (by rw [List.length_replicate]; omega),List.length_replicate,List.getD_eq_getElem?_getD]
   rw [e2]
   rw [List.length_append,List.length_replicate] at hj
   have:=ih (j - (m + 1)) (by omega)
   rw [show a + m + 1 + (j - (m + 1)) = a + j by omega] at this
   exact this
end Go.Proofs.YtncmmbacoknefaaGreat

/- Rm: rebuild.Lines. -/
namespace Go.Proofs.YtncmmbacoknefaaGreat
open Go Go.RowKit Sx
set_option linter.unusedVariables false
set_option linter.unusedSimpArgs false
def ZlB (w:World) (zs:List Int) (er:Int) (en:Ending) (w':World):Prop:=∃ v,en = .returned (.tuple #[v,.int .i64 er])∧w'.ownsRow w.heap.size 2 1 v zs.length (zs.map (Value.int .i64))∧Below w.heap.size w w'
theorem rlvs_sub {x:RlN} {T:List Int} {l n:Nat}:∀ {k:Nat},k≤n→rlvs x ((T.drop l).take n) 0 k = rlvs x T l k
 | 0,_=>rfl
 | k + 1,h=>by
  unfold rlvs
  rw [rlvs_sub (show k≤n by omega),Nat.zero_add,sub_get (show k < n by omega),sub_get (show 0 < n by omega),Nat.add_zero]
theorem all1_map (zs:List Int):all1 (zs.map (Value.int .i64)) = true:=by
 induction zs with
 | nil=>rfl
 | cons z l ih=>rw [List.map_cons]; exact ih
theorem mem_rl {L:List RlN} {i:Nat} (h:i < L.length):L.getD i rl0∈L:=by
 rw [List.getD_eq_getElem?_getD,List.getElem?_eq_getElem h]
 exact List.getElem_mem h
theorem genRun_sllh {P:Program} {t e:TypeId} {size bytes:Nat} (hE:ElT P t e size bytes) {a:Option Addr} {len cap l h:Nat} (hl:l≤h) (hc:h≤cap) (W:World):(genRun (.sl t true true false) [.slice a len cap,.int .i64 (l:Int),.int .i64 (h:Int)]).run P W = .ok (.value (.slice (slA a l cap size) (h - l) (cap - l))) W:=by
 show (do let x ← Instr.sliceAt t (.slice a len cap) (some (.int .i64 (l:Int))) (some (.int .i64 (h:Int))) none; pure (Next.value x)).run P W = _
 rw [run_bind_ok (run_sllh hE a len cap l h hl hc W)]
 rfl
theorem rlch_nil (z:Int):rlch [] z = decide (z = 0):=rfl
theorem rlch_cons (x:RlN) (l:List RlN) (z:Int):rlch (x :: l) z = (decide (1≤x.n) && (decide (x.n≤z) && rlch l (z - x.n))):=rfl
theorem rlall_nil (T:List Int) (a:Nat):rlall T [] a = []:=rfl
theorem rlall_cons (T:List Int) (x:RlN) (l:List RlN) (a:Nat):rlall T (x :: l) a = rlvs x T a x.n.toNat ++ rlall T l (a + x.n.toNat):=rfl
set_option maxRecDepth 100000 in
set_option maxHeartbeats 2000000 in
theorem gx_lines {w:World} {v tv:Value} {L:List RlN} {T:List Int} (h:SlL w v L) (hT:SlZ w .i64 tv T) (hN:8 * T.length≤140737488351232):Calls Tryz.prog 23 #[v,tv] w (ZlB w (rlout L T) (rlerr L T)):=by
 obtain ⟨a,cap,rfl,h1,h2,h3,h4⟩:=id h
 obtain ⟨s,n9,tc,rfl,t1,t2,t3,t4,t5⟩:=id hT
 subst t1
 simp only [maxLen] at h2 t3
 refine (enterX Tryz.func23 rebuild_Lines.ok (args:=[.slice a L.length cap,.slice s T.length tc]) (R:=fun u X=>∃ v Q,u = .tuple #[v,.int .i64 (rlerr L T)]∧X = kX w.heap.size Q∧rowOf Q 2 1 v (rlout L T).length ((rlout L T).map (Value.int .i64))) (by simp) ?run).mono ?fin
 case fin =>
  rintro e w' ⟨u,X,rfl,⟨v,L,rfl,rfl,hr⟩,hX,hbl,-⟩
  exact ⟨v,rfl,hr.own hX,hbl⟩
 case run =>
  have inc:=fun W (hW:Below w.heap.size w W)=>gives_known en_stamps_Increasing (gx_inc (SlZ.below hT hW))
  cases hic:incz T
  ·rw [hic] at inc
   have e1:rlerr L T = 7:=by unfold rlerr; rw [hic]; rfl
   have e2:rlout L T = []:=by unfold rlout; rw [e1]; rfl
   rw [e1,e2]
   repeat' (first | simp (disch:=omega) only [sxE,rebuild_Lines.E,Nat.reduceAdd,Nat.reduceEqDiff,Nat.reduceMul,Nat.reduceSub,Int.reduceAdd,Int.reduceSub,Int.reduceMul,Int.reduceNeg,Int.reduceLT,Int.reduceLE,Int.reduceEq,Int.reduceToNat,↓reduceIte,Int.reducePow,Nat.reduceLeDiff,Nat.reduceLT,ne_eq,eq_self,List.length_cons,List.length_nil,qxE] | (with_reducible refine Sx.call_at (f:=79) (fun W hW=>inc W hW) ?_) | (with_reducible refine cregF ?_))
   exact ⟨.slice none 0 0,[],rfl,kX_nil _,.inl ⟨rfl,rfl,rfl⟩⟩
  ·rw [hic] at inc
   have e1:rlerr L T = if rlch L T.length = true then 0 else 10:=by unfold rlerr; rw [hic]; rfl
   have er1:rlch L T.length = false→rlerr L T = 10∧rlout L T = []:=fun hh=>by
    have e:rlerr L T = 10:=by rw [e1,hh]; rfl
    exact ⟨e,by unfold rlout; rw [e]; rfl⟩
   have er0:rlch L T.length = true→rlerr L T = 0∧rlout L T = rlall T L 0:=fun hh=>by
    have e:rlerr L T = 0:=by rw [e1,hh]; rfl
    exact ⟨e,by unfold rlout; rw [e]; rfl⟩
   clear e1
   repeat' (first | simp (disch:=omega) only [sxE,rebuild_Lines.E,Nat.reduceAdd,Nat.reduceEqDiff,Nat.reduceMul,Nat.reduceSub,Int.reduceAdd,Int.reduceSub,Int.reduceMul,Int.reduceNeg,Int.reduceLT,Int.reduceLE,Int.reduceEq,Int.reduceToNat,↓reduceIte,Int.reducePow,Nat.reduceLeDiff,Nat.reduceLT,ne_eq,eq_self,List.length_cons,List.length_nil,qxE] | (with_reducible refine Sx.call_at (f:=79) (fun W hW=>inc W hW) ?_) | (with_reducible refine cregF ?_))
   rw [rebuild_Lines.p5_l]
   refine LX_inv (fun x:Nat × Value × List Int=>⟨0,[(1,.v (.slice s T.length tc)),(6,.v x.2.1),(12,.v (.slice a L.length cap)),(13,.v (.int .i64 (L.length:Int))),(14,.v (.int .i64 (x.1:Int)))],[],kX w.heap.size [.g (wK 2 1 x.2.1 x.2.2.length (x.2.2.map (Value.int .i64)))]⟩) (fun x=>(∃ a c,x.2.1 = .slice a x.2.2.length c)∧x.1≤L.length∧x.2.2.length≤T.length∧rlch L T.length = rlch (L.drop x.1) ((T.length:Int) - x.2.2.length)∧rlall T L 0 = x.2.2 ++ rlall T (L.drop x.1) x.2.2.length) (fun x=>L.length - x.1) ?round (0,.slice none 0 0,[]) ⟨⟨none,0,rfl⟩,Nat.zero_le _,Nat.zero_le _,by rw [List.drop_zero]; first | rfl | (congr 1; omega),by rw [List.drop_zero]; rfl⟩ ?start
   case start =>
    have c0:((0:Nat):Int) = 0:=rfl
    simp (disch:=omega) only [sxE,rebuild_Lines.E,Nat.reduceAdd,Nat.reduceEqDiff,Nat.reduceMul,Nat.reduceSub,Int.reduceAdd,Int.reduceSub,Int.reduceMul,Int.reduceNeg,Int.reduceLT,Int.reduceLE,Int.reduceEq,Int.reduceToNat,↓reduceIte,Int.reducePow,Nat.reduceLeDiff,Nat.reduceLT,ne_eq,eq_self,List.length_cons,List.length_nil,c0]
    rw [kX_nil w.heap.size]
    refine extS_of (L:=[]) fun k hk=>?_
    rw [List.mem_singleton.1 hk]
    exact .inr ⟨rfl,fun W=>wK_nil _ _ _ W⟩
   case round =>
    rintro ⟨i,u,ol⟩ ⟨⟨ua,uc,hu⟩,hi,hol,hch,hall⟩
    try dsimp only at hu hi hol hch hall ⊢
    subst hu
    by_cases hlt:i < L.length
    ·obtain ⟨b',off,rfl,-,-⟩:=h4 (by omega)
     have e0:(i:Int) + 1 = ((i + 1:Nat):Int):=by omega
     rw [rdrop hlt] at hch hall
     have hok:=h3 _ (mem_rl hlt)
     generalize hx:L.getD i rl0 = x at *
     rw [rlch_cons] at hch
     rw [rlall_cons] at hall
     have hrun:=fun W (hW:Below w.heap.size w W) (n:Nat) (e:x.n = (n:Int)) (hn:1≤n) (hn2:ol.length + n≤T.length)=>gx_run (w:=W) hok (slz_sub (l:=ol.length) (n:=n) (SlZ.below hT hW) hn2) hn (by omega) (fun j hj=>by
      rw [sub_get (by omega),sub_get hj]
      exact incz_le hic (by omega) (by omega))
     obtain ⟨n,xv,g,xa,b,c,d,hh,e,f,ii,j,p,q⟩:=x
     have hn64:=hok.n
     have hv64:=hok.v
     have ov:=fun W=>gx_of hv64 W
     dsimp only at hch hall hn64 hrun ov
     
     by_cases hn1:1≤n
     ·by_cases hn2:n≤(T.length:Int) - ol.length
      ·rw [decide_eq_true hn1,decide_eq_true hn2,Bool.true_and,Bool.true_and] at hch
       obtain ⟨m,rfl⟩:∃ m:Nat,n = (m:Int):=⟨n.toNat,by omega⟩
       rw [Int.toNat_natCast] at hall
       have hrun:=fun W hW=>hrun W hW m rfl (by omega) (by omega)
       rw [rlvs_sub (Nat.le_refl m)] at hrun
       have hvl:=rlvs_len ⟨m,xv,g,xa,b,c,d,hh,e,f,ii,j,p,q⟩ T ol.length m
       generalize rlvs ⟨m,xv,g,xa,b,c,d,hh,e,f,ii,j,p,q⟩ T ol.length m = vs at *
       
       repeat' (first | simp (disch:=omega) only [sxE,rebuild_Lines.E,Nat.reduceAdd,Nat.reduceEqDiff,Nat.reduceMul,Nat.reduceSub,Int.reduceAdd,Int.reduceSub,Int.reduceMul,Int.reduceNeg,Int.reduceLT,Int.reduceLE,Int.reduceEq,Int.reduceToNat,↓reduceIte,Int.reducePow,Nat.reduceLeDiff,Nat.reduceLT,ne_eq,eq_self,List.length_cons,List.length_nil,qxE] | ((with_reducible refine ldP_blk b' ?_); refine ldP_L i 0 [.int .i64 (m:Int),.int .i64 xv,.bool g,.int .u64 xa,.int .u64 b,.int .u64 c,.int .u64 d,.bool hh,.int .u64 e,.int .u64 f,.int .u64 ii,.int .u64 j] h (by omega) hlt rfl (fun k v hk=>by rw [hx,Nat.zero_add]; exact hk) ?_) | (with_reducible refine Sx.call_at (f:=81) (fun W hW=>ov W) ?_) | (with_reducible refine cregF ?_))
       have el:(ol.length:Int) + (m:Int) = ((ol.length + m:Nat):Int):=by omega
       rw [el]
       refine ⟨_,fun W=>genRun_sllh elt_int64 (Nat.le_add_right _ _) (by omega) W,?_⟩
       rw [Nat.add_sub_cancel_left]
       repeat' (first | simp (disch:=omega) only [sxE,rebuild_Lines.E,Nat.reduceAdd,Nat.reduceEqDiff,Nat.reduceMul,Nat.reduceSub,Int.reduceAdd,Int.reduceSub,Int.reduceMul,Int.reduceNeg,Int.reduceLT,Int.reduceLE,Int.reduceEq,Int.reduceToNat,↓reduceIte,Int.reducePow,Nat.reduceLeDiff,Nat.reduceLT,ne_eq,eq_self,List.length_cons,List.length_nil,qxE] | (with_reducible refine cregF ?_))
       
       refine asks_kn (ι:=Nat) (L:=[.g (wK 2 1 (.slice ua ol.length uc) ol.length (ol.map (Value.int .i64)))]) (gs:=[]) (fun g=>.slice (some ⟨g,0,none⟩) m m) (fun g=>[.g (cK g (vs.map (Value.int .i64))),.g (wK 2 1 (.slice ua ol.length uc) ol.length (ol.map (Value.int .i64)))]) ?he ?hT (fun x hx=>by cases hx) (fun W hok x hx=>by cases hx) (fun W hW hok=>?rep) fun g=>?_
       case he=>exact en_run
       case hT=>rfl
       case rep =>
        refine (hrun W hW).mono fun e w' ⟨g,h1,h2,h3,h4⟩=>⟨g,h1,moves_below h2,fun k hk=>?_⟩
        rcases List.mem_cons.1 hk with rfl | hk
        ·refine .inr ⟨⟨Nat.le_trans hW.size h3,h4⟩,fun c hc=>.inr ?_⟩
         rw [cK_bs.1 hc]
         exact h3
        ·exact .inl ⟨hk,fun _ _ h=>by cases h⟩
       clear hrun
       repeat' (first | simp (disch:=omega) only [sxE,rebuild_Lines.E,Nat.reduceAdd,Nat.reduceEqDiff,Nat.reduceMul,Nat.reduceSub,Int.reduceAdd,Int.reduceSub,Int.reduceMul,Int.reduceNeg,Int.reduceLT,Int.reduceLE,Int.reduceEq,Int.reduceToNat,↓reduceIte,Int.reducePow,Nat.reduceLeDiff,Nat.reduceLT,ne_eq,eq_self,List.length_cons,List.length_nil,qxE] | (with_reducible refine cregF ?_))
       refine genA_lit rfl [] elt_int64 rfl (.inr (List.mem_cons_of_mem _ (List.mem_singleton.2 rfl))) (.inr fun x hx=>kX_bs.2 ⟨_,List.mem_singleton.2 rfl,wK_bs.2 hx⟩) List.mem_cons_self (by rw [List.length_map,Nat.mul_one]; exact hvl) (by omega) (all1_map vs) (by simp only [maxLen]; omega) (by omega) (fun k hk=>by cases hk) fun g3 cap3 _ _ _ _=>?_
       repeat' (first | simp (disch:=omega) only [sxE,rebuild_Lines.E,Nat.reduceAdd,Nat.reduceEqDiff,Nat.reduceMul,Nat.reduceSub,Int.reduceAdd,Int.reduceSub,Int.reduceMul,Int.reduceNeg,Int.reduceLT,Int.reduceLE,Int.reduceEq,Int.reduceToNat,↓reduceIte,Int.reducePow,Nat.reduceLeDiff,Nat.reduceLT,ne_eq,eq_self,List.length_cons,List.length_nil,qxE] | (with_reducible refine cregF ?_))
       rw [e0]
       refine ⟨(i + 1,.slice (some ⟨g3,0,none⟩) (ol.length + m) cap3,ol ++ vs),⟨⟨_,_,by rw [List.length_append,hvl]⟩,by dsimp only; omega,by dsimp only; rw [List.length_append]; omega,?_,?_⟩,by dsimp only; omega,⟨rfl,rfl⟩,.inl ?_⟩
       ·dsimp only
        rw [hch,List.length_append,hvl]
        congr 1
        omega
       ·dsimp only
        rw [hall,List.length_append,hvl,List.append_assoc]
       ·dsimp only
        rw [List.length_append,hvl,List.map_append]
      ·rw [decide_eq_false hn2,Bool.false_and,Bool.and_false] at hch
       obtain ⟨q1,q2⟩:=er1 hch
       rw [q1,q2]
       clear hrun
       repeat' (first | simp (disch:=omega) only [sxE,rebuild_Lines.E,Nat.reduceAdd,Nat.reduceEqDiff,Nat.reduceMul,Nat.reduceSub,Int.reduceAdd,Int.reduceSub,Int.reduceMul,Int.reduceNeg,Int.reduceLT,Int.reduceLE,Int.reduceEq,Int.reduceToNat,↓reduceIte,Int.reducePow,Nat.reduceLeDiff,Nat.reduceLT,ne_eq,eq_self,List.length_cons,List.length_nil,qxE] | ((with_reducible refine ldP_blk b' ?_); refine ldP_L i 0 [.int .i64 n,.int .i64 xv,.bool g,.int .u64 xa,.int .u64 b,.int .u64 c,.int .u64 d,.bool hh,.int .u64 e,.int .u64 f,.int .u64 ii,.int .u64 j] h (by omega) hlt rfl (fun k v hk=>by rw [hx,Nat.zero_add]; exact hk) ?_) | (with_reducible refine cregF ?_))
       exact ⟨.slice none 0 0,_,rfl,rfl,.inl ⟨rfl,rfl,rfl⟩⟩
     ·rw [decide_eq_false hn1,Bool.false_and] at hch
      obtain ⟨q1,q2⟩:=er1 hch
      rw [q1,q2]
      clear hrun
      repeat' (first | simp (disch:=omega) only [sxE,rebuild_Lines.E,Nat.reduceAdd,Nat.reduceEqDiff,Nat.reduceMul,Nat.reduceSub,Int.reduceAdd,Int.reduceSub,Int.reduceMul,Int.reduceNeg,Int.reduceLT,Int.reduceLE,Int.reduceEq,Int.reduceToNat,↓reduceIte,Int.reducePow,Nat.reduceLeDiff,Nat.reduceLT,ne_eq,eq_self,List.length_cons,List.length_nil,qxE] | ((with_reducible refine ldP_blk b' ?_); refine ldP_L i 0 [.int .i64 n,.int .i64 xv,.bool g,.int .u64 xa,.int .u64 b,.int .u64 c,.int .u64 d,.bool hh,.int .u64 e,.int .u64 f,.int .u64 ii,.int .u64 j] h (by omega) hlt rfl (fun k v hk=>by rw [hx,Nat.zero_add]; exact hk) ?_) | (with_reducible refine cregF ?_))
      exact ⟨.slice none 0 0,_,rfl,rfl,.inl ⟨rfl,rfl,rfl⟩⟩
    ·obtain rfl:i = L.length:=by omega
     rw [List.drop_length] at hch hall
     rw [rlch_nil] at hch
     rw [rlall_nil,List.append_nil] at hall
     by_cases hl:ol.length = T.length
     ·rw [decide_eq_true (by omega)] at hch
      obtain ⟨q1,q2⟩:=er0 hch
      rw [q1,q2,hall]
      have bl:((ol.length:Int) == (T.length:Int)) = true:=beq_iff_eq.2 (by omega)
      repeat' (first | simp (disch:=omega) only [sxE,rebuild_Lines.E,Nat.reduceAdd,Nat.reduceEqDiff,Nat.reduceMul,Nat.reduceSub,Int.reduceAdd,Int.reduceSub,Int.reduceMul,Int.reduceNeg,Int.reduceLT,Int.reduceLE,Int.reduceEq,Int.reduceToNat,↓reduceIte,Int.reducePow,Nat.reduceLeDiff,Nat.reduceLT,ne_eq,eq_self,List.length_cons,List.length_nil,qxE,bl] | (with_reducible refine cregF ?_))
      exact ⟨_,_,rfl,rfl,.inr (List.mem_singleton.2 rfl)⟩
     ·rw [decide_eq_false (by omega)] at hch
      obtain ⟨q1,q2⟩:=er1 hch
      rw [q1,q2]
      have bl:((ol.length:Int) == (T.length:Int)) = false:=beq_eq_false_iff_ne.2 (by omega)
      repeat' (first | simp (disch:=omega) only [sxE,rebuild_Lines.E,Nat.reduceAdd,Nat.reduceEqDiff,Nat.reduceMul,Nat.reduceSub,Int.reduceAdd,Int.reduceSub,Int.reduceMul,Int.reduceNeg,Int.reduceLT,Int.reduceLE,Int.reduceEq,Int.reduceToNat,↓reduceIte,Int.reducePow,Nat.reduceLeDiff,Nat.reduceLT,ne_eq,eq_self,List.length_cons,List.length_nil,qxE,bl] | (with_reducible refine cregF ?_))
      exact ⟨.slice none 0 0,_,rfl,rfl,.inl ⟨rfl,rfl,rfl⟩⟩
end Go.Proofs.YtncmmbacoknefaaGreat

/- CdSw: MADE BY PROGRAM (sxgen.py): the small code of some functions, points of it and their equations. -/
namespace Go.Proofs.YtncmmbacoknefaaGreat
open Go Go.RowKit Sx Sx.Q
set_option linter.unusedVariables false
variable (C:Cx) (R L1 L2 L3 L4:St→Prop)
namespace r14_Start
abbrev q0:=[0,2]
abbrev z0:List Value:=[.int .i64 0,.int .i64 0,.int .i64 0,.int .i64 0,.int .i64 0,.bool false,.bool false,.int .u64 0,.int .u64 0,.int .u64 0,.int .u64 0,.bool false,.int .u64 0,.int .u64 0,.int .u64 0,.int .u64 0,.bool false,.int .u64 0,.int .u64 0,.int .u64 0,.int .u64 0,.bool false,.int .u64 0,.int .u64 0,.int .u64 0,.int .u64 0]
abbrev r0:List G:=[e 2 (.new z0),Mi 3 0]
abbrev q1:=[0,2,6]
abbrev r1:List G:=[m 4 0,K1 5 93 4,e 6 (.un .not (t 5))]
abbrev q2:=[2,3]
abbrev r2:List G:=[e 7 (.bd z0 []),V 26 2 7,Mi 3 9]
abbrev r3:List G:=[m 8 0,e 9 (.bd z0 [(0,1,(t 8))]),V 26 2 9,Mi 3 0]
abbrev c:MC:=sq [g r0 q0,sq [g r1 q1,ci 6 (sq [g r2 q2,.ret]) .skip],g r3 q2,.ret]
theorem ok:compF Tryz.prog Tryz.f65 (an (rg 4) c []) = some (10,c,[(2,some (true,26)),(3,none)]):=by kernel_rfl
abbrev p1:=P C r3 q2 R
abbrev p3:=P C r2 q2 R
abbrev p2:=cd (t 6) (p3 C R) (p1 C R)
abbrev p4:=P C r1 q1 (p2 C R)
abbrev p5:=P C r0 q0 (p4 C R)
theorem s (S:St):X C c (retK R) S = p5 C R S:=by kernel_rfl
theorem E:type_of% @s:=@s
end r14_Start
namespace r14_Valid
abbrev r0:List G:=[e 1 (.box true 26 (t 0)),Mb 2 false]
abbrev q0:=[1,6]
abbrev r1:List G:=[a 3 0 1,l 4 3,K1 5 93 4,e 6 (.un .not (t 5))]
abbrev r2:List G:=[Mb 2 false]
abbrev q1:=[1,7]
abbrev r3:List G:=[a 8 1 1,l 9 8,bi 10 .eql 9 0,m 7 10]
abbrev z0:List Value:=[.int .i64 0,.int .i64 0,.int .i64 0,.int .i64 0,.int .i64 0,.bool false,.bool false,.int .u64 0,.int .u64 0,.int .u64 0,.int .u64 0,.bool false,.int .u64 0,.int .u64 0,.int .u64 0,.int .u64 0,.bool false,.int .u64 0,.int .u64 0,.int .u64 0,.int .u64 0,.bool false,.int .u64 0,.int .u64 0,.int .u64 0,.int .u64 0]
abbrev r4:List G:=[L 11 26 1,a 12 0 1,l 13 12,e 14 (.bd z0 [(0,1,(t 13))]),e 15 (.eqg false 103 (t 11) (t 14)),m 2 15]
abbrev q2:=[1,16]
abbrev r5:List G:=[a 17 1 1,l 18 17,bi 19 .eql 18 1,m 16 19]
abbrev r6:List G:=[a 20 4 1,l 21 20,a 22 2 1,a 23 0 22,l 24 23,b 25 .eql 21 24,m 26 25,ya 27 26 5 1,y 28 26 (.ld true 21 (t 27)),y 29 26 (.call true 55 []),y 30 26 (.eqg false 73 (t 28) (t 29)),w 31 26 30]
abbrev t6:List G:=[m 2 31]
abbrev r7:List G:=[a 32 1 1,l 33 32,bi 34 .gtr 33 1,m 35 34,ya 36 35 1 1,yl 37 35 36,y 38 35 (.bin .leq (t 37) (i 1073741824)),w 39 35 38,m 40 39,ya 41 40 4 1,yl 42 40 41,ya 43 40 2 1,ya 44 40 0 43,yl 45 40 44,y 46 40 (.bin .gtr (t 42) (t 45)),w 47 40 46,m 48 47,ya 49 48 5 1,y 50 48 (.ld true 21 (t 49)),y 51 48 (.call false 39 [(t 50)]),w 52 48 51,m 53 52,ya 54 53 5 1,ya 55 53 0 54,yl 56 53 55,y 57 53 (.un .not (t 56)),w 58 53 57,m 2 58]
abbrev c:MC:=sq [g r0 [1],sq [g r1 q0,ci 6 (sq [g r2 [2],.ret]) .skip],.block 0 (sq [g r3 q1,ci 7 (sq [g r4 [2],.ret]) (sq [g r5 q2,ci 16 (sq [gd r6 t6 [2],.ret]) .skip])]),g r7 [2],.ret]
theorem ok:compF Tryz.prog Tryz.f131 (an (rg 8) c [(6,12,[],(up 12),[])]) = some (59,c,[(2,none)]):=by kernel_rfl
abbrev p1:=P C r7 [2] R
abbrev p3:=P C r4 [2] R
abbrev p5:=Pd C r6 t6 [2] R
abbrev p4:=cd (t 16) (p5 C R) (p1 C R)
abbrev p6:=P C r5 q2 (p4 C R)
abbrev p2:=cd (t 7) (p3 C R) (p6 C R)
abbrev p7:=P C r3 q1 (p2 C R)
abbrev p9:=P C r2 [2] R
abbrev p8:=cd (t 6) (p9 C R) (p7 C R)
abbrev p10:=P C r1 q0 (p8 C R)
abbrev p11:=P C r0 [1] (p10 C R)
theorem s (S:St):X C c (retK R) S = p11 C R S:=by kernel_rfl
theorem E:type_of% @s:=@s
end r14_Valid
namespace r14_begin
abbrev q0:=[0,3,4]
abbrev z0:List Value:=[.int .i64 0,.int .i64 0,.int .i64 0,.int .i64 0,.int .i64 0,.bool false,.bool false,.int .u64 0,.int .u64 0,.int .u64 0,.int .u64 0,.bool false,.int .u64 0,.int .u64 0,.int .u64 0,.int .u64 0,.bool false,.int .u64 0,.int .u64 0,.int .u64 0,.int .u64 0,.bool false,.int .u64 0,.int .u64 0,.int .u64 0,.int .u64 0]
abbrev r0:List G:=[e 3 (.box true 2 (t 1)),e 4 (.new z0)]
abbrev r1:List G:=[m 5 0,L 6 2 3,a 7 0 3,l 8 7,k0 9 55,e 10 (.bd z0 [(0,1,(t 5)),(1,1,(i 1)),(2,2,(t 6)),(4,1,(t 8)),(5,21,(t 9))])]
abbrev t1:List G:=[V 26 4 10]
abbrev c:MC:=sq [g r0 q0,gd r1 t1 [4],.ret]
theorem ok:compF Tryz.prog Tryz.f132 (an (rg 2) c [(1,6,[],(up 6),[])]) = some (11,c,[(4,some (true,26))]):=by kernel_rfl
abbrev p1:=Pd C r1 t1 [4] R
abbrev p2:=P C r0 q0 (p1 C R)
theorem s (S:St):X C c (retK R) S = p2 C R S:=by kernel_rfl
theorem E:type_of% @s:=@s
end r14_begin
namespace r14_line
abbrev q0:=[1,2]
abbrev z0:List Value:=[.int .i64 0,.int .i64 0,.bool false,.int .u64 0,.int .u64 0,.int .u64 0,.int .u64 0,.bool false,.int .u64 0,.int .u64 0,.int .u64 0,.int .u64 0]
abbrev r0:List G:=[e 1 (.box true 26 (t 0)),e 2 (.new z0)]
abbrev r1:List G:=[a 3 1 1,l 4 3,a 5 2 1,a 6 1 5,l 7 6,a 8 5 1,L 9 21 8,k1 10 44 9,e 11 (.bd z0 [(0,1,(t 4)),(1,1,(t 7)),(2,10,(t 10))])]
abbrev t1:List G:=[V 12 2 11]
abbrev c:MC:=sq [g r0 q0,gd r1 t1 [2],.ret]
theorem ok:compF Tryz.prog Tryz.f133 (an (rg 2) c [(1,9,[],(up 9),[])]) = some (12,c,[(2,some (true,12))]):=by kernel_rfl
abbrev p1:=Pd C r1 t1 [2] R
abbrev p2:=P C r0 q0 (p1 C R)
theorem s (S:St):X C c (retK R) S = p2 C R S:=by kernel_rfl
theorem E:type_of% @s:=@s
end r14_line
namespace r14_Step
abbrev q0:=[2,3,4]
abbrev z0:List Value:=[.int .i64 0,.int .i64 0,.int .i64 0,.int .i64 0,.int .i64 0,.bool false,.bool false,.int .u64 0,.int .u64 0,.int .u64 0,.int .u64 0,.bool false,.int .u64 0,.int .u64 0,.int .u64 0,.int .u64 0,.bool false,.int .u64 0,.int .u64 0,.int .u64 0,.int .u64 0,.bool false,.int .u64 0,.int .u64 0,.int .u64 0,.int .u64 0]
abbrev r0:List G:=[e 2 (.box true 26 (t 0)),e 3 (.box true 2 (t 1)),e 4 (.new z0),e 5 (.mv (.const (.slice none 0 0))),Mi 6 0]
abbrev q1:=[2,3,4,13]
abbrev r1:List G:=[L 11 26 2,K1 12 131 11,e 13 (.un .not (t 12))]
abbrev q2:=[4,5,6]
abbrev r2:List G:=[e 14 (.bd z0 []),V 26 4 14,e 5 (.mv (.const (.slice none 0 0))),Mi 6 1]
abbrev q3:=[2,3,4,17]
abbrev r3:List G:=[a 15 1 2,l 16 15,bi 17 .eql 16 0]
abbrev r4:List G:=[a 18 0 2,l 19 18,L 20 2 3,K2 21 132 19 20,V 26 4 21,e 5 (.mv (.const (.slice none 0 0))),Mi 6 0]
abbrev q4:=[2,3,4,26]
abbrev r5:List G:=[a 22 0 3,l 23 22,a 24 4 2,l 25 24,b 26 .leq 23 25]
abbrev r6:List G:=[e 27 (.bd z0 []),V 26 4 27,e 5 (.mv (.const (.slice none 0 0))),Mi 6 7]
abbrev q5:=[2,3,4,30]
abbrev r7:List G:=[a 28 1 2,l 29 28,bi 30 .eql 29 1073741824]
abbrev r8:List G:=[e 31 (.bd z0 []),V 26 4 31,e 5 (.mv (.const (.slice none 0 0))),Mi 6 3]
abbrev q6:=[2,3,4,7]
abbrev r9:List G:=[a 33 2 2,a 34 1 33,l 35 34,k1 36 50 35,a 37 1 3,l 38 37,a 39 0 2,l 40 39,a 41 0 3,l 42 41,a 43 2 2,a 44 0 43,l 45 44,k2 46 42 42 45,k4 47 40 36 38 40 46,m 32 47,x 48 32 0,x 49 32 1]
abbrev z1:List Value:=[.bool false,.bool false,.int .u64 0,.int .u64 0,.int .u64 0,.int .u64 0,.bool false,.int .u64 0,.int .u64 0,.int .u64 0,.int .u64 0,.bool false,.int .u64 0,.int .u64 0,.int .u64 0,.int .u64 0,.bool false,.int .u64 0,.int .u64 0,.int .u64 0,.int .u64 0]
abbrev t9:List G:=[e 7 (.new z1),V 21 7 48,m 8 49]
abbrev q7:=[2,3,4,9,10]
abbrev r10:List G:=[a 51 5 2,L 52 21 51,L 53 21 7,K2 54 45 52 53,m 50 54,x 55 50 0,x 56 50 1,e 9 (.new z1),V 21 9 55,m 10 56]
abbrev q8:=[2,3,4,9,58]
abbrev r11:List G:=[m 57 10,e 58 (.un .not (t 57))]
abbrev r12:List G:=[a 59 0 2,l 60 59,L 61 2 3,L 63 26 2]
abbrev t12:GT:=br 62 (.call false 132 [(t 60),(t 61)]) (br 64 (.call false 133 [(t 63)]) (br 65 (.gen false (.bsl 22 1 [0]) [(t 64)]) (.br none none (.st true 26 (t 4) (t 62)) (br 5 (.mv (t 65)) (br 6 (.mv (i 0)) .fin .no) .no) .no) (.br none none (.st true 26 (t 4) (t 62)) (br 65 (.gen false (.bsl 22 1 [0]) [(t 64)]) (br 5 (.mv (t 65)) (br 6 (.mv (i 0)) .fin .no) .no) .no) .no)) .no) .no
abbrev q9:=[2,4]
abbrev o13:List (List G):=[[L 66 21 9,a 67 0 3,l 68 67,a 69 5 2,V 21 69 66,a 70 4 2,v 70 68],[L 66 21 9,a 67 0 3,a 69 5 2,l 68 67,V 21 69 66,a 70 4 2,v 70 68],[L 66 21 9,a 67 0 3,a 69 5 2,V 21 69 66,l 68 67,a 70 4 2,v 70 68],[L 66 21 9,a 69 5 2,a 67 0 3,l 68 67,V 21 69 66,a 70 4 2,v 70 68],[L 66 21 9,a 69 5 2,a 67 0 3,V 21 69 66,l 68 67,a 70 4 2,v 70 68],[L 66 21 9,a 69 5 2,V 21 69 66,a 67 0 3,l 68 67,a 70 4 2,v 70 68],[a 67 0 3,L 66 21 9,l 68 67,a 69 5 2,V 21 69 66,a 70 4 2,v 70 68],[a 67 0 3,L 66 21 9,a 69 5 2,l 68 67,V 21 69 66,a 70 4 2,v 70 68],[a 67 0 3,L 66 21 9,a 69 5 2,V 21 69 66,l 68 67,a 70 4 2,v 70 68],[a 67 0 3,l 68 67,L 66 21 9,a 69 5 2,V 21 69 66,a 70 4 2,v 70 68]]
abbrev r14:List G:=[a 71 1 2,l 72 71,bi 73 .add 72 1,a 74 1 2,v 74 73]
abbrev r15:List G:=[L 75 26 2,V 26 4 75,e 5 (.mv (.const (.slice none 0 0))),Mi 6 0]
abbrev c:MC:=sq [g r0 q0,sq [g r1 q1,ci 13 (sq [g r2 q2,.ret]) .skip],sq [g r3 q3,ci 17 (sq [g r4 q2,.ret]) .skip],sq [g r5 q4,ci 26 (sq [g r6 q2,.ret]) .skip],sq [g r7 q5,ci 30 (sq [g r8 q2,.ret]) .skip],gd r9 t9 q6,g r10 q7,sq [g r11 q8,ci 58 (sq [gh r12 t12 [2,3,59] q2,.ret]) .skip],ga [] o13 q9,g r14 q9,g r15 q2,.ret]
theorem ok:compF Tryz.prog Tryz.f72 (an (rg 16) c [(9,19,[17],(up 17 ++ [(17,2)]),[18]),(12,99998,[0,1,2,4],[],[2,3,59]),(13,99999,[],[],[])]) = some (76,c,[(4,some (true,26)),(5,none),(6,none)]):=by kernel_rfl
abbrev p1:=P C r15 q2 R
abbrev p2:=P C r14 q9 (p1 C R)
abbrev p3:=Pa C [] o13 q9 (p2 C R)
abbrev p5:=Ph C r12 t12 [2,3,59] q2 R
abbrev p4:=cd (t 58) (p5 C R) (p3 C R)
abbrev p6:=P C r11 q8 (p4 C R)
abbrev p7:=P C r10 q7 (p6 C R)
abbrev p8:=Pd C r9 t9 q6 (p7 C R)
abbrev p10:=P C r8 q2 R
abbrev p9:=cd (t 30) (p10 C R) (p8 C R)
abbrev p11:=P C r7 q5 (p9 C R)
abbrev p13:=P C r6 q2 R
abbrev p12:=cd (t 26) (p13 C R) (p11 C R)
abbrev p14:=P C r5 q4 (p12 C R)
abbrev p16:=P C r4 q2 R
abbrev p15:=cd (t 17) (p16 C R) (p14 C R)
abbrev p17:=P C r3 q3 (p15 C R)
abbrev p19:=P C r2 q2 R
abbrev p18:=cd (t 13) (p19 C R) (p17 C R)
abbrev p20:=P C r1 q1 (p18 C R)
abbrev p21:=P C r0 q0 (p20 C R)
theorem s (S:St):X C c (retK R) S = p21 C R S:=by kernel_rfl
theorem E:type_of% @s:=@s
end r14_Step
namespace r14_Finish
abbrev r0:List G:=[e 1 (.box true 26 (t 0)),e 2 (.mv (.const (.slice none 0 0))),Mi 3 0]
abbrev q0:=[1,6]
abbrev r1:List G:=[L 4 26 1,K1 5 131 4,e 6 (.un .not (t 5))]
abbrev q1:=[2,3]
abbrev r2:List G:=[e 2 (.mv (.const (.slice none 0 0))),Mi 3 1]
abbrev q2:=[1,9]
abbrev r3:List G:=[a 7 1 1,l 8 7,bi 9 .eql 8 0]
abbrev r4:List G:=[e 2 (.mv (.const (.slice none 0 0))),Mi 3 0]
abbrev r5:List G:=[L 10 26 1,K1 11 133 10,e 12 (.gen false (.bsl 22 1 [0]) [(t 11)]),m 2 12,Mi 3 0]
abbrev c:MC:=sq [g r0 [1],sq [g r1 q0,ci 6 (sq [g r2 q1,.ret]) .skip],sq [g r3 q2,ci 9 (sq [g r4 q1,.ret]) .skip],g r5 q1,.ret]
theorem ok:compF Tryz.prog Tryz.f73 (an (rg 6) c []) = some (13,c,[(2,none),(3,none)]):=by kernel_rfl
abbrev p1:=P C r5 q1 R
abbrev p3:=P C r4 q1 R
abbrev p2:=cd (t 9) (p3 C R) (p1 C R)
abbrev p4:=P C r3 q2 (p2 C R)
abbrev p6:=P C r2 q1 R
abbrev p5:=cd (t 6) (p6 C R) (p4 C R)
abbrev p7:=P C r1 q0 (p5 C R)
abbrev p8:=P C r0 [1] (p7 C R)
theorem s (S:St):X C c (retK R) S = p8 C R S:=by kernel_rfl
theorem E:type_of% @s:=@s
end r14_Finish
namespace r14_All
abbrev q0:=[0,1]
abbrev r0:List G:=[e 4 (.mv (.const (.slice none 0 0))),Mi 5 0]
abbrev q1:=[0,6,7]
abbrev z0:List Value:=[.int .i64 0,.int .i64 0,.int .i64 0,.int .i64 0,.int .i64 0,.bool false,.bool false,.int .u64 0,.int .u64 0,.int .u64 0,.int .u64 0,.bool false,.int .u64 0,.int .u64 0,.int .u64 0,.int .u64 0,.bool false,.int .u64 0,.int .u64 0,.int .u64 0,.int .u64 0,.bool false,.int .u64 0,.int .u64 0,.int .u64 0,.int .u64 0]
abbrev r1:List G:=[m 14 1,K1 15 65 14,m 13 15,x 16 13 0,x 17 13 1,e 6 (.new z0),V 26 6 16,m 7 17]
abbrev q2:=[0,6,7,19]
abbrev r2:List G:=[m 18 7,bi 19 .neq 18 0]
abbrev q3:=[4,5]
abbrev r3:List G:=[m 20 7,e 4 (.mv (.const (.slice none 0 0))),m 5 20]
abbrev q4:=[0,6,23]
abbrev r4:List G:=[m 21 0,K1 22 71 21,bi 23 .neq 22 0]
abbrev r5:List G:=[e 4 (.mv (.const (.slice none 0 0))),Mi 5 7]
abbrev q5:=[0,6,26]
abbrev r6:List G:=[m 24 0,e 25 (.len false (t 24)),bi 26 .gtr 25 1073741824]
abbrev r7:List G:=[e 4 (.mv (.const (.slice none 0 0))),Mi 5 3]
abbrev q6:=[0,6,8]
abbrev r8:List G:=[e 8 (.mv (.const (.slice none 0 0)))]
abbrev q7:=[0,6,8,9]
abbrev r9:List G:=[Mi 9 0]
abbrev q8:=[0,6,8,9,30]
abbrev r10:List G:=[m 27 9,m 28 0,e 29 (.len false (t 28)),b 30 .lss 27 29]
abbrev r12:List G:=[e 10 (.mv (.const (.slice none 0 0)))]
abbrev q9:=[0,6,8,9,10]
abbrev r13:List G:=[L 34 26 6,m 35 0,m 36 9,j 37 2 35 36,L 38 2 37,K2 39 72 34 38,m 33 39,x 40 33 0,x 41 33 1,x 42 33 2]
abbrev t13:List G:=[V 26 6 40,m 10 41]
abbrev r14:List G:=[m 43 8,m 44 10,e 45 (.gen false (.bi .append [22,22] 22 [false,false]) [(t 43),(t 44)]),m 8 45]
abbrev r11:List G:=[m 31 9,bi 32 .add 31 1,m 9 32]
abbrev q10:=[8,11]
abbrev r15:List G:=[L 47 26 6,K1 48 73 47,m 46 48,x 49 46 0,x 50 46 1,m 11 49,m 12 50]
abbrev r16:List G:=[m 51 8,m 52 11,e 53 (.gen false (.bi .append [22,22] 22 [false,false]) [(t 51),(t 52)]),m 4 53,Mi 5 0]
abbrev c:MC:=sq [g r0 q0,g r1 q1,sq [g r2 q2,ci 19 (sq [g r3 q3,.ret]) .skip],sq [g r4 q4,ci 23 (sq [g r5 q3,.ret]) .skip],sq [g r6 q5,ci 26 (sq [g r7 q3,.ret]) .skip],g r8 q6,sq [g r9 q7,.block 0 (.loop (sq [sq [g r10 q8,ci 30 .skip (.exit 0)],.block 1 (sq [g r12 q7,gk true false r13 t13 q9,g r14 q7]),g r11 q7]))],g r15 q10,g r16 q3,.ret]
theorem ok:compF Tryz.prog Tryz.f18 (an [0,1,2,3,4,5,6,7,8,9,10,12,13,14,11,15,16] c [(13,200010,[8,9],(up 5 ++ [(5,1),(6,0),(7,0),(8,2),(9,2)]),[])]) = some (54,c,[(4,none),(5,none)]):=by kernel_rfl
abbrev p1:=P C r16 q3 R
abbrev p2:=P C r15 q10 (p1 C R)
abbrev p4:=P C r11 q7 L1
abbrev p5:=P C r14 q7 (p4 C L1)
abbrev p6:=Pc C true false r13 t13 q9 (p5 C L1)
abbrev p7:=P C r12 q7 (p6 C L1)
abbrev p8:=cd (t 30) (p7 C L1) (p2 C R)
abbrev p9:=P C r10 q8 (p8 C R L1)
def p3 (S:St):Prop:=LX C (fun L1=>(p9 C R L1)) S
theorem p3_l (S:St):p3 C R S = LX C (fun L1=>(p9 C R L1)) S:=rfl
abbrev p10:=P C r9 q7 (p3 C R)
abbrev p11:=P C r8 q6 (p10 C R)
abbrev p13:=P C r7 q3 R
abbrev p12:=cd (t 26) (p13 C R) (p11 C R)
abbrev p14:=P C r6 q5 (p12 C R)
abbrev p16:=P C r5 q3 R
abbrev p15:=cd (t 23) (p16 C R) (p14 C R)
abbrev p17:=P C r4 q4 (p15 C R)
abbrev p19:=P C r3 q3 R
abbrev p18:=cd (t 19) (p19 C R) (p17 C R)
abbrev p20:=P C r2 q2 (p18 C R)
abbrev p21:=P C r1 q1 (p20 C R)
abbrev p22:=P C r0 q0 (p21 C R)
theorem s (S:St):X C c (retK R) S = p22 C R S:=by kernel_rfl
theorem E:type_of% @s:=@s
end r14_All
end Go.Proofs.YtncmmbacoknefaaGreat

/- Sa: swing: the plain state machine; begin, end and step of the program. -/
namespace Go.Proofs.YtncmmbacoknefaaGreat
open Go Go.RowKit Sx
set_option linter.unusedVariables false
set_option linter.unusedSimpArgs false
structure SwS where
 t:Int
 n:Int
 T:Int
 V:Int
 L:Int
 c:Cn
structure LnV where
 n:Int
 V:Int
 p:Int
 q:Int
def lcell (x:LnV):List Value:=[.int .i64 x.n,.int .i64 x.V,.bool (sg x.p),.int .u64 (lb0 (ab x.p)),.int .u64 (lb1 (ab x.p)),.int .u64 (lb2 (ab x.p)),.int .u64 (lb3 (ab x.p)),.bool (sg x.q),.int .u64 (lb0 (ab x.q)),.int .u64 (lb1 (ab x.q)),.int .u64 (lb2 (ab x.q)),.int .u64 (lb3 (ab x.q))]
def lcells (l:List LnV):List Value:=l.flatMap lcell
theorem lcells_app (a b:List LnV):lcells (a ++ b) = lcells a ++ lcells b:=by unfold lcells; rw [List.flatMap_append]
def swb (t xt xv:Int):SwS:=⟨t,1,xt,xv,xt,cO⟩
def swl (s:SwS):List LnV:=if 0 < s.n then [⟨s.n,s.V,(cho true s.c).1,(cho true s.c).2⟩] else []
def swm (s:SwS) (xt xv:Int):Cn × Bool:=cmt s.c (thc s.V xv s.t (xt - s.T))
def swg (s:SwS) (xt xv:Int):Bool:=decide (0 < s.n) && (swm s xt xv).2
def swn (s:SwS) (xt xv:Int):SwS:=if swg s xt xv = true then ⟨s.t,s.n + 1,s.T,s.V,xt,(swm s xt xv).1⟩ else swb s.t xt xv
def swe (s:SwS) (xt xv:Int):List LnV:=if swg s xt xv = true then [] else swl s
theorem elt_line:ElT Tryz.prog 22 41 12 96:=elT (z:=.agg #[.int .i64 0,.int .i64 0,.bool false,.int .u64 0,.int .u64 0,.int .u64 0,.int .u64 0,.bool false,.int .u64 0,.int .u64 0,.int .u64 0,.int .u64 0]) Tryz.underlying22 (by kernel_rfl) rfl (by decide)
end Go.Proofs.YtncmmbacoknefaaGreat

/- Sb: swing: All of the program. -/
namespace Go.Proofs.YtncmmbacoknefaaGreat
open Go Go.RowKit Sx
set_option linter.unusedVariables false
set_option linter.unusedSimpArgs false
def sw0 (t:Int):SwS:=⟨t,0,0,0,0,c0⟩
def swa (a:SwS × List LnV) (x:Int × Int):SwS × List LnV:=(swn a.1 x.1 x.2,a.2 ++ swe a.1 x.1 x.2)
def swf (t:Int) (ss:Smps):SwS × List LnV:=ss.foldl swa (sw0 t,[])
theorem swf_snoc (t:Int) (ss:Smps) (x:Int × Int):swf t (ss ++ [x]) = swa (swf t ss) x:=by unfold swf; rw [List.foldl_append]; rfl
def swall (t:Int) (ss:Smps):List LnV:=(swf t ss).2 ++ swl (swf t ss).1
def erz (t:Int) (ss:Smps):Int:=if tolz t then (if incr ss then (if ss.length≤1073741824 then 0 else 3) else 7) else 9
def linez (t:Int) (ss:Smps):List LnV:=if erz t ss = 0 then swall t ss else []
structure SwI (t:Int) (ss:Smps) (i:Nat) (a:SwS × List LnV):Prop where
 tt:a.1.t = t
 n0:0≤a.1.n
 n1:a.1.n≤i
 c:0 < a.1.n→a.1.c.ok
 T:I64 a.1.T
 V:I64 a.1.V
 L:I64 a.1.L
 TL:a.1.T≤a.1.L
 z:a.1.n = 0→a.1 = sw0 t
 l:0 < i→0 < a.1.n∧a.1.L = (ss.getD (i - 1) (0,0)).1
 len:a.2.length≤i
 one:a.1.n = 1→a.1.L = a.1.T∧a.1.c = cO
 more:1 < a.1.n→a.1.T < a.1.L∧a.1.c.o = false
theorem swl_len (s:SwS):(swl s).length≤1:=by unfold swl; split <;> simp
theorem swi_next {t:Int} {ss:Smps} {i:Nat} {a:SwS × List LnV} (h:SwI t ss i a) (ht:tolz t = true) (hi:i < ss.length) (hin:∀ s∈ss,I64 s.1∧I64 s.2) (hinc:incr ss = true):SwI t ss (i + 1) (swa a (ss.getD i (0,0)))∧(0 < a.1.n→a.1.T < (ss.getD i (0,0)).1):=by
 have hx:=smp_i64 hin i
 obtain ⟨t0,t1⟩:=tolz_iff.1 ht
 have hT:0 < a.1.n→a.1.T < (ss.getD i (0,0)).1:=fun hn=>by
  have h0:0 < i:=by have:=h.n1; omega
  obtain ⟨-,hL⟩:=h.l h0
  have hinc':=of_decide_eq_true hinc (i - 1) (by omega)
  rw [show i - 1 + 1 = i by omega] at hinc'
  have:=h.TL
  omega
 refine ⟨?_,hT⟩
 have hlen:(swe a.1 (ss.getD i (0,0)).1 (ss.getD i (0,0)).2).length≤1:=by
  unfold swe
  split
  ·simp
  ·exact swl_len _
 have el:(swa a (ss.getD i (0,0))).2.length≤i + 1:=by
  show (a.2 ++ _).length≤_
  rw [List.length_append]
  have:=h.len
  omega
 have e1:i + 1 - 1 = i:=by omega
 by_cases hg:swg a.1 (ss.getD i (0,0)).1 (ss.getD i (0,0)).2 = true
 ·have e:(swa a (ss.getD i (0,0))).1 = ⟨a.1.t,a.1.n + 1,a.1.T,a.1.V,(ss.getD i (0,0)).1,(swm a.1 (ss.getD i (0,0)).1 (ss.getD i (0,0)).2).1⟩:=if_pos hg
  unfold swg at hg
  rw [Bool.and_eq_true] at hg
  obtain ⟨hn,hm⟩:=hg
  have hn:=of_decide_eq_true hn
  have hT:=hT hn
  have iDt:U64 ((ss.getD i (0,0)).1 - a.1.T):=⟨by omega,by have:=hx.1.2; have:=h.T.1; omega⟩
  have tp:=th_p (ab_66 h.V) hx.2 ⟨t0,t1⟩ iDt (by omega)
  have hok:(swm a.1 (ss.getD i (0,0)).1 (ss.getD i (0,0)).2).1.ok:=by
   unfold swm
   rw [h.tt]
   refine cmt_ok (h.c hn) tp.cl.ok ?_
   unfold swm at hm
   rw [h.tt] at hm
   exact hm
  have ho:(swm a.1 (ss.getD i (0,0)).1 (ss.getD i (0,0)).2).1.o = false:=cmt_o hm
  have n1:=h.n1
  have n0:=h.n0
  refine ⟨by rw [e]; exact h.tt,by rw [e]; show 0≤a.1.n + 1; omega,by rw [e]; show a.1.n + 1≤_; omega,fun _=>by rw [e]; exact hok,by rw [e]; exact h.T,by rw [e]; exact h.V,by rw [e]; exact hx.1,by rw [e]; show a.1.T≤(ss.getD i (0,0)).1; omega,fun hz=>?_,fun _=>?_,el,fun hz=>?_,fun _=>by rw [e]; exact ⟨hT,ho⟩⟩
  ·rw [e] at hz
   have hz:a.1.n + 1 = 0:=hz
   omega
  ·rw [e,e1]
   exact ⟨by show 0 < a.1.n + 1; omega,rfl⟩
  ·rw [e] at hz
   have hz:a.1.n + 1 = 1:=hz
   omega
 ·have e:(swa a (ss.getD i (0,0))).1 = swb a.1.t (ss.getD i (0,0)).1 (ss.getD i (0,0)).2:=if_neg hg
  refine ⟨by rw [e]; exact h.tt,by rw [e]; show (0:Int)≤1; decide,by rw [e]; show (1:Int)≤_; omega,fun _=>by rw [e]; exact cO_ok,by rw [e]; exact hx.1,by rw [e]; exact hx.2,by rw [e]; exact hx.1,by rw [e]; exact Int.le_refl _,fun hz=>?_,fun _=>?_,el,fun _=>by rw [e]; exact ⟨rfl,rfl⟩,fun hz=>?_⟩
  ·rw [e] at hz
   cases hz
  ·rw [e,e1]
   exact ⟨by show (0:Int) < 1; decide,rfl⟩
  ·rw [e] at hz
   have hz:(1:Int) < 1:=hz
   omega
theorem swi_start (t:Int) (ss:Smps):SwI t ss 0 (swf t []) :=
 ⟨rfl,Int.le_refl _,Int.le_refl _,(fun h=>by cases h),i64_0,i64_0,i64_0,Int.le_refl _,fun _=>rfl,(fun h=>by cases h),Nat.le_refl _,(fun h=>by cases h),(fun h=>by cases h)⟩
theorem swi_at {t:Int} {ss:Smps} (ht:tolz t = true) (hin:∀ s∈ss,I64 s.1∧I64 s.2) (hinc:incr ss = true):∀ i,i≤ss.length→SwI t ss i (swf t (ss.take i))
 | 0,_=>swi_start t ss
 | i + 1,h=>by
  rw [take_snoc' (by omega),swf_snoc]
  exact (swi_next (swi_at ht hin hinc i (by omega)) ht (by omega) hin hinc).1
abbrev swv (s:SwS):Value:=.agg #[.int .i64 s.t,.int .i64 s.n,.int .i64 s.T,.int .i64 s.V,.int .i64 s.L,.bool s.c.o,.bool (sg s.c.p),.int .u64 (lb0 (ab s.c.p)),.int .u64 (lb1 (ab s.c.p)),.int .u64 (lb2 (ab s.c.p)),.int .u64 (lb3 (ab s.c.p)),.bool (sg s.c.q),.int .u64 (lb0 (ab s.c.q)),.int .u64 (lb1 (ab s.c.q)),.int .u64 (lb2 (ab s.c.q)),.int .u64 (lb3 (ab s.c.q)),.bool (sg s.c.p1),.int .u64 (lb0 (ab s.c.p1)),.int .u64 (lb1 (ab s.c.p1)),.int .u64 (lb2 (ab s.c.p1)),.int .u64 (lb3 (ab s.c.p1)),.bool (sg s.c.q1),.int .u64 (lb0 (ab s.c.q1)),.int .u64 (lb1 (ab s.c.q1)),.int .u64 (lb2 (ab s.c.q1)),.int .u64 (lb3 (ab s.c.q1))]
abbrev swZ (t:Int):Value:=.agg #[.int .i64 t,.int .i64 0,.int .i64 0,.int .i64 0,.int .i64 0,.bool false,.bool false,.int .u64 0,.int .u64 0,.int .u64 0,.int .u64 0,.bool false,.int .u64 0,.int .u64 0,.int .u64 0,.int .u64 0,.bool false,.int .u64 0,.int .u64 0,.int .u64 0,.int .u64 0,.bool false,.int .u64 0,.int .u64 0,.int .u64 0,.int .u64 0]
theorem swv_0 (t:Int):swv (sw0 t) = swZ t:=by
 have y0:sg 0 = false:=rfl
 have y1:lb0 (ab 0) = 0:=rfl
 have y2:lb1 (ab 0) = 0:=rfl
 have y3:lb2 (ab 0) = 0:=rfl
 have y4:lb3 (ab 0) = 0:=rfl
 show Value.agg #[.int .i64 t,.int .i64 0,.int .i64 0,.int .i64 0,.int .i64 0,.bool false,.bool (sg 0),.int .u64 (lb0 (ab 0)),.int .u64 (lb1 (ab 0)),.int .u64 (lb2 (ab 0)),.int .u64 (lb3 (ab 0)),.bool (sg 0),.int .u64 (lb0 (ab 0)),.int .u64 (lb1 (ab 0)),.int .u64 (lb2 (ab 0)),.int .u64 (lb3 (ab 0)),.bool (sg 0),.int .u64 (lb0 (ab 0)),.int .u64 (lb1 (ab 0)),.int .u64 (lb2 (ab 0)),.int .u64 (lb3 (ab 0)),.bool (sg 0),.int .u64 (lb0 (ab 0)),.int .u64 (lb1 (ab 0)),.int .u64 (lb2 (ab 0)),.int .u64 (lb3 (ab 0))] = _
 rw [y0,y1,y2,y3,y4]
def AllB (w:World) (ls:List LnV) (er:Int) (en:Ending) (w':World):Prop:=∃ v,en = .returned (.tuple #[v,.int .i64 er])∧w'.ownsRow w.heap.size 41 12 v ls.length (lcells ls)∧Below w.heap.size w w'
theorem erz_tol {t:Int} {ss:Smps} (h:tolz t = false):erz t ss = 9∧linez t ss = []:=by
 have e:erz t ss = 9:=by unfold erz; rw [h]; rfl
 exact ⟨e,by unfold linez; rw [e]; rfl⟩
theorem erz_inc {t:Int} {ss:Smps} (h:tolz t = true) (hi:incr ss = false):erz t ss = 7∧linez t ss = []:=by
 have e:erz t ss = 7:=by unfold erz; rw [h,hi]; rfl
 exact ⟨e,by unfold linez; rw [e]; rfl⟩
theorem erz_lim {t:Int} {ss:Smps} (h:tolz t = true) (hi:incr ss = true) (hl:¬ ss.length≤1073741824):erz t ss = 3∧linez t ss = []:=by
 have e:erz t ss = 3:=by unfold erz; rw [h,hi,if_pos rfl,if_pos rfl,if_neg hl]
 exact ⟨e,by unfold linez; rw [e]; rfl⟩
theorem erz_ok {t:Int} {ss:Smps} (h:tolz t = true) (hi:incr ss = true) (hl:ss.length≤1073741824):erz t ss = 0∧linez t ss = swall t ss:=by
 have e:erz t ss = 0:=by unfold erz; rw [h,hi,if_pos rfl,if_pos rfl,if_pos hl]
 exact ⟨e,by unfold linez; rw [e]; rfl⟩
end Go.Proofs.YtncmmbacoknefaaGreat

/- Sc: swing: the segments, plain. -/
namespace Go.Proofs.YtncmmbacoknefaaGreat
open Go Go.RowKit Sx
set_option linter.unusedVariables false
set_option linter.unusedSimpArgs false
def sgd (t:Int) (ss:Smps) (a j:Nat):Cn:=thc (ss.getD a (0,0)).2 (ss.getD (a + j) (0,0)).2 t ((ss.getD (a + j) (0,0)).1 - (ss.getD a (0,0)).1)
def sgk (t:Int) (ss:Smps) (a:Nat):Nat→Cn
 | 0=>cO
 | j + 1=>(cmt (sgk t ss a j) (sgd t ss a (j + 1))).1
def sgb (t:Int) (ss:Smps) (a j:Nat):Bool:=(cmt (sgk t ss a j) (sgd t ss a (j + 1))).2
def sgl (t:Int) (ss:Smps) (a m:Nat):LnV:=⟨(m:Int) + 1,(ss.getD a (0,0)).2,(cho true (sgk t ss a m)).1,(cho true (sgk t ss a m)).2⟩
def LCl (t:Int) (ss:Smps):Nat→List LnV→Nat→Prop
 | a,[],e=>a = e
 | a,x :: l,e=>∃ m,x = sgl t ss a m∧(∀ j,j < m→sgb t ss a j = true)∧sgb t ss a m = false∧LCl t ss (a + m + 1) l e
def LOk (t:Int) (ss:Smps):Nat→List LnV→Nat→Prop
 | a,[],e=>a = e
 | a,x :: l,e=>∃ m,x = sgl t ss a m∧a + m + 1≤e∧(∀ j,j < m→sgb t ss a j = true)∧(l≠[]→a + m + 1 < e∧sgb t ss a m = false)∧LOk t ss (a + m + 1) l e
theorem LCl.le {t:Int} {ss:Smps}:∀ {l:List LnV} {a e:Nat},LCl t ss a l e→a≤e
 | [],a,e,h=>Nat.le_of_eq h
 | x :: l,a,e,⟨m,_,_,_,h⟩=>by have:=LCl.le h; omega
theorem LCl.snoc {t:Int} {ss:Smps} {b m:Nat} (hf:∀ j,j < m→sgb t ss b j = true) (hb:sgb t ss b m = false):∀ {l:List LnV} {a:Nat},LCl t ss a l b→LCl t ss a (l ++ [sgl t ss b m]) (b + m + 1)
 | [],a,h=>by
  have h:a = b:=h
  subst h
  exact ⟨m,rfl,hf,hb,rfl⟩
 | x :: l,a,⟨n,h1,h2,h3,h⟩=>⟨n,h1,h2,h3,LCl.snoc hf hb h⟩
theorem LCl.last {t:Int} {ss:Smps} {b m:Nat} (hf:∀ j,j < m→sgb t ss b j = true):∀ {l:List LnV} {a:Nat},LCl t ss a l b→LOk t ss a (l ++ [sgl t ss b m]) (b + m + 1)
 | [],a,h=>by
  have h:a = b:=h
  subst h
  exact ⟨m,rfl,Nat.le_refl _,hf,fun h=>absurd rfl h,rfl⟩
 | x :: l,a,⟨n,h1,h2,h3,h⟩=>⟨n,h1,by have:=h.le; omega,h2,fun _=>⟨by have:=h.le; omega,h3⟩,LCl.last hf h⟩
theorem swj_at (t:Int) (ss:Smps):∀ i,i + 1≤ss.length→∃ a m,a + m = i∧LCl t ss 0 (swf t (ss.take (i + 1))).2 a∧(swf t (ss.take (i + 1))).1 = ⟨t,(m:Int) + 1,(ss.getD a (0,0)).1,(ss.getD a (0,0)).2,(ss.getD (a + m) (0,0)).1,sgk t ss a m⟩∧∀ j,j < m→sgb t ss a j = true
 | 0,h=>by
  refine ⟨0,0,rfl,?_,?_,fun j hj=>absurd hj (Nat.not_lt_zero _)⟩ <;> rw [take_snoc' (by omega),swf_snoc] <;> rfl
 | i + 1,h=>by
  obtain ⟨a,m,h1,h2,h3,h4⟩:=swj_at t ss i (by omega)
  rw [take_snoc' (by omega),swf_snoc]
  generalize swf t (ss.take (i + 1)) = A at *
  obtain ⟨s,l⟩:=A
  dsimp only at h2 h3
  subst h3
  have hi:i + 1 = a + (m + 1):=by omega
  have hm:swg ⟨t,(m:Int) + 1,(ss.getD a (0,0)).1,(ss.getD a (0,0)).2,(ss.getD (a + m) (0,0)).1,sgk t ss a m⟩ (ss.getD (i + 1) (0,0)).1 (ss.getD (i + 1) (0,0)).2 = sgb t ss a m:=by
   unfold swg
   rw [show decide ((0:Int) < (m:Int) + 1) = true from decide_eq_true (by omega),Bool.true_and,hi]
   rfl
  cases hb:sgb t ss a m
  ·rw [hb] at hm
   have e1:(swa (⟨t,(m:Int) + 1,(ss.getD a (0,0)).1,(ss.getD a (0,0)).2,(ss.getD (a + m) (0,0)).1,sgk t ss a m⟩,l) (ss.getD (i + 1) (0,0))).1 = swb t (ss.getD (i + 1) (0,0)).1 (ss.getD (i + 1) (0,0)).2:=if_neg (by rw [hm]; decide)
   have e2:(swa (⟨t,(m:Int) + 1,(ss.getD a (0,0)).1,(ss.getD a (0,0)).2,(ss.getD (a + m) (0,0)).1,sgk t ss a m⟩,l) (ss.getD (i + 1) (0,0))).2 = l ++ [sgl t ss a m]:=by
    show l ++ swe _ _ _ = _
    unfold swe
    rw [if_neg (by rw [hm]; decide)]
    unfold swl
    rw [if_pos (show (0:Int) < (m:Int) + 1 by omega)]
    rfl
   refine ⟨i + 1,0,rfl,?_,?_,fun j hj=>absurd hj (Nat.not_lt_zero _)⟩
   ·rw [e2,show i + 1 = a + m + 1 by omega]
    exact h2.snoc h4 hb
   ·rw [e1]; rfl
  ·rw [hb] at hm
   have e1:(swa (⟨t,(m:Int) + 1,(ss.getD a (0,0)).1,(ss.getD a (0,0)).2,(ss.getD (a + m) (0,0)).1,sgk t ss a m⟩,l) (ss.getD (i + 1) (0,0))).1 = ⟨t,(m:Int) + 1 + 1,(ss.getD a (0,0)).1,(ss.getD a (0,0)).2,(ss.getD (i + 1) (0,0)).1,(swm ⟨t,(m:Int) + 1,(ss.getD a (0,0)).1,(ss.getD a (0,0)).2,(ss.getD (a + m) (0,0)).1,sgk t ss a m⟩ (ss.getD (i + 1) (0,0)).1 (ss.getD (i + 1) (0,0)).2).1⟩:=if_pos hm
   have e2:(swa (⟨t,(m:Int) + 1,(ss.getD a (0,0)).1,(ss.getD a (0,0)).2,(ss.getD (a + m) (0,0)).1,sgk t ss a m⟩,l) (ss.getD (i + 1) (0,0))).2 = l:=by
    show l ++ swe _ _ _ = _
    unfold swe
    rw [if_pos hm,List.append_nil]
   refine ⟨a,m + 1,by omega,by rw [e2]; exact h2,?_,fun j hj=>?_⟩
   ·rw [e1,hi]
    rfl
   ·by_cases h:j = m
    ·rw [h]; exact hb
    ·exact h4 j (by omega)
theorem swall_ok (t:Int) (ss:Smps):LOk t ss 0 (swall t ss) ss.length:=by
 cases hn:ss.length with
 | zero =>
  obtain rfl:ss = []:=List.eq_nil_of_length_eq_zero hn
  rfl
 | succ i =>
  obtain ⟨a,m,h1,h2,h3,h4⟩:=swj_at t ss i (by omega)
  rw [show ss.take (i + 1) = ss by rw [← hn]; exact List.take_length] at h2 h3
  have e:swall t ss = (swf t ss).2 ++ [sgl t ss a m]:=by
   unfold swall
   rw [h3]
   unfold swl
   rw [if_pos (show (0:Int) < (m:Int) + 1 by omega)]
   rfl
  rw [e,← h1]
  exact h2.last h4
theorem sgd_th {t:Int} {ss:Smps} (ht:tolz t = true) (hin:∀ s∈ss,I64 s.1∧I64 s.2) (hinc:incr ss = true) {a j:Nat} (hj:a + j + 1 < ss.length):ThP (ss.getD a (0,0)).2 (ss.getD (a + j + 1) (0,0)).2 t ((ss.getD (a + j + 1) (0,0)).1 - (ss.getD a (0,0)).1)∧U64 ((ss.getD (a + j + 1) (0,0)).1 - (ss.getD a (0,0)).1)∧(ss.getD (a + j + 1) (0,0)).1 - (ss.getD a (0,0)).1≠0:=by
 have h1:=incr_lt hinc hj
 have x1:=smp_i64 hin a
 have x2:=smp_i64 hin (a + j + 1)
 have iD:U64 ((ss.getD (a + j + 1) (0,0)).1 - (ss.getD a (0,0)).1):=⟨by omega,by have:=x2.1.2; have:=x1.1.1; omega⟩
 have h0:(ss.getD (a + j + 1) (0,0)).1 - (ss.getD a (0,0)).1≠0:=by omega
 exact ⟨th_p (ab_66 x1.2) x2.2 (tolz_iff.1 ht) iD h0,iD,h0⟩
theorem sgk_ok {t:Int} {ss:Smps} (ht:tolz t = true) (hin:∀ s∈ss,I64 s.1∧I64 s.2) (hinc:incr ss = true) {a:Nat}:∀ {j:Nat},(∀ i,i < j→sgb t ss a i = true)→a + j < ss.length→(sgk t ss a j).ok
 | 0,_,_=>cO_ok
 | j + 1,h,hj=>cmt_ok (sgk_ok ht hin hinc (fun i hi=>h i (by omega)) (by omega)) (sgd_th ht hin hinc (by omega)).1.cl.ok (h j (by omega))
end Go.Proofs.YtncmmbacoknefaaGreat

/- Sk: Rows of lines; equality of lines; law 14's known. -/
namespace Go.Proofs.YtncmmbacoknefaaGreat
open Go Go.RowKit Sx
set_option linter.unusedVariables false
set_option linter.unusedSimpArgs false
namespace Sx
variable {C:Cx} {S:St} {K:St→Prop} {d:Option Nat}
end Sx
abbrev B14:List LnV:=[⟨4,0,10,1⟩]
end Go.Proofs.YtncmmbacoknefaaGreat

/- Kp: Cones: the plain laws of meeting and of having a slope. -/
namespace Go.Proofs.YtncmmbacoknefaaGreat
set_option linter.unusedVariables false
set_option linter.unusedSimpArgs false
theorem has_cl {p q p1 q1 x y:Int}:(Cn.mk false p q p1 q1).has x y = true↔p * y≤x * q∧x * q1≤p1 * y:=by
 unfold Cn.has
 simp
theorem Cl.lo {p q p1 q1:Int} (h:Cl p q p1 q1):(Cn.mk false p q p1 q1).has p q = true:=has_cl.2 ⟨Int.le_refl _,h.le⟩
theorem Cl.hi {p q p1 q1:Int} (h:Cl p q p1 q1):(Cn.mk false p q p1 q1).has p1 q1 = true:=has_cl.2 ⟨h.le,Int.le_refl _⟩
theorem has_meet {c c':Cn} {x y:Int} (h:c.ok) (h':c'.ok) (f:Fq x y):((cmt c c').2 && (cmt c c').1.has x y) = (c.has x y && c'.has x y):=by
 rcases h with rfl | ⟨ho,h⟩
 ·rfl
 ·rcases h' with rfl | ⟨ho',h'⟩
  ·obtain ⟨o,p,q,p1,q1⟩:=c
   dsimp only at ho
   subst ho
   show (true && (Cn.mk false p q p1 q1).has x y) = ((Cn.mk false p q p1 q1).has x y && true)
   rw [Bool.and_true,Bool.true_and]
  ·obtain ⟨o,p,q,p1,q1⟩:=c
   obtain ⟨o',r,s,r1,s1⟩:=c'
   dsimp only at ho ho' h h'
   subst ho; subst ho'
   have t1:∀ {a b:Int},0 < b→a * y≤x * b→∀ {a' b':Int},0 < b'→a' * b≤a * b'→a' * y≤x * b':=fun hb k _ _ hb' k'=>frac_trans hb' hb f.pos k' k
   have t2:∀ {a b:Int},0 < b→x * b≤a * y→∀ {a' b':Int},0 < b'→a * b'≤a' * b→x * b'≤a' * y:=fun hb k _ _ hb' k'=>frac_trans f.pos hb hb' k k'
   rw [Bool.eq_iff_iff,Bool.and_eq_true,Bool.and_eq_true,has_cl,has_cl]
   unfold cmt
   have hp:=h.f.pos
   have hp1:=h.g.pos
   have hs:=h'.f.pos
   have hs1:=h'.g.pos
   dsimp only
   by_cases b1:p * s < r * q
   ·by_cases b2:r1 * q1 < p1 * s1
    ·by_cases b3:r * s1≤r1 * s
     ·simp only [b1,b2,b3,if_true,has_cl,Bool.false_eq_true,if_false]
      refine ⟨fun ⟨_,k1,k2⟩=>⟨⟨t1 hs k1 hp (by omega),t2 hs1 k2 hp1 (by omega)⟩,k1,k2⟩,fun ⟨_,k1,k2⟩=>⟨trivial,k1,k2⟩⟩
     ·simp only [b1,b2,b3,if_true,if_false,Bool.false_eq_true,false_and,false_iff]
      rintro ⟨-,k1,k2⟩
      exact b3 (frac_trans hs f.pos hs1 k1 k2)
    ·by_cases b3:r * q1≤p1 * s
     ·simp only [b1,b2,b3,if_true,has_cl,Bool.false_eq_true,if_false]
      refine ⟨fun ⟨_,k1,k2⟩=>⟨⟨t1 hs k1 hp (by omega),k2⟩,k1,t2 hp1 k2 hs1 (by omega)⟩,fun ⟨⟨_,k2⟩,k1,_⟩=>⟨trivial,k1,k2⟩⟩
     ·simp only [b1,b2,b3,if_true,if_false,Bool.false_eq_true,false_and,false_iff]
      rintro ⟨⟨-,k2⟩,k1,-⟩
      exact b3 (frac_trans hs f.pos hp1 k1 k2)
   ·by_cases b2:r1 * q1 < p1 * s1
    ·by_cases b3:p * s1≤r1 * q
     ·simp only [b1,b2,b3,if_true,has_cl,Bool.false_eq_true,if_false]
      refine ⟨fun ⟨_,k1,k2⟩=>⟨⟨k1,t2 hs1 k2 hp1 (by omega)⟩,t1 hp k1 hs (by omega),k2⟩,fun ⟨⟨k1,_⟩,_,k2⟩=>⟨trivial,k1,k2⟩⟩
     ·simp only [b1,b2,b3,if_true,if_false,Bool.false_eq_true,false_and,false_iff]
      rintro ⟨⟨k1,-⟩,-,k2⟩
      exact b3 (frac_trans hp f.pos hs1 k1 k2)
    ·by_cases b3:p * q1≤p1 * q
     ·simp only [b1,b2,b3,if_true,has_cl,Bool.false_eq_true,if_false]
      refine ⟨fun ⟨_,k1,k2⟩=>⟨⟨k1,k2⟩,t1 hp k1 hs (by omega),t2 hp1 k2 hs1 (by omega)⟩,fun ⟨⟨k1,k2⟩,_,_⟩=>⟨trivial,k1,k2⟩⟩
     ·exact absurd h.le b3
theorem Cn.ok.cases {c:Cn} (h:c.ok):c = cO∨(c.o = false∧Cl c.p c.q c.p1 c.q1):=h
theorem cho_fq {c:Cn} (h:c.ok):Fq (cho true c).1 (cho true c).2:=by
 unfold cho
 rw [if_pos rfl]
 rcases h with rfl | ⟨ho,h⟩
 ·exact fq_zero
 ·rw [ho]
  exact (btx_spec h.f h.g h.le).fq
theorem cho_has {c:Cn} (h:c.ok):c.has (cho true c).1 (cho true c).2 = true:=by
 unfold cho
 rw [if_pos rfl]
 obtain ⟨o,p,q,p1,q1⟩:=c
 rcases h with e | ⟨e,h⟩
 ·cases e; rfl
 ·cases e
  have:=btx_spec h.f h.g h.le
  exact has_cl.2 ⟨this.lo,this.hi⟩
theorem mk_le_l {n d p q:Int} (hd:0 < d):mn n d * q≤p * mD n d↔n * q≤p * d:=by
 obtain ⟨h1,h2,-⟩:=mk_law (n:=n) hd
 constructor
 ·intro h
  have:=Int.mul_le_mul_of_nonneg_right h (Int.le_of_lt hd)
  rw [Int.mul_right_comm,h2,Int.mul_right_comm p] at this
  rw [Int.mul_right_comm] at this
  exact Int.le_of_mul_le_mul_right this h1
 ·intro h
  have:=Int.mul_le_mul_of_nonneg_right h (Int.le_of_lt h1)
  rw [Int.mul_right_comm,← h2,Int.mul_right_comm p] at this
  rw [Int.mul_right_comm] at this
  exact Int.le_of_mul_le_mul_right this hd
theorem mk_le_r {n d p q:Int} (hd:0 < d):p * mD n d≤mn n d * q↔p * d≤n * q:=by
 obtain ⟨h1,h2,-⟩:=mk_law (n:=n) hd
 constructor
 ·intro h
  have:=Int.mul_le_mul_of_nonneg_right h (Int.le_of_lt hd)
  rw [Int.mul_right_comm (mn n d),h2,Int.mul_right_comm p] at this
  rw [Int.mul_right_comm n] at this
  exact Int.le_of_mul_le_mul_right this h1
 ·intro h
  have:=Int.mul_le_mul_of_nonneg_right h (Int.le_of_lt h1)
  rw [Int.mul_right_comm n,← h2,Int.mul_right_comm p] at this
  rw [Int.mul_right_comm (mn n d)] at this
  exact Int.le_of_mul_le_mul_right this hd
theorem th_has {b v eps dt p q:Int} (hd:0 < dt):(thc b v eps dt).has p q = true↔ab (p * dt - (v - b) * q)≤eps * q:=by
 unfold thc
 rw [has_cl,mk_le_l hd,mk_le_r hd,Int.sub_mul (v - b) eps q,Int.add_mul (v - b) eps q]
 generalize (v - b) * q = x
 generalize p * dt = y
 generalize eps * q = z
 unfold ab
 split <;> omega
theorem th_round {b v eps dt p q:Int} (hq:0 < q) (h:ab (p * dt - (v - b) * q)≤eps * q):ab (b + atq p q dt - v)≤eps:=by
 have h1:(v - b - eps) * q≤p * dt:=by
  rw [Int.sub_mul]
  generalize (v - b) * q = x at *
  unfold ab at h
  split at h <;> omega
 have h2:p * dt≤(v - b + eps) * q:=by
  rw [Int.add_mul]
  generalize (v - b) * q = x at *
  unfold ab at h
  split at h <;> omega
 have a1:v - b - eps≤atq p q dt:=by
  unfold atq
  refine Int.le_ediv_of_mul_le (by omega) ?_
  have:(v - b - eps) * (2 * q) = 2 * ((v - b - eps) * q):=by rw [Int.mul_left_comm]
  omega
 have a2:atq p q dt < v - b + eps + 1:=by
  unfold atq
  refine Int.ediv_lt_of_lt_mul (by omega) ?_
  have:(v - b + eps + 1) * (2 * q) = 2 * ((v - b + eps) * q) + 2 * q:=by rw [Int.add_mul (v - b + eps) 1,Int.mul_left_comm,Int.one_mul]
  omega
 unfold ab
 split <;> omega
end Go.Proofs.YtncmmbacoknefaaGreat

/- Sl: Laws of swing: what they share. -/
namespace Go.Proofs.YtncmmbacoknefaaGreat
open Go Go.RowKit Sx
set_option linter.unusedVariables false
set_option linter.unusedSimpArgs false
theorem LOk.len {t:Int} {ss:Smps}:∀ {l:List LnV} {a e:Nat},LOk t ss a l e→a + l.length≤e
 | [],a,e,h=>Nat.le_of_eq h
 | x :: l,a,e,⟨m,_,_,_,_,h⟩=>by have:=LOk.len h; rw [List.length_cons]; omega
theorem sgk_has {t:Int} {ss:Smps} (ht:tolz t = true) (hin:∀ s∈ss,I64 s.1∧I64 s.2) (hinc:incr ss = true) {a:Nat} {x y:Int} (f:Fq x y):∀ {m:Nat},(∀ i,i < m→sgb t ss a i = true)→a + m < ss.length→(sgk t ss a m).has x y = true→∀ j,j < m→(sgd t ss a (j + 1)).has x y = true
 | 0,_,_,_,j,hj=>absurd hj (Nat.not_lt_zero _)
 | m + 1,hf,hm,h,j,hj=>by
  have hk:=sgk_ok ht hin hinc (a:=a) (j:=m) (fun i hi=>hf i (by omega)) (by omega)
  have hd:=(sgd_th ht hin hinc (a:=a) (j:=m) (by omega)).1.cl.ok
  have e:=has_meet (c:=sgk t ss a m) (c':=sgd t ss a (m + 1)) hk hd f
  have h1:(cmt (sgk t ss a m) (sgd t ss a (m + 1))).2 = true:=hf m (by omega)
  have h2:(cmt (sgk t ss a m) (sgd t ss a (m + 1))).1.has x y = true:=h
  rw [h1,h2,Bool.and_self] at e
  have e:=e.symm
  rw [Bool.and_eq_true] at e
  by_cases hjm:j = m
  ·rw [hjm]; exact e.2
  ·exact sgk_has ht hin hinc f (fun i hi=>hf i (by omega)) (by omega) e.1 j (by omega)
end Go.Proofs.YtncmmbacoknefaaGreat

/- Sd: swing: the reference's Start, Valid, begin, line on states that samples reach (DRAFT: not built yet). -/
namespace Go.Proofs.YtncmmbacoknefaaGreat
open Go Go.RowKit Sx
set_option linter.unusedVariables false
set_option linter.unusedSimpArgs false
structure SwG (s:SwS):Prop where
 t:tolz s.t = true
 n0:0≤s.n
 n1:s.n≤1073741824
 c:0 < s.n→s.c.ok
 T:I64 s.T
 V:I64 s.V
 L:I64 s.L
 z:s.n = 0→s = sw0 s.t
 one:s.n = 1→s.L = s.T∧s.c = cO
 more:1 < s.n→s.T < s.L∧s.c.o = false
theorem swi_g {t:Int} {ss:Smps} {i:Nat} {a:SwS × List LnV} (h:SwI t ss i a) (ht:tolz t = true) (hi:i≤1073741824):SwG a.1 :=
 ⟨by rw [h.tt]; exact ht,h.n0,by have:=h.n1; omega,h.c,h.T,h.V,h.L,fun hz=>by rw [h.tt]; exact h.z hz,h.one,h.more⟩
theorem guardT_state:Tryz.prog.eqGuardType Tryz.prog.depth 103 = false:=by kernel_rfl
theorem eq_state_self (t N T V L:Int) (o:Bool) (n:Bool) (a b c d:Int) (n1:Bool) (a1 b1 c1 d1:Int) (m:Bool) (e f g h:Int) (m1:Bool) (e1 f1 g1 h1:Int) (w:World) :
  (Op.equalIn 10000 103 (.agg #[.int .i64 t,.int .i64 N,.int .i64 T,.int .i64 V,.int .i64 L,.bool o,.bool n,.int .u64 a,.int .u64 b,.int .u64 c,.int .u64 d,.bool n1,.int .u64 a1,.int .u64 b1,.int .u64 c1,.int .u64 d1,.bool m,.int .u64 e,.int .u64 f,.int .u64 g,.int .u64 h,.bool m1,.int .u64 e1,.int .u64 f1,.int .u64 g1,.int .u64 h1]) (.agg #[.int .i64 t,.int .i64 N,.int .i64 T,.int .i64 V,.int .i64 L,.bool o,.bool n,.int .u64 a,.int .u64 b,.int .u64 c,.int .u64 d,.bool n1,.int .u64 a1,.int .u64 b1,.int .u64 c1,.int .u64 d1,.bool m,.int .u64 e,.int .u64 f,.int .u64 g,.int .u64 h,.bool m1,.int .u64 e1,.int .u64 f1,.int .u64 g1,.int .u64 h1])).run Tryz.prog w = .ok true w:=by
 have E:=fun W=>eq_cone9_self o n a b c d n1 a1 b1 c1 d1 m e f g h m1 e1 f1 g1 h1 W
 unfold KR at E
 simp [go_sem,E]
theorem eqst_run {ng:Bool} {xo yo:Operand} (t N T V L:Int) (o:Bool) (n:Bool) (a b c d:Int) (n1:Bool) (a1 b1 c1 d1:Int) (m:Bool) (e f g h:Int) (m1:Bool) (e1 f1 g1 h1:Int) (W:World) :
  ((do eqGuard (if ng then .neq else .eql) 103 xo yo (.agg #[.int .i64 t,.int .i64 N,.int .i64 T,.int .i64 V,.int .i64 L,.bool o,.bool n,.int .u64 a,.int .u64 b,.int .u64 c,.int .u64 d,.bool n1,.int .u64 a1,.int .u64 b1,.int .u64 c1,.int .u64 d1,.bool m,.int .u64 e,.int .u64 f,.int .u64 g,.int .u64 h,.bool m1,.int .u64 e1,.int .u64 f1,.int .u64 g1,.int .u64 h1]) (.agg #[.int .i64 t,.int .i64 N,.int .i64 T,.int .i64 V,.int .i64 L,.bool o,.bool n,.int .u64 a,.int .u64 b,.int .u64 c,.int .u64 d,.bool n1,.int .u64 a1,.int .u64 b1,.int .u64 c1,.int .u64 d1,.bool m,.int .u64 e,.int .u64 f,.int .u64 g,.int .u64 h,.bool m1,.int .u64 e1,.int .u64 f1,.int .u64 g1,.int .u64 h1]); binOp (if ng then .neq else .eql) 103 (.agg #[.int .i64 t,.int .i64 N,.int .i64 T,.int .i64 V,.int .i64 L,.bool o,.bool n,.int .u64 a,.int .u64 b,.int .u64 c,.int .u64 d,.bool n1,.int .u64 a1,.int .u64 b1,.int .u64 c1,.int .u64 d1,.bool m,.int .u64 e,.int .u64 f,.int .u64 g,.int .u64 h,.bool m1,.int .u64 e1,.int .u64 f1,.int .u64 g1,.int .u64 h1]) (.agg #[.int .i64 t,.int .i64 N,.int .i64 T,.int .i64 V,.int .i64 L,.bool o,.bool n,.int .u64 a,.int .u64 b,.int .u64 c,.int .u64 d,.bool n1,.int .u64 a1,.int .u64 b1,.int .u64 c1,.int .u64 d1,.bool m,.int .u64 e,.int .u64 f,.int .u64 g,.int .u64 h,.bool m1,.int .u64 e1,.int .u64 f1,.int .u64 g1,.int .u64 h1])):Sem Value).run Tryz.prog W = .ok (.bool (!ng)) W :=
 (eqb_run (ng:=ng) (xo:=xo) (yo:=yo) guardT_state (eq_state_self t N T V L o n a b c d n1 a1 b1 c1 d1 m e f g h m1 e1 f1 g1 h1 W)).trans (by cases ng <;> rfl)
theorem rx_swstart {t:Int} (hi:I64 t) (W:World):Gives Tryz.prog 65 [.int .i64 t] W (· = if tolz t then .tuple #[swZ t,.int .i64 0] else .tuple #[swZ 0,.int .i64 9]):=by
 refine gives_known en_r14_Start ?_
 have k:=fun W=>rx_tol hi W
 have e:decide (0≤t∧t≤4611686018427387904) = tolz t:=by unfold tolz; rw [Bool.decide_and]
 rw [e] at k
 cases h:tolz t
 ·rw [h] at k
  refine known_of (enter Tryz.func65 r14_Start.ok (args:=[_]) (by simp) ?_)
  repeat' (first | simp (disch:=omega) only [sxE,r14_Start.E,Nat.reduceAdd,Nat.reduceEqDiff,Nat.reduceMul,Nat.reduceSub,Int.reduceAdd,Int.reduceSub,Int.reduceMul,Int.reduceNeg,Int.reduceLT,Int.reduceLE,Int.reduceEq,Int.reduceToNat,↓reduceIte,Int.reducePow,Nat.reduceLeDiff,Nat.reduceLT,ne_eq,eq_self,List.length_cons,List.length_nil,qxE] | (with_reducible refine Sx.call_at (f:=93) (fun W hW=>k W) ?_) | (with_reducible refine cregF ?_))
 ·rw [h] at k
  refine known_of (enter Tryz.func65 r14_Start.ok (args:=[_]) (by simp) ?_)
  repeat' (first | simp (disch:=omega) only [sxE,r14_Start.E,Nat.reduceAdd,Nat.reduceEqDiff,Nat.reduceMul,Nat.reduceSub,Int.reduceAdd,Int.reduceSub,Int.reduceMul,Int.reduceNeg,Int.reduceLT,Int.reduceLE,Int.reduceEq,Int.reduceToNat,↓reduceIte,Int.reducePow,Nat.reduceLeDiff,Nat.reduceLT,ne_eq,eq_self,List.length_cons,List.length_nil,qxE] | (with_reducible refine Sx.call_at (f:=93) (fun W hW=>k W) ?_) | (with_reducible refine cregF ?_))
theorem rx_swbegin (t xt xv:Int) (W:World):Gives Tryz.prog 132 [.int .i64 t,.agg #[.int .i64 xt,.int .i64 xv]] W (· = swv (swb t xt xv)):=by
 refine gives_known en_r14_begin ?_
 have k:=fun W=>rx_kstart W
 refine known_of (enter Tryz.func132 r14_begin.ok (args:=[_,_]) (by simp) ?_)
 repeat' (first | simp (disch:=omega) only [sxE,r14_begin.E,Nat.reduceAdd,Nat.reduceEqDiff,Nat.reduceMul,Nat.reduceSub,Int.reduceAdd,Int.reduceSub,Int.reduceMul,Int.reduceNeg,Int.reduceLT,Int.reduceLE,Int.reduceEq,Int.reduceToNat,↓reduceIte,Int.reducePow,Nat.reduceLeDiff,Nat.reduceLT,ne_eq,eq_self,List.length_cons,List.length_nil,qxE,kxE] | (with_reducible refine Sx.call_at (f:=55) (fun W hW=>k W) ?_) | (with_reducible refine cregF ?_))
 rfl
theorem rx_swline {s:SwS} (hc:s.c.ok) (W:World):Gives Tryz.prog 133 [swv s] W (· = .agg #[.int .i64 s.n,.int .i64 s.V,.bool (sg (cho true s.c).1),.int .u64 (lb0 (ab (cho true s.c).1)),.int .u64 (lb1 (ab (cho true s.c).1)),.int .u64 (lb2 (ab (cho true s.c).1)),.int .u64 (lb3 (ab (cho true s.c).1)),.bool (sg (cho true s.c).2),.int .u64 (lb0 (ab (cho true s.c).2)),.int .u64 (lb1 (ab (cho true s.c).2)),.int .u64 (lb2 (ab (cho true s.c).2)),.int .u64 (lb3 (ab (cho true s.c).2))]):=by
 refine gives_known en_r14_line ?_
 have k:=fun W=>rx_choose (kv_ok hc) W
 obtain ⟨t,n,T,V,L,⟨o,p,q,p1,q1⟩⟩:=s
 dsimp only at *
 generalize (cho true ⟨o,p,q,p1,q1⟩).1 = P at *
 generalize (cho true ⟨o,p,q,p1,q1⟩).2 = Q at *
 have k:∀ W,Gives Tryz.prog 44 [KX o p q p1 q1] W (· = RX P Q):=k
 clear hc
 refine known_of (enter Tryz.func133 r14_line.ok (args:=[_]) (by simp) ?_)
 repeat' (first | simp (disch:=omega) only [sxE,r14_line.E,Nat.reduceAdd,Nat.reduceEqDiff,Nat.reduceMul,Nat.reduceSub,Int.reduceAdd,Int.reduceSub,Int.reduceMul,Int.reduceNeg,Int.reduceLT,Int.reduceLE,Int.reduceEq,Int.reduceToNat,↓reduceIte,Int.reducePow,Nat.reduceLeDiff,Nat.reduceLT,ne_eq,eq_self,List.length_cons,List.length_nil,qxE,kxE] | (with_reducible refine Sx.call_at (f:=44) (fun W hW=>k W) ?_) | (with_reducible refine cregF ?_))
theorem rx_swvalid {s:SwS} (h:SwG s) (W:World):Gives Tryz.prog 131 [swv s] W (· = .bool true):=by
 refine gives_known en_r14_Valid ?_
 obtain ⟨t0,t1⟩:=tolz_iff.1 h.t
 have it:I64 s.t:=⟨by omega,by omega⟩
 have k1:=fun W=>rx_tol it W
 rw [decide_eq_true (show 0≤s.t∧s.t≤4611686018427387904 from ⟨t0,t1⟩)] at k1
 by_cases h0:s.n = 0
 ·rw [h.z h0,swv_0]
  generalize s.t = t at *
  clear h h0
  refine known_of (enter Tryz.func131 r14_Valid.ok (args:=[_]) (by simp) ?_)
  repeat' (first | simp (disch:=omega) only [sxE,r14_Valid.E,Nat.reduceAdd,Nat.reduceEqDiff,Nat.reduceMul,Nat.reduceSub,Int.reduceAdd,Int.reduceSub,Int.reduceMul,Int.reduceNeg,Int.reduceLT,Int.reduceLE,Int.reduceEq,Int.reduceToNat,↓reduceIte,Int.reducePow,Nat.reduceLeDiff,Nat.reduceLT,ne_eq,eq_self,List.length_cons,List.length_nil,qxE,kxE,beq_self_eq_true,Bool.not_false] | (with_reducible refine Sx.call_at (f:=93) (fun W hW=>k1 W) ?_) | (with_reducible refine eq_is (fun W=>by exact eqst_run _ _ _ _ _ _ _ _ _ _ _ _ _ _ _ _ _ _ _ _ _ _ _ _ _ _ W) ?_) | (with_reducible refine cregF ?_))
 by_cases h1:s.n = 1
 ·obtain ⟨e1,e2⟩:=h.one h1
  obtain ⟨t,n,T,V,L,c⟩:=s
  dsimp only at *
  subst e1 e2 h1
  have k2:=fun W=>rx_kstart W
  clear h it h0
  show Calls _ _ #[.agg #[.int .i64 t,.int .i64 1,.int .i64 L,.int .i64 V,.int .i64 L,.bool true,.bool (sg 0),.int .u64 (lb0 (ab 0)),.int .u64 (lb1 (ab 0)),.int .u64 (lb2 (ab 0)),.int .u64 (lb3 (ab 0)),.bool (sg 0),.int .u64 (lb0 (ab 0)),.int .u64 (lb1 (ab 0)),.int .u64 (lb2 (ab 0)),.int .u64 (lb3 (ab 0)),.bool (sg 0),.int .u64 (lb0 (ab 0)),.int .u64 (lb1 (ab 0)),.int .u64 (lb2 (ab 0)),.int .u64 (lb3 (ab 0)),.bool (sg 0),.int .u64 (lb0 (ab 0)),.int .u64 (lb1 (ab 0)),.int .u64 (lb2 (ab 0)),.int .u64 (lb3 (ab 0))]] _ _
  refine known_of (enter Tryz.func131 r14_Valid.ok (args:=[_]) (by simp) ?_)
  repeat' (first | simp (disch:=omega) only [sxE,r14_Valid.E,Nat.reduceAdd,Nat.reduceEqDiff,Nat.reduceMul,Nat.reduceSub,Int.reduceAdd,Int.reduceSub,Int.reduceMul,Int.reduceNeg,Int.reduceLT,Int.reduceLE,Int.reduceEq,Int.reduceToNat,↓reduceIte,Int.reducePow,Nat.reduceLeDiff,Nat.reduceLT,ne_eq,eq_self,List.length_cons,List.length_nil,qxE,kxE,beq_self_eq_true,Bool.not_false] | (with_reducible refine Sx.call_at (f:=93) (fun W hW=>k1 W) ?_) | (with_reducible refine Sx.call_at (f:=55) (fun W hW=>k2 W) ?_) | (with_reducible refine eq_is (fun W=>by exact eqkx_run W) ?_) | (with_reducible refine cregF ?_))
 ·have hn:1 < s.n:=by have:=h.n0; omega
  obtain ⟨hL,ho⟩:=h.more hn
  have k2:=(kv_ok (h.c (by omega))).v2
  have hm:=h.n1
  obtain ⟨t,n,T,V,L,⟨o,p,q,p1,q1⟩⟩:=s
  dsimp only at *
  subst ho
  have k2:∀ W,Gives Tryz.prog 39 [KX false p q p1 q1] W (· = .bool true):=k2
  clear h it
  refine known_of (enter Tryz.func131 r14_Valid.ok (args:=[_]) (by simp) ?_)
  repeat' (first | simp (disch:=omega) only [sxE,r14_Valid.E,Nat.reduceAdd,Nat.reduceEqDiff,Nat.reduceMul,Nat.reduceSub,Int.reduceAdd,Int.reduceSub,Int.reduceMul,Int.reduceNeg,Int.reduceLT,Int.reduceLE,Int.reduceEq,Int.reduceToNat,↓reduceIte,Int.reducePow,Nat.reduceLeDiff,Nat.reduceLT,ne_eq,eq_self,List.length_cons,List.length_nil,qxE,kxE,Bool.not_false] | (with_reducible refine Sx.call_at (f:=93) (fun W hW=>k1 W) ?_) | (with_reducible refine Sx.call_at (f:=39) (fun W hW=>k2 W) ?_) | (with_reducible refine cregF ?_))
end Go.Proofs.YtncmmbacoknefaaGreat

/- Sf: swing: the reference's Step, Finish, All and Same. -/
namespace Go.Proofs.YtncmmbacoknefaaGreat
open Go Go.RowKit Sx
set_option linter.unusedVariables false
set_option linter.unusedSimpArgs false
theorem lcells_1 (ls:List LnV):all1 (lcells ls) = true:=by
 induction ls with
 | nil=>rfl
 | cons x l ih =>
  show all1 (lcell x ++ lcells l) = true
  rw [all1_app,ih]
  rfl
def stz (s:SwS) (xt xv:Int):Value × List LnV × Int:=if 0 < s.n∧xt≤s.L then (swZ 0,[],7) else if s.n = 1073741824 then (swZ 0,[],3) else (swv (swn s xt xv),swe s xt xv,0)
theorem stz_ok {s:SwS} {xt xv:Int} (h1:¬ (0 < s.n∧xt≤s.L)) (h2:s.n≠1073741824):stz s xt xv = (swv (swn s xt xv),swe s xt xv,0):=by
 unfold stz
 rw [if_neg h1,if_neg h2]
def StpB (w:World) (r:Value × List LnV × Int) (en:Ending) (w':World):Prop:=∃ v,en = .returned (.tuple #[r.1,v,.int .i64 r.2.2])∧w'.ownsRow w.heap.size 41 12 v r.2.1.length (lcells r.2.1)∧Below w.heap.size w w'
set_option maxRecDepth 100000 in
set_option maxHeartbeats 2000000 in
theorem rx_swstep {w:World} {s:SwS} {xt xv:Int} (h:SwG s) (hxt:I64 xt) (hxv:I64 xv):Calls Tryz.prog 72 #[swv s,.agg #[.int .i64 xt,.int .i64 xv]] w (StpB w (stz s xt xv)):=by
 refine (enterX Tryz.func72 r14_Step.ok (args:=[swv s,.agg #[.int .i64 xt,.int .i64 xv]]) (R:=fun u X=>∃ v L,u = .tuple #[(stz s xt xv).1,v,.int .i64 (stz s xt xv).2.2]∧X = kX w.heap.size L∧rowOf L 41 12 v (stz s xt xv).2.1.length (lcells (stz s xt xv).2.1)) (by simp) ?run).mono ?fin
 case fin =>
  rintro e w' ⟨u,X,rfl,⟨v,L,rfl,rfl,hr⟩,hX,hbl,-⟩
  exact ⟨v,rfl,hr.own hX,hbl⟩
 case run =>
  have kv:=fun W=>rx_swvalid h W
  have kb:=fun W=>rx_swbegin s.t xt xv W
  obtain ⟨t0,t1⟩:=tolz_iff.1 h.t
  have m1:=h.n1
  have m0:=h.n0
  by_cases hn:0 < s.n
  ·by_cases hle:xt≤s.L
   ·have e:stz s xt xv = (swZ 0,[],7):=if_pos ⟨hn,hle⟩
    rw [e]
    clear e h kb
    obtain ⟨st,sn,sT,sV,sL,⟨o,p,q,p1,q1⟩⟩:=s
    dsimp only at *
    repeat' (first | simp (disch:=omega) only [sxE,r14_Step.E,Nat.reduceAdd,Nat.reduceEqDiff,Nat.reduceMul,Nat.reduceSub,Int.reduceAdd,Int.reduceSub,Int.reduceMul,Int.reduceNeg,Int.reduceLT,Int.reduceLE,Int.reduceEq,Int.reduceToNat,↓reduceIte,Int.reducePow,Nat.reduceLeDiff,Nat.reduceLT,ne_eq,eq_self,List.length_cons,List.length_nil,qxE,kxE,Bool.not_true] | (with_reducible refine Sx.call_at (f:=131) (fun W hW=>kv W) ?_) | (with_reducible refine cregF ?_))
    exact ⟨.slice none 0 0,[],rfl,kX_nil _,.inl ⟨rfl,rfl,rfl⟩⟩
   ·by_cases hmax:s.n = 1073741824
    ·have e:stz s xt xv = (swZ 0,[],3):=by unfold stz; rw [if_neg (fun h=>hle h.2),if_pos hmax]
     rw [e]
     clear e h kb
     obtain ⟨st,sn,sT,sV,sL,⟨o,p,q,p1,q1⟩⟩:=s
     dsimp only at *
     repeat' (first | simp (disch:=omega) only [sxE,r14_Step.E,Nat.reduceAdd,Nat.reduceEqDiff,Nat.reduceMul,Nat.reduceSub,Int.reduceAdd,Int.reduceSub,Int.reduceMul,Int.reduceNeg,Int.reduceLT,Int.reduceLE,Int.reduceEq,Int.reduceToNat,↓reduceIte,Int.reducePow,Nat.reduceLeDiff,Nat.reduceLT,ne_eq,eq_self,List.length_cons,List.length_nil,qxE,kxE,Bool.not_true] | (with_reducible refine Sx.call_at (f:=131) (fun W hW=>kv W) ?_) | (with_reducible refine cregF ?_))
     exact ⟨.slice none 0 0,[],rfl,kX_nil _,.inl ⟨rfl,rfl,rfl⟩⟩
    ·rw [stz_ok (fun h=>hle h.2) hmax]
     have hc:=h.c hn
     have iT:=h.T
     have iV:=h.V
     have hTL:s.T≤s.L:=by
      by_cases h1:s.n = 1
      ·exact Int.le_of_eq (h.one h1).1.symm
      ·exact Int.le_of_lt (h.more (by omega)).1
     have hx:s.T < xt:=by omega
     have kl:=fun W=>rx_swline (s:=s) hc W
     clear h
     obtain ⟨st,sn,sT,sV,sL,⟨o,p,q,p1,q1⟩⟩:=s
     dsimp only at *
     have d1:=fun W=>rx_sdist hxt iT (Int.le_of_lt hx) W
     have o1:=fun W=>rx_of iV W
     have iDt:U64 (xt - sT):=⟨by omega,by have:=hxt.2; have:=iT.1; omega⟩
     have th:=fun W=>rx_through (i64_fits iV).rw hxv ⟨by omega,by omega⟩ iDt (eps:=st) W
     rw [thV_yes (ab_66 iV) t0 t1 (by omega)] at th
     have tp:=th_p (ab_66 iV) hxv ⟨t0,t1⟩ iDt (by omega)
     have mt:=fun W=>rx_meet (kv_ok hc) (kv_ok tp.cl.ok) W
     have hsm:swm ⟨st,sn,sT,sV,sL,⟨o,p,q,p1,q1⟩⟩ xt xv = cmt ⟨o,p,q,p1,q1⟩ ⟨false,mn (xv - sV - st) (xt - sT),mD (xv - sV - st) (xt - sT),mn (xv - sV + st) (xt - sT),mD (xv - sV + st) (xt - sT)⟩:=rfl
     unfold mtV mtv at mt
     rw [Bool.true_and,if_pos rfl] at mt
     have hE1:swn ⟨st,sn,sT,sV,sL,⟨o,p,q,p1,q1⟩⟩ xt xv = if swg ⟨st,sn,sT,sV,sL,⟨o,p,q,p1,q1⟩⟩ xt xv = true then ⟨st,sn + 1,sT,sV,xt,(swm ⟨st,sn,sT,sV,sL,⟨o,p,q,p1,q1⟩⟩ xt xv).1⟩ else swb st xt xv:=rfl
     have hE2:swe ⟨st,sn,sT,sV,sL,⟨o,p,q,p1,q1⟩⟩ xt xv = if swg ⟨st,sn,sT,sV,sL,⟨o,p,q,p1,q1⟩⟩ xt xv = true then [] else swl ⟨st,sn,sT,sV,sL,⟨o,p,q,p1,q1⟩⟩:=rfl
     have hE3:swg ⟨st,sn,sT,sV,sL,⟨o,p,q,p1,q1⟩⟩ xt xv = (swm ⟨st,sn,sT,sV,sL,⟨o,p,q,p1,q1⟩⟩ xt xv).2:=by unfold swg; rw [decide_eq_true hn,Bool.true_and]
     have hE4:swl ⟨st,sn,sT,sV,sL,⟨o,p,q,p1,q1⟩⟩ = [⟨sn,sV,(cho true ⟨o,p,q,p1,q1⟩).1,(cho true ⟨o,p,q,p1,q1⟩).2⟩]:=if_pos hn
     rw [hE4] at hE2
     rw [hsm] at hE1 hE3
     clear tp hsm hE4
     generalize (cho true ⟨o,p,q,p1,q1⟩).1 = P at *
     generalize (cho true ⟨o,p,q,p1,q1⟩).2 = Q at *
     generalize mn (xv - sV - st) (xt - sT) = a1 at *
     generalize mD (xv - sV - st) (xt - sT) = a2 at *
     generalize mn (xv - sV + st) (xt - sT) = a3 at *
     generalize mD (xv - sV + st) (xt - sT) = a4 at *
     generalize cmt ⟨o,p,q,p1,q1⟩ ⟨false,a1,a2,a3,a4⟩ = M at *
     obtain ⟨⟨mo,mp,mq,mp1,mq1⟩,mb⟩:=M
     dsimp only at hE1 hE3 mt
     have mt:∀ W,Gives Tryz.prog 45 [KX o p q p1 q1,KX false a1 a2 a3 a4] W (· = .tuple #[KX mo mp mq mp1 mq1,.bool mb]):=mt
     cases mb
     ·rw [if_neg (by rw [hE3]; decide)] at hE1 hE2
      rw [hE1,hE2]
      clear hE1 hE2 hE3 hc hTL
      repeat' (first | simp (disch:=omega) only [sxE,r14_Step.E,Nat.reduceAdd,Nat.reduceEqDiff,Nat.reduceMul,Nat.reduceSub,Int.reduceAdd,Int.reduceSub,Int.reduceMul,Int.reduceNeg,Int.reduceLT,Int.reduceLE,Int.reduceEq,Int.reduceToNat,↓reduceIte,Int.reducePow,Nat.reduceLeDiff,Nat.reduceLT,ne_eq,eq_self,List.length_cons,List.length_nil,qxE,kxE,Bool.not_true,Bool.not_false] | (with_reducible refine Sx.call_at (f:=131) (fun W hW=>kv W) ?_) | (with_reducible refine Sx.call_at (f:=50) (fun W hW=>o1 W) ?_) | (with_reducible refine Sx.call_at (f:=42) (fun W hW=>d1 W) ?_) | (with_reducible refine Sx.call_at (f:=40) (fun W hW=>th W) ?_) | (with_reducible refine Sx.call_at (f:=45) (fun W hW=>mt W) ?_) | (with_reducible refine Sx.call_at (f:=132) (fun W hW=>kb W) ?_) | (with_reducible refine Sx.call_at (f:=133) (fun W hW=>kl W) ?_) | (refine genA_w (L:=[]) (cs:=lcell ⟨sn,sV,P,Q⟩) (e:=41) (s:=12) (n:=1) (kX_nil _) (by simp [maxLen]) rfl (fun W=>by kernel_rfl) fun b hb=>?_) | (with_reducible refine And.intro ?_ ?_) | (with_reducible refine cregF ?_))
      all_goals exact ⟨_,_,rfl,rfl,.inr (List.mem_singleton.2 rfl)⟩
     ·rw [if_pos hE3] at hE1 hE2
      rw [hE1,hE2]
      clear hE1 hE2 hE3 hc hTL kl kb
      repeat' (first | simp (disch:=omega) only [sxE,r14_Step.E,Nat.reduceAdd,Nat.reduceEqDiff,Nat.reduceMul,Nat.reduceSub,Int.reduceAdd,Int.reduceSub,Int.reduceMul,Int.reduceNeg,Int.reduceLT,Int.reduceLE,Int.reduceEq,Int.reduceToNat,↓reduceIte,Int.reducePow,Nat.reduceLeDiff,Nat.reduceLT,ne_eq,eq_self,List.length_cons,List.length_nil,qxE,kxE,Bool.not_true,Bool.not_false] | (with_reducible refine Sx.call_at (f:=131) (fun W hW=>kv W) ?_) | (with_reducible refine Sx.call_at (f:=50) (fun W hW=>o1 W) ?_) | (with_reducible refine Sx.call_at (f:=42) (fun W hW=>d1 W) ?_) | (with_reducible refine Sx.call_at (f:=40) (fun W hW=>th W) ?_) | (with_reducible refine Sx.call_at (f:=45) (fun W hW=>mt W) ?_) | (with_reducible refine cregF ?_))
      exact ⟨.slice none 0 0,[],rfl,kX_nil _,.inl ⟨rfl,rfl,rfl⟩⟩
  ·have hz:s.n = 0:=by omega
   have e:stz s xt xv = (swv (swb s.t xt xv),[],0):=by
    have eg:swg s xt xv = false:=by unfold swg; rw [decide_eq_false hn]; rfl
    rw [stz_ok (fun h=>hn h.1) (by omega)]
    unfold swn swe swl
    rw [eg,if_neg (by decide),if_neg (by decide),if_neg hn]
   rw [e]
   rw [h.z hz,swv_0] at kv ⊢
   generalize s.t = t at *
   clear e h hn hz m0 m1
   repeat' (first | simp (disch:=omega) only [sxE,r14_Step.E,Nat.reduceAdd,Nat.reduceEqDiff,Nat.reduceMul,Nat.reduceSub,Int.reduceAdd,Int.reduceSub,Int.reduceMul,Int.reduceNeg,Int.reduceLT,Int.reduceLE,Int.reduceEq,Int.reduceToNat,↓reduceIte,Int.reducePow,Nat.reduceLeDiff,Nat.reduceLT,ne_eq,eq_self,List.length_cons,List.length_nil,qxE,kxE,Bool.not_true,beq_self_eq_true] | (with_reducible refine Sx.call_at (f:=131) (fun W hW=>kv W) ?_) | (with_reducible refine Sx.call_at (f:=132) (fun W hW=>kb W) ?_) | (with_reducible refine cregF ?_))
   exact ⟨.slice none 0 0,[],rfl,kX_nil _,.inl ⟨rfl,rfl,rfl⟩⟩
set_option maxRecDepth 100000 in
theorem rx_swfin {w:World} {s:SwS} (h:SwG s):Calls Tryz.prog 73 #[swv s] w (AllB w (swl s) 0):=by
 refine (enterX Tryz.func73 r14_Finish.ok (args:=[swv s]) (R:=fun u X=>∃ v L,u = .tuple #[v,.int .i64 0]∧X = kX w.heap.size L∧rowOf L 41 12 v (swl s).length (lcells (swl s))) (by simp) ?run).mono ?fin
 case fin =>
  rintro e w' ⟨u,X,rfl,⟨v,L,rfl,rfl,hr⟩,hX,hbl,-⟩
  exact ⟨v,rfl,hr.own hX,hbl⟩
 case run =>
  have kv:=fun W=>rx_swvalid h W
  by_cases hn:0 < s.n
  ·have e:swl s = [⟨s.n,s.V,(cho true s.c).1,(cho true s.c).2⟩]:=if_pos hn
   rw [e]
   have kl:=fun W=>rx_swline (s:=s) (h.c hn) W
   clear e h
   obtain ⟨st,sn,sT,sV,sL,⟨o,p,q,p1,q1⟩⟩:=s
   dsimp only at *
   generalize (cho true ⟨o,p,q,p1,q1⟩).1 = P at *
   generalize (cho true ⟨o,p,q,p1,q1⟩).2 = Q at *
   repeat' (first | simp (disch:=omega) only [sxE,r14_Finish.E,Nat.reduceAdd,Nat.reduceEqDiff,Nat.reduceMul,Nat.reduceSub,Int.reduceAdd,Int.reduceSub,Int.reduceMul,Int.reduceNeg,Int.reduceLT,Int.reduceLE,Int.reduceEq,Int.reduceToNat,↓reduceIte,Int.reducePow,Nat.reduceLeDiff,Nat.reduceLT,ne_eq,eq_self,List.length_cons,List.length_nil,qxE,kxE,Bool.not_true,Bool.not_false] | (with_reducible refine Sx.call_at (f:=131) (fun W hW=>kv W) ?_) | (with_reducible refine Sx.call_at (f:=133) (fun W hW=>kl W) ?_) | (refine genA_w (L:=[]) (cs:=lcell ⟨sn,sV,P,Q⟩) (e:=41) (s:=12) (n:=1) (kX_nil _) (by simp [maxLen]) rfl (fun W=>by kernel_rfl) fun b hb=>?_) | (with_reducible refine cregF ?_))
   exact ⟨_,_,rfl,rfl,.inr (List.mem_singleton.2 rfl)⟩
  ·have e:swl s = []:=if_neg hn
   rw [e]
   have hz:s.n = 0:=by have:=h.n0; omega
   rw [h.z hz,swv_0] at kv ⊢
   generalize s.t = t at *
   clear e h hn hz
   repeat' (first | simp (disch:=omega) only [sxE,r14_Finish.E,Nat.reduceAdd,Nat.reduceEqDiff,Nat.reduceMul,Nat.reduceSub,Int.reduceAdd,Int.reduceSub,Int.reduceMul,Int.reduceNeg,Int.reduceLT,Int.reduceLE,Int.reduceEq,Int.reduceToNat,↓reduceIte,Int.reducePow,Nat.reduceLeDiff,Nat.reduceLT,ne_eq,eq_self,List.length_cons,List.length_nil,qxE,kxE,Bool.not_true,beq_self_eq_true] | (with_reducible refine Sx.call_at (f:=131) (fun W hW=>kv W) ?_) | (with_reducible refine cregF ?_))
   exact ⟨.slice none 0 0,[],rfl,kX_nil _,.inl ⟨rfl,rfl,rfl⟩⟩
set_option maxRecDepth 100000 in
set_option maxHeartbeats 2000000 in
theorem rx_swall {w:World} {v:Value} {ss:Smps} {t:Int} (h:SlS w v ss) (hi:I64 t) (hn:8 * ss.length≤140737488355328):Calls Tryz.prog 18 #[v,.int .i64 t] w (AllB w (linez t ss) (erz t ss)):=by
 obtain ⟨a,cap,rfl,h1,h2,h3,h4⟩:=id h
 have h2':=h2
 simp only [maxLen] at h2'
 refine (enterX Tryz.func18 r14_All.ok (args:=[.slice a ss.length cap,.int .i64 t]) (R:=fun u X=>∃ v L,u = .tuple #[v,.int .i64 (erz t ss)]∧X = kX w.heap.size L∧rowOf L 41 12 v (linez t ss).length (lcells (linez t ss))) (by simp) ?run).mono ?fin
 case fin =>
  rintro e w' ⟨u,X,rfl,⟨v,L,rfl,rfl,hr⟩,hX,hbl,-⟩
  exact ⟨v,rfl,hr.own hX,hbl⟩
 case run =>
  have k1:=fun W=>rx_swstart hi W
  have c1:∀ W,Below w.heap.size w W→Gives Tryz.prog 71 [.slice a ss.length cap] W (· = .int .i64 (if incr ss then 0 else 7)):=fun W hW=>gives_known en_r12_Check (r_check (SlS.below h hW) hn)
  by_cases ht:tolz t = true
  ·rw [if_pos ht] at k1
   by_cases hinc:incr ss = true
   ·rw [if_pos hinc] at c1
    by_cases hl:ss.length≤1073741824
    ·obtain ⟨e1,e2⟩:=erz_ok ht hinc hl
     rw [e1,e2]
     clear e1 e2
     repeat' (first | simp (disch:=omega) only [sxE,r14_All.E,Nat.reduceAdd,Nat.reduceEqDiff,Nat.reduceMul,Nat.reduceSub,Int.reduceAdd,Int.reduceSub,Int.reduceMul,Int.reduceNeg,Int.reduceLT,Int.reduceLE,Int.reduceEq,Int.reduceToNat,↓reduceIte,Int.reducePow,Nat.reduceLeDiff,Nat.reduceLT,ne_eq,eq_self,List.length_cons,List.length_nil,qxE] | (with_reducible refine Sx.call_at (f:=65) (fun W hW=>k1 W) ?_) | (with_reducible refine cregF ?_))
     refine asks_at (fun W hW=>c1 W hW) ?_
     repeat' (first | simp (disch:=omega) only [sxE,r14_All.E,Nat.reduceAdd,Nat.reduceEqDiff,Nat.reduceMul,Nat.reduceSub,Int.reduceAdd,Int.reduceSub,Int.reduceMul,Int.reduceNeg,Int.reduceLT,Int.reduceLE,Int.reduceEq,Int.reduceToNat,↓reduceIte,Int.reducePow,Nat.reduceLeDiff,Nat.reduceLT,ne_eq,eq_self,List.length_cons,List.length_nil,qxE] | (with_reducible refine cregF ?_))
     rw [r14_All.p3_l]
     have HI:=fun i hi=>swi_at ht h3 hinc i hi
     have t01:=tolz_iff.1 ht
     refine LX_inv (fun x:Nat × Value=>⟨1,[(0,.v (.slice a ss.length cap)),(6,.p 0 0),(8,.v x.2),(9,.v (.int .i64 (x.1:Int)))],[(0,[.int .i64 (swf t (ss.take x.1)).1.t,.int .i64 (swf t (ss.take x.1)).1.n,.int .i64 (swf t (ss.take x.1)).1.T,.int .i64 (swf t (ss.take x.1)).1.V,.int .i64 (swf t (ss.take x.1)).1.L,.bool (swf t (ss.take x.1)).1.c.o,.bool (sg (swf t (ss.take x.1)).1.c.p),.int .u64 (lb0 (ab (swf t (ss.take x.1)).1.c.p)),.int .u64 (lb1 (ab (swf t (ss.take x.1)).1.c.p)),.int .u64 (lb2 (ab (swf t (ss.take x.1)).1.c.p)),.int .u64 (lb3 (ab (swf t (ss.take x.1)).1.c.p)),.bool (sg (swf t (ss.take x.1)).1.c.q),.int .u64 (lb0 (ab (swf t (ss.take x.1)).1.c.q)),.int .u64 (lb1 (ab (swf t (ss.take x.1)).1.c.q)),.int .u64 (lb2 (ab (swf t (ss.take x.1)).1.c.q)),.int .u64 (lb3 (ab (swf t (ss.take x.1)).1.c.q)),.bool (sg (swf t (ss.take x.1)).1.c.p1),.int .u64 (lb0 (ab (swf t (ss.take x.1)).1.c.p1)),.int .u64 (lb1 (ab (swf t (ss.take x.1)).1.c.p1)),.int .u64 (lb2 (ab (swf t (ss.take x.1)).1.c.p1)),.int .u64 (lb3 (ab (swf t (ss.take x.1)).1.c.p1)),.bool (sg (swf t (ss.take x.1)).1.c.q1),.int .u64 (lb0 (ab (swf t (ss.take x.1)).1.c.q1)),.int .u64 (lb1 (ab (swf t (ss.take x.1)).1.c.q1)),.int .u64 (lb2 (ab (swf t (ss.take x.1)).1.c.q1)),.int .u64 (lb3 (ab (swf t (ss.take x.1)).1.c.q1))])],kX w.heap.size [.g (wK 41 12 x.2 (swf t (ss.take x.1)).2.length (lcells (swf t (ss.take x.1)).2))]⟩) (fun x=>x.1≤ss.length) (fun x=>ss.length - x.1) ?round (0,.slice none 0 0) (Nat.zero_le _) ?start
     case start =>
      have c0:((0:Nat):Int) = 0:=rfl
      simp (disch:=omega) only [sxE,r14_All.E,Nat.reduceAdd,Nat.reduceEqDiff,Nat.reduceMul,Nat.reduceSub,Int.reduceAdd,Int.reduceSub,Int.reduceMul,Int.reduceNeg,Int.reduceLT,Int.reduceLE,Int.reduceEq,Int.reduceToNat,↓reduceIte,Int.reducePow,Nat.reduceLeDiff,Nat.reduceLT,ne_eq,eq_self,List.length_cons,List.length_nil,c0]
      refine ⟨?_,?_⟩
      ·exact (congrArg (fun v:Value=>v.cells.toList) (swv_0 t)).symm
      ·rw [kX_nil w.heap.size]
       refine extS_of (L:=[]) fun k hk=>?_
       rw [List.mem_singleton.1 hk]
       exact .inr ⟨rfl,fun W=>wK_nil _ _ _ W⟩
     case round =>
      rintro ⟨i,v⟩ hi'
      try dsimp only at hi' ⊢
      by_cases hlt:i < ss.length
      ·obtain ⟨b',off,rfl,-,-⟩:=h4 (by omega)
       have hsi:=HI i hi'
       have hnx:=swi_next hsi ht hlt h3 hinc
       have enx:swf t (ss.take (i + 1)) = swa (swf t (ss.take i)) (ss.getD i (0,0)):=by rw [take_snoc' hlt,swf_snoc]
       have hx:=smp_i64 h3 i
       have e0:(i:Int) + 1 = ((i + 1:Nat):Int):=by omega
       have hG:=swi_g hsi ht (by omega)
       have hord:¬ (0 < (swf t (ss.take i)).1.n∧(ss.getD i (0,0)).1≤(swf t (ss.take i)).1.L):=fun ⟨q1,q2⟩=>by
        have hi0:0 < i:=by have:=hsi.n1; omega
        have q3:=(hsi.l hi0).2
        have q4:=of_decide_eq_true hinc (i - 1) (by omega)
        rw [show i - 1 + 1 = i by omega] at q4
        omega
       have hz:=stz_ok (xv:=(ss.getD i (0,0)).2) hord (by have:=hsi.n1; omega)
       have hlen:=hnx.1.len
       rw [← enx] at hlen
       clear hord hnx
       rw [enx] at hlen
       unfold swa at hlen enx
       generalize hA:swf t (ss.take i) = A at *
       obtain ⟨⟨st,sn,sT,sV,sL,⟨o,p,q,p1,q1⟩⟩,ls⟩:=A
       clear hA h3 h4 hsi
       dsimp only at hG hlen enx hz ⊢
       rw [List.length_append] at hlen
       repeat' (first | simp (disch:=omega) only [sxE,r14_All.E,Nat.reduceAdd,Nat.reduceEqDiff,Nat.reduceMul,Nat.reduceSub,Int.reduceAdd,Int.reduceSub,Int.reduceMul,Int.reduceNeg,Int.reduceLT,Int.reduceLE,Int.reduceEq,Int.reduceToNat,↓reduceIte,Int.reducePow,Nat.reduceLeDiff,Nat.reduceLT,ne_eq,eq_self,List.length_cons,List.length_nil,qxE] | (with_reducible refine ldP_blk b' ?_; refine ldP_S2 i h ?_ ?_ ?_; omega; omega) | (with_reducible refine cregF ?_))
       refine asks_rowB (L:=[.g (wK 41 12 v ls.length (lcells ls))]) (e:=41) (s:=12) (ι:=Unit) (fun _=>True) (fun _=>(swe ⟨st,sn,sT,sV,sL,⟨o,p,q,p1,q1⟩⟩ (ss.getD i (0,0)).1 (ss.getD i (0,0)).2).length) (fun _=>lcells (swe ⟨st,sn,sT,sV,sL,⟨o,p,q,p1,q1⟩⟩ (ss.getD i (0,0)).1 (ss.getD i (0,0)).2)) (fun _ v=>.tuple #[swv (swn ⟨st,sn,sT,sV,sL,⟨o,p,q,p1,q1⟩⟩ (ss.getD i (0,0)).1 (ss.getD i (0,0)).2),v,.int .i64 0]) en_r14_Step rfl (fun W hW hok=>?_) ?_
       ·have:=rx_swstep (w:=W) hG hx.1 hx.2
        rw [hz] at this
        exact this.mono fun e w' ⟨v,h1,h2,h3⟩=>⟨(),v,trivial,h1,h2,h3⟩
       rintro - a2 c2 - - - - -
       generalize swe ⟨st,sn,sT,sV,sL,⟨o,p,q,p1,q1⟩⟩ (ss.getD i (0,0)).1 (ss.getD i (0,0)).2 = es at *
       generalize swn ⟨st,sn,sT,sV,sL,⟨o,p,q,p1,q1⟩⟩ (ss.getD i (0,0)).1 (ss.getD i (0,0)).2 = s' at *
       clear hz hG hx
       obtain ⟨st',sn',sT',sV',sL',⟨o',p',q',p1',q1'⟩⟩:=s'
       repeat' (first | simp (disch:=omega) only [sxE,r14_All.E,Nat.reduceAdd,Nat.reduceEqDiff,Nat.reduceMul,Nat.reduceSub,Int.reduceAdd,Int.reduceSub,Int.reduceMul,Int.reduceNeg,Int.reduceLT,Int.reduceLE,Int.reduceEq,Int.reduceToNat,↓reduceIte,Int.reducePow,Nat.reduceLeDiff,Nat.reduceLT,ne_eq,eq_self,List.length_cons,List.length_nil,qxE] | (refine genA_appR rfl [] elt_line rfl (.inr (List.mem_cons_of_mem _ List.mem_cons_self)) (.inr List.mem_cons_self) (.inl fun _ h=>h) (lcells_1 _) (by simp only [maxLen]; omega) (by omega) (fun k hk=>by cases hk) fun a3 c3 _ _ _ _=>?_) | (with_reducible refine cregF ?_))
       rw [e0]
       refine ⟨(i + 1,.slice a3 (ls.length + es.length) c3),by dsimp only; omega,by dsimp only; omega,⟨rfl,rfl⟩,?_,.inl ?_⟩
       ·dsimp only
        rw [enx]
       ·dsimp only
        rw [enx]
        dsimp only
        rw [List.length_append,lcells_app]
      ·obtain rfl:i = ss.length:=by omega
       have hsi:=HI _ (Nat.le_refl _)
       rw [List.take_length] at hsi ⊢
       have hG:=swi_g hsi ht hl
       have hlen:=hsi.len
       have hll:=swl_len (swf t ss).1
       unfold swall
       generalize hA:swf t ss = A at *
       obtain ⟨⟨st,sn,sT,sV,sL,⟨o,p,q,p1,q1⟩⟩,ls⟩:=A
       clear hA h3 h4 hsi
       dsimp only at hG hlen hll ⊢
       repeat' (first | simp (disch:=omega) only [sxE,r14_All.E,Nat.reduceAdd,Nat.reduceEqDiff,Nat.reduceMul,Nat.reduceSub,Int.reduceAdd,Int.reduceSub,Int.reduceMul,Int.reduceNeg,Int.reduceLT,Int.reduceLE,Int.reduceEq,Int.reduceToNat,↓reduceIte,Int.reducePow,Nat.reduceLeDiff,Nat.reduceLT,ne_eq,eq_self,List.length_cons,List.length_nil,qxE] | (with_reducible refine cregF ?_))
       refine asks_rowB (L:=[.g (wK 41 12 v ls.length (lcells ls))]) (e:=41) (s:=12) (ι:=Unit) (fun _=>True) (fun _=>(swl ⟨st,sn,sT,sV,sL,⟨o,p,q,p1,q1⟩⟩).length) (fun _=>lcells (swl ⟨st,sn,sT,sV,sL,⟨o,p,q,p1,q1⟩⟩)) (fun _ v=>.tuple #[v,.int .i64 0]) en_r14_Finish rfl (fun W hW hok=>?_) ?_
       ·exact (rx_swfin (w:=W) hG).mono fun e w' ⟨v,h1,h2,h3⟩=>⟨(),v,trivial,h1,h2,h3⟩
       rintro - a2 c2 - - - - -
       generalize swl ⟨st,sn,sT,sV,sL,⟨o,p,q,p1,q1⟩⟩ = es at *
       clear hG
       repeat' (first | simp (disch:=omega) only [sxE,r14_All.E,Nat.reduceAdd,Nat.reduceEqDiff,Nat.reduceMul,Nat.reduceSub,Int.reduceAdd,Int.reduceSub,Int.reduceMul,Int.reduceNeg,Int.reduceLT,Int.reduceLE,Int.reduceEq,Int.reduceToNat,↓reduceIte,Int.reducePow,Nat.reduceLeDiff,Nat.reduceLT,ne_eq,eq_self,List.length_cons,List.length_nil,qxE] | (refine genA_appR rfl [] elt_line rfl (.inr (List.mem_cons_of_mem _ List.mem_cons_self)) (.inr List.mem_cons_self) (.inl fun _ h=>h) (lcells_1 _) (by simp only [maxLen]; omega) (by omega) (fun k hk=>by cases hk) fun a3 c3 _ _ _ _=>?_) | (with_reducible refine cregF ?_))
       refine ⟨_,_,rfl,rfl,.inr ?_⟩
       rw [List.length_append,lcells_app]
       exact List.mem_singleton.2 rfl
    ·obtain ⟨e1,e2⟩:=erz_lim ht hinc hl
     rw [e1,e2]
     clear e1 e2
     repeat' (first | simp (disch:=omega) only [sxE,r14_All.E,Nat.reduceAdd,Nat.reduceEqDiff,Nat.reduceMul,Nat.reduceSub,Int.reduceAdd,Int.reduceSub,Int.reduceMul,Int.reduceNeg,Int.reduceLT,Int.reduceLE,Int.reduceEq,Int.reduceToNat,↓reduceIte,Int.reducePow,Nat.reduceLeDiff,Nat.reduceLT,ne_eq,eq_self,List.length_cons,List.length_nil,qxE] | (with_reducible refine Sx.call_at (f:=65) (fun W hW=>k1 W) ?_) | (with_reducible refine cregF ?_))
     refine asks_at (fun W hW=>c1 W hW) ?_
     repeat' (first | simp (disch:=omega) only [sxE,r14_All.E,Nat.reduceAdd,Nat.reduceEqDiff,Nat.reduceMul,Nat.reduceSub,Int.reduceAdd,Int.reduceSub,Int.reduceMul,Int.reduceNeg,Int.reduceLT,Int.reduceLE,Int.reduceEq,Int.reduceToNat,↓reduceIte,Int.reducePow,Nat.reduceLeDiff,Nat.reduceLT,ne_eq,eq_self,List.length_cons,List.length_nil,qxE] | (with_reducible refine cregF ?_))
     exact ⟨.slice none 0 0,[],rfl,kX_nil _,.inl ⟨rfl,rfl,rfl⟩⟩
   ·obtain ⟨e1,e2⟩:=erz_inc ht (Bool.eq_false_iff.2 hinc)
    rw [if_neg hinc] at c1
    rw [e1,e2]
    clear e1 e2
    repeat' (first | simp (disch:=omega) only [sxE,r14_All.E,Nat.reduceAdd,Nat.reduceEqDiff,Nat.reduceMul,Nat.reduceSub,Int.reduceAdd,Int.reduceSub,Int.reduceMul,Int.reduceNeg,Int.reduceLT,Int.reduceLE,Int.reduceEq,Int.reduceToNat,↓reduceIte,Int.reducePow,Nat.reduceLeDiff,Nat.reduceLT,ne_eq,eq_self,List.length_cons,List.length_nil,qxE] | (with_reducible refine Sx.call_at (f:=65) (fun W hW=>k1 W) ?_) | (with_reducible refine cregF ?_))
    refine asks_at (fun W hW=>c1 W hW) ?_
    repeat' (first | simp (disch:=omega) only [sxE,r14_All.E,Nat.reduceAdd,Nat.reduceEqDiff,Nat.reduceMul,Nat.reduceSub,Int.reduceAdd,Int.reduceSub,Int.reduceMul,Int.reduceNeg,Int.reduceLT,Int.reduceLE,Int.reduceEq,Int.reduceToNat,↓reduceIte,Int.reducePow,Nat.reduceLeDiff,Nat.reduceLT,ne_eq,eq_self,List.length_cons,List.length_nil,qxE] | (with_reducible refine cregF ?_))
    exact ⟨.slice none 0 0,[],rfl,kX_nil _,.inl ⟨rfl,rfl,rfl⟩⟩
  ·obtain ⟨e1,e2⟩:=erz_tol (ss:=ss) (Bool.eq_false_iff.2 ht)
   rw [if_neg ht] at k1
   rw [e1,e2]
   clear e1 e2
   repeat' (first | simp (disch:=omega) only [sxE,r14_All.E,Nat.reduceAdd,Nat.reduceEqDiff,Nat.reduceMul,Nat.reduceSub,Int.reduceAdd,Int.reduceSub,Int.reduceMul,Int.reduceNeg,Int.reduceLT,Int.reduceLE,Int.reduceEq,Int.reduceToNat,↓reduceIte,Int.reducePow,Nat.reduceLeDiff,Nat.reduceLT,ne_eq,eq_self,List.length_cons,List.length_nil,qxE] | (with_reducible refine Sx.call_at (f:=65) (fun W hW=>k1 W) ?_) | (with_reducible refine cregF ?_))
   exact ⟨.slice none 0 0,[],rfl,kX_nil _,.inl ⟨rfl,rfl,rfl⟩⟩
end Go.Proofs.YtncmmbacoknefaaGreat

/- Re: slices.Repeat of one number, twice; Constants of the sanity check. -/
namespace Go.Proofs.YtncmmbacoknefaaGreat
open Go Go.RowKit Sx
set_option linter.unusedVariables false
set_option linter.unusedSimpArgs false
theorem en_bmul (l:Array Value) (W:World):(callFunc 144 l).run Tryz.prog W = .ok (.enter 144 l) W:=Sx.en_of Tryz.func144 (by kernel_rfl) (by kernel_rfl) l W
theorem en_rept (l:Array Value) (W:World):(callFunc 88 l).run Tryz.prog W = .ok (.enter 88 l) W:=Sx.en_of Tryz.func88 (by kernel_rfl) (by kernel_rfl) l W
theorem g_bmul12 (W:World):Gives Tryz.prog 144 [.int .u64 1,.int .u64 2] W (· = .tuple #[.int .u64 0,.int .u64 2]) :=
 gives_known en_bmul ((Tryz.bits_Mul 1 2 (by decide) (by decide) W).mono fun e w' ⟨h1,h2⟩=>⟨h1,by rw [h2]; exact Below.refl _ _⟩)
namespace Sx
variable {C:Cx} {S:St} {K:St→Prop} {d:Option Nat}
theorem genA_cp {P:Program} (hP:C.P = P) {L:List Kn} (L':List Kn) {dT sT ty e:TypeId} {g o dLen dCap sb so sLen sCap:Nat} {cs us:List Value} {bb:List Bool}
  (hu:P.underlying dT = some (.slice e)) (hs:(P.info? e).map (·.size) = some 1) (hT:S.T = kX C.w0.heap.size L) (hm:.g (cK g cs)∈L) (hmv:g∈S.T.bs∧g∈C.mv S)
  (hsrc:∀ W,(∀ k∈L,k.ok C.w0.heap.size W)→∀ (j:Nat) v,us[j]? = some v→W.cell? ⟨sb,so + j,none⟩ = some v) (hn:us.length = Nat.min sLen dLen) (hfit:o + us.length≤cs.length) (h1:∀ v∈us,v.oneCell' = true)
  (hL:∀ k∈L',k = .g (cK g (cs.take o ++ us ++ cs.drop (o + us.length)))∨(k∈L∧g ∉ k.bs))
  (hk:K (St.put ⟨S.n,S.E,S.H,kX C.w0.heap.size L'⟩ d (.v (.int .i64 us.length)))):genA C (.bi .copy [dT,sT] ty bb) [.slice (some ⟨g,o,none⟩) dLen dCap,.slice (some ⟨sb,so,none⟩) sLen sCap] d K S:=by
 subst hP
 refine genA_T (ι:=Unit) (fun _=>.int .i64 us.length) (fun _=>kX C.w0.heap.size L') (fun W hW hok hbs=>⟨?_⟩) (fun _=>hk)
 rw [hT] at hok
 obtain ⟨hge,T,hg⟩:(cK g cs).ok C.w0.heap.size W:=hok _ hm
 have hr:=run_copy_row (P:=C.P) W dT sT ty e g o dLen dCap ⟨sb,so,none⟩ sLen sCap cs.toArray T us hu hs hg hn (fun j v hj=>by rw [Addr.add_lit]; exact hsrc W hok j v hj) (by simpa using hfit) h1
 have hr':(genRun (.bi .copy [dT,sT] ty bb) [.slice (some ⟨g,o,none⟩) dLen dCap,.slice (some ⟨sb,so,none⟩) sLen sCap]).run C.P W = .ok (.value (.int .i64 us.length)) (W.setRow g (cs.take o ++ us ++ cs.drop (o + us.length)).toArray):=by
  show (do let x ← Builtin.copy_ #[dT,sT] ty #[.slice (some ⟨g,o,none⟩) dLen dCap,.slice (some ⟨sb,so,none⟩) sLen sCap]; pure (Next.value x)).run C.P W = _
  rw [run_bind_ok hr]
  rfl
 rw [hr']
 have hsz:(W.setRow g (cs.take o ++ us ++ cs.drop (o + us.length)).toArray).heap.size = W.heap.size:=by simp [World.setRow]
 have hne:∀ j,j≠g→(W.setRow g (cs.take o ++ us ++ cs.drop (o + us.length)).toArray).heap[j]? = W.heap[j]? := fun j hj=>setRow_other W g j _ hj
 refine ⟨(),rfl,⟨rfl,rfl,rfl,by rw [hsz]; exact Nat.le_refl _,fun j hj hn=>hne j fun e=>hn (by rw [e]; exact hmv.2)⟩,?_,kX_stab C _,?_⟩
 ·intro k hk
  rcases hL k hk with rfl | ⟨hk,hb⟩
  ·exact ⟨hge,T,setRow_heap W g _ _ T _ hg⟩
  ·exact (hok k hk).keep (by rw [hsz]; exact Nat.le_refl _) (fun b hbb=>hne b fun e=>hb (by rw [← e]; exact hbb)) fun b hbn hbl=>hne b fun e=>by omega
 ·intro x hx
  rw [hsz]
  obtain ⟨k,hk,hx⟩:=kX_bs.1 hx
  rcases hL k hk with rfl | ⟨hk,hb⟩
  ·rw [show x = g from List.mem_singleton.1 hx]
   exact ⟨.inl hmv.1,(Array.getElem?_eq_some_iff.1 hg).1⟩
  ·exact ⟨.inl (by rw [hT]; exact kX_bs.2 ⟨k,hk,hx⟩),((hok k hk).lt x hx).2⟩
def hC (w:World) (b:Nat):KnG where
 bs:=List.range' b (w.heap.size - b)
 ok n W:=n = b∧w.heap.size≤W.heap.size∧∀ i,i < w.heap.size→W.heap[i]? = w.heap[i]?
 lt:=fun {n W} h c hc=>by
  obtain ⟨h0,h1,-⟩:=h
  rw [List.mem_range'] at hc
  obtain ⟨i,hi,rfl⟩:=hc
  omega
 keep:=fun {n W W'} h hs hb ho=>by
  obtain ⟨h0,hsz,hg⟩:=h
  refine ⟨h0,Nat.le_trans hsz hs,fun i hi=>?_⟩
  rcases Nat.lt_or_ge i b with h | h
  ·exact (ho i (by omega) (by omega)).trans (hg i hi)
  ·exact (hb i (List.mem_range'.2 ⟨i - b,by omega,by omega⟩)).trans (hg i hi)
end Sx
set_option maxRecDepth 100000 in
theorem repeat_two {w:World} {b:Nat} (hb:HB w b #[.int .i64 9]):Calls Tryz.prog 88 #[.slice (some ⟨b,0,none⟩) 1 1,.int .i64 2] w fun e w'=>∃ g,e = .returned (.slice (some ⟨g,0,none⟩) 2 2)∧Below w.heap.size w w'∧w.heap.size≤g∧HB w' g #[.int .i64 9,.int .i64 9]:=by
 have hlt:b < w.heap.size:=hb.lt
 have hcs:=cut_size (Nat.le_of_lt hlt)
 have hcell:w.cell? ⟨b,0,none⟩ = some (.int .i64 9):=(Bx.of hb).2.1 0
 have h0:(kX (cut w b).heap.size [.g (hC w b)]).ok w:=fun k hk=>by
  rw [List.mem_singleton.1 hk]
  exact ⟨hcs,Nat.le_refl _,fun _ _=>rfl⟩
 refine Calls.mono (enterG Tryz.func88 slices_Repeat___int64_int64.ok (args:=[.slice (some ⟨b,0,none⟩) 1 1,.int .i64 2]) (w0:=cut w b) (T:=kX (cut w b).heap.size [.g (hC w b)]) (R:=fun v X=>∃ g,v = .slice (some ⟨g,0,none⟩) 2 2∧g ∉ (kX (cut w b).heap.size [.g (hC w b)]).bs∧X = kX (cut w b).heap.size [.g (cK g [.int .i64 9,.int .i64 9]),.g (hC w b)]) (by simp) (below_cut (Nat.le_of_lt hlt)) h0 (kX_stab (Sx.cx _ (cut w b) _) _) (fun c hc=>by
  obtain ⟨k,hk,hc⟩:=kX_bs.1 hc
  rw [List.mem_singleton.1 hk] at hc
  exact (KnG.lt (hC w b) (h0 _ (List.mem_singleton.2 rfl)) c hc)) ?run) ?fin
 case fin =>
  rintro e w' ⟨v,X,rfl,⟨g,rfl,hg,rfl⟩,hX,hbl,-⟩
  have k1:(cK g [.int .i64 9,.int .i64 9]).ok (cut w b).heap.size w':=hX _ List.mem_cons_self
  have k2:(hC w b).ok (cut w b).heap.size w':=hX _ (List.mem_cons_of_mem _ (List.mem_singleton.2 rfl))
  refine ⟨g,rfl,⟨hbl.os,hbl.tape,hbl.output,k2.2.1,fun i hi=>k2.2.2 i hi⟩,?_,k1.2⟩
  rcases Nat.lt_or_ge g w.heap.size with h | h
  ·exact absurd (kX_bs.2 ⟨_,List.mem_singleton.2 rfl,List.mem_range'.2 ⟨g - b,by have:=k1.1; omega,by have:=k1.1; omega⟩⟩) hg
  ·exact h
 case run =>
  try dsimp only
  repeat' (first | simp (disch:=omega) only [sxE,slices_Repeat___int64_int64.E,Nat.reduceAdd,Nat.reduceEqDiff,Nat.reduceMul,Nat.reduceSub,Int.reduceAdd,Int.reduceSub,Int.reduceMul,Int.reduceNeg,Int.reduceLT,Int.reduceLE,Int.reduceEq,Int.reduceToNat,↓reduceIte,Int.reducePow,Nat.reduceLeDiff,Nat.reduceLT,ne_eq,eq_self,List.length_cons,List.length_nil] | (with_reducible refine Sx.call_at (f:=144) (fun W hW=>g_bmul12 W) ?_) | (rw [slices_Repeat___int64_int64.p2_l]) | (with_reducible apply LX_round) | (with_reducible refine cregF ?_))
  refine genA_c (L:=[.g (hC w b)]) (cs:=[.int .i64 0,.int .i64 0]) (T:=2) (fun g=>.slice (some ⟨g,0,none⟩) 2 2) rfl (fun W=>by kernel_rfl) fun g hg=>?_
  have hgb:g≠b:=fun e=>hg (kX_bs.2 ⟨_,List.mem_singleton.2 rfl,List.mem_range'.2 ⟨0,by omega,by omega⟩⟩)
  repeat' (first | simp (disch:=omega) only [sxE,slices_Repeat___int64_int64.E,Nat.reduceAdd,Nat.reduceEqDiff,Nat.reduceMul,Nat.reduceSub,Int.reduceAdd,Int.reduceSub,Int.reduceMul,Int.reduceNeg,Int.reduceLT,Int.reduceLE,Int.reduceEq,Int.reduceToNat,↓reduceIte,Int.reducePow,Nat.reduceLeDiff,Nat.reduceLT,ne_eq,eq_self,List.length_cons,List.length_nil] | (with_reducible refine Sx.call_at (f:=144) (fun W hW=>g_bmul12 W) ?_) | (rw [slices_Repeat___int64_int64.p2_l]) | (with_reducible apply LX_round) | (with_reducible refine cregF ?_))
  have hm1:g∈(kX (cut w b).heap.size [.g (cK g [.int .i64 0,.int .i64 0]),.g (hC w b)]).bs:=kX_bs.2 ⟨_,List.mem_cons_self,List.mem_singleton.2 rfl⟩
  have hgC:g ∉ (Kn.g (hC w b)).bs:=fun h=>hg (kX_bs.2 ⟨_,List.mem_singleton.2 rfl,h⟩)
  have hu:=Tryz.underlying23
  have hs:(Tryz.prog.info? 2).map (·.size) = some 1:=by kernel_rfl
  refine genA_cp (P:=Tryz.prog) rfl (L:=[.g (cK g [.int .i64 0,.int .i64 0]),.g (hC w b)]) [.g (cK g [.int .i64 9,.int .i64 0]),.g (hC w b)] (us:=[.int .i64 9]) hu hs rfl List.mem_cons_self ⟨hm1,hm1⟩ (fun W hok j v hj=>by
   rcases j with _ | j
   ·have k2:(hC w b).ok (cut w b).heap.size W:=hok (.g (hC w b)) (List.mem_cons_of_mem _ (List.mem_singleton.2 rfl))
    cases hj
    exact (World.cell?_of_block (a:=⟨b,0,none⟩) (k2.2.2 b hlt)).trans hcell
   ·cases hj) rfl (by decide) (fun v hv=>by rw [List.mem_singleton.1 hv]; rfl) (fun k hk=>by
   rcases List.mem_cons.1 hk with rfl | hk
   ·exact .inl rfl
   ·rw [List.mem_singleton.1 hk]
    exact .inr ⟨List.mem_cons_of_mem _ (List.mem_singleton.2 rfl),hgC⟩) ?_
  repeat' (first | simp (disch:=omega) only [sxE,slices_Repeat___int64_int64.E,Nat.reduceAdd,Nat.reduceEqDiff,Nat.reduceMul,Nat.reduceSub,Int.reduceAdd,Int.reduceSub,Int.reduceMul,Int.reduceNeg,Int.reduceLT,Int.reduceLE,Int.reduceEq,Int.reduceToNat,↓reduceIte,Int.reducePow,Nat.reduceLeDiff,Nat.reduceLT,ne_eq,eq_self,List.length_cons,List.length_nil] | (with_reducible refine Sx.call_at (f:=144) (fun W hW=>g_bmul12 W) ?_) | (rw [slices_Repeat___int64_int64.p2_l]) | (with_reducible apply LX_round) | (with_reducible refine cregF ?_))
  refine ⟨.slice (some ⟨g,1,none⟩) 1 1,fun W=>by kernel_rfl,?_⟩
  repeat' (first | simp (disch:=omega) only [sxE,slices_Repeat___int64_int64.E,Nat.reduceAdd,Nat.reduceEqDiff,Nat.reduceMul,Nat.reduceSub,Int.reduceAdd,Int.reduceSub,Int.reduceMul,Int.reduceNeg,Int.reduceLT,Int.reduceLE,Int.reduceEq,Int.reduceToNat,↓reduceIte,Int.reducePow,Nat.reduceLeDiff,Nat.reduceLT,ne_eq,eq_self,List.length_cons,List.length_nil] | (with_reducible refine Sx.call_at (f:=144) (fun W hW=>g_bmul12 W) ?_) | (rw [slices_Repeat___int64_int64.p2_l]) | (with_reducible apply LX_round) | (with_reducible refine cregF ?_))
  refine ⟨.slice (some ⟨g,0,none⟩) 1 2,fun W=>by kernel_rfl,?_⟩
  repeat' (first | simp (disch:=omega) only [sxE,slices_Repeat___int64_int64.E,Nat.reduceAdd,Nat.reduceEqDiff,Nat.reduceMul,Nat.reduceSub,Int.reduceAdd,Int.reduceSub,Int.reduceMul,Int.reduceNeg,Int.reduceLT,Int.reduceLE,Int.reduceEq,Int.reduceToNat,↓reduceIte,Int.reducePow,Nat.reduceLeDiff,Nat.reduceLT,ne_eq,eq_self,List.length_cons,List.length_nil] | (with_reducible refine Sx.call_at (f:=144) (fun W hW=>g_bmul12 W) ?_) | (rw [slices_Repeat___int64_int64.p2_l]) | (with_reducible apply LX_round) | (with_reducible refine cregF ?_))
  have hm2:g∈(kX (cut w b).heap.size [.g (cK g [.int .i64 9,.int .i64 0]),.g (hC w b)]).bs:=kX_bs.2 ⟨_,List.mem_cons_self,List.mem_singleton.2 rfl⟩
  refine genA_cp (P:=Tryz.prog) rfl (L:=[.g (cK g [.int .i64 9,.int .i64 0]),.g (hC w b)]) [.g (cK g [.int .i64 9,.int .i64 9]),.g (hC w b)] (us:=[.int .i64 9]) hu hs rfl List.mem_cons_self ⟨hm2,?mv⟩ (fun W hok j v hj=>by
   rcases j with _ | j
   ·have k2:(cK g [.int .i64 9,.int .i64 0]).ok (cut w b).heap.size W:=hok (.g (cK g [.int .i64 9,.int .i64 0])) List.mem_cons_self
    cases hj
    exact cK_cell k2 rfl
   ·cases hj) rfl (by decide) (fun v hv=>by rw [List.mem_singleton.1 hv]; rfl) (fun k hk=>by
   rcases List.mem_cons.1 hk with rfl | hk
   ·exact .inl rfl
   ·rw [List.mem_singleton.1 hk]
    exact .inr ⟨List.mem_cons_of_mem _ (List.mem_singleton.2 rfl),hgC⟩) ?_
  case mv=>exact hm2
  repeat' (first | simp (disch:=omega) only [sxE,slices_Repeat___int64_int64.E,Nat.reduceAdd,Nat.reduceEqDiff,Nat.reduceMul,Nat.reduceSub,Int.reduceAdd,Int.reduceSub,Int.reduceMul,Int.reduceNeg,Int.reduceLT,Int.reduceLE,Int.reduceEq,Int.reduceToNat,↓reduceIte,Int.reducePow,Nat.reduceLeDiff,Nat.reduceLT,ne_eq,eq_self,List.length_cons,List.length_nil] | (with_reducible refine Sx.call_at (f:=144) (fun W hW=>g_bmul12 W) ?_) | (rw [slices_Repeat___int64_int64.p2_l]) | (with_reducible apply LX_round) | (with_reducible refine cregF ?_))
  exact ⟨g,rfl,hg,rfl⟩
namespace Sx
variable {C:Cx} {S:St} {K:St→Prop} {d:Option Nat}
theorem ldP_hC {L:List Kn} {w:World} {b o m:Nat} {g:Bool} {cs l:List Value} (hT:(C.kn S).T = kX C.w0.heap.size L) (hm:.g (hC w b)∈L) (hB:HB w b cs.toArray) (hl:l.length = m) (hs:∀ j v,l[j]? = some v→cs[o + j]? = some v) (hk:K (S.put d (.v (mk g l)))):ldP C g m ⟨b,o,none⟩ d K S :=
 ldP_ext l hl (fun W hW hok j v hj=>by
  rw [hT] at hok
  have ho:(hC w b).ok C.w0.heap.size W:=hok _ hm
  rw [Addr.add_lit]
  have h1:w.cell? ⟨b,o + j,none⟩ = some v:=by
   rw [(Bx.of hB).2.1 (o + j)]
   simpa using hs j v hj
  exact (World.cell?_of_block (a:=⟨b,o + j,none⟩) (ho.2.2 b hB.lt)).trans h1) hk
end Sx
theorem info_i64e:(Tryz.prog.info? 2).map (fun i=>(i.zero,i.size,i.bytes)) = some (some (.int .i64 0),1,8):=by kernel_rfl
set_option maxRecDepth 100000 in
theorem const_two {w:World} {b:Nat} (hb:HB w b #[.int .i64 2,.int .i64 9]):Calls Tryz.prog 29 #[.slice (some ⟨b,0,none⟩) 1 1] w fun e w'=>∃ x:Nat × Nat,e = .returned (.slice (some ⟨x.1,0,none⟩) 2 x.2)∧Below w.heap.size w w':=by
 have hlt:b < w.heap.size:=hb.lt
 have hcs:=cut_size (Nat.le_of_lt hlt)
 have h0:(kX (cut w b).heap.size [.g (hC w b)]).ok w:=fun k hk=>by
  rw [List.mem_singleton.1 hk]
  exact ⟨hcs,Nat.le_refl _,fun _ _=>rfl⟩
 refine Calls.mono (enterG Tryz.func29 rebuild_Constants.ok (args:=[.slice (some ⟨b,0,none⟩) 1 1]) (w0:=cut w b) (T:=kX (cut w b).heap.size [.g (hC w b)]) (R:=fun v X=>∃ g cap,v = .slice (some ⟨g,0,none⟩) 2 cap∧X = kX (cut w b).heap.size [.g (wK 2 1 (.slice (some ⟨g,0,none⟩) 2 cap) 2 [.int .i64 9,.int .i64 9]),.g (hC w b)]) (by simp) (below_cut (Nat.le_of_lt hlt)) h0 (kX_stab (Sx.cx _ (cut w b) _) _) (fun c hc=>by
  obtain ⟨k,hk,hc⟩:=kX_bs.1 hc
  rw [List.mem_singleton.1 hk] at hc
  exact (KnG.lt (hC w b) (h0 _ (List.mem_singleton.2 rfl)) c hc)) ?run) ?fin
 case fin =>
  rintro e w' ⟨v,X,rfl,⟨g,cap,rfl,rfl⟩,hX,hbl,-⟩
  have k2:(hC w b).ok (cut w b).heap.size w':=hX _ (List.mem_cons_of_mem _ (List.mem_singleton.2 rfl))
  exact ⟨(g,cap),rfl,hbl.os,hbl.tape,hbl.output,k2.2.1,fun i hi=>k2.2.2 i hi⟩
 case run =>
  try dsimp only
  repeat' (first | simp (disch:=omega) only [sxE,rebuild_Constants.E,Nat.reduceAdd,Nat.reduceEqDiff,Nat.reduceMul,Nat.reduceSub,Int.reduceAdd,Int.reduceSub,Int.reduceMul,Int.reduceNeg,Int.reduceLT,Int.reduceLE,Int.reduceEq,Int.reduceToNat,↓reduceIte,Int.reducePow,Nat.reduceLeDiff,Nat.reduceLT,ne_eq,eq_self,List.length_cons,List.length_nil] | (refine ldP_hC (cs:=[.int .i64 2,.int .i64 9]) (l:=[.int .i64 2,.int .i64 9]) rfl (List.mem_singleton.2 rfl) hb rfl (fun j v h=>by rw [Nat.zero_add]; exact h) ?_) | (rw [rebuild_Constants.p2_l]) | (with_reducible apply LX_round) | (with_reducible refine cregF ?_))
  refine genA_c (L:=[.g (hC w b)]) (cs:=[.int .i64 9]) (T:=2) (fun g=>.slice (some ⟨g,0,none⟩) 1 1) rfl (fun W=>by kernel_rfl) fun b2 hb2=>?_
  clear hb2
  repeat' (first | simp (disch:=omega) only [sxE,rebuild_Constants.E,Nat.reduceAdd,Nat.reduceEqDiff,Nat.reduceMul,Nat.reduceSub,Int.reduceAdd,Int.reduceSub,Int.reduceMul,Int.reduceNeg,Int.reduceLT,Int.reduceLE,Int.reduceEq,Int.reduceToNat,↓reduceIte,Int.reducePow,Nat.reduceLeDiff,Nat.reduceLT,ne_eq,eq_self,List.length_cons,List.length_nil] | (rw [rebuild_Constants.p2_l]) | (with_reducible apply LX_round) | (with_reducible refine cregF ?_))
  refine asks_kn (ι:=Nat) (L:=[.g (cK b2 [.int .i64 9]),.g (hC w b)]) (gs:=[]) (fun g=>.slice (some ⟨g,0,none⟩) 2 2) (fun g=>[.g (cK g [.int .i64 9,.int .i64 9]),.g (hC w b)]) en_rept rfl (fun x hx=>by cases hx) (fun W hok x hx=>by cases hx) (fun W hW hok=>?rep) fun g=>?_
  case rep =>
   have k1:(cK b2 [.int .i64 9]).ok (cut w b).heap.size W:=hok _ List.mem_cons_self
   refine (repeat_two (w:=W) (b:=b2) k1.2).mono fun e w' ⟨g,h1,h2,h3,h4⟩=>⟨g,h1,moves_below h2,fun k hk=>?_⟩
   rcases List.mem_cons.1 hk with rfl | hk
   ·refine .inr ⟨⟨Nat.le_trans hW.size h3,h4⟩,fun c hc=>.inr ?_⟩
    rw [List.mem_singleton.1 hc]
    exact h3
   ·rw [List.mem_singleton.1 hk]
    exact .inl ⟨List.mem_cons_of_mem _ (List.mem_singleton.2 rfl),fun _ _ h=>by cases h⟩
  repeat' (first | simp (disch:=omega) only [sxE,rebuild_Constants.E,Nat.reduceAdd,Nat.reduceEqDiff,Nat.reduceMul,Nat.reduceSub,Int.reduceAdd,Int.reduceSub,Int.reduceMul,Int.reduceNeg,Int.reduceLT,Int.reduceLE,Int.reduceEq,Int.reduceToNat,↓reduceIte,Int.reducePow,Nat.reduceLeDiff,Nat.reduceLT,ne_eq,eq_self,List.length_cons,List.length_nil] | (rw [rebuild_Constants.p2_l]) | (with_reducible apply LX_round) | (with_reducible refine cregF ?_))
  obtain ⟨i0,hi,hz0,hz1,hz2⟩:=info_parts info_i64e
  refine genA_grow (P:=Tryz.prog) rfl (L:=[.g (cK g [.int .i64 9,.int .i64 9]),.g (hC w b)]) (fun g cap=>[.g (wK 2 1 (.slice (some ⟨g,0,none⟩) (0 + 2) cap) (0 + 2) ([] ++ [.int .i64 9,.int .i64 9])),.g (hC w b)]) Tryz.underlying23 hi hz0 hz1 hz2 rfl (by decide) rfl (fun W _=>World.ownsRow_nil _ _ _ _) (fun g h=>by cases h) List.mem_cons_self rfl (by decide) (fun u hu=>by
   rcases List.mem_cons.1 hu with rfl | hu
   ·rfl
   ·rw [List.mem_singleton.1 hu]; rfl) (by decide) (by decide) (fun g cap k hk=>by
   rcases List.mem_cons.1 hk with rfl | hk
   ·exact .inl rfl
   ·rw [List.mem_singleton.1 hk]
    exact .inr ⟨List.mem_cons_of_mem _ (List.mem_singleton.2 rfl),fun _ _ h=>by cases h⟩) fun g3 cap=>?_
  simp only [Nat.zero_add,List.nil_append]
  repeat' (first | simp (disch:=omega) only [sxE,rebuild_Constants.E,Nat.reduceAdd,Nat.reduceEqDiff,Nat.reduceMul,Nat.reduceSub,Int.reduceAdd,Int.reduceSub,Int.reduceMul,Int.reduceNeg,Int.reduceLT,Int.reduceLE,Int.reduceEq,Int.reduceToNat,↓reduceIte,Int.reducePow,Nat.reduceLeDiff,Nat.reduceLT,ne_eq,eq_self,List.length_cons,List.length_nil] | (rw [rebuild_Constants.p2_l]) | (with_reducible apply LX_round) | (with_reducible refine cregF ?_))
  exact ⟨g3,cap,rfl,rfl⟩
end Go.Proofs.YtncmmbacoknefaaGreat

/- L20: known of the statements about rebuild. -/
namespace Go.Proofs.YtncmmbacoknefaaGreat
open Go Go.RowKit Sx
set_option linter.unusedVariables false
set_option linter.unusedSimpArgs false
theorem fq_of20 {p q:Int} (h:rok true p q = true):Fq p q:=(rok_iff.1 h).2
set_option maxRecDepth 100000 in
set_option maxHeartbeats 1000000 in
theorem g_known20 (W:World):Gives Tryz.prog 26 [] W (· = .bool true):=by
 have i0:I64 0:=⟨by decide,by decide⟩
 have i1:I64 1:=⟨by decide,by decide⟩
 have i2:I64 2:=⟨by decide,by decide⟩
 have im:I64 9223372036854775807:=⟨by decide,by decide⟩
 have o0:=fun W=>rx_of i0 W
 have o1:=fun W=>rx_of i1 W
 have o2:=fun W=>rx_of i2 W
 have om:=fun W=>rx_of im W
 have f0:=(bd_i64 i0).fits
 have fm:=(bd_i64 im).fits
 have mk:=fun W=>rx_make (z:=1) (y:=2) (bd_i64 i1).fits (bd_i64 i2).fits W
 rw [mkV_yes (by decide +kernel),show mn 1 2 = 1 by decide +kernel,show mD 1 2 = 2 by decide +kernel] at mk
 have fh:Fq 1 2:=fq_of20 (by decide +kernel)
 have f1:Fq 1 1:=fq_of20 (by decide +kernel)
 have r1:=fun W=>rx_rof i1 W
 have v1:=fun W=>gx_value f0.rw fh.cq (dt:=3) ⟨by decide,by decide⟩ W
 have v2:=fun W=>gx_value fm.rw f1.cq (dt:=5) ⟨by decide,by decide⟩ W
 rw [show vl (vz 0 + atq 1 2 3) = 2 by decide +kernel] at v1
 rw [show vl (vz 9223372036854775807 + atq 1 1 5) = 9223372036854775807 by decide +kernel] at v2
 refine gives_known en_w20_known ?_
 refine known_of (enter Tryz.func26 w20_known.ok (args:=[]) (by simp) ?_)
 repeat' (first | simp (disch:=omega) only [sxE,w20_known.E,Nat.reduceAdd,Nat.reduceEqDiff,Nat.reduceMul,Nat.reduceSub,Int.reduceAdd,Int.reduceSub,Int.reduceMul,Int.reduceNeg,Int.reduceLT,Int.reduceLE,Int.reduceEq,Int.reduceToNat,↓reduceIte,Int.reducePow,Nat.reduceLeDiff,Nat.reduceLT,ne_eq,eq_self,List.length_cons,List.length_nil,qxE,beq_self_eq_true] | (with_reducible refine Sx.call_at (f:=50) (fun W hW=>o0 W) ?_) | (with_reducible refine Sx.call_at (f:=50) (fun W hW=>o1 W) ?_) | (with_reducible refine Sx.call_at (f:=50) (fun W hW=>o2 W) ?_) | (with_reducible refine Sx.call_at (f:=50) (fun W hW=>om W) ?_) | (with_reducible refine Sx.call_at (f:=77) (fun W hW=>mk W) ?_) | (with_reducible refine Sx.call_at (f:=78) (fun W hW=>r1 W) ?_) | (with_reducible refine Sx.call_at (f:=84) (fun W hW=>v1 W) ?_) | (with_reducible refine Sx.call_at (f:=84) (fun W hW=>v2 W) ?_) | (with_reducible refine cregF ?_))
 refine genA_c (L:=[]) (cs:=[.int .i64 2,.int .i64 9]) (T:=129) (fun b=>.slice (some ⟨b,0,none⟩) 1 1) (kX_nil _) (fun W=>by kernel_rfl) fun b hb=>?_
 clear hb
 repeat' (first | simp (disch:=omega) only [sxE,w20_known.E,Nat.reduceAdd,Nat.reduceEqDiff,Nat.reduceMul,Nat.reduceSub,Int.reduceAdd,Int.reduceSub,Int.reduceMul,Int.reduceNeg,Int.reduceLT,Int.reduceLE,Int.reduceEq,Int.reduceToNat,↓reduceIte,Int.reducePow,Nat.reduceLeDiff,Nat.reduceLT,ne_eq,eq_self,List.length_cons,List.length_nil,qxE] | (with_reducible refine cregF ?_))
 refine asks_kn (ι:=Nat × Nat) (L:=[.g (cK b [.int .i64 2,.int .i64 9])]) (gs:=[]) (fun x=>.slice (some ⟨x.1,0,none⟩) 2 x.2) (fun _=>[.g (cK b [.int .i64 2,.int .i64 9])]) en_rebuild_Constants rfl (fun x hx=>by cases hx) (fun W hok x hx=>by cases hx) (fun W' hW hok=>?con) fun x=>?_
 case con =>
  have k1:(cK b [.int .i64 2,.int .i64 9]).ok W.heap.size W':=hok _ (List.mem_singleton.2 rfl)
  exact (const_two (w:=W') (b:=b) k1.2).mono fun e w' ⟨x,h1,h2⟩=>⟨x,h1,moves_below h2,fun k hk=>.inl ⟨hk,fun _ _ h=>by cases h⟩⟩
 repeat' (first | simp (disch:=omega) only [sxE,w20_known.E,Nat.reduceAdd,Nat.reduceEqDiff,Nat.reduceMul,Nat.reduceSub,Int.reduceAdd,Int.reduceSub,Int.reduceMul,Int.reduceNeg,Int.reduceLT,Int.reduceLE,Int.reduceEq,Int.reduceToNat,↓reduceIte,Int.reducePow,Nat.reduceLeDiff,Nat.reduceLT,ne_eq,eq_self,List.length_cons,List.length_nil,qxE,beq_self_eq_true] | (with_reducible refine cregF ?_))
end Go.Proofs.YtncmmbacoknefaaGreat

/- Rq: Lines of swing as lines cell by cell; several cells of an own row overwritten. -/
namespace Go.Proofs.YtncmmbacoknefaaGreat
open Go Go.RowKit Sx
set_option linter.unusedVariables false
set_option linter.unusedSimpArgs false
namespace Sx
variable {C:Cx} {S:St} {K:St→Prop} {d:Option Nat}
end Sx
def toR (x:LnV):RlN:=⟨x.n,x.V,sg x.p,lb0 (ab x.p),lb1 (ab x.p),lb2 (ab x.p),lb3 (ab x.p),sg x.q,lb0 (ab x.q),lb1 (ab x.q),lb2 (ab x.q),lb3 (ab x.q),x.p,x.q⟩
theorem rlcs_toR (l:List LnV):rlcs (l.map toR) = lcells l:=by
 induction l with
 | nil=>rfl
 | cons x l ih =>
  show rlc (toR x) ++ rlcs (l.map toR) = lcell x ++ lcells l
  rw [ih]
  rfl
theorem toR_ok {x:LnV} (hn:I64 x.n) (hv:I64 x.V) (hf:Fq x.p x.q):RlOk (toR x):=⟨hn,hv,hf.cq⟩
theorem LOk.rl {t:Int} {ss:Smps} (ht:tolz t = true) (hin:∀ s∈ss,I64 s.1∧I64 s.2) (hinc:incr ss = true) (hl:ss.length≤1073741824):∀ {l:List LnV} {a e:Nat},e≤ss.length→LOk t ss a l e→∀ x∈l.map toR,RlOk x
 | [],a,e,_,h,x,hx=>by cases hx
 | y :: l,a,e,he,⟨m,h1,h2,h3,h4,h⟩,x,hx=>by
  rw [List.map_cons] at hx
  rcases List.mem_cons.1 hx with rfl | hx
  ·have hck:=sgk_ok ht hin hinc (a:=a) (j:=m) h3 (by omega)
   rw [h1]
   refine toR_ok ?_ ?_ ?_
   ·show I64 ((m:Int) + 1)
    exact ⟨by omega,by omega⟩
   ·exact (smp_i64 hin a).2
   ·exact cho_fq hck
  ·exact h.rl ht hin hinc hl he x hx
theorem rl_len (x:RlN):(rlc x).length = 12:=rfl
end Go.Proofs.YtncmmbacoknefaaGreat

/- Ry: What the lines and the constants of a sequence give back: how many, and how near. -/
namespace Go.Proofs.YtncmmbacoknefaaGreat
open Go Go.RowKit Sx
set_option linter.unusedVariables false
set_option linter.unusedSimpArgs false
theorem vz_i64 {z:Int} (h:I64 z):vz z = z:=by
 unfold vz
 rw [if_pos (by have:=h.1; have:=h.2; unfold ab; split <;> omega)]
theorem vl_near {s v eps:Int} (hv:I64 v) (h:ab (s - v)≤eps):ab (vl s - v)≤eps:=by
 have:=hv.1
 have:=hv.2
 unfold ab at *
 unfold vl
 (repeat' split at h) <;> (repeat' split) <;> omega
theorem rx_dista {a b:Int} (ha:I64 a) (hb:I64 b) (W:World):Gives Tryz.prog 42 [.int .i64 a,.int .i64 b] W (· = .int .u64 (ab (a - b))):=by
 by_cases h:a≤b
 ·rw [show ab (a - b) = b - a by unfold ab; split <;> omega]
  exact rx_dst ha hb h W
 ·refine gives_known en_r01_Distance ?_
  have e:ab (a - b) = a - b:=by unfold ab; split <;> omega
  have w1:=wrap_subw hb ha (by omega)
  have h:¬ a < b:=by omega
  rw [e]
  clear e ha hb
  refine known_of (enter Tryz.func42 r01_Distance.ok (args:=[_,_]) (by simp) ?_)
  repeat' (first | simp (disch:=omega) only [sxE,r01_Distance.E,Nat.reduceAdd,Nat.reduceEqDiff,Nat.reduceMul,Nat.reduceSub,Int.reduceAdd,Int.reduceSub,Int.reduceMul,Int.reduceNeg,Int.reduceLT,Int.reduceLE,Int.reduceEq,Int.reduceToNat,↓reduceIte,Int.reducePow,Nat.reduceLeDiff,Nat.reduceLT,ne_eq,eq_self,List.length_cons,List.length_nil,w1] | (with_reducible refine cregF ?_))
theorem rx_near {a b eps:Int} (ha:I64 a) (hb:I64 b) (he:0≤eps∧eps≤4611686018427387904) (h:ab (a - b)≤eps) (W:World):Gives Tryz.prog 30 [.int .i64 a,.int .i64 b,.int .i64 eps] W (· = .bool true):=by
 have d:=fun W=>rx_dista ha hb W
 have w1:IntKind.u64.wrap eps = eps:=u64_wrap_id eps ⟨he.1,by omega⟩
 have e1:=decide_eq_true h
 obtain ⟨h0,-⟩:=he
 have e0:=decide_eq_true h0
 refine gives_known en_r01_Near ?_
 clear ha hb
 generalize ab (a - b) = D at *
 refine known_of (enter Tryz.func30 r01_Near.ok (args:=[_,_,_]) (by simp) ?_)
 repeat' (first | simp (disch:=omega) only [sxE,r01_Near.E,Nat.reduceAdd,Nat.reduceEqDiff,Nat.reduceMul,Nat.reduceSub,Int.reduceAdd,Int.reduceSub,Int.reduceMul,Int.reduceNeg,Int.reduceLT,Int.reduceLE,Int.reduceEq,Int.reduceToNat,↓reduceIte,Int.reducePow,Nat.reduceLeDiff,Nat.reduceLT,ne_eq,eq_self,List.length_cons,List.length_nil,w1,e1,e0] | (with_reducible refine Sx.call_at (f:=42) (fun W hW=>d W) ?_) | (with_reducible refine cregF ?_))
variable {t:Int} {ss:Smps}
theorem LOk.rl_len {T:List Int}:∀ {l:List LnV} {a e:Nat},LOk t ss a l e→a + (rlall T (l.map toR) a).length = e
 | [],a,e,h=>h
 | x :: l,a,e,⟨m,h1,h2,h3,h4,h⟩=>by
  have ih:=h.rl_len (T:=T)
  have hn:(toR x).n.toNat = m + 1:=by rw [h1]; show ((m:Int) + 1).toNat = m + 1; omega
  show a + (rlvs (toR x) T a (toR x).n.toNat ++ rlall T (l.map toR) (a + (toR x).n.toNat)).length = e
  rw [hn,List.length_append,rlvs_len]
  rw [show a + m + 1 = a + (m + 1) from rfl] at ih
  omega
theorem LOk.rl_ch:∀ {l:List LnV} {a e:Nat},LOk t ss a l e→rlch (l.map toR) ((e:Int) - (a:Int)) = true
 | [],a,e,h=>decide_eq_true (by have h:a = e:=h; omega)
 | x :: l,a,e,⟨m,h1,h2,h3,h4,h⟩=>by
  have ih:=h.rl_ch
  have hn:(toR x).n = (m:Int) + 1:=by rw [h1]; rfl
  show (decide (1≤(toR x).n) && (decide ((toR x).n≤(e:Int) - (a:Int)) && rlch (l.map toR) ((e:Int) - (a:Int) - (toR x).n))) = true
  rw [hn,decide_eq_true (show (1:Int)≤(m:Int) + 1 by omega),decide_eq_true (show (m:Int) + 1≤(e:Int) - (a:Int) by omega),show (e:Int) - (a:Int) - ((m:Int) + 1) = (e:Int) - ((a + m + 1:Nat):Int) by omega,ih]
  rfl
theorem LOk.rl_near (ht:tolz t = true) (hin:∀ s∈ss,I64 s.1∧I64 s.2) (hinc:incr ss = true):∀ {l:List LnV} {a e:Nat},e≤ss.length→LOk t ss a l e→∀ j,a + j < e→I64 ((rlall (ss.map Prod.fst) (l.map toR) a).getD j 0)∧ab ((rlall (ss.map Prod.fst) (l.map toR) a).getD j 0 - (ss.getD (a + j) (0,0)).2)≤t
 | [],a,e,_,h,j,hj=>by have h:a = e:=h; omega
 | x :: l,a,e,he,⟨m,h1,h2,h3,h4,h⟩,j,hj=>by
  have ht0:=(tolz_iff.1 ht).1
  have ih:=h.rl_near ht hin hinc he
  have hn:(toR x).n.toNat = m + 1:=by rw [h1]; show ((m:Int) + 1).toNat = m + 1; omega
  show I64 ((rlvs (toR x) (ss.map Prod.fst) a (toR x).n.toNat ++ rlall (ss.map Prod.fst) (l.map toR) (a + (toR x).n.toNat)).getD j 0)∧ab ((rlvs (toR x) (ss.map Prod.fst) a (toR x).n.toNat ++ rlall (ss.map Prod.fst) (l.map toR) (a + (toR x).n.toNat)).getD j 0 - _)≤t
  rw [hn]
  by_cases hjm:j < m + 1
  ·rw [List.getD_eq_getElem?_getD,List.getElem?_append_left (by rw [rlvs_len]; exact hjm),← List.getD_eq_getElem?_getD,rlvs_at hjm,map_get,map_get]
   have i1:=(smp_i64 hin a).2
   have hv:(toR x).v = (ss.getD a (0,0)).2:=by rw [h1]; rfl
   have hp:(toR x).p = (cho true (sgk t ss a m)).1:=by rw [h1]; rfl
   have hq:(toR x).q = (cho true (sgk t ss a m)).2:=by rw [h1]; rfl
   unfold rlv
   rw [hv,hp,hq,vz_i64 i1]
   refine ⟨vl_in _,vl_near (smp_i64 hin (a + j)).2 ?_⟩
   have hck:=sgk_ok ht hin hinc (a:=a) (j:=m) h3 (by omega)
   have hfq:=cho_fq hck
   have hhas:=sgk_has ht hin hinc hfq h3 (by omega) (cho_has hck)
   generalize (cho true (sgk t ss a m)).1 = P at *
   generalize (cho true (sgk t ss a m)).2 = Q at *
   have hQ:=hfq.pos
   rcases j with _ | j
   ·rw [Nat.add_zero,Int.sub_self]
    have e0:atq P Q 0 = 0:=by
     unfold atq
     rw [Int.mul_zero,Int.mul_zero,Int.zero_add]
     exact Int.ediv_eq_zero_of_lt (by omega) (by omega)
    rw [e0,Int.add_zero,Int.sub_self]
    exact ht0
   ·have hlt':=incr_lt hinc (a:=a) (j:=j) (by omega)
    exact th_round hQ ((th_has (b:=(ss.getD a (0,0)).2) (v:=(ss.getD (a + j + 1) (0,0)).2) (eps:=t) (dt:=(ss.getD (a + j + 1) (0,0)).1 - (ss.getD a (0,0)).1) (by omega)).1 (hhas j (by omega)))
  ·rw [List.getD_eq_getElem?_getD,List.getElem?_append_right (by rw [rlvs_len]; omega),rlvs_len,← List.getD_eq_getElem?_getD]
   have:=ih (j - (m + 1)) (by omega)
   rw [show a + m + 1 + (j - (m + 1)) = a + j by omega] at this
   exact this
theorem LOk.rlout (hinc:incr ss = true) {l:List LnV} (h:LOk t ss 0 l ss.length):rlerr (l.map toR) (ss.map Prod.fst) = 0∧rlout (l.map toR) (ss.map Prod.fst) = rlall (ss.map Prod.fst) (l.map toR) 0:=by
 have e:rlerr (l.map toR) (ss.map Prod.fst) = 0:=by
  unfold rlerr
  have:=h.rl_ch
  rw [show ((ss.length:Nat):Int) - ((0:Nat):Int) = ((ss.map Prod.fst).length:Int) by rw [List.length_map]; omega] at this
  rw [incr_map,if_pos hinc,if_pos this]
 refine ⟨e,?_⟩
 unfold Go.Proofs.YtncmmbacoknefaaGreat.rlout
 rw [if_pos e]
end Go.Proofs.YtncmmbacoknefaaGreat

/- Rp: slices.Repeat of one number. -/
namespace Go.Proofs.YtncmmbacoknefaaGreat
open Go Go.RowKit Sx
set_option linter.unusedVariables false
set_option linter.unusedSimpArgs false
theorem g_bmul1 {n:Nat} (hn:n≤1073741824) (W:World):Gives Tryz.prog 144 [.int .u64 1,.int .u64 (n:Int)] W (· = .tuple #[.int .u64 0,.int .u64 (n:Int)]):=by
 have h:=Tryz.bits_Mul 1 n (by decide) (by omega) W
 rw [show (1 * n / 18446744073709551616:Nat) = 0 by omega,show 1 * n % 18446744073709551616 = n by omega] at h
 exact gives_known en_bmul (h.mono fun e w' ⟨h1,h2⟩=>⟨h1,by rw [h2]; exact Below.refl _ _⟩)
def rpt (v:Int) (n k:Nat):List Value:=List.replicate k (.int .i64 v) ++ List.replicate (n - k) (.int .i64 0)
theorem rpt_len {v:Int} {n k:Nat} (h:k≤n):(rpt v n k).length = n:=by
 unfold rpt
 rw [List.length_append,List.length_replicate,List.length_replicate]
 omega
theorem rpt_0 (v:Int) (n:Nat):rpt v n 0 = List.replicate n (.int .i64 0):=by
 unfold rpt
 rw [List.replicate_zero,List.nil_append,Nat.sub_zero]
theorem rpt_n (v:Int) (n:Nat):rpt v n n = List.replicate n (.int .i64 v):=by
 unfold rpt
 rw [Nat.sub_self,List.replicate_zero,List.append_nil]
theorem rpt_at {v:Int} {n k j:Nat} (h:j < k):(rpt v n k)[j]? = some (.int .i64 v):=by
 unfold rpt
 rw [List.getElem?_append_left (by rw [List.length_replicate]; exact h),List.getElem?_replicate,if_pos h]
theorem rpt_cp {v:Int} {n k m:Nat} (h:k + m≤n):(rpt v n k).take k ++ List.replicate m (.int .i64 v) ++ (rpt v n k).drop (k + m) = rpt v n (k + m):=by
 have e1:(rpt v n k).take k = List.replicate k (.int .i64 v):=by
  unfold rpt
  rw [List.take_append_of_le_length (by rw [List.length_replicate]; exact Nat.le_refl _),List.take_of_length_le (by rw [List.length_replicate]; exact Nat.le_refl _)]
 have e2:(rpt v n k).drop (k + m) = List.replicate (n - (k + m)) (.int .i64 0):=by
  unfold rpt
  rw [List.drop_append,List.drop_eq_nil_of_le (by rw [List.length_replicate]; omega),List.nil_append,List.length_replicate,List.drop_replicate]
  congr 1
  omega
 rw [e1,e2,List.replicate_append_replicate]
 rfl
theorem genRun_sll {P:Program} {t e:TypeId} {size bytes:Nat} (hE:ElT P t e size bytes) {g o len cap l:Nat} (hl:l≤len) (hne:cap≠l) (W:World):(genRun (.sl t true false false) [.slice (some ⟨g,o,none⟩) len cap,.int .i64 (l:Int)]).run P W = .ok (.value (.slice (some ⟨g,o + l * size,none⟩) (len - l) (cap - l))) W:=by
 show (do let x ← Instr.sliceAt t (.slice (some ⟨g,o,none⟩) len cap) (some (.int .i64 (l:Int))) none none; pure (Next.value x)).run P W = _
 rw [run_bind_ok (run_sll hE _ len cap l hl W)]
 have e:slA (some (⟨g,o,none⟩:Addr)) l cap size = some ⟨g,o + l * size,none⟩:=by
  unfold slA
  rw [if_neg hne]
  show some ((⟨g,o,none⟩:Addr).add (l * size)) = _
  rw [Addr.add_lit]
 rw [e]
 rfl
theorem genRun_slh {P:Program} {t e:TypeId} {size bytes:Nat} (hE:ElT P t e size bytes) {a:Option Addr} {len cap l:Nat} (hl:l≤cap) (W:World):(genRun (.sl t false true false) [.slice a len cap,.int .i64 (l:Int)]).run P W = .ok (.value (.slice a l cap)) W:=by
 show (do let x ← Instr.sliceAt t (.slice a len cap) none (some (.int .i64 (l:Int))) none; pure (Next.value x)).run P W = _
 rw [run_bind_ok (run_slh hE a len cap l hl W)]
 rfl
set_option maxRecDepth 100000 in
set_option maxHeartbeats 1000000 in
theorem rep_any {w:World} {b cap n:Nat} {v:Int} (hb:HB w b #[.int .i64 v]) (hn:1≤n) (hN:n≤1073741824):Calls Tryz.prog 88 #[.slice (some ⟨b,0,none⟩) 1 cap,.int .i64 (n:Int)] w fun e w'=>∃ g,e = .returned (.slice (some ⟨g,0,none⟩) n n)∧Below w.heap.size w w'∧w.heap.size≤g∧HB w' g (List.replicate n (.int .i64 v)).toArray:=by
 have hlt:b < w.heap.size:=hb.lt
 have hcs:=cut_size (Nat.le_of_lt hlt)
 have hcell:w.cell? ⟨b,0,none⟩ = some (.int .i64 v):=(Bx.of hb).2.1 0
 have h0:(kX (cut w b).heap.size [.g (hC w b)]).ok w:=fun k hk=>by
  rw [List.mem_singleton.1 hk]
  exact ⟨hcs,Nat.le_refl _,fun _ _=>rfl⟩
 refine Calls.mono (enterG Tryz.func88 slices_Repeat___int64_int64.ok (args:=[.slice (some ⟨b,0,none⟩) 1 cap,.int .i64 (n:Int)]) (w0:=cut w b) (T:=kX (cut w b).heap.size [.g (hC w b)]) (R:=fun u X=>∃ g,u = .slice (some ⟨g,0,none⟩) n n∧g ∉ (kX (cut w b).heap.size [.g (hC w b)]).bs∧X = kX (cut w b).heap.size [.g (cK g (List.replicate n (.int .i64 v))),.g (hC w b)]) (by simp) (below_cut (Nat.le_of_lt hlt)) h0 (kX_stab (Sx.cx _ (cut w b) _) _) (fun c hc=>by
  obtain ⟨k,hk,hc⟩:=kX_bs.1 hc
  rw [List.mem_singleton.1 hk] at hc
  exact (KnG.lt (hC w b) (h0 _ (List.mem_singleton.2 rfl)) c hc)) ?run) ?fin
 case fin =>
  rintro e w' ⟨u,X,rfl,⟨g,rfl,hg,rfl⟩,hX,hbl,-⟩
  have k1:(cK g (List.replicate n (.int .i64 v))).ok (cut w b).heap.size w':=hX _ List.mem_cons_self
  have k2:(hC w b).ok (cut w b).heap.size w':=hX _ (List.mem_cons_of_mem _ (List.mem_singleton.2 rfl))
  refine ⟨g,rfl,⟨hbl.os,hbl.tape,hbl.output,k2.2.1,fun i hi=>k2.2.2 i hi⟩,?_,k1.2⟩
  rcases Nat.lt_or_ge g w.heap.size with h | h
  ·exact absurd (kX_bs.2 ⟨_,List.mem_singleton.2 rfl,List.mem_range'.2 ⟨g - b,by have:=k1.1; omega,by have:=k1.1; omega⟩⟩) hg
  ·exact h
 case run =>
  try dsimp only
  have w1:IntKind.u64.wrap (n:Int) = (n:Int):=u64_wrap_id _ ⟨by omega,by omega⟩
  have w2:IntKind.u64.wrap 1 = 1:=by decide
  have m1:=fun W=>g_bmul1 hN W
  repeat' (first | simp (disch:=omega) only [sxE,slices_Repeat___int64_int64.E,Nat.reduceAdd,Nat.reduceEqDiff,Nat.reduceMul,Nat.reduceSub,Int.reduceAdd,Int.reduceSub,Int.reduceMul,Int.reduceNeg,Int.reduceLT,Int.reduceLE,Int.reduceEq,Int.reduceToNat,↓reduceIte,Int.reducePow,Nat.reduceLeDiff,Nat.reduceLT,ne_eq,eq_self,List.length_cons,List.length_nil,w1,w2] | (with_reducible refine Sx.call_at (f:=144) (fun W hW=>m1 W) ?_) | (with_reducible refine cregF ?_))
  refine genA_mk rfl (L:=[.g (hC w b)]) (z:=.int .i64 0) (bytes:=8) Tryz.underlying23 (by kernel_rfl) rfl (by omega) (by omega) rfl fun g hg=>?_
  have hgb:g≠b:=fun e=>hg (kX_bs.2 ⟨_,List.mem_singleton.2 rfl,List.mem_range'.2 ⟨0,by omega,by omega⟩⟩)
  have hgC:g ∉ (Kn.g (hC w b)).bs:=fun h=>hg (kX_bs.2 ⟨_,List.mem_singleton.2 rfl,h⟩)
  rw [← rpt_0 v n]
  have hmv:∀ k,g∈(kX (cut w b).heap.size [.g (cK g (rpt v n k)),.g (hC w b)]).bs:=fun k=>kX_bs.2 ⟨_,List.mem_cons_self,List.mem_singleton.2 rfl⟩
  have hu:=Tryz.underlying23
  have hs:(Tryz.prog.info? 2).map (·.size) = some 1:=by kernel_rfl
  have one:∀ m,∀ x∈List.replicate m (Value.int .i64 v),x.oneCell' = true:=fun m x hx=>by rw [(List.mem_replicate.1 hx).2]; rfl
  repeat' (first | simp (disch:=omega) only [sxE,slices_Repeat___int64_int64.E,Nat.reduceAdd,Nat.reduceEqDiff,Nat.reduceMul,Nat.reduceSub,Int.reduceAdd,Int.reduceSub,Int.reduceMul,Int.reduceNeg,Int.reduceLT,Int.reduceLE,Int.reduceEq,Int.reduceToNat,↓reduceIte,Int.reducePow,Nat.reduceLeDiff,Nat.reduceLT,ne_eq,eq_self,List.length_cons,List.length_nil,w1] | (with_reducible refine cregF ?_))
  refine genA_cp (P:=Tryz.prog) rfl (L:=[.g (cK g (rpt v n 0)),.g (hC w b)]) [.g (cK g (rpt v n 1)),.g (hC w b)] (us:=List.replicate 1 (.int .i64 v)) hu hs rfl List.mem_cons_self ⟨hmv 0,hmv 0⟩ (fun W hok j x hj=>?src) ?len (by rw [rpt_len (Nat.zero_le _),List.length_replicate]; omega) (one 1) (fun k hk=>?upd) ?_
  case len =>
   rw [List.length_replicate]
   show 1 = min 1 n
   omega
  case src =>
   have k2:(hC w b).ok (cut w b).heap.size W:=hok (.g (hC w b)) (List.mem_cons_of_mem _ (List.mem_singleton.2 rfl))
   rcases j with _ | j
   ·cases hj
    exact (World.cell?_of_block (a:=⟨b,0,none⟩) (k2.2.2 b hlt)).trans hcell
   ·cases hj
  case upd =>
   rcases List.mem_cons.1 hk with rfl | hk
   ·refine .inl ?_
    have:=rpt_cp (v:=v) (n:=n) (k:=0) (m:=1) (by omega)
    rw [List.length_replicate,this]
   ·rw [List.mem_singleton.1 hk]
    exact .inr ⟨List.mem_cons_of_mem _ (List.mem_singleton.2 rfl),hgC⟩
  rw [List.length_replicate]
  repeat' (first | simp (disch:=omega) only [sxE,slices_Repeat___int64_int64.E,Nat.reduceAdd,Nat.reduceEqDiff,Nat.reduceMul,Nat.reduceSub,Int.reduceAdd,Int.reduceSub,Int.reduceMul,Int.reduceNeg,Int.reduceLT,Int.reduceLE,Int.reduceEq,Int.reduceToNat,↓reduceIte,Int.reducePow,Nat.reduceLeDiff,Nat.reduceLT,ne_eq,eq_self,List.length_cons,List.length_nil,w1] | (with_reducible refine cregF ?_))
  rw [slices_Repeat___int64_int64.p2_l]
  refine LX_inv (fun k:Nat=>⟨0,[(7,.v (.slice (some ⟨g,0,none⟩) n n)),(8,.v (.int .i64 (k:Int)))],[],kX (cut w b).heap.size [.g (cK g (rpt v n k)),.g (hC w b)]⟩) (fun k=>1≤k∧k≤n) (fun k=>n - k) ?round 1 ⟨Nat.le_refl _,hn⟩ ?start
  case start =>
   have c0:((1:Nat):Int) = 1:=rfl
   simp (disch:=omega) only [sxE,slices_Repeat___int64_int64.E,Nat.reduceAdd,Nat.reduceEqDiff,Nat.reduceMul,Nat.reduceSub,Int.reduceAdd,Int.reduceSub,Int.reduceMul,Int.reduceNeg,Int.reduceLT,Int.reduceLE,Int.reduceEq,Int.reduceToNat,↓reduceIte,Int.reducePow,Nat.reduceLeDiff,Nat.reduceLT,ne_eq,eq_self,List.length_cons,List.length_nil,c0]
  case round =>
   rintro k ⟨hk1,hkn⟩
   try dsimp only at hk1 hkn ⊢
   by_cases hlt':k < n
   ·repeat' (first | simp (disch:=omega) only [sxE,slices_Repeat___int64_int64.E,Nat.reduceAdd,Nat.reduceEqDiff,Nat.reduceMul,Nat.reduceSub,Int.reduceAdd,Int.reduceSub,Int.reduceMul,Int.reduceNeg,Int.reduceLT,Int.reduceLE,Int.reduceEq,Int.reduceToNat,↓reduceIte,Int.reducePow,Nat.reduceLeDiff,Nat.reduceLT,ne_eq,eq_self,List.length_cons,List.length_nil,w1] | (with_reducible refine cregF ?_))
    refine ⟨.slice (some ⟨g,0 + k * 1,none⟩) (n - k) (n - k),fun W=>genRun_sll elt_int64 (by omega) (by omega) W,?_⟩
    rw [Nat.zero_add,Nat.mul_one]
    repeat' (first | simp (disch:=omega) only [sxE,slices_Repeat___int64_int64.E,Nat.reduceAdd,Nat.reduceEqDiff,Nat.reduceMul,Nat.reduceSub,Int.reduceAdd,Int.reduceSub,Int.reduceMul,Int.reduceNeg,Int.reduceLT,Int.reduceLE,Int.reduceEq,Int.reduceToNat,↓reduceIte,Int.reducePow,Nat.reduceLeDiff,Nat.reduceLT,ne_eq,eq_self,List.length_cons,List.length_nil,w1] | (with_reducible refine cregF ?_))
    refine ⟨.slice (some ⟨g,0,none⟩) k n,fun W=>genRun_slh elt_int64 hkn W,?_⟩
    repeat' (first | simp (disch:=omega) only [sxE,slices_Repeat___int64_int64.E,Nat.reduceAdd,Nat.reduceEqDiff,Nat.reduceMul,Nat.reduceSub,Int.reduceAdd,Int.reduceSub,Int.reduceMul,Int.reduceNeg,Int.reduceLT,Int.reduceLE,Int.reduceEq,Int.reduceToNat,↓reduceIte,Int.reducePow,Nat.reduceLeDiff,Nat.reduceLT,ne_eq,eq_self,List.length_cons,List.length_nil,w1] | (with_reducible refine cregF ?_))
    obtain ⟨m,hm⟩:∃ m,m = Nat.min k (n - k):=⟨_,rfl⟩
    have hm1:1≤m:=by rw [hm]; show 1≤min k (n - k); omega
    have hm2:m≤k∧k + m≤n:=by rw [hm]; show min k (n - k)≤k∧k + min k (n - k)≤n; omega
    refine genA_cp (P:=Tryz.prog) rfl (L:=[.g (cK g (rpt v n k)),.g (hC w b)]) [.g (cK g (rpt v n (k + m))),.g (hC w b)] (us:=List.replicate m (.int .i64 v)) hu hs rfl List.mem_cons_self ⟨hmv k,?mv⟩ (fun W hok j x hj=>?src2) (by rw [List.length_replicate]; exact hm) (by rw [rpt_len hkn,List.length_replicate]; exact hm2.2) (one m) (fun k' hk'=>?upd2) ?_
    case mv=>exact hmv k
    case src2 =>
     have k2:(cK g (rpt v n k)).ok (cut w b).heap.size W:=hok (.g (cK g (rpt v n k))) List.mem_cons_self
     rw [List.getElem?_replicate] at hj
     split at hj
     ·cases hj
      rw [Nat.zero_add]
      exact cK_cell k2 (rpt_at (by omega))
     ·cases hj
    case upd2 =>
     rcases List.mem_cons.1 hk' with rfl | hk'
     ·refine .inl ?_
      rw [List.length_replicate,rpt_cp hm2.2]
     ·rw [List.mem_singleton.1 hk']
      exact .inr ⟨List.mem_cons_of_mem _ (List.mem_singleton.2 rfl),hgC⟩
    rw [List.length_replicate]
    have e0:(k:Int) + (m:Int) = ((k + m:Nat):Int):=by omega
    repeat' (first | simp (disch:=omega) only [sxE,slices_Repeat___int64_int64.E,Nat.reduceAdd,Nat.reduceEqDiff,Nat.reduceMul,Nat.reduceSub,Int.reduceAdd,Int.reduceSub,Int.reduceMul,Int.reduceNeg,Int.reduceLT,Int.reduceLE,Int.reduceEq,Int.reduceToNat,↓reduceIte,Int.reducePow,Nat.reduceLeDiff,Nat.reduceLT,ne_eq,eq_self,List.length_cons,List.length_nil,w1] | (with_reducible refine cregF ?_))
    rw [e0]
    exact ⟨k + m,⟨by omega,hm2.2⟩,by omega,rfl,.inl rfl⟩
   ·obtain rfl:k = n:=by omega
    repeat' (first | simp (disch:=omega) only [sxE,slices_Repeat___int64_int64.E,Nat.reduceAdd,Nat.reduceEqDiff,Nat.reduceMul,Nat.reduceSub,Int.reduceAdd,Int.reduceSub,Int.reduceMul,Int.reduceNeg,Int.reduceLT,Int.reduceLE,Int.reduceEq,Int.reduceToNat,↓reduceIte,Int.reducePow,Nat.reduceLeDiff,Nat.reduceLT,ne_eq,eq_self,List.length_cons,List.length_nil,w1] | (with_reducible refine cregF ?_))
    exact ⟨g,rfl,hg,by rw [rpt_n]⟩
end Go.Proofs.YtncmmbacoknefaaGreat

/- Cn: rebuild.Constants. -/
namespace Go.Proofs.YtncmmbacoknefaaGreat
open Go Go.RowKit Sx
set_option linter.unusedVariables false
set_option linter.unusedSimpArgs false
theorem all1_rep (n:Nat) (v:Int):all1 (List.replicate n (Value.int .i64 v)) = true:=by
 induction n with
 | zero=>rfl
 | succ n ih=>rw [List.replicate_succ]; exact ih
theorem cz1_yes {c:Int × Int} (h:1≤c.1∧c.1≤1073741824) {n:Nat} (hn:c.1 = (n:Int)):cz1 c = List.replicate n c.2:=by
 unfold cz1
 rw [if_pos h,hn,Int.toNat_natCast]
theorem cz1_no {c:Int × Int} (h:¬ (1≤c.1∧c.1≤1073741824)):cz1 c = []:=if_neg h
def ZB (w:World) (zs:List Int) (en:Ending) (w':World):Prop:=∃ v,en = .returned v∧w'.ownsRow w.heap.size 2 1 v zs.length (zs.map (Value.int .i64))∧Below w.heap.size w w'
set_option maxRecDepth 100000 in
set_option maxHeartbeats 1000000 in
theorem gx_consts {w:World} {v:Value} {cs:Smps} (h:SlS w v cs) (hT:(cz cs).length≤17592186044416):Calls Tryz.prog 29 #[v] w (ZB w (cz cs)):=by
 obtain ⟨a,cap,rfl,h1,h2,h3,h4⟩:=id h
 have h2':=h2
 simp only [maxLen] at h2'
 refine (enterX Tryz.func29 rebuild_Constants.ok (args:=[.slice a cs.length cap]) (R:=fun u X=>∃ L,X = kX w.heap.size L∧rowOf L 2 1 u (cz cs).length ((cz cs).map (Value.int .i64))) (by simp) ?run).mono ?fin
 case fin =>
  rintro e w' ⟨u,X,rfl,⟨L,rfl,hr⟩,hX,hbl,-⟩
  exact ⟨u,rfl,hr.own hX,hbl⟩
 case run =>
  repeat' (first | simp (disch:=omega) only [sxE,rebuild_Constants.E,Nat.reduceAdd,Nat.reduceEqDiff,Nat.reduceMul,Nat.reduceSub,Int.reduceAdd,Int.reduceSub,Int.reduceMul,Int.reduceNeg,Int.reduceLT,Int.reduceLE,Int.reduceEq,Int.reduceToNat,↓reduceIte,Int.reducePow,Nat.reduceLeDiff,Nat.reduceLT,ne_eq,eq_self,List.length_cons,List.length_nil] | (with_reducible refine cregF ?_))
  rw [rebuild_Constants.p2_l]
  refine LX_inv (fun x:Nat × Value=>⟨0,[(3,.v x.2),(6,.v (.slice a cs.length cap)),(7,.v (.int .i64 cs.length)),(8,.v (.int .i64 (x.1:Int)))],[],kX w.heap.size [.g (wK 2 1 x.2 (cz (cs.take x.1)).length ((cz (cs.take x.1)).map (Value.int .i64)))]⟩) (fun x=>x.1≤cs.length) (fun x=>cs.length - x.1) ?round (0,.slice none 0 0) (Nat.zero_le _) ?start
  case start =>
   have c0:((0:Nat):Int) = 0:=rfl
   simp (disch:=omega) only [sxE,rebuild_Constants.E,Nat.reduceAdd,Nat.reduceEqDiff,Nat.reduceMul,Nat.reduceSub,Int.reduceAdd,Int.reduceSub,Int.reduceMul,Int.reduceNeg,Int.reduceLT,Int.reduceLE,Int.reduceEq,Int.reduceToNat,↓reduceIte,Int.reducePow,Nat.reduceLeDiff,Nat.reduceLT,ne_eq,eq_self,List.length_cons,List.length_nil,c0]
   rw [kX_nil w.heap.size]
   refine extS_of (L:=[]) fun k hk=>?_
   rw [List.mem_singleton.1 hk]
   exact .inr ⟨rfl,fun W=>wK_nil _ _ _ W⟩
  case round =>
   rintro ⟨i,v⟩ hi
   try dsimp only at hi ⊢
   by_cases hlt:i < cs.length
   ·obtain ⟨b',off,rfl,-,-⟩:=h4 (by omega)
    have e0:(i:Int) + 1 = ((i + 1:Nat):Int):=by omega
    have ecz:=cz_take hlt
    have hle:(cz (cs.take (i + 1))).length≤17592186044416:=Nat.le_trans (cz_le _) hT
    have hc:=smp_i64 h3 i
    generalize hcc:cs.getD i (0,0) = c at *
    obtain ⟨c1,c2⟩:=c
    have hx1:(cs.getD i (0,0)).1 = c1:=by rw [hcc]
    have hx2:(cs.getD i (0,0)).2 = c2:=by rw [hcc]
    generalize hls:cz (cs.take i) = ls at *
    
    by_cases hcr:1≤c1∧c1≤1073741824
    ·obtain ⟨hc1,hc2⟩:=hcr
     obtain ⟨n,rfl⟩:∃ n:Nat,c1 = (n:Int):=⟨c1.toNat,by omega⟩
     rw [cz1_yes (c:=((n:Int),c2)) ⟨hc1,hc2⟩ rfl] at ecz
     have hlen:ls.length + n≤17592186044416:=by
      rw [ecz,List.length_append,List.length_replicate] at hle
      exact hle
     repeat' (first | simp (disch:=omega) only [sxE,rebuild_Constants.E,Nat.reduceAdd,Nat.reduceEqDiff,Nat.reduceMul,Nat.reduceSub,Int.reduceAdd,Int.reduceSub,Int.reduceMul,Int.reduceNeg,Int.reduceLT,Int.reduceLE,Int.reduceEq,Int.reduceToNat,↓reduceIte,Int.reducePow,Nat.reduceLeDiff,Nat.reduceLT,ne_eq,eq_self,List.length_cons,List.length_nil,hx1,hx2] | (with_reducible refine ldP_blk b' ?_; refine ldP_S2 i h ?_ hlt ?_; omega) | (with_reducible refine cregF ?_))
     refine genA_c (L:=[.g (wK 2 1 v ls.length (ls.map (Value.int .i64)))]) (cs:=[.int .i64 c2]) (T:=2) (fun b=>.slice (some ⟨b,0,none⟩) 1 1) rfl (fun W=>by kernel_rfl) fun b2 hb2=>?_
     clear hb2
     repeat' (first | simp (disch:=omega) only [sxE,rebuild_Constants.E,Nat.reduceAdd,Nat.reduceEqDiff,Nat.reduceMul,Nat.reduceSub,Int.reduceAdd,Int.reduceSub,Int.reduceMul,Int.reduceNeg,Int.reduceLT,Int.reduceLE,Int.reduceEq,Int.reduceToNat,↓reduceIte,Int.reducePow,Nat.reduceLeDiff,Nat.reduceLT,ne_eq,eq_self,List.length_cons,List.length_nil] | (with_reducible refine cregF ?_))
     refine asks_kn (ι:=Nat) (L:=[.g (cK b2 [.int .i64 c2]),.g (wK 2 1 v ls.length (ls.map (Value.int .i64)))]) (gs:=[]) (fun g=>.slice (some ⟨g,0,none⟩) n n) (fun g=>[.g (cK g (List.replicate n (.int .i64 c2))),.g (wK 2 1 v ls.length (ls.map (Value.int .i64)))]) en_rept rfl (fun x hx=>by cases hx) (fun W hok x hx=>by cases hx) (fun W hW hok=>?rep) fun g=>?_
     case rep =>
      have k1:(cK b2 [.int .i64 c2]).ok w.heap.size W:=hok _ List.mem_cons_self
      refine (rep_any (w:=W) (b:=b2) (cap:=1) (n:=n) (v:=c2) k1.2 (by omega) (by omega)).mono fun e w' ⟨g,h1,h2,h3,h4⟩=>⟨g,h1,moves_below h2,fun k hk=>?_⟩
      rcases List.mem_cons.1 hk with rfl | hk
      ·refine .inr ⟨⟨Nat.le_trans hW.size h3,h4⟩,fun c hc=>.inr ?_⟩
       rw [cK_bs.1 hc]
       exact h3
      ·exact .inl ⟨List.mem_cons_of_mem _ hk,fun _ _ h=>by cases h⟩
     repeat' (first | simp (disch:=omega) only [sxE,rebuild_Constants.E,Nat.reduceAdd,Nat.reduceEqDiff,Nat.reduceMul,Nat.reduceSub,Int.reduceAdd,Int.reduceSub,Int.reduceMul,Int.reduceNeg,Int.reduceLT,Int.reduceLE,Int.reduceEq,Int.reduceToNat,↓reduceIte,Int.reducePow,Nat.reduceLeDiff,Nat.reduceLT,ne_eq,eq_self,List.length_cons,List.length_nil] | (with_reducible refine cregF ?_))
     refine genA_lit rfl [] elt_int64 rfl (.inr (List.mem_cons_of_mem _ (List.mem_singleton.2 rfl))) (.inl fun _ h=>h) List.mem_cons_self (by rw [List.length_replicate,Nat.mul_one]) (by omega) (all1_rep n c2) (by simp only [maxLen]; omega) (by omega) (fun k hk=>by cases hk) fun g3 cap3 _ _ _ _=>?_
     repeat' (first | simp (disch:=omega) only [sxE,rebuild_Constants.E,Nat.reduceAdd,Nat.reduceEqDiff,Nat.reduceMul,Nat.reduceSub,Int.reduceAdd,Int.reduceSub,Int.reduceMul,Int.reduceNeg,Int.reduceLT,Int.reduceLE,Int.reduceEq,Int.reduceToNat,↓reduceIte,Int.reducePow,Nat.reduceLeDiff,Nat.reduceLT,ne_eq,eq_self,List.length_cons,List.length_nil] | (with_reducible refine cregF ?_))
     rw [e0]
     refine ⟨(i + 1,.slice (some ⟨g3,0,none⟩) (ls.length + n) cap3),by dsimp only; omega,by dsimp only; omega,⟨rfl,rfl⟩,.inl ?_⟩
     dsimp only
     rw [ecz,List.length_append,List.map_append,List.length_replicate,List.map_replicate]
    ·rw [cz1_no hcr,List.append_nil] at ecz
     by_cases hc1:1≤c1
     ·have hc2:¬ c1≤1073741824:=fun h=>hcr ⟨hc1,h⟩
      repeat' (first | simp (disch:=omega) only [sxE,rebuild_Constants.E,Nat.reduceAdd,Nat.reduceEqDiff,Nat.reduceMul,Nat.reduceSub,Int.reduceAdd,Int.reduceSub,Int.reduceMul,Int.reduceNeg,Int.reduceLT,Int.reduceLE,Int.reduceEq,Int.reduceToNat,↓reduceIte,Int.reducePow,Nat.reduceLeDiff,Nat.reduceLT,ne_eq,eq_self,List.length_cons,List.length_nil,hx1,hx2] | (with_reducible refine ldP_blk b' ?_; refine ldP_S2 i h ?_ hlt ?_; omega) | (with_reducible refine cregF ?_))
      rw [e0]
      refine ⟨(i + 1,v),by dsimp only; omega,by dsimp only; omega,?_⟩
      dsimp only
      rw [ecz]
      exact ⟨⟨rfl,rfl⟩,.inl rfl⟩
     ·repeat' (first | simp (disch:=omega) only [sxE,rebuild_Constants.E,Nat.reduceAdd,Nat.reduceEqDiff,Nat.reduceMul,Nat.reduceSub,Int.reduceAdd,Int.reduceSub,Int.reduceMul,Int.reduceNeg,Int.reduceLT,Int.reduceLE,Int.reduceEq,Int.reduceToNat,↓reduceIte,Int.reducePow,Nat.reduceLeDiff,Nat.reduceLT,ne_eq,eq_self,List.length_cons,List.length_nil,hx1,hx2] | (with_reducible refine ldP_blk b' ?_; refine ldP_S2 i h ?_ hlt ?_; omega) | (with_reducible refine cregF ?_))
      rw [e0]
      refine ⟨(i + 1,v),by dsimp only; omega,by dsimp only; omega,?_⟩
      dsimp only
      rw [ecz]
      exact ⟨⟨rfl,rfl⟩,.inl rfl⟩
   ·obtain rfl:i = cs.length:=by omega
    rw [List.take_length]
    repeat' (first | simp (disch:=omega) only [sxE,rebuild_Constants.E,Nat.reduceAdd,Nat.reduceEqDiff,Nat.reduceMul,Nat.reduceSub,Int.reduceAdd,Int.reduceSub,Int.reduceMul,Int.reduceNeg,Int.reduceLT,Int.reduceLE,Int.reduceEq,Int.reduceToNat,↓reduceIte,Int.reducePow,Nat.reduceLeDiff,Nat.reduceLT,ne_eq,eq_self,List.length_cons,List.length_nil] | (with_reducible refine cregF ?_))
    exact ⟨_,rfl,.inr (List.mem_singleton.2 rfl)⟩
end Go.Proofs.YtncmmbacoknefaaGreat

/- CdWv: MADE BY PROGRAM (sxgen.py): the small code of some functions, points of it and their equations. -/
namespace Go.Proofs.YtncmmbacoknefaaGreat
open Go Go.RowKit Sx Sx.Q
set_option linter.unusedVariables false
variable (C:Cx) (R L1 L2 L3 L4:St→Prop)
namespace r12_Values
abbrev r0:List G:=[e 2 (.mv (.const (.slice none 0 0)))]
abbrev q0:=[0,3]
abbrev r1:List G:=[e 3 (.mv (.const (.slice none 0 0)))]
abbrev q1:=[0,3,4]
abbrev r2:List G:=[Mi 4 0]
abbrev q2:=[0,3,4,8]
abbrev r3:List G:=[m 5 4,m 6 0,e 7 (.len false (t 6)),b 8 .lss 5 7]
abbrev r5:List G:=[m 11 3,m 12 0,m 13 4,j 14 2 12 13,a 15 1 14,l 16 15,e 17 (.gen false (.bsl 23 1 [0]) [(t 16)]),e 18 (.gen false (.bi .append [23,23] 23 [false,false]) [(t 11),(t 17)]),m 3 18]
abbrev r4:List G:=[m 9 4,bi 10 .add 9 1,m 4 10]
abbrev r6:List G:=[m 19 3,m 2 19]
abbrev c:MC:=sq [g r0 [0],g r1 q0,sq [g r2 q1,.block 0 (.loop (sq [sq [g r3 q2,ci 8 .skip (.exit 0)],.block 1 (g r5 q1),g r4 q1]))],g r6 [2],.ret]
theorem ok:compF Tryz.prog Tryz.f28 (an [0,1,2,3,5,4,6] c []) = some (20,c,[(2,none)]):=by kernel_rfl
abbrev p1:=P C r6 [2] R
abbrev p3:=P C r4 q1 L1
abbrev p4:=P C r5 q1 (p3 C L1)
abbrev p5:=cd (t 8) (p4 C L1) (p1 C R)
abbrev p6:=P C r3 q2 (p5 C R L1)
def p2 (S:St):Prop:=LX C (fun L1=>(p6 C R L1)) S
theorem p2_l (S:St):p2 C R S = LX C (fun L1=>(p6 C R L1)) S:=rfl
abbrev p7:=P C r2 q1 (p2 C R)
abbrev p8:=P C r1 q0 (p7 C R)
abbrev p9:=P C r0 [0] (p8 C R)
theorem s (S:St):X C c (retK R) S = p9 C R S:=by kernel_rfl
theorem E:type_of% @s:=@s
end r12_Values
end Go.Proofs.YtncmmbacoknefaaGreat

/- Wv: Values of series, of the reference. -/
namespace Go.Proofs.YtncmmbacoknefaaGreat
open Go Go.RowKit Sx
set_option linter.unusedVariables false
set_option linter.unusedSimpArgs false
def vcells (ss:Smps):List Value:=ss.map fun s=>.int .i64 s.2
theorem vcells_len (ss:Smps):(vcells ss).length = ss.length:=by simp [vcells]
theorem vcells_get {ss:Smps} {i:Nat} (h:i < ss.length):(vcells ss)[i]? = some (.int .i64 (ss.getD i (0,0)).2):=by
 simp only [vcells,List.getElem?_map,getD_some (d:=(0,0)) h]; rfl
set_option maxRecDepth 100000 in
set_option maxHeartbeats 1000000 in
theorem r_svals {w:World} {v:Value} {ss:Smps} (h:SlS w v ss) (hn:8 * ss.length≤140737488355328):Calls Tryz.prog 28 #[v] w (OwnRow w 2 1 ss.length (vcells ss)):=by
 obtain ⟨a,cap,rfl,h1,h2,h3,h4⟩:=id h
 simp only [maxLen] at h2
 have hl:=vcells_len ss
 have hcs:=fun i (hi:i < ss.length)=>vcells_get hi
 generalize vcells ss = cs at *
 refine (enterX Tryz.func28 r12_Values.ok (args:=[.slice a ss.length cap]) (R:=fun v X=>X = kX w.heap.size [.g (wK 2 1 v ss.length cs)]) (by simp) ?run).mono ?fin
 case fin =>
  rintro e w' ⟨v,X,rfl,rfl,hX,hbl,-⟩
  exact ⟨v,rfl,hX (.g (wK 2 1 v ss.length cs)) (List.mem_singleton.2 rfl),hbl⟩
 case run =>
  repeat' (first | simp (disch:=omega) only [sxE,r12_Values.E,Nat.reduceAdd,Nat.reduceEqDiff,Nat.reduceMul,Nat.reduceSub,Int.reduceAdd,Int.reduceSub,Int.reduceMul,Int.reduceNeg,Int.reduceLT,Int.reduceLE,Int.reduceEq,Int.reduceToNat,↓reduceIte,Int.reducePow,Nat.reduceLeDiff,Nat.reduceLT,ne_eq,eq_self,List.length_cons,List.length_nil,qxE] | (with_reducible refine cregF ?_))
  rw [r12_Values.p2_l]
  refine LX_inv (fun x:Nat × Value=>⟨0,[(0,.v (.slice a ss.length cap)),(3,.v x.2),(4,.v (.int .i64 (x.1:Int)))],[],kX w.heap.size [.g (wK 2 1 x.2 x.1 (cs.take x.1))]⟩) (fun x=>x.1≤ss.length∧∃ a c,x.2 = .slice a x.1 c) (fun x=>ss.length - x.1) ?round (0,.slice none 0 0) ⟨Nat.zero_le _,none,0,rfl⟩ ?start
  case start =>
   have c0:((0:Nat):Int) = 0:=rfl
   simp (disch:=omega) only [sxE,r12_Values.E,Nat.reduceAdd,Nat.reduceEqDiff,Nat.reduceMul,Nat.reduceSub,Int.reduceAdd,Int.reduceSub,Int.reduceMul,Int.reduceNeg,Int.reduceLT,Int.reduceLE,Int.reduceEq,Int.reduceToNat,↓reduceIte,Int.reducePow,Nat.reduceLeDiff,Nat.reduceLT,ne_eq,eq_self,List.length_cons,List.length_nil,c0]
   rw [kX_nil w.heap.size]
   refine extS_of fun k hk=>.inr ?_
   rw [List.mem_singleton.1 hk]
   exact ⟨rfl,fun W=>wK_nil _ _ _ W⟩
  case round =>
   rintro ⟨i,v⟩ ⟨hi,av,cv,hv⟩
   try dsimp only at hi hv ⊢
   by_cases hlt:i < ss.length
   ·obtain ⟨b',off,rfl,-,-⟩:=h4 (by omega)
    clear h3 h4
    repeat' (first | simp (disch:=omega) only [sxE,r12_Values.E,Nat.reduceAdd,Nat.reduceEqDiff,Nat.reduceMul,Nat.reduceSub,Int.reduceAdd,Int.reduceSub,Int.reduceMul,Int.reduceNeg,Int.reduceLT,Int.reduceLE,Int.reduceEq,Int.reduceToNat,↓reduceIte,Int.reducePow,Nat.reduceLeDiff,Nat.reduceLT,ne_eq,eq_self,List.length_cons,List.length_nil,qxE,Nat.add_zero] | (with_reducible refine ldP_blk b' ?_; refine ldP_SV i h ?_ ?_ ?_; omega; omega) | (with_reducible refine cregF ?_))
    refine genA_c (L:=[.g (wK 2 1 v i (cs.take i))]) (cs:=[.int .i64 (ss.getD i (0,0)).2]) (T:=2) (fun b=>.slice (some ⟨b,0,none⟩) 1 1) rfl (fun W=>by kernel_rfl) fun bl hbl=>?_
    clear hbl
    repeat' (first | simp (disch:=omega) only [sxE,r12_Values.E,Nat.reduceAdd,Nat.reduceEqDiff,Nat.reduceMul,Nat.reduceSub,Int.reduceAdd,Int.reduceSub,Int.reduceMul,Int.reduceNeg,Int.reduceLT,Int.reduceLE,Int.reduceEq,Int.reduceToNat,↓reduceIte,Int.reducePow,Nat.reduceLeDiff,Nat.reduceLT,ne_eq,eq_self,List.length_cons,List.length_nil,qxE] | (with_reducible refine cregF ?_))
    refine genA_lit rfl [] elt_int64 rfl (.inr (List.mem_cons_of_mem _ List.mem_cons_self)) (.inl fun _ h=>h) List.mem_cons_self rfl (by decide) rfl (by simp only [maxLen]; omega) (by omega) (fun k hk=>by cases hk) fun g1 c1 hc1 hc1' _ _=>?_
    rw [take_more (hcs i hlt)]
    repeat' (first | simp (disch:=omega) only [sxE,r12_Values.E,Nat.reduceAdd,Nat.reduceEqDiff,Nat.reduceMul,Nat.reduceSub,Int.reduceAdd,Int.reduceSub,Int.reduceMul,Int.reduceNeg,Int.reduceLT,Int.reduceLE,Int.reduceEq,Int.reduceToNat,↓reduceIte,Int.reducePow,Nat.reduceLeDiff,Nat.reduceLT,ne_eq,eq_self,List.length_cons,List.length_nil,qxE] | (with_reducible refine cregF ?_))
    have e0:(i:Int) + 1 = ((i + 1:Nat):Int):=by omega
    rw [e0]
    exact ⟨(i + 1,.slice (some ⟨g1,0,none⟩) (i + 1) c1),⟨by dsimp only; omega,_,_,rfl⟩,by dsimp only; omega,⟨rfl,rfl⟩,.inl rfl⟩
   ·obtain rfl:i = ss.length:=by omega
    rw [show cs.take ss.length = cs by rw [← hl]; exact List.take_length]
    repeat' (first | simp (disch:=omega) only [sxE,r12_Values.E,Nat.reduceAdd,Nat.reduceEqDiff,Nat.reduceMul,Nat.reduceSub,Int.reduceAdd,Int.reduceSub,Int.reduceMul,Int.reduceNeg,Int.reduceLT,Int.reduceLE,Int.reduceEq,Int.reduceToNat,↓reduceIte,Int.reducePow,Nat.reduceLeDiff,Nat.reduceLT,ne_eq,eq_self,List.length_cons,List.length_nil,qxE] | (with_reducible refine cregF ?_))
end Go.Proofs.YtncmmbacoknefaaGreat
