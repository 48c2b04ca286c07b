/- Several texts in one: Sh, CdPi, Pa, Pb, CdP1, Pk, Pd, Pf, Pc, Kp, Pl, CdTs, Ts, Pg, Pj, Open, OpK, OpP. -/
import Derived.Test.YtncmmbacoknefaaGreatProg
import Derived.Test.YtncmmbacoknefaaGreatRows
import Derived.OpenShut
import Derived.SizedLaws
import Derived.Laws.IdiomArrays
import Derived.Deep.Strs
import Derived.Test.YtncmmbacoknefaaGreatPf22
import Derived.Test.YtncmmbacoknefaaGreatPf23
import Derived.Test.YtncmmbacoknefaaGreatPf24
set_option linter.defProp false

/- Sh: What swing and pieces share. -/
namespace Go.Proofs.YtncmmbacoknefaaGreat
open Go Go.RowKit Sx
set_option linter.unusedVariables false
set_option linter.unusedSimpArgs false
abbrev kc (c:Cn):List Value:=[.bool c.o,.bool (sg c.p),.int .u64 (lb0 (ab c.p)),.int .u64 (lb1 (ab c.p)),.int .u64 (lb2 (ab c.p)),.int .u64 (lb3 (ab c.p)),.bool (sg c.q),.int .u64 (lb0 (ab c.q)),.int .u64 (lb1 (ab c.q)),.int .u64 (lb2 (ab c.q)),.int .u64 (lb3 (ab c.q)),.bool (sg c.p1),.int .u64 (lb0 (ab c.p1)),.int .u64 (lb1 (ab c.p1)),.int .u64 (lb2 (ab c.p1)),.int .u64 (lb3 (ab c.p1)),.bool (sg c.q1),.int .u64 (lb0 (ab c.q1)),.int .u64 (lb1 (ab c.q1)),.int .u64 (lb2 (ab c.q1)),.int .u64 (lb3 (ab c.q1))]
abbrev rc (p q:Int):List Value:=[.bool (sg p),.int .u64 (lb0 (ab p)),.int .u64 (lb1 (ab p)),.int .u64 (lb2 (ab p)),.int .u64 (lb3 (ab p)),.bool (sg q),.int .u64 (lb0 (ab q)),.int .u64 (lb1 (ab q)),.int .u64 (lb2 (ab q)),.int .u64 (lb3 (ab q))]
theorem wrap_subw {a b:Int} (ha:I64 a) (hb:I64 b) (h:a≤b):IntKind.u64.wrap (IntKind.u64.wrap b - IntKind.u64.wrap a) = b - a:=by
 have h1:=ha.1
 have h2:=ha.2
 have h3:=hb.1
 have h4:=hb.2
 rw [IntKind.wrap_u64,IntKind.wrap_u64,IntKind.wrap_u64]
 omega
theorem gx_dist {a b:Int} (ha:I64 a) (hb:I64 b) (h:b≤a) (W:World):Gives Tryz.prog 135 [.int .i64 a,.int .i64 b] W (· = .int .u64 (a - b)):=by
 refine gives_known en_checked_Distance ?_
 have w1:=wrap_subw hb ha h
 have m1:(if a < b then b else a) = a:=if_neg (by omega)
 have m2:(if b < a then b else a) = b:=by split <;> omega
 clear ha hb
 refine known_of (enter Tryz.func135 checked_Distance.ok (args:=[_,_]) (by simp) ?_)
 repeat' (first | simp (disch:=omega) only [sxE,checked_Distance.E,Nat.reduceAdd,Nat.reduceEqDiff,Nat.reduceMul,Nat.reduceSub,Int.reduceAdd,Int.reduceSub,Int.reduceMul,Int.reduceNeg,Int.reduceLT,Int.reduceLE,Int.reduceEq,Int.reduceToNat,↓reduceIte,Int.reducePow,Nat.reduceLeDiff,Nat.reduceLT,ne_eq,eq_self,List.length_cons,List.length_nil,m1,m2,w1] | (with_reducible refine cregF ?_))
def EndP (w:World) (b n0:Nat) (v:Value) (cs':Value→List Value) (e:TypeId) (sz k':Nat) (xs':List Value) (en:Ending) (w':World):Prop :=
 ∃ v',en = .returned (.tuple #[])∧HB w' b (cs' v').toArray∧w'.ownsRow n0 e sz v' k' xs'∧Moves (b :: v.ownBlock.toList) w w'∧v'.ownBlock≠some b∧∀ g,v'.ownBlock = some g→v.ownBlock = some g∨w.heap.size≤g
def tolz (t:Int):Bool:=decide (0≤t) && decide (t≤4611686018427387904)
theorem tolz_iff {t:Int}:tolz t = true↔0≤t∧t≤4611686018427387904:=by unfold tolz; simp
theorem take_snoc' {ss:Smps} {i:Nat} (h:i < ss.length):ss.take (i + 1) = ss.take i ++ [ss.getD i (0,0)]:=by
 rw [List.take_add_one,getD_some (d:=(0,0)) h]; rfl
theorem cmt_o {c:Cn} {p q p1 q1:Int} (h:(cmt c ⟨false,p,q,p1,q1⟩).2 = true):(cmt c ⟨false,p,q,p1,q1⟩).1.o = false:=by
 unfold cmt at h ⊢
 dsimp only at h ⊢
 by_cases c1:c.o = true
 ·rw [if_pos c1]
 ·rw [if_neg c1] at h ⊢
  rw [if_neg (by decide)] at h ⊢
  generalize (if c.p * q < p * c.q then (p,q) else (c.p,c.q)) = A at *
  generalize (if p1 * c.q1 < c.p1 * q1 then (p1,q1) else (c.p1,c.q1)) = B at *
  split <;> rfl
theorem i64_0:I64 0:=⟨by decide,by decide⟩
namespace Sx
theorem genA_az {C:Cx} {S:St} {K:St→Prop} {d:Option Nat} {P:Program} {t:TypeId} {L:List Kn} {z:Value} (cs:List Value) (hP:C.P = P) (hi:(P.info? t).map (·.zero) = some (some z)) (hcs:z.cells.toList = cs) (hT:S.T = kX C.w0.heap.size L)
  (hk:∀ b,b ∉ S.T.bs→K (St.put ⟨S.n,S.E,S.H,kX C.w0.heap.size (.g (cK b cs) :: L)⟩ d (.v (.pointer (some ⟨b,0,none⟩))))):genA C (.al t) [] d K S:=by
 subst hcs
 cases h:P.info? t with
 | none=>rw [h] at hi; cases hi
 | some i =>
  rw [h] at hi
  exact genA_al hP h (Option.some.inj hi) hT hk
end Sx
theorem rx_sdist {a b:Int} (ha:I64 a) (hb:I64 b) (h:b≤a) (W:World):Gives Tryz.prog 42 [.int .i64 a,.int .i64 b] W (· = .int .u64 (a - b)):=by
 refine gives_known en_r01_Distance ?_
 have w1:=wrap_subw hb ha h
 have h':¬ a < b:=by omega
 clear ha hb
 refine known_of (enter Tryz.func42 r01_Distance.ok (args:=[_,_]) (by simp) ?_)
 repeat' (first | simp (disch:=omega) only [sxE,r01_Distance.E,Nat.reduceAdd,Nat.reduceEqDiff,Nat.reduceMul,Nat.reduceSub,Int.reduceAdd,Int.reduceSub,Int.reduceMul,Int.reduceNeg,Int.reduceLT,Int.reduceLE,Int.reduceEq,Int.reduceToNat,↓reduceIte,Int.reducePow,Nat.reduceLeDiff,Nat.reduceLT,ne_eq,eq_self,List.length_cons,List.length_nil,w1] | (with_reducible refine cregF ?_))
theorem weq_self (n:Bool) (a b c d:Int):weq n a b c d n a b c d = true:=by simp [weq,meq]
theorem sls_cK {W:World} {b:Nat} {ss:Smps} (h:HB W b (scells ss).toArray) (hz:∀ s∈ss,I64 s.1∧I64 s.2) (hn:ss.length≤maxLen):SlS W (.slice (some ⟨b,0,none⟩) ss.length ss.length) ss:=by
 refine ⟨some ⟨b,0,none⟩,ss.length,rfl,Nat.le_refl _,hn,hz,fun _=>⟨b,0,rfl,h.lt,fun i hi=>?_⟩⟩
 have h1:=(Bx.of h).2.1 (0 + i * 2)
 have h2:=(Bx.of h).2.1 (0 + i * 2 + 1)
 obtain ⟨s1,s2⟩:=scells_at ss i hi
 rw [List.getElem?_toArray,show 0 + i * 2 = 2 * i by omega] at h1 h2
 refine ⟨?_,?_⟩
 ·rw [show 0 + i * 2 = 2 * i by omega]; exact h1.trans s1
 ·rw [show 0 + i * 2 = 2 * i by omega]; exact h2.trans s2
theorem eq_ratio8_self (n:Bool) (a b c d:Int) (n1:Bool) (a1 b1 c1 d1:Int) (w:World) :
  (Op.equalIn 9998 39 (.agg #[.bool n,.int .u64 a,.int .u64 b,.int .u64 c,.int .u64 d,.bool n1,.int .u64 a1,.int .u64 b1,.int .u64 c1,.int .u64 d1]) (.agg #[.bool n,.int .u64 a,.int .u64 b,.int .u64 c,.int .u64 d,.bool n1,.int .u64 a1,.int .u64 b1,.int .u64 c1,.int .u64 d1])).run Tryz.prog w = .ok true w:=by
 have h:=fun W=>eq_wide n a b c d n a b c d 9994 W
 have h':=fun W=>eq_wide n1 a1 b1 c1 d1 n1 a1 b1 c1 d1 9994 W
 simp only [weq_self] at h h'
 simp [go_sem,h,h']
theorem eq_cone9_self (o:Bool) (n:Bool) (a b c d:Int) (n1:Bool) (a1 b1 c1 d1:Int) (m:Bool) (e f g h:Int) (m1:Bool) (e1 f1 g1 h1:Int) (w:World) :
  (Op.equalIn 9999 73 (KR o n a b c d n1 a1 b1 c1 d1 m e f g h m1 e1 f1 g1 h1) (KR o n a b c d n1 a1 b1 c1 d1 m e f g h m1 e1 f1 g1 h1)).run Tryz.prog w = .ok true w:=by
 have E1:=fun W=>eq_ratio8_self n a b c d n1 a1 b1 c1 d1 W
 have E2:=fun W=>eq_ratio8_self m e f g h m1 e1 f1 g1 h1 W
 unfold KR
 cases o <;> simp [go_sem,E1,E2]
theorem eqcn_run {ng:Bool} {xo yo:Operand} (o:Bool) (n:Bool) (a b c d:Int) (n1:Bool) (a1 b1 c1 d1:Int) (m:Bool) (e f g h:Int) (m1:Bool) (e1 f1 g1 h1:Int) (W:World) :
  ((do eqGuard (if ng then .neq else .eql) 73 xo yo (KR o n a b c d n1 a1 b1 c1 d1 m e f g h m1 e1 f1 g1 h1) (KR o n a b c d n1 a1 b1 c1 d1 m e f g h m1 e1 f1 g1 h1); binOp (if ng then .neq else .eql) 73 (KR o n a b c d n1 a1 b1 c1 d1 m e f g h m1 e1 f1 g1 h1) (KR o n a b c d n1 a1 b1 c1 d1 m e f g h m1 e1 f1 g1 h1)):Sem Value).run Tryz.prog W = .ok (.bool (!ng)) W:=by
 have:=eqb_run (ng:=ng) (xo:=xo) (yo:=yo) guardT_cone (eq_cone o n a b c d n1 a1 b1 c1 d1 m e f g h m1 e1 f1 g1 h1 o n a b c d n1 a1 b1 c1 d1 m e f g h m1 e1 f1 g1 h1 W)
 simp only [weq_self,beq_self_eq_true,Bool.and_self] at this
 exact this.trans (by cases ng <;> rfl)
theorem eqkx_run {ng:Bool} {xo yo:Operand} {o:Bool} {p q p1 q1:Int} (W:World) :
  ((do eqGuard (if ng then .neq else .eql) 73 xo yo (KX o p q p1 q1) (KX o p q p1 q1); binOp (if ng then .neq else .eql) 73 (KX o p q p1 q1) (KX o p q p1 q1)):Sem Value).run Tryz.prog W = .ok (.bool (!ng)) W :=
 eqcn_run _ _ _ _ _ _ _ _ _ _ _ _ _ _ _ _ _ _ _ _ _ W
end Go.Proofs.YtncmmbacoknefaaGreat

/- CdPi: MADE BY PROGRAM (sxgen.py): the small code of some functions, points of it and their equations. -/
namespace Go.Proofs.YtncmmbacoknefaaGreat
open Go Go.RowKit Sx Sx.Q
set_option linter.unusedVariables false
variable (C:Cx) (R L1 L2 L3 L4:St→Prop)
namespace pieces_unit
abbrev r0:List G:=[Mi 2 0]
abbrev r1:List G:=[m 3 0,e 4 (.mm true (t 3) (i 1)),m 2 4]
abbrev c:MC:=sq [g r0 [0],g r1 [2],.ret]
theorem ok:compF Tryz.prog Tryz.f125 (an (rg 2) c []) = some (5,c,[(2,none)]):=by kernel_rfl
abbrev p1:=P C r1 [2] R
abbrev p2:=P C r0 [0] (p1 C R)
theorem s (S:St):X C c (retK R) S = p2 C R S:=by kernel_rfl
theorem E:type_of% @s:=@s
end pieces_unit
namespace pieces_Key
abbrev q0:=[0,1]
abbrev r0:List G:=[Mi 4 0]
abbrev r1:List G:=[m 8 0,m 9 1,K1 10 125 9,K2 11 124 8 10,m 7 11,x 12 7 0,x 13 7 1,m 5 12,m 6 13]
abbrev r2:List G:=[m 14 5,m 4 14]
abbrev c:MC:=sq [g r0 q0,g r1 [5],g r2 [4],.ret]
theorem ok:compF Tryz.prog Tryz.f61 (an (rg 3) c []) = some (15,c,[(4,none)]):=by kernel_rfl
abbrev p1:=P C r2 [4] R
abbrev p2:=P C r1 [5] (p1 C R)
abbrev p3:=P C r0 q0 (p2 C R)
theorem s (S:St):X C c (retK R) S = p3 C R S:=by kernel_rfl
theorem E:type_of% @s:=@s
end pieces_Key
namespace pieces_Base
abbrev q0:=[0,1,4]
abbrev r0:List G:=[e 4 (.new zW)]
abbrev q1:=[4,5]
abbrev r1:List G:=[m 8 0,K1 9 81 8,m 10 1,K1 11 125 10,K1 12 81 11,K2 13 126 9 12,m 7 13,x 14 7 0,x 15 7 1,e 5 (.new zW),V 5 5 14,m 6 15]
abbrev r2:List G:=[L 16 5 5,V 5 4 16]
abbrev c:MC:=sq [g r0 q0,g r1 q1,g r2 [4],.ret]
theorem ok:compF Tryz.prog Tryz.f62 (an (rg 3) c []) = some (17,c,[(4,some (true,5))]):=by kernel_rfl
abbrev p1:=P C r2 [4] R
abbrev p2:=P C r1 q1 (p1 C R)
abbrev p3:=P C r0 q0 (p2 C R)
theorem s (S:St):X C c (retK R) S = p3 C R S:=by kernel_rfl
theorem E:type_of% @s:=@s
end pieces_Base
namespace pieces_tolerable
abbrev r0:List G:=[Mb 2 false]
abbrev r1:List G:=[m 3 0,bi 4 .geq 3 0,m 5 4,ym 6 5 0,y 7 5 (.bin .leq (t 6) (i 4611686018427387904)),w 8 5 7,m 2 8]
abbrev c:MC:=sq [g r0 [0],g r1 [2],.ret]
theorem ok:compF Tryz.prog Tryz.f119 (an (rg 2) c []) = some (9,c,[(2,none)]):=by kernel_rfl
abbrev p1:=P C r1 [2] R
abbrev p2:=P C r0 [0] (p1 C R)
theorem s (S:St):X C c (retK R) S = p2 C R S:=by kernel_rfl
theorem E:type_of% @s:=@s
end pieces_tolerable
namespace pieces_Start
abbrev q0:=[0,2]
abbrev z0:List Value:=[.int .i64 0,.int .i64 0,.int .i64 0,.int .i64 0,.int .i64 0,.int .i64 0,.int .i64 0,.bool false,.bool false,.int .u64 0,.int .u64 0,.int .u64 0,.int .u64 0,.bool false,.int .u64 0,.int .u64 0,.int .u64 0,.int .u64 0,.bool false,.int .u64 0,.int .u64 0,.int .u64 0,.int .u64 0,.bool false,.int .u64 0,.int .u64 0,.int .u64 0,.int .u64 0]
abbrev r0:List G:=[e 2 (.new z0),Mi 3 0]
abbrev q1:=[0,2,6]
abbrev r1:List G:=[m 4 0,K1 5 119 4,e 6 (.un .not (t 5))]
abbrev q2:=[2,3]
abbrev r2:List G:=[e 7 (.bd z0 []),V 28 2 7,Mi 3 9]
abbrev r3:List G:=[m 8 0,e 9 (.bd z0 [(0,1,(t 8))]),V 28 2 9,Mi 3 0]
abbrev c:MC:=sq [g r0 q0,sq [g r1 q1,ci 6 (sq [g r2 q2,.ret]) .skip],g r3 q2,.ret]
theorem ok:compF Tryz.prog Tryz.f57 (an (rg 4) c []) = some (10,c,[(2,some (true,28)),(3,none)]):=by kernel_rfl
abbrev p1:=P C r3 q2 R
abbrev p3:=P C r2 q2 R
abbrev p2:=cd (t 6) (p3 C R) (p1 C R)
abbrev p4:=P C r1 q1 (p2 C R)
abbrev p5:=P C r0 q0 (p4 C R)
theorem s (S:St):X C c (retK R) S = p5 C R S:=by kernel_rfl
theorem E:type_of% @s:=@s
end pieces_Start
namespace pieces_Valid
abbrev r0:List G:=[e 1 (.box true 28 (t 0)),Mb 2 false]
abbrev q0:=[1,26]
abbrev r1:List G:=[a 3 0 1,l 4 3,K1 5 119 4,e 6 (.un .not (t 5)),m 7 6,na 8 7 1 1,nl 9 7 8,n 10 7 (.bin .lss (t 9) (i 0)),o 11 7 10,m 12 11,na 13 12 1 1,nl 14 12 13,n 15 12 (.bin .gtr (t 14) (i 1073741824)),o 16 12 15,m 17 16,na 18 17 2 1,nl 19 17 18,n 20 17 (.bin .lss (t 19) (i 0)),o 21 17 20,m 22 21,na 23 22 2 1,nl 24 22 23,n 25 22 (.bin .gtr (t 24) (i 1073741824)),o 26 22 25]
abbrev r2:List G:=[Mb 2 false]
abbrev q1:=[1,29]
abbrev r3:List G:=[a 27 2 1,l 28 27,bi 29 .eql 28 0]
abbrev z0:List Value:=[.int .i64 0,.int .i64 0,.int .i64 0,.int .i64 0,.int .i64 0,.int .i64 0,.int .i64 0,.bool false,.bool false,.int .u64 0,.int .u64 0,.int .u64 0,.int .u64 0,.bool false,.int .u64 0,.int .u64 0,.int .u64 0,.int .u64 0,.bool false,.int .u64 0,.int .u64 0,.int .u64 0,.int .u64 0,.bool false,.int .u64 0,.int .u64 0,.int .u64 0,.int .u64 0]
abbrev r4:List G:=[L 30 28 1,a 31 0 1,l 32 31,a 33 1 1,l 34 33,e 35 (.bd z0 [(0,1,(t 32)),(1,1,(t 34))]),e 36 (.eqg false 94 (t 30) (t 35)),m 2 36]
abbrev q2:=[1,45]
abbrev r5:List G:=[a 37 6 1,l 38 37,a 39 3 1,a 40 1 39,l 41 40,a 42 0 1,l 43 42,k2 44 61 41 43,b 45 .neq 38 44]
abbrev r6:List G:=[Mb 2 false]
abbrev q3:=[1,48]
abbrev r7:List G:=[a 46 2 1,l 47 46,bi 48 .eql 47 1]
abbrev r8:List G:=[a 49 5 1,l 50 49,a 51 3 1,a 52 0 51,l 53 52,b 54 .eql 50 53,m 55 54,ya 56 55 7 1,y 57 55 (.ld true 21 (t 56)),y 58 55 (.call true 158 []),y 59 55 (.eqg false 73 (t 57) (t 58)),w 60 55 59]
abbrev t8:List G:=[m 2 60]
abbrev r9:List G:=[a 61 5 1,l 62 61,a 63 3 1,a 64 0 63,l 65 64,b 66 .gtr 62 65,m 67 66,ya 68 67 7 1,ya 69 67 0 68,yl 70 67 69,y 71 67 (.un .not (t 70)),w 72 67 71,m 73 72,ya 74 73 7 1,y 75 73 (.ld true 21 (t 74)),y 76 73 (.call false 159 [(t 75)]),w 77 73 76,m 2 77]
abbrev c:MC:=sq [g r0 [1],sq [g r1 q0,ci 26 (sq [g r2 [2],.ret]) .skip],sq [g r3 q1,ci 29 (sq [g r4 [2],.ret]) .skip],sq [gd r5 [] q2,ci 45 (sq [g r6 [2],.ret]) .skip],sq [g r7 q3,ci 48 (sq [gd r8 t8 [2],.ret]) .skip],g r9 [2],.ret]
theorem ok:compF Tryz.prog Tryz.f122 (an (rg 10) c [(5,9,[],(up 9),[]),(8,12,[],(up 12),[])]) = some (78,c,[(2,none)]):=by kernel_rfl
abbrev p1:=P C r9 [2] R
abbrev p3:=Pd C r8 t8 [2] R
abbrev p2:=cd (t 48) (p3 C R) (p1 C R)
abbrev p4:=P C r7 q3 (p2 C R)
abbrev p6:=P C r6 [2] R
abbrev p5:=cd (t 45) (p6 C R) (p4 C R)
abbrev p7:=Pd C r5 [] q2 (p5 C R)
abbrev p9:=P C r4 [2] R
abbrev p8:=cd (t 29) (p9 C R) (p7 C R)
abbrev p10:=P C r3 q1 (p8 C R)
abbrev p12:=P C r2 [2] R
abbrev p11:=cd (t 26) (p12 C R) (p10 C R)
abbrev p13:=P C r1 q0 (p11 C R)
abbrev p14:=P C r0 [1] (p13 C R)
theorem s (S:St):X C c (retK R) S = p14 C R S:=by kernel_rfl
theorem E:type_of% @s:=@s
end pieces_Valid
namespace pieces_work__begin
abbrev q0:=[0,3]
abbrev r0:List G:=[e 3 (.box true 2 (t 1))]
abbrev r1:List G:=[m 4 0,e 5 (.nc (t 4)),a 6 0 5,a 7 1 6,l 8 7,m 9 0,e 10 (.nc (t 9)),a 11 0 10,a 12 2 11,l 13 12,b 14 .add 8 13,e 15 (.nc (t 4)),a 16 0 15,a 17 1 16]
abbrev t1:List G:=[v 17 14]
abbrev r2:List G:=[m 18 0,m 19 0,m 20 0,m 21 0,m 22 0,L 23 2 3,a 24 0 3,l 25 24,a 26 1 3,l 27 26,m 28 0,e 29 (.nc (t 28)),a 30 0 29,a 31 0 30]
abbrev t2:GT:=br 32 (.ld false 1 (t 31)) (br 33 (.call false 61 [(t 27),(t 32)]) (br 34 (.call false 158 []) (br 35 (.nc (t 18)) (br 36 (.fa 0 (t 35)) (br 37 (.fa 3 (t 36)) (.br none none (.st true 2 (t 37) (t 23)) (br 38 (.nc (t 19)) (br 39 (.fa 0 (t 38)) (br 40 (.fa 5 (t 39)) (.br none none (.st false 1 (t 40) (t 25)) (br 41 (.nc (t 20)) (br 42 (.fa 0 (t 41)) (br 43 (.fa 2 (t 42)) (.br none none (.st false 1 (t 43) (i 1)) (br 44 (.nc (t 21)) (br 45 (.fa 0 (t 44)) (br 46 (.fa 6 (t 45)) (.br none none (.st false 1 (t 46) (t 33)) (br 47 (.nc (t 22)) (br 48 (.fa 0 (t 47)) (br 49 (.fa 7 (t 48)) (.br none none (.st true 21 (t 49) (t 34)) .fin .no) .no) .no) .no) .no) .no) .no) .no) .no) .no) .no) .no) .no) .no) .no) .no) .no) .no) .no) .no) .no) .no) .no
abbrev c:MC:=sq [g r0 q0,gd r1 t1 q0,gh r2 t2 [0,3,24,26,28,29,30] []]
theorem ok:compF Tryz.prog Tryz.f149 (an (rg 3) c [(1,14,[],(up 14),[]),(2,99998,[0,1,2,3,4,5,6,7,8,9,10,11,12,13],[],[0,3,24,26,28,29,30])]) = some (50,c,[]):=by kernel_rfl
abbrev p1:=Ph C r2 t2 [0,3,24,26,28,29,30] [] R
abbrev p2:=Pd C r1 t1 q0 (p1 C R)
abbrev p3:=P C r0 q0 (p2 C R)
theorem s (S:St):X C c (retK R) S = p3 C R S:=by kernel_rfl
theorem E:type_of% @s:=@s
end pieces_work__begin
namespace pieces_work__end
abbrev q0:=[0,7]
abbrev r0:List G:=[m 2 0,e 3 (.nc (t 2)),a 4 0 3,a 5 2 4,l 6 5,bi 7 .gtr 6 0]
abbrev z0:List Value:=[.int .i64 0,.int .i64 0,.int .i64 0,.bool false,.bool false,.int .u64 0,.int .u64 0,.int .u64 0,.int .u64 0,.bool false,.int .u64 0,.int .u64 0,.int .u64 0,.int .u64 0,.bool false,.int .u64 0,.int .u64 0,.int .u64 0,.int .u64 0,.bool false,.int .u64 0,.int .u64 0,.int .u64 0,.int .u64 0]
abbrev r1:List G:=[m 8 0,m 9 0,e 10 (.nc (t 9)),a 11 28 10,l 12 11,m 13 0,e 14 (.nc (t 13)),a 15 0 14,a 16 1 15,l 17 16,m 18 0,e 19 (.nc (t 18)),a 20 0 19,a 21 2 20,l 22 21,m 23 0,e 24 (.nc (t 23)),a 25 0 24,a 26 6 25,l 27 26,m 28 0,e 29 (.nc (t 28)),a 30 0 29,a 31 7 30,L 32 21 31,e 33 (.bd z0 [(0,1,(t 17)),(1,1,(t 22)),(2,1,(t 27)),(3,21,(t 32))]),e 34 (.gen false (.bsl 61 1 [0]) [(t 33)]),e 35 (.gen false (.bi .append [61,61] 61 [false,false]) [(t 12),(t 34)]),e 36 (.nc (t 8)),a 37 28 36]
abbrev t1:List G:=[v 37 35]
abbrev c:MC:=sq [g r0 q0,ci 7 (gk false false r1 t1 []) .skip]
theorem ok:compF Tryz.prog Tryz.f96 (an (rg 2) c [(1,300030,[],(up 26 ++ [(26,1),(27,1),(28,0),(29,0)]),[])]) = some (38,c,[]):=by kernel_rfl
abbrev p2:=Pc C false false r1 t1 [] R
abbrev p1:=cd (t 7) (p2 C R) R
abbrev p3:=P C r0 q0 (p1 C R)
theorem s (S:St):X C c (retK R) S = p3 C R S:=by kernel_rfl
theorem E:type_of% @s:=@s
end pieces_work__end
namespace pieces_work__step
abbrev q0:=[0,3]
abbrev r0:List G:=[e 3 (.box true 2 (t 1))]
abbrev q1:=[0,3,13]
abbrev r1:List G:=[m 8 0,e 9 (.nc (t 8)),a 10 0 9,a 11 2 10,l 12 11,bi 13 .gtr 12 0]
abbrev q2:=[0,3,4]
abbrev r2:List G:=[m 15 0,e 16 (.nc (t 15)),a 17 0 16,a 18 6 17,l 19 18,m 20 0,e 21 (.nc (t 20)),a 22 0 21,a 23 0 22,l 24 23,k2 25 62 19 24,a 26 1 3,l 27 26,m 28 0,e 29 (.nc (t 28)),a 30 0 29,a 31 0 30,l 32 31,a 33 0 3,l 34 33,m 35 0,e 36 (.nc (t 35)),a 37 0 36,a 38 3 37,a 39 0 38,l 40 39,k2 41 135 34 40,k4 42 147 25 27 32 41,m 14 42,x 43 14 0,x 44 14 1]
abbrev z0:List Value:=[.bool false,.bool false,.int .u64 0,.int .u64 0,.int .u64 0,.int .u64 0,.bool false,.int .u64 0,.int .u64 0,.int .u64 0,.int .u64 0,.bool false,.int .u64 0,.int .u64 0,.int .u64 0,.int .u64 0,.bool false,.int .u64 0,.int .u64 0,.int .u64 0,.int .u64 0]
abbrev t2:List G:=[e 4 (.new z0),V 21 4 43,m 5 44]
abbrev q3:=[0,3,6,7]
abbrev r3:List G:=[m 46 0,e 47 (.nc (t 46)),a 48 0 47,a 49 7 48,L 50 21 49,L 51 21 4,k2 52 148 50 51,m 45 52,x 53 45 0,x 54 45 1]
abbrev t3:List G:=[e 6 (.new z0),V 21 6 53,m 7 54]
abbrev q4:=[0,3,6,55]
abbrev r4:List G:=[m 55 7]
abbrev r5:List G:=[m 56 0,m 57 0,L 58 21 6,a 59 0 3,l 60 59,e 61 (.nc (t 56)),a 62 0 61,a 63 7 62]
abbrev t5:GT:=.br none none (.st true 21 (t 63) (t 58)) (br 64 (.nc (t 57)) (br 65 (.fa 0 (t 64)) (br 66 (.fa 5 (t 65)) (.br none none (.st false 1 (t 66) (t 60)) .fin .no) .no) .no) .no) .no
abbrev r6:List G:=[m 67 0,e 68 (.nc (t 67)),a 69 0 68,a 70 2 69,l 71 70,bi 72 .add 71 1,e 73 (.nc (t 67)),a 74 0 73,a 75 2 74,v 75 72]
abbrev r7:List G:=[m 76 0,K1 77 96 76]
abbrev r8:List G:=[m 78 0,L 79 2 3,K2 80 149 78 79]
abbrev c:MC:=sq [g r0 q0,sq [g r1 q1,ci 13 (sq [gd r2 t2 q2,gd r3 t3 q3,g r4 q4,ci 55 (sq [gh r5 t5 [0,3,6,56,59,61,62] [0],g r6 [],.ret]) .skip]) .skip],g r7 q0,g r8 []]
theorem ok:compF Tryz.prog Tryz.f95 (an (rg 9) c [(2,32,[30],(up 30 ++ [(30,2)]),[31]),(3,11,[9],(up 9 ++ [(9,2)]),[10]),(5,99998,[0,1,2,3,4,5,6,7],[],[0,3,6,56,59,61,62])]) = some (81,c,[]):=by kernel_rfl
abbrev p1:=P C r8 [] R
abbrev p2:=P C r7 q0 (p1 C R)
abbrev p5:=P C r6 [] R
abbrev p6:=Ph C r5 t5 [0,3,6,56,59,61,62] [0] (p5 C R)
abbrev p4:=cd (t 55) (p6 C R) (p2 C R)
abbrev p7:=P C r4 q4 (p4 C R)
abbrev p8:=Pd C r3 t3 q3 (p7 C R)
abbrev p9:=Pd C r2 t2 q2 (p8 C R)
abbrev p3:=cd (t 13) (p9 C R) (p2 C R)
abbrev p10:=P C r1 q1 (p3 C R)
abbrev p11:=P C r0 q0 (p10 C R)
theorem s (S:St):X C c (retK R) S = p11 C R S:=by kernel_rfl
theorem E:type_of% @s:=@s
end pieces_work__step
namespace pieces_Step
abbrev q0:=[2,3,4]
abbrev z0:List Value:=[.int .i64 0,.int .i64 0,.int .i64 0,.int .i64 0,.int .i64 0,.int .i64 0,.int .i64 0,.bool false,.bool false,.int .u64 0,.int .u64 0,.int .u64 0,.int .u64 0,.bool false,.int .u64 0,.int .u64 0,.int .u64 0,.int .u64 0,.bool false,.int .u64 0,.int .u64 0,.int .u64 0,.int .u64 0,.bool false,.int .u64 0,.int .u64 0,.int .u64 0,.int .u64 0]
abbrev r0:List G:=[e 2 (.box true 28 (t 0)),e 3 (.box true 2 (t 1)),e 4 (.new z0),e 5 (.mv (.const (.slice none 0 0))),Mi 6 0]
abbrev q1:=[2,3,4,8]
abbrev r1:List G:=[L 9 28 2,K1 10 122 9,e 11 (.un .not (t 10)),m 8 11]
abbrev q2:=[4,5,6]
abbrev r2:List G:=[e 12 (.bd z0 []),V 28 4 12,e 5 (.mv (.const (.slice none 0 0))),Mi 6 1]
abbrev q3:=[2,3,4,13]
abbrev r3:List G:=[a 14 2 2,l 15 14,bi 16 .gtr 15 0,m 17 16,ya 18 17 0 3,yl 19 17 18,ya 20 17 5 2,yl 21 17 20,y 22 17 (.bin .leq (t 19) (t 21)),w 23 17 22,m 13 23]
abbrev r4:List G:=[e 24 (.bd z0 []),V 28 4 24,e 5 (.mv (.const (.slice none 0 0))),Mi 6 7]
abbrev q4:=[2,3,4,25]
abbrev r5:List G:=[a 26 1 2,l 27 26,a 28 2 2,l 29 28,b 30 .add 27 29,bi 31 .geq 30 1073741824,m 25 31]
abbrev r6:List G:=[e 32 (.bd z0 []),V 28 4 32,e 5 (.mv (.const (.slice none 0 0))),Mi 6 3]
abbrev q5:=[3,4,7]
abbrev z1:List Value:=[.int .i64 0,.int .i64 0,.int .i64 0,.int .i64 0,.int .i64 0,.int .i64 0,.int .i64 0,.bool false,.bool false,.int .u64 0,.int .u64 0,.int .u64 0,.int .u64 0,.bool false,.int .u64 0,.int .u64 0,.int .u64 0,.int .u64 0,.bool false,.int .u64 0,.int .u64 0,.int .u64 0,.int .u64 0,.bool false,.int .u64 0,.int .u64 0,.int .u64 0,.int .u64 0,(.slice none 0 0)]
abbrev r7:List G:=[L 33 28 2,e 34 (.bd z1 [(0,28,(t 33))]),e 7 (.gen false (.al 147) []),V 29 7 34]
abbrev q6:=[4,7]
abbrev r8:List G:=[L 35 2 3,K2 36 95 7 35]
abbrev r9:List G:=[a 37 0 7,a 39 28 7]
abbrev t9:GT:=br 38 (.ld true 28 (t 37)) (br 40 (.ld false 1 (t 39)) (.br none none (.st true 28 (t 4) (t 38)) (br 5 (.mv (t 40)) (br 6 (.mv (i 0)) .fin .no) .no) .no) (.br none none (.st true 28 (t 4) (t 38)) (br 40 (.ld false 1 (t 39)) (br 5 (.mv (t 40)) (br 6 (.mv (i 0)) .fin .no) .no) .no) .no)) (br 40 (.ld false 1 (t 39)) (br 38 (.ld true 28 (t 37)) (.br none none (.st true 28 (t 4) (t 38)) (br 5 (.mv (t 40)) (br 6 (.mv (i 0)) .fin .no) .no) .no) .no) .no)
abbrev c:MC:=sq [g r0 q0,.block 0 (sq [g r1 q1,ci 8 (sq [g r2 q2,.ret]) (sq [g r3 q3,ci 13 (sq [g r4 q2,.ret]) (sq [g r5 q4,ci 25 (sq [g r6 q2,.ret]) .skip])])]),g r7 q5,g r8 q6,gh r9 t9 [7] q2,.ret]
theorem ok:compF Tryz.prog Tryz.f120 (an (rg 10) c [(9,99998,[0,2],[],[7])]) = some (41,c,[(4,some (true,28)),(5,none),(6,none)]):=by kernel_rfl
abbrev p1:=Ph C r9 t9 [7] q2 R
abbrev p2:=P C r8 q6 (p1 C R)
abbrev p3:=P C r7 q5 (p2 C R)
abbrev p5:=P C r2 q2 R
abbrev p7:=P C r4 q2 R
abbrev p9:=P C r6 q2 R
abbrev p8:=cd (t 25) (p9 C R) (p3 C R)
abbrev p10:=P C r5 q4 (p8 C R)
abbrev p6:=cd (t 13) (p7 C R) (p10 C R)
abbrev p11:=P C r3 q3 (p6 C R)
abbrev p4:=cd (t 8) (p5 C R) (p11 C R)
abbrev p12:=P C r1 q1 (p4 C R)
abbrev p13:=P C r0 q0 (p12 C R)
theorem s (S:St):X C c (retK R) S = p13 C R S:=by kernel_rfl
theorem E:type_of% @s:=@s
end pieces_Step
namespace pieces_Finish
abbrev r0:List G:=[e 1 (.box true 28 (t 0)),e 2 (.mv (.const (.slice none 0 0))),Mi 3 0]
abbrev q0:=[1,7]
abbrev r1:List G:=[L 5 28 1,K1 6 122 5,e 7 (.un .not (t 6))]
abbrev q1:=[2,3]
abbrev r2:List G:=[e 2 (.mv (.const (.slice none 0 0))),Mi 3 1]
abbrev z0:List Value:=[.int .i64 0,.int .i64 0,.int .i64 0,.int .i64 0,.int .i64 0,.int .i64 0,.int .i64 0,.bool false,.bool false,.int .u64 0,.int .u64 0,.int .u64 0,.int .u64 0,.bool false,.int .u64 0,.int .u64 0,.int .u64 0,.int .u64 0,.bool false,.int .u64 0,.int .u64 0,.int .u64 0,.int .u64 0,.bool false,.int .u64 0,.int .u64 0,.int .u64 0,.int .u64 0,(.slice none 0 0)]
abbrev r3:List G:=[L 8 28 1,e 9 (.bd z0 [(0,28,(t 8))]),e 4 (.gen false (.al 147) []),V 29 4 9]
abbrev r4:List G:=[K1 10 96 4]
abbrev r5:List G:=[a 11 28 4,l 12 11,m 2 12,Mi 3 0]
abbrev c:MC:=sq [g r0 [1],sq [g r1 q0,ci 7 (sq [g r2 q1,.ret]) .skip],g r3 [4],g r4 [4],g r5 q1,.ret]
theorem ok:compF Tryz.prog Tryz.f121 (an (rg 6) c []) = some (13,c,[(2,none),(3,none)]):=by kernel_rfl
abbrev p1:=P C r5 q1 R
abbrev p2:=P C r4 [4] (p1 C R)
abbrev p3:=P C r3 [4] (p2 C R)
abbrev p5:=P C r2 q1 R
abbrev p4:=cd (t 7) (p5 C R) (p3 C R)
abbrev p6:=P C r1 q0 (p4 C R)
abbrev p7:=P C r0 [1] (p6 C R)
theorem s (S:St):X C c (retK R) S = p7 C R S:=by kernel_rfl
theorem E:type_of% @s:=@s
end pieces_Finish
namespace pieces_All
abbrev q0:=[0,1]
abbrev r0:List G:=[e 4 (.mv (.const (.slice none 0 0))),Mi 5 0]
abbrev q1:=[0,6,7]
abbrev z0:List Value:=[.int .i64 0,.int .i64 0,.int .i64 0,.int .i64 0,.int .i64 0,.int .i64 0,.int .i64 0,.bool false,.bool false,.int .u64 0,.int .u64 0,.int .u64 0,.int .u64 0,.bool false,.int .u64 0,.int .u64 0,.int .u64 0,.int .u64 0,.bool false,.int .u64 0,.int .u64 0,.int .u64 0,.int .u64 0,.bool false,.int .u64 0,.int .u64 0,.int .u64 0,.int .u64 0]
abbrev r1:List G:=[m 12 1,K1 13 57 12,m 11 13,x 14 11 0,x 15 11 1,e 6 (.new z0),V 28 6 14,m 7 15]
abbrev q2:=[0,6,7,17]
abbrev r2:List G:=[m 16 7,bi 17 .eql 16 0]
abbrev r3:List G:=[m 18 0,K1 19 94 18,m 7 19]
abbrev q3:=[0,6,7,21]
abbrev r4:List G:=[m 20 7,bi 21 .neq 20 0]
abbrev q4:=[4,5]
abbrev r5:List G:=[m 22 7,e 4 (.mv (.const (.slice none 0 0))),m 5 22]
abbrev q5:=[0,6,25]
abbrev r6:List G:=[m 23 0,e 24 (.len false (t 23)),bi 25 .gtr 24 1073741824]
abbrev r7:List G:=[e 4 (.mv (.const (.slice none 0 0))),Mi 5 3]
abbrev q6:=[0,8]
abbrev z1:List Value:=[.int .i64 0,.int .i64 0,.int .i64 0,.int .i64 0,.int .i64 0,.int .i64 0,.int .i64 0,.bool false,.bool false,.int .u64 0,.int .u64 0,.int .u64 0,.int .u64 0,.bool false,.int .u64 0,.int .u64 0,.int .u64 0,.int .u64 0,.bool false,.int .u64 0,.int .u64 0,.int .u64 0,.int .u64 0,.bool false,.int .u64 0,.int .u64 0,.int .u64 0,.int .u64 0,(.slice none 0 0)]
abbrev r8:List G:=[L 26 28 6,e 27 (.bd z1 [(0,28,(t 26))]),e 8 (.gen false (.al 147) []),V 29 8 27]
abbrev q7:=[8,28,29,30]
abbrev r9:List G:=[m 28 0,e 29 (.len false (t 28)),Mi 30 0]
abbrev q8:=[8,28,29,30,31]
abbrev r10:List G:=[b 31 .lss 30 29]
abbrev q9:=[8,10,28,29,30]
abbrev r11:List G:=[j 32 2 28 30,L 33 2 32,e 10 (.new [.int .i64 0,.int .i64 0]),V 2 10 33]
abbrev r12:List G:=[L 34 2 10,K2 35 95 8 34]
abbrev r13:List G:=[bi 36 .add 30 1,m 30 36]
abbrev r14:List G:=[K1 37 96 8]
abbrev r15:List G:=[a 38 28 8,l 39 38,m 4 39,Mi 5 0]
abbrev c:MC:=sq [g r0 q0,g r1 q1,sq [g r2 q2,ci 17 (g r3 q1) .skip],sq [g r4 q3,ci 21 (sq [g r5 q4,.ret]) .skip],sq [g r6 q5,ci 25 (sq [g r7 q4,.ret]) .skip],g r8 q6,sq [g r9 q7,.block 0 (.loop (sq [g r10 q8,ci 31 .skip (.exit 0),.block 1 (sq [g r11 q9,g r12 q7]),g r13 q7]))],g r14 [8],g r15 q4,.ret]
theorem ok:compF Tryz.prog Tryz.f35 (an (rg 16) c []) = some (40,c,[(4,none),(5,none)]):=by kernel_rfl
abbrev p1:=P C r15 q4 R
abbrev p2:=P C r14 [8] (p1 C R)
abbrev p4:=P C r13 q7 L1
abbrev p5:=P C r12 q7 (p4 C L1)
abbrev p6:=P C r11 q9 (p5 C L1)
abbrev p7:=cd (t 31) (p6 C L1) (p2 C R)
abbrev p8:=P C r10 q8 (p7 C R L1)
def p3 (S:St):Prop:=LX C (fun L1=>(p8 C R L1)) S
theorem p3_l (S:St):p3 C R S = LX C (fun L1=>(p8 C R L1)) S:=rfl
abbrev p9:=P C r9 q7 (p3 C R)
abbrev p10:=P C r8 q6 (p9 C R)
abbrev p12:=P C r7 q4 R
abbrev p11:=cd (t 25) (p12 C R) (p10 C R)
abbrev p13:=P C r6 q5 (p11 C R)
abbrev p15:=P C r5 q4 R
abbrev p14:=cd (t 21) (p15 C R) (p13 C R)
abbrev p16:=P C r4 q3 (p14 C R)
abbrev p18:=P C r3 q1 (p16 C R)
abbrev p17:=cd (t 17) (p18 C R) (p16 C R)
abbrev p19:=P C r2 q2 (p17 C R)
abbrev p20:=P C r1 q1 (p19 C R)
abbrev p21:=P C r0 q0 (p20 C R)
theorem s (S:St):X C c (retK R) S = p21 C R S:=by kernel_rfl
theorem E:type_of% @s:=@s
end pieces_All
namespace r19_unit
abbrev r0:List G:=[Mi 2 0]
abbrev r1:List G:=[m 3 0,e 4 (.mm true (t 3) (i 1)),m 2 4]
abbrev c:MC:=sq [g r0 [0],g r1 [2],.ret]
theorem ok:compF Tryz.prog Tryz.f98 (an (rg 2) c []) = some (5,c,[(2,none)]):=by kernel_rfl
abbrev p1:=P C r1 [2] R
abbrev p2:=P C r0 [0] (p1 C R)
theorem s (S:St):X C c (retK R) S = p2 C R S:=by kernel_rfl
theorem E:type_of% @s:=@s
end r19_unit
namespace r19_Key
abbrev q0:=[0,1]
abbrev r0:List G:=[Mi 4 0]
abbrev r1:List G:=[m 8 0,m 9 1,K1 10 98 9,K2 11 97 8 10,m 7 11,x 12 7 0,x 13 7 1,m 5 12,m 6 13]
abbrev r2:List G:=[m 14 5,m 4 14]
abbrev c:MC:=sq [g r0 q0,g r1 [5],g r2 [4],.ret]
theorem ok:compF Tryz.prog Tryz.f38 (an (rg 3) c []) = some (15,c,[(4,none)]):=by kernel_rfl
abbrev p1:=P C r2 [4] R
abbrev p2:=P C r1 [5] (p1 C R)
abbrev p3:=P C r0 q0 (p2 C R)
theorem s (S:St):X C c (retK R) S = p3 C R S:=by kernel_rfl
theorem E:type_of% @s:=@s
end r19_Key
namespace r19_Base
abbrev q0:=[0,1,4]
abbrev r0:List G:=[e 4 (.new zW)]
abbrev q1:=[4,5]
abbrev r1:List G:=[m 8 0,K1 9 50 8,m 10 1,K1 11 98 10,K1 12 50 11,K2 13 76 9 12,m 7 13,x 14 7 0,x 15 7 1,e 5 (.new zW),V 5 5 14,m 6 15]
abbrev r2:List G:=[L 16 5 5,V 5 4 16]
abbrev c:MC:=sq [g r0 q0,g r1 q1,g r2 [4],.ret]
theorem ok:compF Tryz.prog Tryz.f41 (an (rg 3) c []) = some (17,c,[(4,some (true,5))]):=by kernel_rfl
abbrev p1:=P C r2 [4] R
abbrev p2:=P C r1 q1 (p1 C R)
abbrev p3:=P C r0 q0 (p2 C R)
theorem s (S:St):X C c (retK R) S = p3 C R S:=by kernel_rfl
theorem E:type_of% @s:=@s
end r19_Base
namespace r19_Start
abbrev q0:=[0,2]
abbrev z0:List Value:=[.int .i64 0,.int .i64 0,.int .i64 0,.int .i64 0,.int .i64 0,.int .i64 0,.int .i64 0,.bool false,.bool false,.int .u64 0,.int .u64 0,.int .u64 0,.int .u64 0,.bool false,.int .u64 0,.int .u64 0,.int .u64 0,.int .u64 0,.bool false,.int .u64 0,.int .u64 0,.int .u64 0,.int .u64 0,.bool false,.int .u64 0,.int .u64 0,.int .u64 0,.int .u64 0]
abbrev r0:List G:=[e 2 (.new z0),Mi 3 0]
abbrev q1:=[0,2,6]
abbrev r1:List G:=[m 4 0,K1 5 93 4,e 6 (.un .not (t 5))]
abbrev q2:=[2,3]
abbrev r2:List G:=[e 7 (.bd z0 []),V 28 2 7,Mi 3 9]
abbrev r3:List G:=[m 8 0,e 9 (.bd z0 [(0,1,(t 8))]),V 28 2 9,Mi 3 0]
abbrev c:MC:=sq [g r0 q0,sq [g r1 q1,ci 6 (sq [g r2 q2,.ret]) .skip],g r3 q2,.ret]
theorem ok:compF Tryz.prog Tryz.f58 (an (rg 4) c []) = some (10,c,[(2,some (true,28)),(3,none)]):=by kernel_rfl
abbrev p1:=P C r3 q2 R
abbrev p3:=P C r2 q2 R
abbrev p2:=cd (t 6) (p3 C R) (p1 C R)
abbrev p4:=P C r1 q1 (p2 C R)
abbrev p5:=P C r0 q0 (p4 C R)
theorem s (S:St):X C c (retK R) S = p5 C R S:=by kernel_rfl
theorem E:type_of% @s:=@s
end r19_Start
namespace r19_Valid
abbrev r0:List G:=[e 1 (.box true 28 (t 0)),Mb 2 false]
abbrev q0:=[1,16]
abbrev r1:List G:=[a 3 0 1,l 4 3,K1 5 93 4,e 6 (.un .not (t 5)),m 7 6,na 8 7 1 1,nl 9 7 8,n 10 7 (.bin .lss (t 9) (i 0)),o 11 7 10,m 12 11,na 13 12 1 1,nl 14 12 13,n 15 12 (.bin .gtr (t 14) (i 1073741824)),o 16 12 15]
abbrev r2:List G:=[Mb 2 false]
abbrev q1:=[1,19]
abbrev r3:List G:=[a 17 2 1,l 18 17,bi 19 .eql 18 0]
abbrev z0:List Value:=[.int .i64 0,.int .i64 0,.int .i64 0,.int .i64 0,.int .i64 0,.int .i64 0,.int .i64 0,.bool false,.bool false,.int .u64 0,.int .u64 0,.int .u64 0,.int .u64 0,.bool false,.int .u64 0,.int .u64 0,.int .u64 0,.int .u64 0,.bool false,.int .u64 0,.int .u64 0,.int .u64 0,.int .u64 0,.bool false,.int .u64 0,.int .u64 0,.int .u64 0,.int .u64 0]
abbrev r4:List G:=[L 20 28 1,a 21 0 1,l 22 21,a 23 1 1,l 24 23,e 25 (.bd z0 [(0,1,(t 22)),(1,1,(t 24))]),e 26 (.eqg false 94 (t 20) (t 25)),m 2 26]
abbrev q2:=[1,35]
abbrev r5:List G:=[a 27 6 1,l 28 27,a 29 3 1,a 30 1 29,l 31 30,a 32 0 1,l 33 32,k2 34 38 31 33,b 35 .neq 28 34]
abbrev r6:List G:=[Mb 2 false]
abbrev q3:=[1,38]
abbrev r7:List G:=[a 36 2 1,l 37 36,bi 38 .eql 37 1]
abbrev r8:List G:=[a 39 5 1,l 40 39,a 41 3 1,a 42 0 41,l 43 42,b 44 .eql 40 43,m 45 44,ya 46 45 7 1,y 47 45 (.ld true 21 (t 46)),y 48 45 (.call true 55 []),y 49 45 (.eqg false 73 (t 47) (t 48)),w 50 45 49]
abbrev t8:List G:=[m 2 50]
abbrev r9:List G:=[a 51 2 1,l 52 51,bi 53 .gtr 52 1,m 54 53,ya 55 54 2 1,yl 56 54 55,y 57 54 (.bin .leq (t 56) (i 1073741824)),w 58 54 57,m 59 58,ya 60 59 5 1,yl 61 59 60,ya 62 59 3 1,ya 63 59 0 62,yl 64 59 63,y 65 59 (.bin .gtr (t 61) (t 64)),w 66 59 65,m 67 66,ya 68 67 7 1,y 69 67 (.ld true 21 (t 68)),y 70 67 (.call false 39 [(t 69)]),w 71 67 70,m 72 71,ya 73 72 7 1,ya 74 72 0 73,yl 75 72 74,y 76 72 (.un .not (t 75)),w 77 72 76,m 2 77]
abbrev c:MC:=sq [g r0 [1],sq [g r1 q0,ci 16 (sq [g r2 [2],.ret]) .skip],sq [g r3 q1,ci 19 (sq [g r4 [2],.ret]) .skip],sq [gd r5 [] q2,ci 35 (sq [g r6 [2],.ret]) .skip],sq [g r7 q3,ci 38 (sq [gd r8 t8 [2],.ret]) .skip],g r9 [2],.ret]
theorem ok:compF Tryz.prog Tryz.f123 (an (rg 10) c [(5,9,[],(up 9),[]),(8,12,[],(up 12),[])]) = some (78,c,[(2,none)]):=by kernel_rfl
abbrev p1:=P C r9 [2] R
abbrev p3:=Pd C r8 t8 [2] R
abbrev p2:=cd (t 38) (p3 C R) (p1 C R)
abbrev p4:=P C r7 q3 (p2 C R)
abbrev p6:=P C r6 [2] R
abbrev p5:=cd (t 35) (p6 C R) (p4 C R)
abbrev p7:=Pd C r5 [] q2 (p5 C R)
abbrev p9:=P C r4 [2] R
abbrev p8:=cd (t 19) (p9 C R) (p7 C R)
abbrev p10:=P C r3 q1 (p8 C R)
abbrev p12:=P C r2 [2] R
abbrev p11:=cd (t 16) (p12 C R) (p10 C R)
abbrev p13:=P C r1 q0 (p11 C R)
abbrev p14:=P C r0 [1] (p13 C R)
theorem s (S:St):X C c (retK R) S = p14 C R S:=by kernel_rfl
theorem E:type_of% @s:=@s
end r19_Valid
namespace r19_begin
abbrev q0:=[2,3,4]
abbrev z0:List Value:=[.int .i64 0,.int .i64 0,.int .i64 0,.int .i64 0,.int .i64 0,.int .i64 0,.int .i64 0,.bool false,.bool false,.int .u64 0,.int .u64 0,.int .u64 0,.int .u64 0,.bool false,.int .u64 0,.int .u64 0,.int .u64 0,.int .u64 0,.bool false,.int .u64 0,.int .u64 0,.int .u64 0,.int .u64 0,.bool false,.int .u64 0,.int .u64 0,.int .u64 0,.int .u64 0]
abbrev r0:List G:=[e 2 (.box true 28 (t 0)),e 3 (.box true 2 (t 1)),e 4 (.new z0)]
abbrev r1:List G:=[a 5 0 2,l 6 5,a 7 1 2,l 8 7,a 9 2 2,l 10 9,b 11 .add 8 10,L 12 2 3,a 13 0 3,l 14 13,a 15 1 3,l 16 15,a 17 0 2,l 18 17,k2 19 38 16 18,k0 20 55,e 21 (.bd z0 [(0,1,(t 6)),(1,1,(t 11)),(2,1,(i 1)),(3,2,(t 12)),(5,1,(t 14)),(6,1,(t 19)),(7,21,(t 20))])]
abbrev t1:List G:=[V 28 4 21]
abbrev c:MC:=sq [g r0 q0,gd r1 t1 [4],.ret]
theorem ok:compF Tryz.prog Tryz.f145 (an (rg 2) c [(1,17,[],(up 17),[])]) = some (22,c,[(4,some (true,28))]):=by kernel_rfl
abbrev p1:=Pd C r1 t1 [4] R
abbrev p2:=P C r0 q0 (p1 C R)
theorem s (S:St):X C c (retK R) S = p2 C R S:=by kernel_rfl
theorem E:type_of% @s:=@s
end r19_begin
namespace r19_Step
abbrev q0:=[2,3,4]
abbrev z0:List Value:=[.int .i64 0,.int .i64 0,.int .i64 0,.int .i64 0,.int .i64 0,.int .i64 0,.int .i64 0,.bool false,.bool false,.int .u64 0,.int .u64 0,.int .u64 0,.int .u64 0,.bool false,.int .u64 0,.int .u64 0,.int .u64 0,.int .u64 0,.bool false,.int .u64 0,.int .u64 0,.int .u64 0,.int .u64 0,.bool false,.int .u64 0,.int .u64 0,.int .u64 0,.int .u64 0]
abbrev r0:List G:=[e 2 (.box true 28 (t 0)),e 3 (.box true 2 (t 1)),e 4 (.new z0),e 5 (.mv (.const (.slice none 0 0))),Mi 6 0]
abbrev q1:=[2,3,4,15]
abbrev r1:List G:=[L 13 28 2,K1 14 123 13,e 15 (.un .not (t 14))]
abbrev q2:=[4,5,6]
abbrev r2:List G:=[e 16 (.bd z0 []),V 28 4 16,e 5 (.mv (.const (.slice none 0 0))),Mi 6 1]
abbrev q3:=[2,3,4,26]
abbrev r3:List G:=[a 17 2 2,l 18 17,bi 19 .gtr 18 0,m 20 19,ya 21 20 0 3,yl 22 20 21,ya 23 20 5 2,yl 24 20 23,y 25 20 (.bin .leq (t 22) (t 24)),w 26 20 25]
abbrev r4:List G:=[e 27 (.bd z0 []),V 28 4 27,e 5 (.mv (.const (.slice none 0 0))),Mi 6 7]
abbrev q4:=[2,3,4,33]
abbrev r5:List G:=[a 28 1 2,l 29 28,a 30 2 2,l 31 30,b 32 .add 29 31,bi 33 .geq 32 1073741824]
abbrev r6:List G:=[e 34 (.bd z0 []),V 28 4 34,e 5 (.mv (.const (.slice none 0 0))),Mi 6 3]
abbrev q5:=[2,3,4,37]
abbrev r7:List G:=[a 35 2 2,l 36 35,bi 37 .eql 36 0]
abbrev r8:List G:=[L 38 28 2,L 39 2 3,K2 40 145 38 39,V 28 4 40,e 5 (.mv (.const (.slice none 0 0))),Mi 6 0]
abbrev q6:=[2,3,4,7]
abbrev r9:List G:=[a 42 6 2,l 43 42,a 44 0 2,l 45 44,k2 46 41 43 45,a 47 1 3,l 48 47,a 49 0 2,l 50 49,a 51 0 3,l 52 51,a 53 3 2,a 54 0 53,l 55 54,k2 56 42 52 55,k4 57 40 46 48 50 56,m 41 57,x 58 41 0,x 59 41 1]
abbrev z1:List Value:=[.bool false,.bool false,.int .u64 0,.int .u64 0,.int .u64 0,.int .u64 0,.bool false,.int .u64 0,.int .u64 0,.int .u64 0,.int .u64 0,.bool false,.int .u64 0,.int .u64 0,.int .u64 0,.int .u64 0,.bool false,.int .u64 0,.int .u64 0,.int .u64 0,.int .u64 0]
abbrev t9:List G:=[e 7 (.new z1),V 21 7 58,m 8 59]
abbrev q7:=[2,3,4,9,10]
abbrev r10:List G:=[a 61 7 2,L 62 21 61,L 63 21 7,K2 64 45 62 63,m 60 64,x 65 60 0,x 66 60 1,e 9 (.new z1),V 21 9 65,m 10 66]
abbrev q8:=[2,3,4,9,68]
abbrev r11:List G:=[m 67 10,e 68 (.un .not (t 67))]
abbrev q9:=[2,3,4,11]
abbrev r12:List G:=[L 70 28 2,K1 71 90 70,m 69 71,x 72 69 0,x 73 69 1,m 11 72,m 12 73]
abbrev r13:List G:=[L 74 28 2,L 75 2 3,K2 76 145 74 75,m 77 11,V 28 4 76,m 5 77,Mi 6 0]
abbrev q10:=[2,4]
abbrev o14:List (List G):=[[L 78 21 9,a 79 0 3,l 80 79,a 81 7 2,V 21 81 78,a 82 5 2,v 82 80],[L 78 21 9,a 79 0 3,a 81 7 2,l 80 79,V 21 81 78,a 82 5 2,v 82 80],[L 78 21 9,a 79 0 3,a 81 7 2,V 21 81 78,l 80 79,a 82 5 2,v 82 80],[L 78 21 9,a 81 7 2,a 79 0 3,l 80 79,V 21 81 78,a 82 5 2,v 82 80],[L 78 21 9,a 81 7 2,a 79 0 3,V 21 81 78,l 80 79,a 82 5 2,v 82 80],[L 78 21 9,a 81 7 2,V 21 81 78,a 79 0 3,l 80 79,a 82 5 2,v 82 80],[a 79 0 3,L 78 21 9,l 80 79,a 81 7 2,V 21 81 78,a 82 5 2,v 82 80],[a 79 0 3,L 78 21 9,a 81 7 2,l 80 79,V 21 81 78,a 82 5 2,v 82 80],[a 79 0 3,L 78 21 9,a 81 7 2,V 21 81 78,l 80 79,a 82 5 2,v 82 80],[a 79 0 3,l 80 79,L 78 21 9,a 81 7 2,V 21 81 78,a 82 5 2,v 82 80]]
abbrev r15:List G:=[a 83 2 2,l 84 83,bi 85 .add 84 1,a 86 2 2,v 86 85]
abbrev r16:List G:=[L 87 28 2,V 28 4 87,e 5 (.mv (.const (.slice none 0 0))),Mi 6 0]
abbrev c:MC:=sq [g r0 q0,sq [g r1 q1,ci 15 (sq [g r2 q2,.ret]) .skip],sq [g r3 q3,ci 26 (sq [g r4 q2,.ret]) .skip],sq [g r5 q4,ci 33 (sq [g r6 q2,.ret]) .skip],sq [g r7 q5,ci 37 (sq [g r8 q2,.ret]) .skip],gd r9 t9 q6,g r10 q7,sq [g r11 q8,ci 68 (sq [g r12 q9,g r13 q2,.ret]) .skip],ga [] o14 q10,g r15 q10,g r16 q2,.ret]
theorem ok:compF Tryz.prog Tryz.f89 (an (rg 17) c [(9,20,[18],(up 18 ++ [(18,2)]),[19]),(14,99999,[],[],[])]) = some (88,c,[(4,some (true,28)),(5,none),(6,none)]):=by kernel_rfl
abbrev p1:=P C r16 q2 R
abbrev p2:=P C r15 q10 (p1 C R)
abbrev p3:=Pa C [] o14 q10 (p2 C R)
abbrev p5:=P C r13 q2 R
abbrev p6:=P C r12 q9 (p5 C R)
abbrev p4:=cd (t 68) (p6 C R) (p3 C R)
abbrev p7:=P C r11 q8 (p4 C R)
abbrev p8:=P C r10 q7 (p7 C R)
abbrev p9:=Pd C r9 t9 q6 (p8 C R)
abbrev p11:=P C r8 q2 R
abbrev p10:=cd (t 37) (p11 C R) (p9 C R)
abbrev p12:=P C r7 q5 (p10 C R)
abbrev p14:=P C r6 q2 R
abbrev p13:=cd (t 33) (p14 C R) (p12 C R)
abbrev p15:=P C r5 q4 (p13 C R)
abbrev p17:=P C r4 q2 R
abbrev p16:=cd (t 26) (p17 C R) (p15 C R)
abbrev p18:=P C r3 q3 (p16 C R)
abbrev p20:=P C r2 q2 R
abbrev p19:=cd (t 15) (p20 C R) (p18 C R)
abbrev p21:=P C r1 q1 (p19 C R)
abbrev p22:=P C r0 q0 (p21 C R)
theorem s (S:St):X C c (retK R) S = p22 C R S:=by kernel_rfl
theorem E:type_of% @s:=@s
end r19_Step
namespace r19_Finish
abbrev r0:List G:=[e 1 (.box true 28 (t 0)),e 2 (.mv (.const (.slice none 0 0))),Mi 3 0]
abbrev q0:=[1,6]
abbrev r1:List G:=[L 4 28 1,K1 5 123 4,e 6 (.un .not (t 5))]
abbrev q1:=[2,3]
abbrev r2:List G:=[e 2 (.mv (.const (.slice none 0 0))),Mi 3 1]
abbrev q2:=[1,9]
abbrev r3:List G:=[a 7 2 1,l 8 7,bi 9 .eql 8 0]
abbrev r4:List G:=[e 2 (.mv (.const (.slice none 0 0))),Mi 3 0]
abbrev z0:List Value:=[.int .i64 0,.int .i64 0,.int .i64 0,.bool false,.bool false,.int .u64 0,.int .u64 0,.int .u64 0,.int .u64 0,.bool false,.int .u64 0,.int .u64 0,.int .u64 0,.int .u64 0,.bool false,.int .u64 0,.int .u64 0,.int .u64 0,.int .u64 0,.bool false,.int .u64 0,.int .u64 0,.int .u64 0,.int .u64 0]
abbrev r5:List G:=[a 10 1 1,l 11 10,a 12 2 1,l 13 12,a 14 6 1,l 15 14,a 16 7 1,L 17 21 16,e 18 (.bd z0 [(0,1,(t 11)),(1,1,(t 13)),(2,1,(t 15)),(3,21,(t 17))]),e 19 (.gen false (.bsl 61 1 [0]) [(t 18)]),m 2 19,Mi 3 0]
abbrev c:MC:=sq [g r0 [1],sq [g r1 q0,ci 6 (sq [g r2 q1,.ret]) .skip],sq [g r3 q2,ci 9 (sq [g r4 q1,.ret]) .skip],g r5 q1,.ret]
theorem ok:compF Tryz.prog Tryz.f90 (an (rg 6) c []) = some (20,c,[(2,none),(3,none)]):=by kernel_rfl
abbrev p1:=P C r5 q1 R
abbrev p3:=P C r4 q1 R
abbrev p2:=cd (t 9) (p3 C R) (p1 C R)
abbrev p4:=P C r3 q2 (p2 C R)
abbrev p6:=P C r2 q1 R
abbrev p5:=cd (t 6) (p6 C R) (p4 C R)
abbrev p7:=P C r1 q0 (p5 C R)
abbrev p8:=P C r0 [1] (p7 C R)
theorem s (S:St):X C c (retK R) S = p8 C R S:=by kernel_rfl
theorem E:type_of% @s:=@s
end r19_Finish
namespace r19_Same
abbrev q0:=[0,1]
abbrev r0:List G:=[Mb 4 false]
abbrev q1:=[0,1,10]
abbrev r1:List G:=[m 6 0,e 7 (.len false (t 6)),m 8 1,e 9 (.len false (t 8)),b 10 .neq 7 9]
abbrev r2:List G:=[Mb 4 false]
abbrev q2:=[0,1,5]
abbrev r3:List G:=[Mi 5 0]
abbrev q3:=[0,1,5,14]
abbrev r4:List G:=[m 11 5,m 12 0,e 13 (.len false (t 12)),b 14 .lss 11 13]
abbrev q4:=[0,1,5,25]
abbrev r6:List G:=[m 17 0,m 18 5,j 19 24 17 18,L 20 24 19,m 21 1,m 22 5,j 23 24 21 22,L 24 24 23,e 25 (.eqg true 75 (t 20) (t 24))]
abbrev r7:List G:=[Mb 4 false]
abbrev r5:List G:=[m 15 5,bi 16 .add 15 1,m 5 16]
abbrev r8:List G:=[Mb 4 true]
abbrev c:MC:=sq [g r0 q0,sq [g r1 q1,ci 10 (sq [g r2 [4],.ret]) .skip],sq [g r3 q2,.block 0 (.loop (sq [sq [g r4 q3,ci 14 .skip (.exit 0)],.block 1 (sq [gd r6 [] q4,ci 25 (sq [g r7 [4],.ret]) .skip]),g r5 q2]))],g r8 [4],.ret]
theorem ok:compF Tryz.prog Tryz.f37 (an [0,1,2,3,4,6,7,5,8] c [(6,9,[],(up 9),[])]) = some (26,c,[(4,none)]):=by kernel_rfl
abbrev p1:=P C r8 [4] R
abbrev p3:=P C r5 q2 L1
abbrev p5:=P C r7 [4] R
abbrev p4:=cd (t 25) (p5 C R) (p3 C L1)
abbrev p6:=Pd C r6 [] q4 (p4 C R L1)
abbrev p7:=cd (t 14) (p6 C R L1) (p1 C R)
abbrev p8:=P C r4 q3 (p7 C R L1)
def p2 (S:St):Prop:=LX C (fun L1=>(p8 C R L1)) S
theorem p2_l (S:St):p2 C R S = LX C (fun L1=>(p8 C R L1)) S:=rfl
abbrev p9:=P C r3 q2 (p2 C R)
abbrev p11:=P C r2 [4] R
abbrev p10:=cd (t 10) (p11 C R) (p9 C R)
abbrev p12:=P C r1 q1 (p10 C R)
abbrev p13:=P C r0 q0 (p12 C R)
theorem s (S:St):X C c (retK R) S = p13 C R S:=by kernel_rfl
theorem E:type_of% @s:=@s
end r19_Same
end Go.Proofs.YtncmmbacoknefaaGreat

/- Pa: pieces: the plain state machine; begin, end and step of the program. -/
namespace Go.Proofs.YtncmmbacoknefaaGreat
open Go Go.RowKit Sx
set_option linter.unusedVariables false
set_option linter.unusedSimpArgs false
structure PcS where
 t:Int
 i:Int
 n:Int
 T:Int
 V:Int
 L:Int
 k:Int
 c:Cn
structure PcV where
 i:Int
 n:Int
 k:Int
 c:Cn
def pcell (x:PcV):List Value:=[.int .i64 x.i,.int .i64 x.n,.int .i64 x.k,.bool x.c.o,.bool (sg x.c.p),.int .u64 (lb0 (ab x.c.p)),.int .u64 (lb1 (ab x.c.p)),.int .u64 (lb2 (ab x.c.p)),.int .u64 (lb3 (ab x.c.p)),.bool (sg x.c.q),.int .u64 (lb0 (ab x.c.q)),.int .u64 (lb1 (ab x.c.q)),.int .u64 (lb2 (ab x.c.q)),.int .u64 (lb3 (ab x.c.q)),.bool (sg x.c.p1),.int .u64 (lb0 (ab x.c.p1)),.int .u64 (lb1 (ab x.c.p1)),.int .u64 (lb2 (ab x.c.p1)),.int .u64 (lb3 (ab x.c.p1)),.bool (sg x.c.q1),.int .u64 (lb0 (ab x.c.q1)),.int .u64 (lb1 (ab x.c.q1)),.int .u64 (lb2 (ab x.c.q1)),.int .u64 (lb3 (ab x.c.q1))]
def pcells (l:List PcV):List Value:=l.flatMap pcell
theorem pcells_app (a b:List PcV):pcells (a ++ b) = pcells a ++ pcells b:=by unfold pcells; rw [List.flatMap_append]
theorem pcells_one (x:PcV):pcells [x] = pcell x:=by unfold pcells; simp
abbrev qcs (s:PcS) (v:Value):List Value:=[.int .i64 s.t,.int .i64 s.i,.int .i64 s.n,.int .i64 s.T,.int .i64 s.V,.int .i64 s.L,.int .i64 s.k,.bool s.c.o,.bool (sg s.c.p),.int .u64 (lb0 (ab s.c.p)),.int .u64 (lb1 (ab s.c.p)),.int .u64 (lb2 (ab s.c.p)),.int .u64 (lb3 (ab s.c.p)),.bool (sg s.c.q),.int .u64 (lb0 (ab s.c.q)),.int .u64 (lb1 (ab s.c.q)),.int .u64 (lb2 (ab s.c.q)),.int .u64 (lb3 (ab s.c.q)),.bool (sg s.c.p1),.int .u64 (lb0 (ab s.c.p1)),.int .u64 (lb1 (ab s.c.p1)),.int .u64 (lb2 (ab s.c.p1)),.int .u64 (lb3 (ab s.c.p1)),.bool (sg s.c.q1),.int .u64 (lb0 (ab s.c.q1)),.int .u64 (lb1 (ab s.c.q1)),.int .u64 (lb2 (ab s.c.q1)),.int .u64 (lb3 (ab s.c.q1)),v]
def un (t:Int):Int:=if t < 1 then 1 else t
def ke (v t:Int):Int:=v / un t
theorem un_pos (t:Int):0 < un t:=by unfold un; split <;> omega
def pcb (t i xt xv:Int):PcS:=⟨t,i,1,xt,xv,xt,ke xv t,cO⟩
def pcl (s:PcS):List PcV:=if 0 < s.n then [⟨s.i,s.n,s.k,s.c⟩] else []
def pcm (s:PcS) (xt xv:Int):Cn × Bool:=cmt s.c (thc (s.k * un s.t) xv s.t (xt - s.T))
def pcg (s:PcS) (xt xv:Int):Bool:=decide (0 < s.n) && (pcm s xt xv).2
def pcn (s:PcS) (xt xv:Int):PcS:=if pcg s xt xv = true then ⟨s.t,s.i,s.n + 1,s.T,s.V,xt,s.k,(pcm s xt xv).1⟩ else pcb s.t (s.i + s.n) xt xv
def pce (s:PcS) (xt xv:Int):List PcV:=if pcg s xt xv = true then [] else pcl s
theorem un_i64 {t:Int} (h:I64 t):I64 (un t):=by
 have:=h.1
 have:=h.2
 unfold un I64
 split <;> constructor <;> omega
theorem ediv_i64 {a b:Int} (ha:I64 a) (h:0 < b):I64 (a / b):=by
 have h1:=ha.1
 have h2:=ha.2
 refine ⟨?_,?_⟩
 ·rw [Int.le_ediv_iff_mul_le h]
  have : -9223372036854775808 * b ≤ -9223372036854775808 * 1:=Int.mul_le_mul_of_nonpos_left (by decide) (by omega)
  omega
 ·refine Int.le_of_lt_add_one ((Int.ediv_lt_iff_lt_mul h).2 ?_)
  have:(9223372036854775807 + 1) * 1≤(9223372036854775807 + 1) * b:=Int.mul_le_mul_of_nonneg_left (by omega) (by decide)
  omega
theorem ke_i64 {v t:Int} (h:I64 v):I64 (ke v t):=ediv_i64 h (un_pos t)
theorem ke_base (v t:Int):ke v t * un t≤v∧v < ke v t * un t + un t:=by
 have hu:=un_pos t
 have h1:=Int.emod_add_mul_ediv v (un t)
 have h2:=Int.emod_nonneg v (show un t≠0 by omega)
 have h3:=Int.emod_lt_of_pos v hu
 unfold ke
 rw [Int.mul_comm (v / un t)]
 omega
theorem fdiv_tdiv {a b:Int} (h:0 < b):a / b = if a.tmod b≠0∧a < 0 then a.tdiv b - 1 else a.tdiv b:=by
 rcases Int.lt_or_le a 0 with ha | ha
 ·have h1:=Int.mul_tdiv_add_tmod a b
  have h2:=Int.emod_add_mul_ediv a b
  have h3:=Int.emod_nonneg a (show b≠0 by omega)
  have h4:=Int.emod_lt_of_pos a h
  have h5:a.tmod b≤0:=by have:=Int.tmod_nonneg (a := -a) b (by omega); rw [Int.neg_tmod] at this; omega
  have h6 : -b < a.tmod b:=by have:=Int.tmod_lt_of_pos (-a) h; rw [Int.neg_tmod] at this; omega
  generalize a.tmod b = r at *
  generalize a.tdiv b = q at *
  generalize a % b = r' at *
  generalize a / b = q' at *
  have h7:b * (q - q') = r' - r:=by rw [Int.mul_sub]; omega
  by_cases hr:r = 0
  ·rw [if_neg (fun h=>h.1 hr)]
   subst hr
   have:q - q' = 0:=by
    rcases Int.lt_trichotomy (q - q') 0 with hq | hq | hq
    ·have:b * (q - q')≤b * (-1):=Int.mul_le_mul_of_nonneg_left (by omega) (by omega)
     omega
    ·exact hq
    ·have:b * 1≤b * (q - q'):=Int.mul_le_mul_of_nonneg_left (by omega) (by omega)
     omega
   omega
  ·rw [if_pos ⟨hr,ha⟩]
   have:q - q' = 1:=by
    rcases Int.lt_trichotomy (q - q') 1 with hq | hq | hq
    ·have:b * (q - q')≤b * 0:=Int.mul_le_mul_of_nonneg_left (by omega) (by omega)
     omega
    ·exact hq
    ·have:b * 2≤b * (q - q'):=Int.mul_le_mul_of_nonneg_left (by omega) (by omega)
     omega
   omega
 ·rw [if_neg (by omega)]
  exact (Int.tdiv_eq_ediv_of_nonneg ha).symm
theorem gx_unit (t:Int) (W:World):Gives Tryz.prog 125 [.int .i64 t] W (· = .int .i64 (un t)):=by
 refine gives_known en_pieces_unit ?_
 unfold un
 refine known_of (enter Tryz.func125 pieces_unit.ok (args:=[_]) (by simp) ?_)
 repeat' (first | simp (disch:=omega) only [sxE,pieces_unit.E,Nat.reduceAdd,Nat.reduceEqDiff,Nat.reduceMul,Nat.reduceSub,Int.reduceAdd,Int.reduceSub,Int.reduceMul,Int.reduceNeg,Int.reduceLT,Int.reduceLE,Int.reduceEq,Int.reduceToNat,↓reduceIte,Int.reducePow,Nat.reduceLeDiff,Nat.reduceLT,ne_eq,eq_self,List.length_cons,List.length_nil,qxE] | (with_reducible refine cregF ?_))
theorem gx_divisible {a b:Int} (hb:0 < b) (W:World):Gives Tryz.prog 160 [.int .i64 a,.int .i64 b] W (· = .bool true):=by
 refine gives_known en_checked_divisible ?_
 have b0:(b == 0) = false:=beq_eq_false_iff_ne.2 (by omega)
 have b1:(b == -1) = false:=beq_eq_false_iff_ne.2 (by omega)
 refine known_of (enter Tryz.func160 checked_divisible.ok (args:=[_,_]) (by simp) ?_)
 repeat' (first | simp (disch:=omega) only [sxE,checked_divisible.E,Nat.reduceAdd,Nat.reduceEqDiff,Nat.reduceMul,Nat.reduceSub,Int.reduceAdd,Int.reduceSub,Int.reduceMul,Int.reduceNeg,Int.reduceLT,Int.reduceLE,Int.reduceEq,Int.reduceToNat,↓reduceIte,Int.reducePow,Nat.reduceLeDiff,Nat.reduceLT,ne_eq,eq_self,List.length_cons,List.length_nil,qxE,b0,b1] | ((with_reducible first | apply cond_beq | apply gd_beq) <;> (intro hc; first | simp only [beq_iff_eq.2 hc] | simp only [beq_eq_false_iff_ne.2 hc] | skip)) | ((with_reducible first | apply cond_dec | apply gd_dec) <;> (intro hc; first | simp only [decide_eq_true hc] | simp only [decide_eq_false hc] | skip)) | ((with_reducible first | apply cond_of | apply gd_of) <;> (intro hc; try simp only [hc])) | (with_reducible refine cregF ?_))
theorem gx_floordiv {a b:Int} (ha:I64 a) (h:0 < b) (W:World):Gives Tryz.prog 124 [.int .i64 a,.int .i64 b] W (· = .tuple #[.int .i64 (a / b),.bool true]):=by
 refine gives_known en_checked_FloorDiv ?_
 have k:=fun W=>gx_divisible (a:=a) h W
 have hf:=fdiv_tdiv (a:=a) h
 have hi:=ediv_i64 ha h
 have d2:decide (b < 0) = false:=decide_eq_false (by omega)
 have x0:((0:Int) == 0) = true:=rfl
 have x1:(true == false) = false:=rfl
 have x2:(false == false) = true:=rfl
 refine known_of (enter Tryz.func124 checked_FloorDiv.ok (args:=[_,_]) (by simp) ?_)
 rcases Int.lt_or_le a 0 with ha0 | ha0
 ·have d1:decide (a < 0) = true:=decide_eq_true ha0
  by_cases hr:a.tmod b = 0
  ·rw [if_neg (fun h=>h.1 hr)] at hf
   have hw:IntKind.i64.wrap (a.tdiv b) = a / b:=by rw [← hf]; exact IntWalk.i64_in _ hi
   clear hf hi
   generalize a / b = Q at *
   repeat' (first | simp (disch:=omega) only [sxE,checked_FloorDiv.E,Nat.reduceAdd,Nat.reduceEqDiff,Nat.reduceMul,Nat.reduceSub,Int.reduceAdd,Int.reduceSub,Int.reduceMul,Int.reduceNeg,Int.reduceLT,Int.reduceLE,Int.reduceEq,Int.reduceToNat,↓reduceIte,Int.reducePow,Nat.reduceLeDiff,Nat.reduceLT,ne_eq,eq_self,List.length_cons,List.length_nil,qxE,hw,hr,x0,d1,d2,x1,x2,Bool.not_true] | (with_reducible refine Sx.call_at (f:=160) (fun W hW=>k W) ?_) | ((with_reducible first | apply cond_beq | apply gd_beq) <;> (intro hc; first | simp only [beq_iff_eq.2 hc] | simp only [beq_eq_false_iff_ne.2 hc] | skip)) | ((with_reducible first | apply cond_dec | apply gd_dec) <;> (intro hc; first | simp only [decide_eq_true hc] | simp only [decide_eq_false hc] | skip)) | ((with_reducible first | apply cond_of | apply gd_of) <;> (intro hc; try simp only [hc])) | (with_reducible refine cregF ?_))
  ·rw [if_pos ⟨hr,ha0⟩] at hf
   have h1:=Int.ediv_neg_of_neg_of_pos ha0 h
   have h2:=hi.1
   have hw:IntKind.i64.wrap (a.tdiv b) = a / b + 1:=by rw [show a.tdiv b = a / b + 1 by omega]; exact IntWalk.i64_in _ ⟨by omega,by omega⟩
   clear hf hi
   generalize a / b = Q at *
   have e:Q + 1 - 1 = Q:=by omega
   have r1:(a.tmod b == 0) = false:=beq_eq_false_iff_ne.2 hr
   repeat' (first | simp (disch:=omega) only [sxE,checked_FloorDiv.E,Nat.reduceAdd,Nat.reduceEqDiff,Nat.reduceMul,Nat.reduceSub,Int.reduceAdd,Int.reduceSub,Int.reduceMul,Int.reduceNeg,Int.reduceLT,Int.reduceLE,Int.reduceEq,Int.reduceToNat,↓reduceIte,Int.reducePow,Nat.reduceLeDiff,Nat.reduceLT,ne_eq,eq_self,List.length_cons,List.length_nil,qxE,hw,e,r1,d1,d2,x1,x2,Bool.not_true] | (with_reducible refine Sx.call_at (f:=160) (fun W hW=>k W) ?_) | ((with_reducible first | apply cond_beq | apply gd_beq) <;> (intro hc; first | simp only [beq_iff_eq.2 hc] | simp only [beq_eq_false_iff_ne.2 hc] | skip)) | ((with_reducible first | apply cond_dec | apply gd_dec) <;> (intro hc; first | simp only [decide_eq_true hc] | simp only [decide_eq_false hc] | skip)) | ((with_reducible first | apply cond_of | apply gd_of) <;> (intro hc; try simp only [hc])) | (with_reducible refine cregF ?_))
 ·have hw:IntKind.i64.wrap (a / b) = a / b:=IntWalk.i64_in _ hi
  have d1:decide (a < 0) = false:=decide_eq_false (by omega)
  clear hf hi
  repeat' (first | simp (disch:=omega) only [sxE,checked_FloorDiv.E,Nat.reduceAdd,Nat.reduceEqDiff,Nat.reduceMul,Nat.reduceSub,Int.reduceAdd,Int.reduceSub,Int.reduceMul,Int.reduceNeg,Int.reduceLT,Int.reduceLE,Int.reduceEq,Int.reduceToNat,↓reduceIte,Int.reducePow,Nat.reduceLeDiff,Nat.reduceLT,ne_eq,eq_self,List.length_cons,List.length_nil,qxE,hw,d1,d2,x1,x2,Bool.not_true] | (with_reducible refine Sx.call_at (f:=160) (fun W hW=>k W) ?_) | ((with_reducible first | apply cond_beq | apply gd_beq) <;> (intro hc; first | simp only [beq_iff_eq.2 hc] | simp only [beq_eq_false_iff_ne.2 hc] | skip)) | ((with_reducible first | apply cond_dec | apply gd_dec) <;> (intro hc; first | simp only [decide_eq_true hc] | simp only [decide_eq_false hc] | skip)) | ((with_reducible first | apply cond_of | apply gd_of) <;> (intro hc; try simp only [hc])) | (with_reducible refine cregF ?_))
theorem gx_key {v t:Int} (hv:I64 v) (ht:I64 t) (W:World):Gives Tryz.prog 61 [.int .i64 v,.int .i64 t] W (· = .int .i64 (ke v t)):=by
 refine gives_known en_pieces_Key ?_
 have k1:=fun W=>gx_unit t W
 have k2:=fun W=>gx_floordiv hv (un_pos t) W
 unfold ke
 generalize un t = u at *
 refine known_of (enter Tryz.func61 pieces_Key.ok (args:=[_,_]) (by simp) ?_)
 repeat' (first | simp (disch:=omega) only [sxE,pieces_Key.E,Nat.reduceAdd,Nat.reduceEqDiff,Nat.reduceMul,Nat.reduceSub,Int.reduceAdd,Int.reduceSub,Int.reduceMul,Int.reduceNeg,Int.reduceLT,Int.reduceLE,Int.reduceEq,Int.reduceToNat,↓reduceIte,Int.reducePow,Nat.reduceLeDiff,Nat.reduceLT,ne_eq,eq_self,List.length_cons,List.length_nil,qxE] | (with_reducible refine Sx.call_at (f:=125) (fun W hW=>k1 W) ?_) | (with_reducible refine Sx.call_at (f:=124) (fun W hW=>k2 W) ?_) | (with_reducible refine cregF ?_))
theorem gx_base {k t:Int} (hk:I64 k) (ht:I64 t) (W:World):Gives Tryz.prog 62 [.int .i64 k,.int .i64 t] W (· = WX (k * un t)):=by
 refine gives_known en_pieces_Base ?_
 have k1:=fun W=>gx_unit t W
 have o1:=fun W=>gx_of hk W
 have o2:=fun W=>gx_of (un_i64 ht) W
 have f1:=(bd_i64 hk).fits
 have f2:=(bd_i64 (un_i64 ht)).fits
 have f3:=(bd_mul (bd_i64 hk) (bd_i64 (un_i64 ht))).fits
 have mu:=fun W=>gx_mul f1 f2 f3 W
 generalize un t = u at *
 refine known_of (enter Tryz.func62 pieces_Base.ok (args:=[_,_]) (by simp) ?_)
 repeat' (first | simp (disch:=omega) only [sxE,pieces_Base.E,Nat.reduceAdd,Nat.reduceEqDiff,Nat.reduceMul,Nat.reduceSub,Int.reduceAdd,Int.reduceSub,Int.reduceMul,Int.reduceNeg,Int.reduceLT,Int.reduceLE,Int.reduceEq,Int.reduceToNat,↓reduceIte,Int.reducePow,Nat.reduceLeDiff,Nat.reduceLT,ne_eq,eq_self,List.length_cons,List.length_nil,qxE] | (with_reducible refine Sx.call_at (f:=125) (fun W hW=>k1 W) ?_) | (with_reducible refine Sx.call_at (f:=81) (fun W hW=>o1 W) ?_) | (with_reducible refine Sx.call_at (f:=81) (fun W hW=>o2 W) ?_) | (with_reducible refine Sx.call_at (f:=126) (fun W hW=>mu W) ?_) | (with_reducible refine cregF ?_))
set_option maxRecDepth 100000 in
theorem pc_begin {w:World} {b:Nat} {s:PcS} {v:Value} {xt xv:Int} (hb:HB w b (qcs s v).toArray) (hv:one v = true) (ht:I64 s.t) (hxv:I64 xv) (hi0:0≤s.i) (hi1:s.i≤1073741824) (hn0:0≤s.n) (hn1:s.n≤1073741824):Calls Tryz.prog 149 #[.pointer (some ⟨b,0,none⟩),.agg #[.int .i64 xt,.int .i64 xv]] w fun e w' =>
  e = .returned (.tuple #[])∧HB w' b (qcs (pcb s.t (s.i + s.n) xt xv) v).toArray∧Moves [b] w w':=by
 have k1:=fun W=>gx_kstart W
 have k2:=fun W=>gx_key hxv ht W
 have hle:=Nat.le_of_lt hb.lt
 obtain ⟨st,si,sn,sT,sV,sL,sk,o,p,q,p1,q1⟩:=s
 have hR:∀ {x:Kn},∀ k∈[Kn.g (xW w b [b])],k∈[x,Kn.g (xW w b [b])]∧b ∉ k.bs:=fun k hk=>⟨List.mem_cons_of_mem _ hk,by rw [List.mem_singleton.1 hk]; exact fun h=>(xW_bs.1 h).2 (List.mem_singleton.2 rfl)⟩
 refine (enterB (n0:=b) (ex:=[b]) (L:=[.g (cK b (qcs ⟨st,si,sn,sT,sV,sL,sk,o,p,q,p1,q1⟩ v)),.g (xW w b [b])]) (ι:=Unit) (fun _=>True) (fun _=>.tuple #[]) (fun _=>[.g (cK b (qcs (pcb st (si + sn) xt xv) v)),.g (xW w b [b])]) Tryz.func149 pieces_work__begin.ok (args:=[.pointer (some ⟨b,0,none⟩),.agg #[.int .i64 xt,.int .i64 xv]]) (by simp) hle (fun k hk=>?_) (fun _=>(by first | exact List.mem_cons_self | exact List.mem_cons_of_mem _ List.mem_cons_self | exact List.mem_cons_of_mem _ (List.mem_cons_of_mem _ List.mem_cons_self) | exact List.mem_cons_of_mem _ (List.mem_cons_of_mem _ (List.mem_cons_of_mem _ List.mem_cons_self)) | exact List.mem_cons_of_mem _ (List.mem_cons_of_mem _ (List.mem_cons_of_mem _ (List.mem_cons_of_mem _ List.mem_cons_self))))) ?run).mono ?fin
 case fin =>
  rintro e w' ⟨-,-,rfl,hk,hm⟩
  exact ⟨rfl,(hk _ List.mem_cons_self).2,hm⟩
 case run =>
  dsimp only at *
  repeat' (first | simp (disch:=omega) only [sxE,pieces_work__begin.E,Nat.reduceAdd,Nat.reduceEqDiff,Nat.reduceMul,Nat.reduceSub,Int.reduceAdd,Int.reduceSub,Int.reduceMul,Int.reduceNeg,Int.reduceLT,Int.reduceLE,Int.reduceEq,Int.reduceToNat,↓reduceIte,Int.reducePow,Nat.reduceLeDiff,Nat.reduceLT,ne_eq,eq_self,List.length_cons,List.length_nil,kxE,x_stq] | (with_reducible refine Sx.call_at (f:=158) (fun W hW=>k1 W) ?_) | (with_reducible refine Sx.call_at (f:=61) (fun W hW=>k2 W) ?_) | (with_reducible refine And.intro ?_ ?_) | (with_reducible refine ldP_blk b ?_; refine ldP_k (b:=b) rfl (by first | exact List.mem_cons_self | exact List.mem_cons_of_mem _ List.mem_cons_self | exact List.mem_cons_of_mem _ (List.mem_cons_of_mem _ List.mem_cons_self) | exact List.mem_cons_of_mem _ (List.mem_cons_of_mem _ (List.mem_cons_of_mem _ List.mem_cons_self)) | exact List.mem_cons_of_mem _ (List.mem_cons_of_mem _ (List.mem_cons_of_mem _ (List.mem_cons_of_mem _ List.mem_cons_self)))) rfl ?_) | (with_reducible refine stP_blk b ?_; refine stP_c (b:=b) (R:=[.g (xW w b [b])]) rfl (by first | exact List.mem_cons_self | exact List.mem_cons_of_mem _ List.mem_cons_self | exact List.mem_cons_of_mem _ (List.mem_cons_of_mem _ List.mem_cons_self) | exact List.mem_cons_of_mem _ (List.mem_cons_of_mem _ (List.mem_cons_of_mem _ List.mem_cons_self)) | exact List.mem_cons_of_mem _ (List.mem_cons_of_mem _ (List.mem_cons_of_mem _ (List.mem_cons_of_mem _ List.mem_cons_self)))) hR rfl rfl ?_) | (with_reducible refine stL_blk b ?_; refine stL_c (b:=b) (R:=[.g (xW w b [b])]) rfl (by first | exact List.mem_cons_self | exact List.mem_cons_of_mem _ List.mem_cons_self | exact List.mem_cons_of_mem _ (List.mem_cons_of_mem _ List.mem_cons_self) | exact List.mem_cons_of_mem _ (List.mem_cons_of_mem _ (List.mem_cons_of_mem _ List.mem_cons_self)) | exact List.mem_cons_of_mem _ (List.mem_cons_of_mem _ (List.mem_cons_of_mem _ (List.mem_cons_of_mem _ List.mem_cons_self)))) hR rfl rfl ?_) | (with_reducible refine cregF ?_))
  exact ⟨(),rfl⟩
 ·rcases List.mem_cons.1 hk with rfl | hk
  ·exact ⟨Nat.le_refl _,hb⟩
  ·rw [List.mem_singleton.1 hk]
   exact xW_start hle
theorem elt_piece:ElT Tryz.prog 61 75 24 192:=elT (z:=.agg (pcell ⟨0,0,0,c0⟩).toArray) Tryz.underlying61 (by kernel_rfl) rfl (by decide)
set_option maxRecDepth 100000 in
set_option maxHeartbeats 2000000 in
theorem pc_end {w:World} {b n0:Nat} {s:PcS} {v:Value} {k:Nat} {xs:List Value} (hn0:n0≤b) (hb:HB w b (qcs s v).toArray) (hv:w.ownsRow n0 75 24 v k xs) (hvb:v.ownBlock≠some b) (hk:(k + 1) * 192≤140737488355328) :
  Calls Tryz.prog 96 #[.pointer (some ⟨b,0,none⟩)] w (EndP w b n0 v (qcs s) 75 24 (k + (pcl s).length) (xs ++ pcells (pcl s))):=by
 have hle:n0≤w.heap.size:=by have:=hb.lt; omega
 obtain ⟨va,vc,hvf,hvc,hvm,-⟩:=row_form hv
 have hone:one v = true:=by rw [hvf]; rfl
 obtain ⟨st,si,sn,sT,sV,sL,sk,o,p,q,p1,q1⟩:=s
 refine (enterB (n0:=n0) (ex:=b :: v.ownBlock.toList) (L:=[.g (cK b (qcs ⟨st,si,sn,sT,sV,sL,sk,o,p,q,p1,q1⟩ v)),.g (wK 75 24 v k xs),.g (xW w n0 (b :: v.ownBlock.toList))]) (fun v':Value=>v'.ownBlock≠some b∧∀ g,v'.ownBlock = some g→v.ownBlock = some g∨w.heap.size≤g) (fun _=>.tuple #[]) (fun v'=>[.g (cK b (qcs ⟨st,si,sn,sT,sV,sL,sk,o,p,q,p1,q1⟩ v')),.g (wK 75 24 v' (k + (pcl ⟨st,si,sn,sT,sV,sL,sk,o,p,q,p1,q1⟩).length) (xs ++ pcells (pcl ⟨st,si,sn,sT,sV,sL,sk,o,p,q,p1,q1⟩))),.g (xW w n0 (b :: v.ownBlock.toList))]) Tryz.func96 pieces_work__end.ok (args:=[.pointer (some ⟨b,0,none⟩)]) (by simp) hle (fun k hk=>?_) (fun _=>(by first | exact List.mem_cons_self | exact List.mem_cons_of_mem _ List.mem_cons_self | exact List.mem_cons_of_mem _ (List.mem_cons_of_mem _ List.mem_cons_self) | exact List.mem_cons_of_mem _ (List.mem_cons_of_mem _ (List.mem_cons_of_mem _ List.mem_cons_self)) | exact List.mem_cons_of_mem _ (List.mem_cons_of_mem _ (List.mem_cons_of_mem _ (List.mem_cons_of_mem _ List.mem_cons_self))))) ?run).mono ?fin
 case fin =>
  rintro e w' ⟨v',⟨h1,h2⟩,rfl,hk,hm⟩
  exact ⟨v',rfl,(hk _ List.mem_cons_self).2,hk (.g (wK 75 24 v' _ _)) (List.mem_cons_of_mem _ List.mem_cons_self),hm,h1,h2⟩
 case run =>
  have old:∀ g,v.ownBlock = some g→v.ownBlock = some g∨w.heap.size≤g:=fun g h=>.inl h
  by_cases hn:0 < sn
  ·have e1:pcl ⟨st,si,sn,sT,sV,sL,sk,o,p,q,p1,q1⟩ = [⟨si,sn,sk,⟨o,p,q,p1,q1⟩⟩]:=if_pos hn
   rw [e1,pcells_one]
   clear e1
   repeat' (first | simp (disch:=omega) only [sxE,pieces_work__end.E,Nat.reduceAdd,Nat.reduceEqDiff,Nat.reduceMul,Nat.reduceSub,Int.reduceAdd,Int.reduceSub,Int.reduceMul,Int.reduceNeg,Int.reduceLT,Int.reduceLE,Int.reduceEq,Int.reduceToNat,↓reduceIte,Int.reducePow,Nat.reduceLeDiff,Nat.reduceLT,ne_eq,eq_self,List.length_cons,List.length_nil,kxE,x_stq] | (with_reducible refine ldP_blk b ?_; refine ldP_k (b:=b) rfl (by first | exact List.mem_cons_self | exact List.mem_cons_of_mem _ List.mem_cons_self | exact List.mem_cons_of_mem _ (List.mem_cons_of_mem _ List.mem_cons_self) | exact List.mem_cons_of_mem _ (List.mem_cons_of_mem _ (List.mem_cons_of_mem _ List.mem_cons_self)) | exact List.mem_cons_of_mem _ (List.mem_cons_of_mem _ (List.mem_cons_of_mem _ (List.mem_cons_of_mem _ List.mem_cons_self)))) rfl ?_))
   refine cregI [.g (cK b (qcs ⟨st,si,sn,sT,sV,sL,sk,o,p,q,p1,q1⟩ v))] v.ownBlock.toList rfl (fun k hk=>?_) (fun x hx=>?_) ?_
   ·rw [List.mem_singleton.1 hk]
    exact ⟨List.mem_cons_self,fun x hx hr=>hvb (by rw [← cK_bs.1 hx]; simpa using hr)⟩
   ·exact ⟨_,List.mem_cons_of_mem _ List.mem_cons_self,wK_bs.2 (by simpa using hx)⟩
   repeat' (first | simp (disch:=omega) only [sxE,pieces_work__end.E,Nat.reduceAdd,Nat.reduceEqDiff,Nat.reduceMul,Nat.reduceSub,Int.reduceAdd,Int.reduceSub,Int.reduceMul,Int.reduceNeg,Int.reduceLT,Int.reduceLE,Int.reduceEq,Int.reduceToNat,↓reduceIte,Int.reducePow,Nat.reduceLeDiff,Nat.reduceLT,ne_eq,eq_self,List.length_cons,List.length_nil,kxE,qxE,x_stq] | (with_reducible refine ldP_blk b ?_; refine ldP_k (b:=b) rfl (by first | exact List.mem_cons_self | exact List.mem_cons_of_mem _ List.mem_cons_self | exact List.mem_cons_of_mem _ (List.mem_cons_of_mem _ List.mem_cons_self) | exact List.mem_cons_of_mem _ (List.mem_cons_of_mem _ (List.mem_cons_of_mem _ List.mem_cons_self)) | exact List.mem_cons_of_mem _ (List.mem_cons_of_mem _ (List.mem_cons_of_mem _ (List.mem_cons_of_mem _ List.mem_cons_self)))) rfl ?_))
   refine genA_c (L:=[.g (cK b (qcs ⟨st,si,sn,sT,sV,sL,sk,o,p,q,p1,q1⟩ v)),.g (wK 75 24 v k xs),.g (xW w n0 (b :: v.ownBlock.toList))]) (cs:=pcell ⟨si,sn,sk,⟨o,p,q,p1,q1⟩⟩) (T:=75) (fun b=>.slice (some ⟨b,0,none⟩) 1 1) rfl (fun W=>by kernel_rfl) fun bl hbl=>?_
   repeat' (first | simp (disch:=omega) only [sxE,pieces_work__end.E,Nat.reduceAdd,Nat.reduceEqDiff,Nat.reduceMul,Nat.reduceSub,Int.reduceAdd,Int.reduceSub,Int.reduceMul,Int.reduceNeg,Int.reduceLT,Int.reduceLE,Int.reduceEq,Int.reduceToNat,↓reduceIte,Int.reducePow,Nat.reduceLeDiff,Nat.reduceLT,ne_eq,eq_self,List.length_cons,List.length_nil,kxE,qxE,x_stq] | (with_reducible refine ldP_blk b ?_; refine ldP_k (b:=b) rfl (by first | exact List.mem_cons_self | exact List.mem_cons_of_mem _ List.mem_cons_self | exact List.mem_cons_of_mem _ (List.mem_cons_of_mem _ List.mem_cons_self) | exact List.mem_cons_of_mem _ (List.mem_cons_of_mem _ (List.mem_cons_of_mem _ List.mem_cons_self)) | exact List.mem_cons_of_mem _ (List.mem_cons_of_mem _ (List.mem_cons_of_mem _ (List.mem_cons_of_mem _ List.mem_cons_self)))) rfl ?_))
   refine genA_lit rfl [.g (cK b (qcs ⟨st,si,sn,sT,sV,sL,sk,o,p,q,p1,q1⟩ v)),.g (xW w n0 (b :: v.ownBlock.toList))] elt_piece rfl (.inr (List.mem_cons_of_mem _ (List.mem_cons_of_mem _ List.mem_cons_self))) (.inr fun g hg=>by show g∈v.ownBlock.toList; simpa using hg) List.mem_cons_self rfl (by decide) rfl (by simp only [maxLen]; omega) hk (fun k hk=>?_) fun g1 c1 hc1 hc1' hge1 hg1=>?_
   ·rcases List.mem_cons.1 hk with rfl | hk
    ·exact ⟨(by first | exact List.mem_cons_self | exact List.mem_cons_of_mem _ List.mem_cons_self | exact List.mem_cons_of_mem _ (List.mem_cons_of_mem _ List.mem_cons_self) | exact List.mem_cons_of_mem _ (List.mem_cons_of_mem _ (List.mem_cons_of_mem _ List.mem_cons_self)) | exact List.mem_cons_of_mem _ (List.mem_cons_of_mem _ (List.mem_cons_of_mem _ (List.mem_cons_of_mem _ List.mem_cons_self)))),fun x hx h=>hvb (by rw [h,cK_bs.1 hx])⟩
    ·rw [List.mem_singleton.1 hk]
     exact ⟨(by first | exact List.mem_cons_self | exact List.mem_cons_of_mem _ List.mem_cons_self | exact List.mem_cons_of_mem _ (List.mem_cons_of_mem _ List.mem_cons_self) | exact List.mem_cons_of_mem _ (List.mem_cons_of_mem _ (List.mem_cons_of_mem _ List.mem_cons_self)) | exact List.mem_cons_of_mem _ (List.mem_cons_of_mem _ (List.mem_cons_of_mem _ (List.mem_cons_of_mem _ List.mem_cons_self)))),fun x hx h=>(xW_bs.1 hx).2 (List.mem_cons_of_mem _ (by simpa using h))⟩
   rw [show (Sx.Cx.w0 _:World).heap.size = n0 from cut_size hle] at hge1
   have n1:g1≠b:=fun h=>hg1 _ List.mem_cons_self (cK_bs.2 h)
   have n2:=fun h=>hg1 _ (List.mem_cons_of_mem _ (List.mem_singleton.2 rfl)) (xW_bs.2 h)
   clear hbl
   have hR:∀ x∈[Kn.g (wK 75 24 (.slice (some ⟨g1,0,none⟩) (k + 1) c1) (k + 1) (xs ++ pcell ⟨si,sn,sk,⟨o,p,q,p1,q1⟩⟩)),.g (xW w n0 (b :: v.ownBlock.toList))],x∈[Kn.g (wK 75 24 (.slice (some ⟨g1,0,none⟩) (k + 1) c1) (k + 1) (xs ++ pcell ⟨si,sn,sk,⟨o,p,q,p1,q1⟩⟩)),.g (cK b (qcs ⟨st,si,sn,sT,sV,sL,sk,o,p,q,p1,q1⟩ v)),.g (xW w n0 (b :: v.ownBlock.toList))]∧b ∉ x.bs:=fun x hx=>by
    rcases List.mem_cons.1 hx with rfl | hx
    ·exact ⟨(by first | exact List.mem_cons_self | exact List.mem_cons_of_mem _ List.mem_cons_self | exact List.mem_cons_of_mem _ (List.mem_cons_of_mem _ List.mem_cons_self) | exact List.mem_cons_of_mem _ (List.mem_cons_of_mem _ (List.mem_cons_of_mem _ List.mem_cons_self)) | exact List.mem_cons_of_mem _ (List.mem_cons_of_mem _ (List.mem_cons_of_mem _ (List.mem_cons_of_mem _ List.mem_cons_self)))),fun h=>n1 (by have:=wK_bs.1 h; cases this; rfl)⟩
    ·rw [List.mem_singleton.1 hx]
     exact ⟨(by first | exact List.mem_cons_self | exact List.mem_cons_of_mem _ List.mem_cons_self | exact List.mem_cons_of_mem _ (List.mem_cons_of_mem _ List.mem_cons_self) | exact List.mem_cons_of_mem _ (List.mem_cons_of_mem _ (List.mem_cons_of_mem _ List.mem_cons_self)) | exact List.mem_cons_of_mem _ (List.mem_cons_of_mem _ (List.mem_cons_of_mem _ (List.mem_cons_of_mem _ List.mem_cons_self)))),fun h=>(xW_bs.1 h).2 List.mem_cons_self⟩
   repeat' (first | simp (disch:=omega) only [sxE,pieces_work__end.E,Nat.reduceAdd,Nat.reduceEqDiff,Nat.reduceMul,Nat.reduceSub,Int.reduceAdd,Int.reduceSub,Int.reduceMul,Int.reduceNeg,Int.reduceLT,Int.reduceLE,Int.reduceEq,Int.reduceToNat,↓reduceIte,Int.reducePow,Nat.reduceLeDiff,Nat.reduceLT,ne_eq,eq_self,List.length_cons,List.length_nil,kxE,qxE,x_stq,x_cSl] | (with_reducible refine ldP_blk b ?_; refine ldP_k (b:=b) rfl (by first | exact List.mem_cons_self | exact List.mem_cons_of_mem _ List.mem_cons_self | exact List.mem_cons_of_mem _ (List.mem_cons_of_mem _ List.mem_cons_self) | exact List.mem_cons_of_mem _ (List.mem_cons_of_mem _ (List.mem_cons_of_mem _ List.mem_cons_self)) | exact List.mem_cons_of_mem _ (List.mem_cons_of_mem _ (List.mem_cons_of_mem _ (List.mem_cons_of_mem _ List.mem_cons_self)))) rfl ?_) | (with_reducible refine stP_blk b ?_; refine stP_c (b:=b) (R:=[.g (wK 75 24 (.slice (some ⟨g1,0,none⟩) (k + 1) c1) (k + 1) (xs ++ pcell ⟨si,sn,sk,⟨o,p,q,p1,q1⟩⟩)),.g (xW w n0 (b :: v.ownBlock.toList))]) rfl (by first | exact List.mem_cons_self | exact List.mem_cons_of_mem _ List.mem_cons_self | exact List.mem_cons_of_mem _ (List.mem_cons_of_mem _ List.mem_cons_self) | exact List.mem_cons_of_mem _ (List.mem_cons_of_mem _ (List.mem_cons_of_mem _ List.mem_cons_self)) | exact List.mem_cons_of_mem _ (List.mem_cons_of_mem _ (List.mem_cons_of_mem _ (List.mem_cons_of_mem _ List.mem_cons_self)))) hR rfl rfl ?_) | (with_reducible refine stL_blk b ?_; refine stL_c (b:=b) (R:=[.g (wK 75 24 (.slice (some ⟨g1,0,none⟩) (k + 1) c1) (k + 1) (xs ++ pcell ⟨si,sn,sk,⟨o,p,q,p1,q1⟩⟩)),.g (xW w n0 (b :: v.ownBlock.toList))]) rfl (by first | exact List.mem_cons_self | exact List.mem_cons_of_mem _ List.mem_cons_self | exact List.mem_cons_of_mem _ (List.mem_cons_of_mem _ List.mem_cons_self) | exact List.mem_cons_of_mem _ (List.mem_cons_of_mem _ (List.mem_cons_of_mem _ List.mem_cons_self)) | exact List.mem_cons_of_mem _ (List.mem_cons_of_mem _ (List.mem_cons_of_mem _ (List.mem_cons_of_mem _ List.mem_cons_self)))) hR rfl rfl ?_))
   refine ⟨.slice (some ⟨g1,0,none⟩) (k + 1) c1,⟨fun h=>n1 (by cases h; rfl),fun g h=>?_⟩,rfl⟩
   obtain rfl:g1 = g:=by cases h; rfl
   rcases Nat.lt_or_ge g1 w.heap.size with hlt | hge
   ·by_cases hx:g1∈b :: v.ownBlock.toList
    ·rcases List.mem_cons.1 hx with rfl | hx
     ·exact absurd rfl n1
     ·exact .inl (by simpa using hx)
    ·exact absurd ⟨⟨hge1,hlt⟩,hx⟩ n2
   ·exact .inr hge
  ·have e1:pcl ⟨st,si,sn,sT,sV,sL,sk,o,p,q,p1,q1⟩ = []:=if_neg hn
   rw [e1,show pcells [] = [] from rfl,List.append_nil]
   repeat' (first | simp (disch:=omega) only [sxE,pieces_work__end.E,Nat.reduceAdd,Nat.reduceEqDiff,Nat.reduceMul,Nat.reduceSub,Int.reduceAdd,Int.reduceSub,Int.reduceMul,Int.reduceNeg,Int.reduceLT,Int.reduceLE,Int.reduceEq,Int.reduceToNat,↓reduceIte,Int.reducePow,Nat.reduceLeDiff,Nat.reduceLT,ne_eq,eq_self,List.length_cons,List.length_nil,kxE,x_stq] | (with_reducible refine ldP_blk b ?_; refine ldP_k (b:=b) rfl (by first | exact List.mem_cons_self | exact List.mem_cons_of_mem _ List.mem_cons_self | exact List.mem_cons_of_mem _ (List.mem_cons_of_mem _ List.mem_cons_self) | exact List.mem_cons_of_mem _ (List.mem_cons_of_mem _ (List.mem_cons_of_mem _ List.mem_cons_self)) | exact List.mem_cons_of_mem _ (List.mem_cons_of_mem _ (List.mem_cons_of_mem _ (List.mem_cons_of_mem _ List.mem_cons_self)))) rfl ?_))
   exact ⟨v,⟨hvb,old⟩,rfl⟩
 ·rcases List.mem_cons.1 hk with rfl | hk
  ·exact ⟨hn0,hb⟩
  rcases List.mem_cons.1 hk with rfl | hk
  ·exact hv
  ·rw [List.mem_singleton.1 hk]
   exact xW_start hle
set_option maxRecDepth 100000 in
set_option maxHeartbeats 4000000 in
theorem pc_step {w:World} {b n0:Nat} {s:PcS} {v:Value} {k:Nat} {xs:List Value} {xt xv:Int} (hn0:n0≤b) (hb:HB w b (qcs s v).toArray) (hv:w.ownsRow n0 75 24 v k xs) (hvb:v.ownBlock≠some b)
  (t0:0≤s.t) (t1:s.t≤4611686018427387904) (hi0:0≤s.i) (hi1:s.i≤1073741824) (m0:0≤s.n) (m1:s.n≤1073741824) (iT:I64 s.T) (iK:I64 s.k) (hz:0 < s.n→ab (s.k * un s.t) < 73786976294838206464) (hc:0 < s.n→s.c.ok) (hxt:I64 xt) (hxv:I64 xv) (hx:0 < s.n→s.T < xt) (hk:(k + 1) * 192≤140737488355328) :
  Calls Tryz.prog 95 #[.pointer (some ⟨b,0,none⟩),.agg #[.int .i64 xt,.int .i64 xv]] w (EndP w b n0 v (qcs (pcn s xt xv)) 75 24 (k + (pce s xt xv).length) (xs ++ pcells (pce s xt xv))):=by
 have hle:n0≤w.heap.size:=by have:=hb.lt; omega
 obtain ⟨va,vc,hvf,hvc,hvm,-⟩:=row_form hv
 have hone:one v = true:=by rw [hvf]; rfl
 obtain ⟨st,si,sn,sT,sV,sL,sk,⟨o,p,q,p1,q1⟩⟩:=s
 dsimp only at t0 t1 hi0 hi1 m0 m1 iT iK hz hc hx
 have it:I64 st:=⟨by omega,by omega⟩
 obtain ⟨k',hk'⟩:∃ k',k + (pce ⟨st,si,sn,sT,sV,sL,sk,⟨o,p,q,p1,q1⟩⟩ xt xv).length = k':=⟨_,rfl⟩
 obtain ⟨xs',hxs'⟩:∃ xs',xs ++ pcells (pce ⟨st,si,sn,sT,sV,sL,sk,⟨o,p,q,p1,q1⟩⟩ xt xv) = xs':=⟨_,rfl⟩
 obtain ⟨s',hs'⟩:∃ s',pcn ⟨st,si,sn,sT,sV,sL,sk,⟨o,p,q,p1,q1⟩⟩ xt xv = s':=⟨_,rfl⟩
 rw [hk',hxs',hs']
 refine (enterB (n0:=n0) (ex:=b :: v.ownBlock.toList) (L:=[.g (cK b (qcs ⟨st,si,sn,sT,sV,sL,sk,⟨o,p,q,p1,q1⟩⟩ v)),.g (wK 75 24 v k xs),.g (xW w n0 (b :: v.ownBlock.toList))]) (fun v':Value=>v'.ownBlock≠some b∧∀ g,v'.ownBlock = some g→v.ownBlock = some g∨w.heap.size≤g) (fun _=>.tuple #[]) (fun v'=>[.g (cK b (qcs s' v')),.g (wK 75 24 v' k' xs'),.g (xW w n0 (b :: v.ownBlock.toList))]) Tryz.func95 pieces_work__step.ok (args:=[.pointer (some ⟨b,0,none⟩),.agg #[.int .i64 xt,.int .i64 xv]]) (by simp) hle (fun k hk=>?_) (fun _=>(by first | exact List.mem_cons_self | exact List.mem_cons_of_mem _ List.mem_cons_self | exact List.mem_cons_of_mem _ (List.mem_cons_of_mem _ List.mem_cons_self) | exact List.mem_cons_of_mem _ (List.mem_cons_of_mem _ (List.mem_cons_of_mem _ List.mem_cons_self)) | exact List.mem_cons_of_mem _ (List.mem_cons_of_mem _ (List.mem_cons_of_mem _ (List.mem_cons_of_mem _ List.mem_cons_self))))) ?run).mono ?fin
 case fin =>
  rintro e w' ⟨v',⟨h1,h2⟩,rfl,hk,hm⟩
  exact ⟨v',rfl,(hk _ List.mem_cons_self).2,hk (.g (wK 75 24 v' _ _)) (List.mem_cons_of_mem _ List.mem_cons_self),hm,h1,h2⟩
 case run =>
  have old:∀ g,v.ownBlock = some g→v.ownBlock = some g∨w.heap.size≤g:=fun g h=>.inl h
  have other:pcg ⟨st,si,sn,sT,sV,sL,sk,⟨o,p,q,p1,q1⟩⟩ xt xv = false→s' = pcb st (si + sn) xt xv∧k' = k + (pcl ⟨st,si,sn,sT,sV,sL,sk,⟨o,p,q,p1,q1⟩⟩).length∧xs' = xs ++ pcells (pcl ⟨st,si,sn,sT,sV,sL,sk,⟨o,p,q,p1,q1⟩⟩):=fun e=>by
   have e1:pcn ⟨st,si,sn,sT,sV,sL,sk,⟨o,p,q,p1,q1⟩⟩ xt xv = pcb st (si + sn) xt xv:=by unfold pcn; rw [if_neg (by rw [e]; decide)]
   have e2:pce ⟨st,si,sn,sT,sV,sL,sk,⟨o,p,q,p1,q1⟩⟩ xt xv = pcl ⟨st,si,sn,sT,sV,sL,sk,⟨o,p,q,p1,q1⟩⟩:=by unfold pce; rw [if_neg (by rw [e]; decide)]
   exact ⟨hs'.symm.trans e1,by rw [← hk',e2],by rw [← hxs',e2]⟩
  have hcs:=cut_size hle
  by_cases hn:0 < sn
  ·have hc:=hc hn
   have hx:=hx hn
   have d1:=fun W=>gx_dist hxt iT (Int.le_of_lt hx) W
   have hz:=hz hn
   have o1:=fun W=>gx_base iK it W
   have fz:Fits (sk * un st):=(bd_mul (bd_i64 iK) (bd_i64 (un_i64 it))).fits
   have iDt:U64 (xt - sT):=⟨by omega,by have:=hxt.2; have:=iT.1; omega⟩
   have th:=fun W=>gx_through fz.rw hxv ⟨by omega,by omega⟩ iDt (eps:=st) W
   rw [thV_yes hz t0 t1 (by omega)] at th
   have tp:=th_p hz hxv ⟨t0,t1⟩ iDt (by omega)
   have mt:=fun W=>gx_meet (kv_ok hc) (kv_ok tp.cl.ok) W
   have hsm:pcm ⟨st,si,sn,sT,sV,sL,sk,⟨o,p,q,p1,q1⟩⟩ xt xv = cmt ⟨o,p,q,p1,q1⟩ ⟨false,mn (xv - sk * un st - st) (xt - sT),mD (xv - sk * un st - st) (xt - sT),mn (xv - sk * un st + st) (xt - sT),mD (xv - sk * un st + st) (xt - sT)⟩:=rfl
   unfold mtV mtv at mt
   rw [Bool.true_and,if_pos rfl] at mt
   have hE1:pcn ⟨st,si,sn,sT,sV,sL,sk,⟨o,p,q,p1,q1⟩⟩ xt xv = if pcg ⟨st,si,sn,sT,sV,sL,sk,⟨o,p,q,p1,q1⟩⟩ xt xv = true then ⟨st,si,sn + 1,sT,sV,xt,sk,(pcm ⟨st,si,sn,sT,sV,sL,sk,⟨o,p,q,p1,q1⟩⟩ xt xv).1⟩ else pcb st (si + sn) xt xv:=rfl
   have hE2:pce ⟨st,si,sn,sT,sV,sL,sk,⟨o,p,q,p1,q1⟩⟩ xt xv = if pcg ⟨st,si,sn,sT,sV,sL,sk,⟨o,p,q,p1,q1⟩⟩ xt xv = true then [] else pcl ⟨st,si,sn,sT,sV,sL,sk,⟨o,p,q,p1,q1⟩⟩:=rfl
   have hE3:pcg ⟨st,si,sn,sT,sV,sL,sk,⟨o,p,q,p1,q1⟩⟩ xt xv = (pcm ⟨st,si,sn,sT,sV,sL,sk,⟨o,p,q,p1,q1⟩⟩ xt xv).2:=by unfold pcg; rw [decide_eq_true hn,Bool.true_and]
   rw [hsm] at hE1 hE3
   clear tp hsm
   generalize sk * un st = B0 at *
   generalize mn (xv - B0 - st) (xt - sT) = a1 at *
   generalize mD (xv - B0 - st) (xt - sT) = a2 at *
   generalize mn (xv - B0 + st) (xt - sT) = a3 at *
   generalize mD (xv - B0 + st) (xt - sT) = a4 at *
   generalize cmt ⟨o,p,q,p1,q1⟩ ⟨false,a1,a2,a3,a4⟩ = M at *
   obtain ⟨⟨mo,mp,mq,mp1,mq1⟩,mb⟩:=M
   dsimp only at hE1 hE3 mt
   have mt:∀ W,Gives Tryz.prog 148 [KX o p q p1 q1,KX false a1 a2 a3 a4] W (· = .tuple #[KX mo mp mq mp1 mq1,.bool mb]):=mt
   cases mb
   ·obtain ⟨es,ek,ex⟩:=other hE3
    subst es
    clear hE1 hE2 hE3 other hk' hxs' hs'
    repeat' (first | simp (disch:=omega) only [sxE,pieces_work__step.E,Nat.reduceAdd,Nat.reduceEqDiff,Nat.reduceMul,Nat.reduceSub,Int.reduceAdd,Int.reduceSub,Int.reduceMul,Int.reduceNeg,Int.reduceLT,Int.reduceLE,Int.reduceEq,Int.reduceToNat,↓reduceIte,Int.reducePow,Nat.reduceLeDiff,Nat.reduceLT,ne_eq,eq_self,List.length_cons,List.length_nil,kxE,qxE,x_stq,x_cSl] | (with_reducible refine ldP_blk b ?_; refine ldP_k (b:=b) rfl (by first | exact List.mem_cons_self | exact List.mem_cons_of_mem _ List.mem_cons_self | exact List.mem_cons_of_mem _ (List.mem_cons_of_mem _ List.mem_cons_self) | exact List.mem_cons_of_mem _ (List.mem_cons_of_mem _ (List.mem_cons_of_mem _ List.mem_cons_self)) | exact List.mem_cons_of_mem _ (List.mem_cons_of_mem _ (List.mem_cons_of_mem _ (List.mem_cons_of_mem _ List.mem_cons_self)))) rfl ?_) | (with_reducible refine Sx.call_at (f:=62) (fun W hW=>o1 W) ?_) | (with_reducible refine Sx.call_at (f:=135) (fun W hW=>d1 W) ?_) | (with_reducible refine Sx.call_at (f:=147) (fun W hW=>th W) ?_) | (with_reducible refine Sx.call_at (f:=148) (fun W hW=>mt W) ?_))
    refine asks_ob (C:=Sx.cx _ (cut w n0) _) [.g (xW w n0 (b :: v.ownBlock.toList))] (ι:=Unit) (fun _=>True) (fun _=>.tuple #[]) b (qcs ⟨st,si,sn,sT,sV,sL,sk,⟨o,p,q,p1,q1⟩⟩ v) (fun _ v'=>qcs ⟨st,si,sn,sT,sV,sL,sk,⟨o,p,q,p1,q1⟩⟩ v') v k xs (fun _=>k') (fun _=>xs') en_pieces_work__end rfl List.mem_cons_self (.inr (List.mem_cons_of_mem _ List.mem_cons_self)) (fun _ h=>h) (fun k hk=>?_) (fun W hW hbW hB ho=>?_) fun _ v' _ hnb hsh hR' hgl=>?_
    ·rw [List.mem_singleton.1 hk]
     exact ⟨(by first | exact List.mem_cons_self | exact List.mem_cons_of_mem _ List.mem_cons_self | exact List.mem_cons_of_mem _ (List.mem_cons_of_mem _ List.mem_cons_self) | exact List.mem_cons_of_mem _ (List.mem_cons_of_mem _ (List.mem_cons_of_mem _ List.mem_cons_self)) | exact List.mem_cons_of_mem _ (List.mem_cons_of_mem _ (List.mem_cons_of_mem _ (List.mem_cons_of_mem _ List.mem_cons_self)))),fun h=>(xW_bs.1 h).2 List.mem_cons_self,fun x hx h=>(xW_bs.1 hx).2 (List.mem_cons_of_mem _ (by simpa using h))⟩
    ·refine (pc_end (s:=⟨st,si,sn,sT,sV,sL,sk,⟨o,p,q,p1,q1⟩⟩) hbW hB ho hvb hk).mono ?_
     rintro e w' ⟨v',rfl,h1,h2,h3,h4,h5⟩
     rw [← ek,← ex] at h2
     exact ⟨(),v',trivial,rfl,h1,h2,h3,h4,h5⟩
    replace hgl:∀ g,v'.ownBlock = some g→n0≤g:=fun g h=>by have:=hgl g h; rw [show (Sx.Cx.w0 _:World).heap.size = n0 from hcs] at this; exact this
    obtain ⟨va',vc',hvf',-,-,-⟩:=hsh
    have hone':one v' = true:=by rw [hvf']; rfl
    have hR:∀ x∈[Kn.g (wK 75 24 v' k' xs'),.g (xW w n0 (b :: v.ownBlock.toList))],x∈[Kn.g (cK b (qcs ⟨st,si,sn,sT,sV,sL,sk,⟨o,p,q,p1,q1⟩⟩ v')),.g (wK 75 24 v' k' xs'),.g (xW w n0 (b :: v.ownBlock.toList))]∧b ∉ x.bs:=fun x hx=>by
     refine ⟨List.mem_cons_of_mem _ hx,?_⟩
     rcases List.mem_cons.1 hx with rfl | hx
     ·exact fun h=>hnb (wK_bs.1 h)
     ·rw [List.mem_singleton.1 hx]
      exact fun h=>(xW_bs.1 h).2 List.mem_cons_self
    have hR':=hR' _ (List.mem_singleton.2 rfl)
    repeat' (first | simp (disch:=omega) only [sxE,pieces_work__step.E,Nat.reduceAdd,Nat.reduceEqDiff,Nat.reduceMul,Nat.reduceSub,Int.reduceAdd,Int.reduceSub,Int.reduceMul,Int.reduceNeg,Int.reduceLT,Int.reduceLE,Int.reduceEq,Int.reduceToNat,↓reduceIte,Int.reducePow,Nat.reduceLeDiff,Nat.reduceLT,ne_eq,eq_self,List.length_cons,List.length_nil,kxE,qxE,x_stq,x_cSl] | (with_reducible refine ldP_blk b ?_; refine ldP_k (b:=b) rfl (by first | exact List.mem_cons_self | exact List.mem_cons_of_mem _ List.mem_cons_self | exact List.mem_cons_of_mem _ (List.mem_cons_of_mem _ List.mem_cons_self) | exact List.mem_cons_of_mem _ (List.mem_cons_of_mem _ (List.mem_cons_of_mem _ List.mem_cons_self)) | exact List.mem_cons_of_mem _ (List.mem_cons_of_mem _ (List.mem_cons_of_mem _ (List.mem_cons_of_mem _ List.mem_cons_self)))) rfl ?_))
    refine asks_bl (C:=Sx.cx _ (cut w n0) _) [.g (wK 75 24 v' k' xs'),.g (xW w n0 (b :: v.ownBlock.toList))] (ι:=Unit) (fun _=>True) (fun _=>.tuple #[]) b (qcs ⟨st,si,sn,sT,sV,sL,sk,⟨o,p,q,p1,q1⟩⟩ v') (fun _=>qcs (pcb st (si + sn) xt xv) v') en_pieces_work__begin rfl List.mem_cons_self (fun _ h=>h) hR (fun W hW hbW hB=>?_) fun _ _=>?_
    ·refine (pc_begin (s:=⟨st,si,sn,sT,sV,sL,sk,⟨o,p,q,p1,q1⟩⟩) hB hone' it hxv hi0 hi1 m0 m1).mono ?_
     rintro e w' ⟨rfl,h1,h2⟩
     exact ⟨(),trivial,rfl,h1,h2⟩
    repeat' (first | simp (disch:=omega) only [sxE,pieces_work__step.E,Nat.reduceAdd,Nat.reduceEqDiff,Nat.reduceMul,Nat.reduceSub,Int.reduceAdd,Int.reduceSub,Int.reduceMul,Int.reduceNeg,Int.reduceLT,Int.reduceLE,Int.reduceEq,Int.reduceToNat,↓reduceIte,Int.reducePow,Nat.reduceLeDiff,Nat.reduceLT,ne_eq,eq_self,List.length_cons,List.length_nil,kxE,qxE,x_stq,x_cSl] | (with_reducible refine ldP_blk b ?_; refine ldP_k (b:=b) rfl (by first | exact List.mem_cons_self | exact List.mem_cons_of_mem _ List.mem_cons_self | exact List.mem_cons_of_mem _ (List.mem_cons_of_mem _ List.mem_cons_self) | exact List.mem_cons_of_mem _ (List.mem_cons_of_mem _ (List.mem_cons_of_mem _ List.mem_cons_self)) | exact List.mem_cons_of_mem _ (List.mem_cons_of_mem _ (List.mem_cons_of_mem _ (List.mem_cons_of_mem _ List.mem_cons_self)))) rfl ?_))
    refine ⟨v',⟨hnb,fun g h=>?_⟩,rfl⟩
    rcases Nat.lt_or_ge g w.heap.size with hlt | hge
    ·by_cases hxx:g∈b :: v.ownBlock.toList
     ·rcases List.mem_cons.1 hxx with rfl | hxx
      ·exact absurd h hnb
      ·exact .inl (by simpa using hxx)
     ·exact absurd h (hR' g (xW_bs.2 ⟨⟨hgl g h,hlt⟩,hxx⟩))
    ·exact .inr hge
   ·rw [if_pos hE3] at hE1 hE2
    have e1:k' = k:=by rw [← hk',hE2]; rfl
    have e2:xs' = xs:=by rw [← hxs',hE2]; show xs ++ [] = xs; rw [List.append_nil]
    have e3:s' = ⟨st,si,sn + 1,sT,sV,xt,sk,⟨mo,mp,mq,mp1,mq1⟩⟩:=hs'.symm.trans hE1
    subst e1
    subst e2
    subst e3
    clear hE1 hE2 hE3 other hk' hxs' hs'
    have hR:∀ {y:Kn},∀ x∈[Kn.g (wK 75 24 v k' xs'),.g (xW w n0 (b :: v.ownBlock.toList))],x∈[y,.g (wK 75 24 v k' xs'),.g (xW w n0 (b :: v.ownBlock.toList))]∧b ∉ x.bs:=fun x hx=>by
     refine ⟨List.mem_cons_of_mem _ hx,?_⟩
     rcases List.mem_cons.1 hx with rfl | hx
     ·exact fun h=>hvb (wK_bs.1 h)
     ·rw [List.mem_singleton.1 hx]
      exact fun h=>(xW_bs.1 h).2 List.mem_cons_self
    repeat' (first | simp (disch:=omega) only [sxE,pieces_work__step.E,Nat.reduceAdd,Nat.reduceEqDiff,Nat.reduceMul,Nat.reduceSub,Int.reduceAdd,Int.reduceSub,Int.reduceMul,Int.reduceNeg,Int.reduceLT,Int.reduceLE,Int.reduceEq,Int.reduceToNat,↓reduceIte,Int.reducePow,Nat.reduceLeDiff,Nat.reduceLT,ne_eq,eq_self,List.length_cons,List.length_nil,kxE,qxE,x_stq,x_cSl] | (with_reducible refine ldP_blk b ?_; refine ldP_k (b:=b) rfl (by first | exact List.mem_cons_self | exact List.mem_cons_of_mem _ List.mem_cons_self | exact List.mem_cons_of_mem _ (List.mem_cons_of_mem _ List.mem_cons_self) | exact List.mem_cons_of_mem _ (List.mem_cons_of_mem _ (List.mem_cons_of_mem _ List.mem_cons_self)) | exact List.mem_cons_of_mem _ (List.mem_cons_of_mem _ (List.mem_cons_of_mem _ (List.mem_cons_of_mem _ List.mem_cons_self)))) rfl ?_) | (with_reducible refine Sx.call_at (f:=62) (fun W hW=>o1 W) ?_) | (with_reducible refine Sx.call_at (f:=135) (fun W hW=>d1 W) ?_) | (with_reducible refine Sx.call_at (f:=147) (fun W hW=>th W) ?_) | (with_reducible refine Sx.call_at (f:=148) (fun W hW=>mt W) ?_) | (with_reducible refine stP_blk b ?_; refine stP_c (b:=b) (R:=[.g (wK 75 24 v k' xs'),.g (xW w n0 (b :: v.ownBlock.toList))]) rfl (by first | exact List.mem_cons_self | exact List.mem_cons_of_mem _ List.mem_cons_self | exact List.mem_cons_of_mem _ (List.mem_cons_of_mem _ List.mem_cons_self) | exact List.mem_cons_of_mem _ (List.mem_cons_of_mem _ (List.mem_cons_of_mem _ List.mem_cons_self)) | exact List.mem_cons_of_mem _ (List.mem_cons_of_mem _ (List.mem_cons_of_mem _ (List.mem_cons_of_mem _ List.mem_cons_self)))) hR rfl rfl ?_) | (with_reducible refine stL_blk b ?_; refine stL_c (b:=b) (R:=[.g (wK 75 24 v k' xs'),.g (xW w n0 (b :: v.ownBlock.toList))]) rfl (by first | exact List.mem_cons_self | exact List.mem_cons_of_mem _ List.mem_cons_self | exact List.mem_cons_of_mem _ (List.mem_cons_of_mem _ List.mem_cons_self) | exact List.mem_cons_of_mem _ (List.mem_cons_of_mem _ (List.mem_cons_of_mem _ List.mem_cons_self)) | exact List.mem_cons_of_mem _ (List.mem_cons_of_mem _ (List.mem_cons_of_mem _ (List.mem_cons_of_mem _ List.mem_cons_self)))) hR rfl rfl ?_))
    exact ⟨v,⟨hvb,old⟩,rfl⟩
  ·obtain ⟨es,ek,ex⟩:=other (by unfold pcg; rw [decide_eq_false hn]; rfl)
   subst es
   clear other hk' hxs' hs'
   repeat' (first | simp (disch:=omega) only [sxE,pieces_work__step.E,Nat.reduceAdd,Nat.reduceEqDiff,Nat.reduceMul,Nat.reduceSub,Int.reduceAdd,Int.reduceSub,Int.reduceMul,Int.reduceNeg,Int.reduceLT,Int.reduceLE,Int.reduceEq,Int.reduceToNat,↓reduceIte,Int.reducePow,Nat.reduceLeDiff,Nat.reduceLT,ne_eq,eq_self,List.length_cons,List.length_nil,kxE,qxE,x_stq,x_cSl] | (with_reducible refine ldP_blk b ?_; refine ldP_k (b:=b) rfl (by first | exact List.mem_cons_self | exact List.mem_cons_of_mem _ List.mem_cons_self | exact List.mem_cons_of_mem _ (List.mem_cons_of_mem _ List.mem_cons_self) | exact List.mem_cons_of_mem _ (List.mem_cons_of_mem _ (List.mem_cons_of_mem _ List.mem_cons_self)) | exact List.mem_cons_of_mem _ (List.mem_cons_of_mem _ (List.mem_cons_of_mem _ (List.mem_cons_of_mem _ List.mem_cons_self)))) rfl ?_))
   refine asks_ob (C:=Sx.cx _ (cut w n0) _) [.g (xW w n0 (b :: v.ownBlock.toList))] (ι:=Unit) (fun _=>True) (fun _=>.tuple #[]) b (qcs ⟨st,si,sn,sT,sV,sL,sk,⟨o,p,q,p1,q1⟩⟩ v) (fun _ v'=>qcs ⟨st,si,sn,sT,sV,sL,sk,⟨o,p,q,p1,q1⟩⟩ v') v k xs (fun _=>k') (fun _=>xs') en_pieces_work__end rfl List.mem_cons_self (.inr (List.mem_cons_of_mem _ List.mem_cons_self)) (fun _ h=>h) (fun k hk=>?_) (fun W hW hbW hB ho=>?_) fun _ v' _ hnb hsh hR' hgl=>?_
   ·rw [List.mem_singleton.1 hk]
    exact ⟨(by first | exact List.mem_cons_self | exact List.mem_cons_of_mem _ List.mem_cons_self | exact List.mem_cons_of_mem _ (List.mem_cons_of_mem _ List.mem_cons_self) | exact List.mem_cons_of_mem _ (List.mem_cons_of_mem _ (List.mem_cons_of_mem _ List.mem_cons_self)) | exact List.mem_cons_of_mem _ (List.mem_cons_of_mem _ (List.mem_cons_of_mem _ (List.mem_cons_of_mem _ List.mem_cons_self)))),fun h=>(xW_bs.1 h).2 List.mem_cons_self,fun x hx h=>(xW_bs.1 hx).2 (List.mem_cons_of_mem _ (by simpa using h))⟩
   ·refine (pc_end (s:=⟨st,si,sn,sT,sV,sL,sk,⟨o,p,q,p1,q1⟩⟩) hbW hB ho hvb hk).mono ?_
    rintro e w' ⟨v',rfl,h1,h2,h3,h4,h5⟩
    rw [← ek,← ex] at h2
    exact ⟨(),v',trivial,rfl,h1,h2,h3,h4,h5⟩
   replace hgl:∀ g,v'.ownBlock = some g→n0≤g:=fun g h=>by have:=hgl g h; rw [show (Sx.Cx.w0 _:World).heap.size = n0 from hcs] at this; exact this
   obtain ⟨va',vc',hvf',-,-,-⟩:=hsh
   have hone':one v' = true:=by rw [hvf']; rfl
   have hR:∀ x∈[Kn.g (wK 75 24 v' k' xs'),.g (xW w n0 (b :: v.ownBlock.toList))],x∈[Kn.g (cK b (qcs ⟨st,si,sn,sT,sV,sL,sk,⟨o,p,q,p1,q1⟩⟩ v')),.g (wK 75 24 v' k' xs'),.g (xW w n0 (b :: v.ownBlock.toList))]∧b ∉ x.bs:=fun x hx=>by
    refine ⟨List.mem_cons_of_mem _ hx,?_⟩
    rcases List.mem_cons.1 hx with rfl | hx
    ·exact fun h=>hnb (wK_bs.1 h)
    ·rw [List.mem_singleton.1 hx]
     exact fun h=>(xW_bs.1 h).2 List.mem_cons_self
   have hR':=hR' _ (List.mem_singleton.2 rfl)
   repeat' (first | simp (disch:=omega) only [sxE,pieces_work__step.E,Nat.reduceAdd,Nat.reduceEqDiff,Nat.reduceMul,Nat.reduceSub,Int.reduceAdd,Int.reduceSub,Int.reduceMul,Int.reduceNeg,Int.reduceLT,Int.reduceLE,Int.reduceEq,Int.reduceToNat,↓reduceIte,Int.reducePow,Nat.reduceLeDiff,Nat.reduceLT,ne_eq,eq_self,List.length_cons,List.length_nil,kxE,qxE,x_stq,x_cSl] | (with_reducible refine ldP_blk b ?_; refine ldP_k (b:=b) rfl (by first | exact List.mem_cons_self | exact List.mem_cons_of_mem _ List.mem_cons_self | exact List.mem_cons_of_mem _ (List.mem_cons_of_mem _ List.mem_cons_self) | exact List.mem_cons_of_mem _ (List.mem_cons_of_mem _ (List.mem_cons_of_mem _ List.mem_cons_self)) | exact List.mem_cons_of_mem _ (List.mem_cons_of_mem _ (List.mem_cons_of_mem _ (List.mem_cons_of_mem _ List.mem_cons_self)))) rfl ?_))
   refine asks_bl (C:=Sx.cx _ (cut w n0) _) [.g (wK 75 24 v' k' xs'),.g (xW w n0 (b :: v.ownBlock.toList))] (ι:=Unit) (fun _=>True) (fun _=>.tuple #[]) b (qcs ⟨st,si,sn,sT,sV,sL,sk,⟨o,p,q,p1,q1⟩⟩ v') (fun _=>qcs (pcb st (si + sn) xt xv) v') en_pieces_work__begin rfl List.mem_cons_self (fun _ h=>h) hR (fun W hW hbW hB=>?_) fun _ _=>?_
   ·refine (pc_begin (s:=⟨st,si,sn,sT,sV,sL,sk,⟨o,p,q,p1,q1⟩⟩) hB hone' it hxv hi0 hi1 m0 m1).mono ?_
    rintro e w' ⟨rfl,h1,h2⟩
    exact ⟨(),trivial,rfl,h1,h2⟩
   repeat' (first | simp (disch:=omega) only [sxE,pieces_work__step.E,Nat.reduceAdd,Nat.reduceEqDiff,Nat.reduceMul,Nat.reduceSub,Int.reduceAdd,Int.reduceSub,Int.reduceMul,Int.reduceNeg,Int.reduceLT,Int.reduceLE,Int.reduceEq,Int.reduceToNat,↓reduceIte,Int.reducePow,Nat.reduceLeDiff,Nat.reduceLT,ne_eq,eq_self,List.length_cons,List.length_nil,kxE,qxE,x_stq,x_cSl] | (with_reducible refine ldP_blk b ?_; refine ldP_k (b:=b) rfl (by first | exact List.mem_cons_self | exact List.mem_cons_of_mem _ List.mem_cons_self | exact List.mem_cons_of_mem _ (List.mem_cons_of_mem _ List.mem_cons_self) | exact List.mem_cons_of_mem _ (List.mem_cons_of_mem _ (List.mem_cons_of_mem _ List.mem_cons_self)) | exact List.mem_cons_of_mem _ (List.mem_cons_of_mem _ (List.mem_cons_of_mem _ (List.mem_cons_of_mem _ List.mem_cons_self)))) rfl ?_))
   refine ⟨v',⟨hnb,fun g h=>?_⟩,rfl⟩
   rcases Nat.lt_or_ge g w.heap.size with hlt | hge
   ·by_cases hxx:g∈b :: v.ownBlock.toList
    ·rcases List.mem_cons.1 hxx with rfl | hxx
     ·exact absurd h hnb
     ·exact .inl (by simpa using hxx)
    ·exact absurd h (hR' g (xW_bs.2 ⟨⟨hgl g h,hlt⟩,hxx⟩))
   ·exact .inr hge
 ·rcases List.mem_cons.1 hk with rfl | hk
  ·exact ⟨hn0,hb⟩
  rcases List.mem_cons.1 hk with rfl | hk
  ·exact hv
  ·rw [List.mem_singleton.1 hk]
   exact xW_start hle
end Go.Proofs.YtncmmbacoknefaaGreat

/- Pb: pieces: All of the program. -/
namespace Go.Proofs.YtncmmbacoknefaaGreat
open Go Go.RowKit Sx
set_option linter.unusedVariables false
set_option linter.unusedSimpArgs false
def pc0 (t:Int):PcS:=⟨t,0,0,0,0,0,0,c0⟩
def pca (a:PcS × List PcV) (x:Int × Int):PcS × List PcV:=(pcn a.1 x.1 x.2,a.2 ++ pce a.1 x.1 x.2)
def pcf (t:Int) (ss:Smps):PcS × List PcV:=ss.foldl pca (pc0 t,[])
theorem pcf_snoc (t:Int) (ss:Smps) (x:Int × Int):pcf t (ss ++ [x]) = pca (pcf t ss) x:=by unfold pcf; rw [List.foldl_append]; rfl
def pcall (t:Int) (ss:Smps):List PcV:=(pcf t ss).2 ++ pcl (pcf t ss).1
def perz (t:Int) (ss:Smps):Int:=if tolz t then (if incr ss then (if ss.length≤1073741824 then 0 else 3) else 7) else 9
def piecz (t:Int) (ss:Smps):List PcV:=if perz t ss = 0 then pcall t ss else []
structure PcI (t:Int) (ss:Smps) (i:Nat) (a:PcS × List PcV):Prop where
 tt:a.1.t = t
 n0:0≤a.1.n
 n1:a.1.n≤i
 i0:0≤a.1.i
 ix:a.1.i + a.1.n = i
 c:0 < a.1.n→a.1.c.ok
 K:I64 a.1.k
 ke:0 < a.1.n→a.1.k = ke a.1.V t
 T:I64 a.1.T
 V:I64 a.1.V
 L:I64 a.1.L
 TL:a.1.T≤a.1.L
 z:a.1.n = 0→a.1 = pc0 t
 l:0 < i→0 < a.1.n∧a.1.L = (ss.getD (i - 1) (0,0)).1
 len:a.2.length≤i
 one:a.1.n = 1→a.1.L = a.1.T∧a.1.c = cO
 more:1 < a.1.n→a.1.T < a.1.L∧a.1.c.o = false
theorem ke_small {v t:Int} (hv:I64 v) (t0:0≤t) (t1:t≤4611686018427387904):ab (ke v t * un t) < 73786976294838206464:=by
 obtain ⟨h1,h2⟩:=ke_base v t
 have h3:=hv.1
 have h4:=hv.2
 have h5:un t≤4611686018427387904:=by unfold un; split <;> omega
 unfold ab
 split <;> omega
theorem pcl_len (s:PcS):(pcl s).length≤1:=by unfold pcl; split <;> simp
theorem pci_next {t:Int} {ss:Smps} {i:Nat} {a:PcS × List PcV} (h:PcI t ss i a) (ht:tolz t = true) (hi:i < ss.length) (hin:∀ s∈ss,I64 s.1∧I64 s.2) (hinc:incr ss = true):PcI t ss (i + 1) (pca a (ss.getD i (0,0)))∧(0 < a.1.n→a.1.T < (ss.getD i (0,0)).1):=by
 have hx:=smp_i64 hin i
 obtain ⟨t0,t1⟩:=tolz_iff.1 ht
 have hT:0 < a.1.n→a.1.T < (ss.getD i (0,0)).1:=fun hn=>by
  have h0:0 < i:=by have:=h.n1; omega
  obtain ⟨-,hL⟩:=h.l h0
  have hinc':=of_decide_eq_true hinc (i - 1) (by omega)
  rw [show i - 1 + 1 = i by omega] at hinc'
  have:=h.TL
  omega
 refine ⟨?_,hT⟩
 have hlen:(pce a.1 (ss.getD i (0,0)).1 (ss.getD i (0,0)).2).length≤1:=by
  unfold pce
  split
  ·simp
  ·exact pcl_len _
 have el:(pca a (ss.getD i (0,0))).2.length≤i + 1:=by
  show (a.2 ++ _).length≤_
  rw [List.length_append]
  have:=h.len
  omega
 have e1:i + 1 - 1 = i:=by omega
 by_cases hg:pcg a.1 (ss.getD i (0,0)).1 (ss.getD i (0,0)).2 = true
 ·have e:(pca a (ss.getD i (0,0))).1 = ⟨a.1.t,a.1.i,a.1.n + 1,a.1.T,a.1.V,(ss.getD i (0,0)).1,a.1.k,(pcm a.1 (ss.getD i (0,0)).1 (ss.getD i (0,0)).2).1⟩:=if_pos hg
  unfold pcg at hg
  rw [Bool.and_eq_true] at hg
  obtain ⟨hn,hm⟩:=hg
  have hn:=of_decide_eq_true hn
  have hT:=hT hn
  have iDt:U64 ((ss.getD i (0,0)).1 - a.1.T):=⟨by omega,by have:=hx.1.2; have:=h.T.1; omega⟩
  have hke:=h.ke hn
  have tp:=th_p (z:=a.1.k * un t) (by rw [hke]; exact ke_small h.V t0 t1) hx.2 ⟨t0,t1⟩ iDt (by omega)
  have hok:(pcm a.1 (ss.getD i (0,0)).1 (ss.getD i (0,0)).2).1.ok:=by
   unfold pcm
   rw [h.tt]
   refine cmt_ok (h.c hn) tp.cl.ok ?_
   unfold pcm at hm
   rw [h.tt] at hm
   exact hm
  have ho:(pcm a.1 (ss.getD i (0,0)).1 (ss.getD i (0,0)).2).1.o = false:=cmt_o hm
  have n1:=h.n1
  have n0:=h.n0
  refine ⟨by rw [e]; exact h.tt,by rw [e]; show 0≤a.1.n + 1; omega,by rw [e]; show a.1.n + 1≤_; omega,by rw [e]; exact h.i0,by rw [e]; show a.1.i + (a.1.n + 1) = _; have:=h.ix; omega,fun _=>by rw [e]; exact hok,by rw [e]; exact h.K,fun _=>by rw [e]; exact hke,by rw [e]; exact h.T,by rw [e]; exact h.V,by rw [e]; exact hx.1,by rw [e]; show a.1.T≤(ss.getD i (0,0)).1; omega,fun hz=>?_,fun _=>?_,el,fun hz=>?_,fun _=>by rw [e]; exact ⟨hT,ho⟩⟩
  ·rw [e] at hz
   have hz:a.1.n + 1 = 0:=hz
   omega
  ·rw [e,e1]
   exact ⟨by show 0 < a.1.n + 1; omega,rfl⟩
  ·rw [e] at hz
   have hz:a.1.n + 1 = 1:=hz
   omega
 ·have e:(pca a (ss.getD i (0,0))).1 = pcb a.1.t (a.1.i + a.1.n) (ss.getD i (0,0)).1 (ss.getD i (0,0)).2:=if_neg hg
  refine ⟨by rw [e]; exact h.tt,by rw [e]; show (0:Int)≤1; decide,by rw [e]; show (1:Int)≤_; omega,by rw [e]; show 0≤a.1.i + a.1.n; have:=h.i0; have:=h.n0; omega,by rw [e]; show a.1.i + a.1.n + 1 = _; have:=h.ix; omega,fun _=>by rw [e]; exact cO_ok,by rw [e]; exact ke_i64 hx.2,fun _=>by rw [e]; exact congrArg (ke _) h.tt,by rw [e]; exact hx.1,by rw [e]; exact hx.2,by rw [e]; exact hx.1,by rw [e]; exact Int.le_refl _,fun hz=>?_,fun _=>?_,el,fun _=>by rw [e]; exact ⟨rfl,rfl⟩,fun hz=>?_⟩
  ·rw [e] at hz
   cases hz
  ·rw [e,e1]
   exact ⟨by show (0:Int) < 1; decide,rfl⟩
  ·rw [e] at hz
   have hz:(1:Int) < 1:=hz
   omega
theorem pci_start (t:Int) (ss:Smps):PcI t ss 0 (pcf t []) :=
 ⟨rfl,Int.le_refl _,Int.le_refl _,Int.le_refl _,rfl,(fun h=>by cases h),i64_0,(fun h=>by cases h),i64_0,i64_0,i64_0,Int.le_refl _,fun _=>rfl,(fun h=>by cases h),Nat.le_refl _,(fun h=>by cases h),(fun h=>by cases h)⟩
theorem pci_at {t:Int} {ss:Smps} (ht:tolz t = true) (hin:∀ s∈ss,I64 s.1∧I64 s.2) (hinc:incr ss = true):∀ i,i≤ss.length→PcI t ss i (pcf t (ss.take i))
 | 0,_=>pci_start t ss
 | i + 1,h=>by
  rw [take_snoc' (by omega),pcf_snoc]
  exact (pci_next (pci_at ht hin hinc i (by omega)) ht (by omega) hin hinc).1
abbrev pcv (s:PcS):Value:=.agg #[.int .i64 s.t,.int .i64 s.i,.int .i64 s.n,.int .i64 s.T,.int .i64 s.V,.int .i64 s.L,.int .i64 s.k,.bool s.c.o,.bool (sg s.c.p),.int .u64 (lb0 (ab s.c.p)),.int .u64 (lb1 (ab s.c.p)),.int .u64 (lb2 (ab s.c.p)),.int .u64 (lb3 (ab s.c.p)),.bool (sg s.c.q),.int .u64 (lb0 (ab s.c.q)),.int .u64 (lb1 (ab s.c.q)),.int .u64 (lb2 (ab s.c.q)),.int .u64 (lb3 (ab s.c.q)),.bool (sg s.c.p1),.int .u64 (lb0 (ab s.c.p1)),.int .u64 (lb1 (ab s.c.p1)),.int .u64 (lb2 (ab s.c.p1)),.int .u64 (lb3 (ab s.c.p1)),.bool (sg s.c.q1),.int .u64 (lb0 (ab s.c.q1)),.int .u64 (lb1 (ab s.c.q1)),.int .u64 (lb2 (ab s.c.q1)),.int .u64 (lb3 (ab s.c.q1))]
abbrev pcZ (t:Int):Value:=.agg #[.int .i64 t,.int .i64 0,.int .i64 0,.int .i64 0,.int .i64 0,.int .i64 0,.int .i64 0,.bool false,.bool false,.int .u64 0,.int .u64 0,.int .u64 0,.int .u64 0,.bool false,.int .u64 0,.int .u64 0,.int .u64 0,.int .u64 0,.bool false,.int .u64 0,.int .u64 0,.int .u64 0,.int .u64 0,.bool false,.int .u64 0,.int .u64 0,.int .u64 0,.int .u64 0]
theorem pcv_0 (t:Int):pcv (pc0 t) = pcZ t:=by
 have y0:sg 0 = false:=rfl
 have y1:lb0 (ab 0) = 0:=rfl
 have y2:lb1 (ab 0) = 0:=rfl
 have y3:lb2 (ab 0) = 0:=rfl
 have y4:lb3 (ab 0) = 0:=rfl
 show Value.agg #[.int .i64 t,.int .i64 0,.int .i64 0,.int .i64 0,.int .i64 0,.int .i64 0,.int .i64 0,.bool false,.bool (sg 0),.int .u64 (lb0 (ab 0)),.int .u64 (lb1 (ab 0)),.int .u64 (lb2 (ab 0)),.int .u64 (lb3 (ab 0)),.bool (sg 0),.int .u64 (lb0 (ab 0)),.int .u64 (lb1 (ab 0)),.int .u64 (lb2 (ab 0)),.int .u64 (lb3 (ab 0)),.bool (sg 0),.int .u64 (lb0 (ab 0)),.int .u64 (lb1 (ab 0)),.int .u64 (lb2 (ab 0)),.int .u64 (lb3 (ab 0)),.bool (sg 0),.int .u64 (lb0 (ab 0)),.int .u64 (lb1 (ab 0)),.int .u64 (lb2 (ab 0)),.int .u64 (lb3 (ab 0))] = _
 rw [y0,y1,y2,y3,y4]
theorem gx_ptol (t:Int) (W:World):Gives Tryz.prog 119 [.int .i64 t] W (· = .bool (tolz t)):=by
 refine gives_known en_pieces_tolerable ?_
 unfold tolz
 by_cases h0:0≤t
 ·have d0:=decide_eq_true h0
  refine known_of (enter Tryz.func119 pieces_tolerable.ok (args:=[_]) (by simp) ?_)
  repeat' (first | simp (disch:=omega) only [sxE,pieces_tolerable.E,Nat.reduceAdd,Nat.reduceEqDiff,Nat.reduceMul,Nat.reduceSub,Int.reduceAdd,Int.reduceSub,Int.reduceMul,Int.reduceNeg,Int.reduceLT,Int.reduceLE,Int.reduceEq,Int.reduceToNat,↓reduceIte,Int.reducePow,Nat.reduceLeDiff,Nat.reduceLT,ne_eq,eq_self,List.length_cons,List.length_nil,qxE,d0,Bool.true_and] | (with_reducible refine cregF ?_))
 ·have d0:=decide_eq_false h0
  refine known_of (enter Tryz.func119 pieces_tolerable.ok (args:=[_]) (by simp) ?_)
  repeat' (first | simp (disch:=omega) only [sxE,pieces_tolerable.E,Nat.reduceAdd,Nat.reduceEqDiff,Nat.reduceMul,Nat.reduceSub,Int.reduceAdd,Int.reduceSub,Int.reduceMul,Int.reduceNeg,Int.reduceLT,Int.reduceLE,Int.reduceEq,Int.reduceToNat,↓reduceIte,Int.reducePow,Nat.reduceLeDiff,Nat.reduceLT,ne_eq,eq_self,List.length_cons,List.length_nil,qxE,d0,Bool.false_and] | (with_reducible refine cregF ?_))
theorem gx_pcstart (t:Int) (W:World):Gives Tryz.prog 57 [.int .i64 t] W (· = if tolz t then .tuple #[pcZ t,.int .i64 0] else .tuple #[pcZ 0,.int .i64 9]):=by
 refine gives_known en_pieces_Start ?_
 have k:=fun W=>gx_ptol t W
 cases h:tolz t
 ·rw [h] at k
  refine known_of (enter Tryz.func57 pieces_Start.ok (args:=[_]) (by simp) ?_)
  repeat' (first | simp (disch:=omega) only [sxE,pieces_Start.E,Nat.reduceAdd,Nat.reduceEqDiff,Nat.reduceMul,Nat.reduceSub,Int.reduceAdd,Int.reduceSub,Int.reduceMul,Int.reduceNeg,Int.reduceLT,Int.reduceLE,Int.reduceEq,Int.reduceToNat,↓reduceIte,Int.reducePow,Nat.reduceLeDiff,Nat.reduceLT,ne_eq,eq_self,List.length_cons,List.length_nil,qxE] | (with_reducible refine Sx.call_at (f:=119) (fun W hW=>k W) ?_) | (with_reducible refine cregF ?_))
 ·rw [h] at k
  refine known_of (enter Tryz.func57 pieces_Start.ok (args:=[_]) (by simp) ?_)
  repeat' (first | simp (disch:=omega) only [sxE,pieces_Start.E,Nat.reduceAdd,Nat.reduceEqDiff,Nat.reduceMul,Nat.reduceSub,Int.reduceAdd,Int.reduceSub,Int.reduceMul,Int.reduceNeg,Int.reduceLT,Int.reduceLE,Int.reduceEq,Int.reduceToNat,↓reduceIte,Int.reducePow,Nat.reduceLeDiff,Nat.reduceLT,ne_eq,eq_self,List.length_cons,List.length_nil,qxE] | (with_reducible refine Sx.call_at (f:=119) (fun W hW=>k W) ?_) | (with_reducible refine cregF ?_))
def PllB (w:World) (ls:List PcV) (er:Int) (en:Ending) (w':World):Prop:=∃ v,en = .returned (.tuple #[v,.int .i64 er])∧w'.ownsRow w.heap.size 75 24 v ls.length (pcells ls)∧Below w.heap.size w w'
theorem perz_tol {t:Int} {ss:Smps} (h:tolz t = false):perz t ss = 9∧piecz t ss = []:=by
 have e:perz t ss = 9:=by unfold perz; rw [h]; rfl
 exact ⟨e,by unfold piecz; rw [e]; rfl⟩
theorem perz_inc {t:Int} {ss:Smps} (h:tolz t = true) (hi:incr ss = false):perz t ss = 7∧piecz t ss = []:=by
 have e:perz t ss = 7:=by unfold perz; rw [h,hi]; rfl
 exact ⟨e,by unfold piecz; rw [e]; rfl⟩
theorem perz_lim {t:Int} {ss:Smps} (h:tolz t = true) (hi:incr ss = true) (hl:¬ ss.length≤1073741824):perz t ss = 3∧piecz t ss = []:=by
 have e:perz t ss = 3:=by unfold perz; rw [h,hi,if_pos rfl,if_pos rfl,if_neg hl]
 exact ⟨e,by unfold piecz; rw [e]; rfl⟩
theorem perz_ok {t:Int} {ss:Smps} (h:tolz t = true) (hi:incr ss = true) (hl:ss.length≤1073741824):perz t ss = 0∧piecz t ss = pcall t ss:=by
 have e:perz t ss = 0:=by unfold perz; rw [h,hi,if_pos rfl,if_pos rfl,if_pos hl]
 exact ⟨e,by unfold piecz; rw [e]; rfl⟩
set_option maxRecDepth 100000 in
set_option maxHeartbeats 2000000 in
theorem pc_all {w:World} {v:Value} {ss:Smps} {t:Int} (h:SlS w v ss) (hi:I64 t) (hn:8 * ss.length≤281474976710656):Calls Tryz.prog 35 #[v,.int .i64 t] w (PllB w (piecz t ss) (perz t ss)):=by
 obtain ⟨a,cap,rfl,h1,h2,h3,h4⟩:=id h
 have h2':=h2
 simp only [maxLen] at h2'
 refine (enterX Tryz.func35 pieces_All.ok (args:=[.slice a ss.length cap,.int .i64 t]) (R:=fun u X=>∃ v L,u = .tuple #[v,.int .i64 (perz t ss)]∧X = kX w.heap.size L∧rowOf L 75 24 v (piecz t ss).length (pcells (piecz t ss))) (by simp) ?run).mono ?fin
 case fin =>
  rintro e w' ⟨u,X,rfl,⟨v,L,rfl,rfl,hr⟩,hX,hbl,-⟩
  exact ⟨v,rfl,hr.own hX,hbl⟩
 case run =>
  have k1:=fun W=>gx_pcstart t W
  have c1:∀ W,Below w.heap.size w W→Gives Tryz.prog 94 [.slice a ss.length cap] W (· = .int .i64 (if incr ss then 0 else 7)):=fun W hW=>gives_known en_series_Check (g_check (SlS.below h hW) hn)
  by_cases ht:tolz t = true
  ·rw [if_pos ht] at k1
   by_cases hinc:incr ss = true
   ·rw [if_pos hinc] at c1
    by_cases hl:ss.length≤1073741824
    ·obtain ⟨e1,e2⟩:=perz_ok ht hinc hl
     rw [e1,e2]
     clear e1 e2
     repeat' (first | simp (disch:=omega) only [sxE,pieces_All.E,Nat.reduceAdd,Nat.reduceEqDiff,Nat.reduceMul,Nat.reduceSub,Int.reduceAdd,Int.reduceSub,Int.reduceMul,Int.reduceNeg,Int.reduceLT,Int.reduceLE,Int.reduceEq,Int.reduceToNat,↓reduceIte,Int.reducePow,Nat.reduceLeDiff,Nat.reduceLT,ne_eq,eq_self,List.length_cons,List.length_nil,qxE] | (with_reducible refine Sx.call_at (f:=57) (fun W hW=>k1 W) ?_) | (with_reducible refine cregF ?_))
     refine asks_at (fun W hW=>c1 W hW) ?_
     repeat' (first | simp (disch:=omega) only [sxE,pieces_All.E,Nat.reduceAdd,Nat.reduceEqDiff,Nat.reduceMul,Nat.reduceSub,Int.reduceAdd,Int.reduceSub,Int.reduceMul,Int.reduceNeg,Int.reduceLT,Int.reduceLE,Int.reduceEq,Int.reduceToNat,↓reduceIte,Int.reducePow,Nat.reduceLeDiff,Nat.reduceLT,ne_eq,eq_self,List.length_cons,List.length_nil,qxE] | (with_reducible refine cregF ?_))
     refine genA_az (L:=[]) (z:=.agg #[.int .i64 0,.int .i64 0,.int .i64 0,.int .i64 0,.int .i64 0,.int .i64 0,.int .i64 0,.bool false,.bool false,.int .u64 0,.int .u64 0,.int .u64 0,.int .u64 0,.bool false,.int .u64 0,.int .u64 0,.int .u64 0,.int .u64 0,.bool false,.int .u64 0,.int .u64 0,.int .u64 0,.int .u64 0,.bool false,.int .u64 0,.int .u64 0,.int .u64 0,.int .u64 0,.slice none 0 0]) [.int .i64 0,.int .i64 0,.int .i64 0,.int .i64 0,.int .i64 0,.int .i64 0,.int .i64 0,.bool false,.bool false,.int .u64 0,.int .u64 0,.int .u64 0,.int .u64 0,.bool false,.int .u64 0,.int .u64 0,.int .u64 0,.int .u64 0,.bool false,.int .u64 0,.int .u64 0,.int .u64 0,.int .u64 0,.bool false,.int .u64 0,.int .u64 0,.int .u64 0,.int .u64 0,.slice none 0 0] rfl (by kernel_rfl) (by kernel_rfl) (kX_nil _) fun b _=>?_
     repeat' (first | simp (disch:=omega) only [sxE,pieces_All.E,Nat.reduceAdd,Nat.reduceEqDiff,Nat.reduceMul,Nat.reduceSub,Int.reduceAdd,Int.reduceSub,Int.reduceMul,Int.reduceNeg,Int.reduceLT,Int.reduceLE,Int.reduceEq,Int.reduceToNat,↓reduceIte,Int.reducePow,Nat.reduceLeDiff,Nat.reduceLT,ne_eq,eq_self,List.length_cons,List.length_nil,qxE,x_stq,x_cSl] | (with_reducible refine cregF ?_))
     refine stL_c (b:=b) (R:=[]) rfl (List.mem_singleton.2 rfl) (fun k hk=>by cases hk) rfl rfl ?_
     repeat' (first | simp (disch:=omega) only [sxE,pieces_All.E,Nat.reduceAdd,Nat.reduceEqDiff,Nat.reduceMul,Nat.reduceSub,Int.reduceAdd,Int.reduceSub,Int.reduceMul,Int.reduceNeg,Int.reduceLT,Int.reduceLE,Int.reduceEq,Int.reduceToNat,↓reduceIte,Int.reducePow,Nat.reduceLeDiff,Nat.reduceLT,ne_eq,eq_self,List.length_cons,List.length_nil,qxE,x_stq,x_cSl] | (with_reducible refine cregF ?_))
     rw [pieces_All.p3_l]
     have HI:=fun i hi=>pci_at ht h3 hinc i hi
     have t01:=tolz_iff.1 ht
     refine LX_inv (fun x:Nat × Value=>⟨0,[(8,.v (.pointer (some ⟨b,0,none⟩))),(28,.v (.slice a ss.length cap)),(29,.v (.int .i64 ss.length)),(30,.v (.int .i64 (x.1:Int)))],[],kX w.heap.size [.g (cK b (qcs (pcf t (ss.take x.1)).1 x.2)),.g (wK 75 24 x.2 (pcf t (ss.take x.1)).2.length (pcells (pcf t (ss.take x.1)).2))]⟩) (fun x=>x.1≤ss.length∧x.2.ownBlock≠some b) (fun x=>ss.length - x.1) ?round (0,.slice none 0 0) ⟨Nat.zero_le _,(fun h=>by cases h)⟩ ?start
     case start =>
      have c0:((0:Nat):Int) = 0:=rfl
      simp (disch:=omega) only [sxE,pieces_All.E,Nat.reduceAdd,Nat.reduceEqDiff,Nat.reduceMul,Nat.reduceSub,Int.reduceAdd,Int.reduceSub,Int.reduceMul,Int.reduceNeg,Int.reduceLT,Int.reduceLE,Int.reduceEq,Int.reduceToNat,↓reduceIte,Int.reducePow,Nat.reduceLeDiff,Nat.reduceLT,ne_eq,eq_self,List.length_cons,List.length_nil,c0]
      refine extS_of fun k hk=>?_
      rcases List.mem_cons.1 hk with rfl | hk
      ·exact .inl (List.mem_singleton.2 rfl)
      ·rw [List.mem_singleton.1 hk]
       exact .inr ⟨rfl,fun W=>wK_nil _ _ _ W⟩
     case round =>
      rintro ⟨i,v⟩ ⟨hi',hvb⟩
      try dsimp only at hi' hvb ⊢
      by_cases hlt:i < ss.length
      ·obtain ⟨b',off,rfl,-,-⟩:=h4 (by omega)
       have hsi:=HI i hi'
       have hnx:=pci_next hsi ht hlt h3 hinc
       have enx:pcf t (ss.take (i + 1)) = pca (pcf t (ss.take i)) (ss.getD i (0,0)):=by rw [take_snoc' hlt,pcf_snoc]
       have hx:=smp_i64 h3 i
       have e0:(i:Int) + 1 = ((i + 1:Nat):Int):=by omega
       generalize hA:pcf t (ss.take i) = A at *
       clear hA h3 h4
       obtain ⟨hn1,hn2⟩:=hnx
       have hn1:=hid hn1
       have hsi:=hid hsi
       repeat' (first | simp (disch:=omega) only [sxE,pieces_All.E,Nat.reduceAdd,Nat.reduceEqDiff,Nat.reduceMul,Nat.reduceSub,Int.reduceAdd,Int.reduceSub,Int.reduceMul,Int.reduceNeg,Int.reduceLT,Int.reduceLE,Int.reduceEq,Int.reduceToNat,↓reduceIte,Int.reducePow,Nat.reduceLeDiff,Nat.reduceLT,ne_eq,eq_self,List.length_cons,List.length_nil,qxE] | (with_reducible refine ldP_blk b' ?_; refine ldP_S2 i h ?_ ?_ ?_; omega; omega) | (with_reducible refine cregF ?_))
       refine asks_ob (C:=Sx.cx _ w _) [] (ι:=Unit) (fun _=>True) (fun _=>.tuple #[]) b (qcs A.1 v) (fun _ v'=>qcs (pcn A.1 (ss.getD i (0,0)).1 (ss.getD i (0,0)).2) v') v A.2.length (pcells A.2) (fun _=>A.2.length + (pce A.1 (ss.getD i (0,0)).1 (ss.getD i (0,0)).2).length) (fun _=>pcells A.2 ++ pcells (pce A.1 (ss.getD i (0,0)).1 (ss.getD i (0,0)).2)) en_pieces_work__step rfl List.mem_cons_self (.inr (List.mem_cons_of_mem _ List.mem_cons_self)) (fun _ h=>h) (fun k hk=>by cases hk) (fun W hW hbW hB ho=>?_) fun _ v' _ hnb hsh hR' hgl=>?_
       ·have s1:=hsi.out
        refine (pc_step (xt:=(ss.getD i (0,0)).1) (xv:=(ss.getD i (0,0)).2) hbW hB ho hvb (by rw [s1.tt]; exact t01.1) (by rw [s1.tt]; exact t01.2) s1.i0 (by have:=s1.ix; have:=s1.n0; omega) s1.n0 (by have:=s1.n1; omega) s1.T s1.K (fun hz=>by rw [s1.ke hz,s1.tt]; exact ke_small s1.V t01.1 t01.2) s1.c hx.1 hx.2 hn2 (by have:=s1.len; omega)).mono ?_
        rintro e w' ⟨v',rfl,g1,g2,g3,g4,g5⟩
        exact ⟨(),v',trivial,rfl,g1,g2,g3,g4,g5⟩
       repeat' (first | simp (disch:=omega) only [sxE,pieces_All.E,Nat.reduceAdd,Nat.reduceEqDiff,Nat.reduceMul,Nat.reduceSub,Int.reduceAdd,Int.reduceSub,Int.reduceMul,Int.reduceNeg,Int.reduceLT,Int.reduceLE,Int.reduceEq,Int.reduceToNat,↓reduceIte,Int.reducePow,Nat.reduceLeDiff,Nat.reduceLT,ne_eq,eq_self,List.length_cons,List.length_nil,qxE] | (with_reducible refine cregF ?_))
       rw [e0]
       refine ⟨(i + 1,v'),⟨by dsimp only; omega,hnb⟩,by dsimp only; omega,rfl,.inl ?_⟩
       dsimp only
       rw [enx]
       unfold pca
       dsimp only
       rw [List.length_append,pcells_app]
      ·obtain rfl:i = ss.length:=by omega
       have hsi:=HI _ (Nat.le_refl _)
       rw [List.take_length] at hsi ⊢
       unfold pcall
       generalize hA:pcf t ss = A at *
       clear hA h3 h4
       have hsi:=hid hsi
       repeat' (first | simp (disch:=omega) only [sxE,pieces_All.E,Nat.reduceAdd,Nat.reduceEqDiff,Nat.reduceMul,Nat.reduceSub,Int.reduceAdd,Int.reduceSub,Int.reduceMul,Int.reduceNeg,Int.reduceLT,Int.reduceLE,Int.reduceEq,Int.reduceToNat,↓reduceIte,Int.reducePow,Nat.reduceLeDiff,Nat.reduceLT,ne_eq,eq_self,List.length_cons,List.length_nil,qxE] | (with_reducible refine cregF ?_))
       refine asks_ob (C:=Sx.cx _ w _) [] (ι:=Unit) (fun _=>True) (fun _=>.tuple #[]) b (qcs A.1 v) (fun _ v'=>qcs A.1 v') v A.2.length (pcells A.2) (fun _=>A.2.length + (pcl A.1).length) (fun _=>pcells A.2 ++ pcells (pcl A.1)) en_pieces_work__end rfl List.mem_cons_self (.inr (List.mem_cons_of_mem _ List.mem_cons_self)) (fun _ h=>h) (fun k hk=>by cases hk) (fun W hW hbW hB ho=>?_) fun _ v' _ hnb hsh hR' hgl=>?_
       ·have s1:=hsi.out
        refine (pc_end hbW hB ho hvb (by have:=s1.len; omega)).mono ?_
        rintro e w' ⟨v',rfl,g1,g2,g3,g4,g5⟩
        exact ⟨(),v',trivial,rfl,g1,g2,g3,g4,g5⟩
       repeat' (first | simp (disch:=omega) only [sxE,pieces_All.E,Nat.reduceAdd,Nat.reduceEqDiff,Nat.reduceMul,Nat.reduceSub,Int.reduceAdd,Int.reduceSub,Int.reduceMul,Int.reduceNeg,Int.reduceLT,Int.reduceLE,Int.reduceEq,Int.reduceToNat,↓reduceIte,Int.reducePow,Nat.reduceLeDiff,Nat.reduceLT,ne_eq,eq_self,List.length_cons,List.length_nil,qxE] | (with_reducible refine ldP_blk b ?_; refine ldP_k (b:=b) rfl (by first | exact List.mem_cons_self | exact List.mem_cons_of_mem _ List.mem_cons_self | exact List.mem_cons_of_mem _ (List.mem_cons_of_mem _ List.mem_cons_self) | exact List.mem_cons_of_mem _ (List.mem_cons_of_mem _ (List.mem_cons_of_mem _ List.mem_cons_self)) | exact List.mem_cons_of_mem _ (List.mem_cons_of_mem _ (List.mem_cons_of_mem _ (List.mem_cons_of_mem _ List.mem_cons_self)))) rfl ?_) | (with_reducible refine cregF ?_))
       refine ⟨v',_,rfl,rfl,.inr ?_⟩
       rw [List.length_append,pcells_app]
       exact List.mem_cons_of_mem _ (List.mem_singleton.2 rfl)
    ·obtain ⟨e1,e2⟩:=perz_lim ht hinc hl
     rw [e1,e2]
     clear e1 e2
     repeat' (first | simp (disch:=omega) only [sxE,pieces_All.E,Nat.reduceAdd,Nat.reduceEqDiff,Nat.reduceMul,Nat.reduceSub,Int.reduceAdd,Int.reduceSub,Int.reduceMul,Int.reduceNeg,Int.reduceLT,Int.reduceLE,Int.reduceEq,Int.reduceToNat,↓reduceIte,Int.reducePow,Nat.reduceLeDiff,Nat.reduceLT,ne_eq,eq_self,List.length_cons,List.length_nil,qxE] | (with_reducible refine Sx.call_at (f:=57) (fun W hW=>k1 W) ?_) | (with_reducible refine cregF ?_))
     refine asks_at (fun W hW=>c1 W hW) ?_
     repeat' (first | simp (disch:=omega) only [sxE,pieces_All.E,Nat.reduceAdd,Nat.reduceEqDiff,Nat.reduceMul,Nat.reduceSub,Int.reduceAdd,Int.reduceSub,Int.reduceMul,Int.reduceNeg,Int.reduceLT,Int.reduceLE,Int.reduceEq,Int.reduceToNat,↓reduceIte,Int.reducePow,Nat.reduceLeDiff,Nat.reduceLT,ne_eq,eq_self,List.length_cons,List.length_nil,qxE] | (with_reducible refine cregF ?_))
     exact ⟨.slice none 0 0,[],rfl,kX_nil _,.inl ⟨rfl,rfl,rfl⟩⟩
   ·obtain ⟨e1,e2⟩:=perz_inc ht (Bool.eq_false_iff.2 hinc)
    rw [if_neg hinc] at c1
    rw [e1,e2]
    clear e1 e2
    repeat' (first | simp (disch:=omega) only [sxE,pieces_All.E,Nat.reduceAdd,Nat.reduceEqDiff,Nat.reduceMul,Nat.reduceSub,Int.reduceAdd,Int.reduceSub,Int.reduceMul,Int.reduceNeg,Int.reduceLT,Int.reduceLE,Int.reduceEq,Int.reduceToNat,↓reduceIte,Int.reducePow,Nat.reduceLeDiff,Nat.reduceLT,ne_eq,eq_self,List.length_cons,List.length_nil,qxE] | (with_reducible refine Sx.call_at (f:=57) (fun W hW=>k1 W) ?_) | (with_reducible refine cregF ?_))
    refine asks_at (fun W hW=>c1 W hW) ?_
    repeat' (first | simp (disch:=omega) only [sxE,pieces_All.E,Nat.reduceAdd,Nat.reduceEqDiff,Nat.reduceMul,Nat.reduceSub,Int.reduceAdd,Int.reduceSub,Int.reduceMul,Int.reduceNeg,Int.reduceLT,Int.reduceLE,Int.reduceEq,Int.reduceToNat,↓reduceIte,Int.reducePow,Nat.reduceLeDiff,Nat.reduceLT,ne_eq,eq_self,List.length_cons,List.length_nil,qxE] | (with_reducible refine cregF ?_))
    exact ⟨.slice none 0 0,[],rfl,kX_nil _,.inl ⟨rfl,rfl,rfl⟩⟩
  ·obtain ⟨e1,e2⟩:=perz_tol (ss:=ss) (Bool.eq_false_iff.2 ht)
   rw [if_neg ht] at k1
   rw [e1,e2]
   clear e1 e2
   repeat' (first | simp (disch:=omega) only [sxE,pieces_All.E,Nat.reduceAdd,Nat.reduceEqDiff,Nat.reduceMul,Nat.reduceSub,Int.reduceAdd,Int.reduceSub,Int.reduceMul,Int.reduceNeg,Int.reduceLT,Int.reduceLE,Int.reduceEq,Int.reduceToNat,↓reduceIte,Int.reducePow,Nat.reduceLeDiff,Nat.reduceLT,ne_eq,eq_self,List.length_cons,List.length_nil,qxE] | (with_reducible refine Sx.call_at (f:=57) (fun W hW=>k1 W) ?_) | (with_reducible refine cregF ?_))
   exact ⟨.slice none 0 0,[],rfl,kX_nil _,.inl ⟨rfl,rfl,rfl⟩⟩
end Go.Proofs.YtncmmbacoknefaaGreat

/- CdP1: MADE BY PROGRAM (sxgen.py): the small code of some functions, points of it and their equations. -/
namespace Go.Proofs.YtncmmbacoknefaaGreat
open Go Go.RowKit Sx Sx.Q
set_option linter.unusedVariables false
variable (C:Cx) (R L1 L2 L3 L4:St→Prop)
namespace w19_known
abbrev r0:List G:=[Mb 0 false]
abbrev q0:=[1,2]
abbrev r1:List G:=[e 4 (.bd [.int .i64 0,.int .i64 0] [(0,1,(i 0)),(1,1,(i 7))]),e 5 (.bd [.int .i64 0,.int .i64 0] [(0,1,(i 1)),(1,1,(i 8))]),e 6 (.bd [.int .i64 0,.int .i64 0] [(0,1,(i 2)),(1,1,(i 90))]),e 7 (.gen false (.bsl 27 3 [0,1,2]) [(t 4),(t 5),(t 6)]),e 8 (.call false 35 [(t 7),(i 3)]),m 3 8,x 9 3 0,x 10 3 1,m 1 9,m 2 10]
abbrev r2:List G:=[m 11 2,bi 12 .eql 11 0,m 13 12,ym 14 13 1,y 15 13 (.len false (t 14)),y 16 13 (.bin .eql (t 15) (i 2)),w 17 13 16,m 18 17,ym 19 18 1,y 20 18 (.is 24 (t 19) (i 0)),ya 21 18 2 20,yl 22 18 21,y 23 18 (.bin .eql (t 22) (i 2)),w 24 18 23,m 25 24,ym 26 25 1,y 27 25 (.is 24 (t 26) (i 0)),ya 28 25 1 27,yl 29 25 28,y 30 25 (.bin .eql (t 29) (i 2)),w 31 25 30,m 32 31,ym 33 32 1,y 34 32 (.is 24 (t 33) (i 1)),ya 35 32 0 34,yl 36 32 35,y 37 32 (.bin .eql (t 36) (i 2)),w 38 32 37,m 39 38,ym 40 39 1,y 41 39 (.is 24 (t 40) (i 1)),ya 42 39 3 41,ya 43 39 0 42,yl 44 39 43,w 45 39 44,m 46 45,y 47 46 (.call false 62 [(i (-3)),(i 3)]),y 48 46 (.call false 50 [(i (-9))]),y 49 46 (.eqg false 37 (t 47) (t 48)),w 50 46 49,m 0 50]
abbrev c:MC:=sq [g r0 [],g r1 q0,g r2 [0],.ret]
theorem ok:compF Tryz.prog Tryz.f36 (an (rg 3) c []) = some (51,c,[(0,none)]):=by kernel_rfl
abbrev p1:=P C r2 [0] R
abbrev p2:=P C r1 q0 (p1 C R)
abbrev p3:=P C r0 [] (p2 C R)
theorem s (S:St):X C c (retK R) S = p3 C R S:=by kernel_rfl
theorem E:type_of% @s:=@s
end w19_known
namespace w19_state
abbrev q0:=[0,2,3]
abbrev z0:List Value:=[.int .i64 0,.int .i64 0,.int .i64 0,.int .i64 0,.int .i64 0,.int .i64 0,.int .i64 0,.bool false,.bool false,.int .u64 0,.int .u64 0,.int .u64 0,.int .u64 0,.bool false,.int .u64 0,.int .u64 0,.int .u64 0,.int .u64 0,.bool false,.int .u64 0,.int .u64 0,.int .u64 0,.int .u64 0,.bool false,.int .u64 0,.int .u64 0,.int .u64 0,.int .u64 0]
abbrev r0:List G:=[e 2 (.new z0),e 3 (.new [.int .i64 0,.int .i64 0])]
abbrev q1:=[0,2,3,4]
abbrev r1:List G:=[m 9 0,K1 10 17 9,K1 11 58 10,m 8 11,x 12 8 0,x 13 8 1,e 4 (.new z0),V 28 4 12,m 5 13]
abbrev q2:=[2,3,4,6]
abbrev r2:List G:=[m 14 0,e 15 (.call false 118 [(t 14),(i 12)]),m 6 15]
abbrev q3:=[2,3,4,6,7]
abbrev r3:List G:=[Mi 7 0]
abbrev q4:=[2,3,4,6,7,20]
abbrev r4:List G:=[m 16 7,bi 17 .add 16 1,m 18 6,e 19 (.len false (t 18)),b 20 .lss 17 19]
abbrev r6:List G:=[L 24 28 4,m 25 6,m 26 7,j 27 2 25 26,L 28 2 27,K2 29 89 24 28,m 23 29,x 30 23 0,x 31 23 1,x 32 23 2]
abbrev t6:List G:=[V 28 4 30]
abbrev r5:List G:=[m 21 7,bi 22 .add 21 1,m 7 22]
abbrev q5:=[2,3]
abbrev r7:List G:=[L 33 28 4,m 34 6,m 35 6,e 36 (.len false (t 35)),bi 37 .sub 36 1]
abbrev t7:GT:=br 38 (.is 2 (t 34) (t 37)) (br 39 (.ld true 2 (t 38)) (.br none none (.st true 28 (t 2) (t 33)) (.br none none (.st true 2 (t 3) (t 39)) .fin .no) .no) (.br none none (.st true 28 (t 2) (t 33)) (br 39 (.ld true 2 (t 38)) (.br none none (.st true 2 (t 3) (t 39)) .fin .no) .no) .no)) (.br none none (.st true 28 (t 2) (t 33)) (br 38 (.is 2 (t 34) (t 37)) (br 39 (.ld true 2 (t 38)) (.br none none (.st true 2 (t 3) (t 39)) .fin .no) .no) .no) .no)
abbrev c:MC:=sq [g r0 q0,g r1 q1,g r2 q2,sq [g r3 q3,.block 0 (.loop (sq [sq [g r4 q4,ci 20 .skip (.exit 0)],.block 1 (gk true false r6 t6 q3),g r5 q3]))],gh r7 t7 [4,6] q5,.ret]
theorem ok:compF Tryz.prog Tryz.f56 (an [0,1,2,3,4,6,5,7] c [(6,200010,[8,9],(up 5 ++ [(5,1),(6,0),(7,0),(8,2),(9,2)]),[]),(7,99998,[0,1,2,3,4],[],[4,6])]) = some (40,c,[(2,some (true,28)),(3,some (true,2))]):=by kernel_rfl
abbrev p1:=Ph C r7 t7 [4,6] q5 R
abbrev p3:=P C r5 q3 L1
abbrev p4:=Pc C true false r6 t6 q3 (p3 C L1)
abbrev p5:=cd (t 20) (p4 C L1) (p1 C R)
abbrev p6:=P C r4 q4 (p5 C R L1)
def p2 (S:St):Prop:=LX C (fun L1=>(p6 C R L1)) S
theorem p2_l (S:St):p2 C R S = LX C (fun L1=>(p6 C R L1)) S:=rfl
abbrev p7:=P C r3 q3 (p2 C R)
abbrev p8:=P C r2 q2 (p7 C R)
abbrev p9:=P C r1 q1 (p8 C R)
abbrev p10:=P C r0 q0 (p9 C R)
theorem s (S:St):X C c (retK R) S = p10 C R S:=by kernel_rfl
theorem E:type_of% @s:=@s
end w19_state
namespace w19_spoiled
abbrev q0:=[0,3,4]
abbrev z0:List Value:=[.int .i64 0,.int .i64 0,.int .i64 0,.int .i64 0,.int .i64 0,.int .i64 0,.int .i64 0,.bool false,.bool false,.int .u64 0,.int .u64 0,.int .u64 0,.int .u64 0,.bool false,.int .u64 0,.int .u64 0,.int .u64 0,.int .u64 0,.bool false,.int .u64 0,.int .u64 0,.int .u64 0,.int .u64 0,.bool false,.int .u64 0,.int .u64 0,.int .u64 0,.int .u64 0]
abbrev r0:List G:=[e 3 (.box true 28 (t 1)),e 4 (.new z0)]
abbrev q1:=[0,3,4,6]
abbrev r1:List G:=[m 5 0,e 6 (.call false 20 [(t 5),(i 7)])]
abbrev q2:=[0,3,4,6,11]
abbrev r3:List G:=[bi 12 .eql 6 0,m 11 12]
abbrev q3:=[3,4]
abbrev r4:List G:=[m 13 0,e 14 (.call false 20 [(t 13),(i 4)]),bi 15 .sub 14 1,a 16 2 3,v 16 15]
abbrev q4:=[0,3,4,6,17]
abbrev r5:List G:=[bi 18 .eql 6 1,m 17 18]
abbrev r6:List G:=[a 19 0 3,l 20 19,m 21 0,e 22 (.call false 20 [(t 21),(i 3)]),b 23 .sub 20 22,a 24 0 3]
abbrev t6:List G:=[v 24 23]
abbrev q5:=[0,3,4,6,25]
abbrev r7:List G:=[bi 26 .eql 6 2,m 25 26]
abbrev r8:List G:=[a 27 3 3,a 28 0 27,l 29 28,m 30 0,e 31 (.call false 20 [(t 30),(i 2)]),b 32 .sub 29 31,a 33 5 3]
abbrev t8:List G:=[v 33 32]
abbrev q6:=[0,3,4,6,34]
abbrev r9:List G:=[bi 35 .eql 6 3,m 34 35]
abbrev r10:List G:=[a 36 7 3,a 37 0 36,l 38 37,e 39 (.un .not (t 38)),a 40 7 3,a 41 0 40,v 41 39]
abbrev q7:=[0,3,4,6,42]
abbrev r11:List G:=[bi 43 .eql 6 4,m 42 43]
abbrev r12:List G:=[a 44 6 3,l 45 44,bi 46 .add 45 1,a 47 6 3,v 47 46]
abbrev q8:=[0,3,4,48]
abbrev r13:List G:=[bi 49 .eql 6 5,m 48 49]
abbrev r14:List G:=[a 50 2 3,l 51 50,e 52 (.bin .sub (i 1073741824) (t 51)),m 53 0,e 54 (.call false 20 [(t 53),(i 3)]),b 55 .add 52 54,bi 56 .sub 55 1,a 57 1 3]
abbrev t14:List G:=[v 57 56]
abbrev r2:List G:=[m 7 0,e 8 (.call false 20 [(t 7),(i 2)]),e 9 (.bin .add (i 1073741824) (t 8)),a 10 2 3,v 10 9]
abbrev r15:List G:=[L 58 28 3,V 28 4 58]
abbrev c:MC:=sq [g r0 q0,sq [g r1 q1,.block 0 (sq [g r3 q2,ci 11 (g r4 q3) (sq [g r5 q4,ci 17 (gk false false r6 t6 q3) (sq [g r7 q5,ci 25 (gk false false r8 t8 q3) (sq [g r9 q6,ci 34 (g r10 q3) (sq [g r11 q7,ci 42 (g r12 q3) (sq [g r13 q8,ci 48 (gk false false r14 t14 q3) (g r2 q3)])])])])])])],g r15 [4],.ret]
theorem ok:compF Tryz.prog Tryz.f59 (an [0,1,3,4,5,6,7,8,9,10,11,12,13,14,2,15] c [(6,300006,[],(up 3 ++ [(3,1),(4,0),(5,0)]),[]),(8,300007,[],(up 4 ++ [(4,1),(5,0),(6,0)]),[]),(14,300008,[],(up 4 ++ [(4,1),(5,0),(6,0),(7,0)]),[])]) = some (59,c,[(4,some (true,28))]):=by kernel_rfl
abbrev p1:=P C r15 [4] R
abbrev p3:=P C r4 q3 (p1 C R)
abbrev p5:=Pc C false false r6 t6 q3 (p1 C R)
abbrev p7:=Pc C false false r8 t8 q3 (p1 C R)
abbrev p9:=P C r10 q3 (p1 C R)
abbrev p11:=P C r12 q3 (p1 C R)
abbrev p13:=Pc C false false r14 t14 q3 (p1 C R)
abbrev p14:=P C r2 q3 (p1 C R)
abbrev p12:=cd (t 48) (p13 C R) (p14 C R)
abbrev p15:=P C r13 q8 (p12 C R)
abbrev p10:=cd (t 42) (p11 C R) (p15 C R)
abbrev p16:=P C r11 q7 (p10 C R)
abbrev p8:=cd (t 34) (p9 C R) (p16 C R)
abbrev p17:=P C r9 q6 (p8 C R)
abbrev p6:=cd (t 25) (p7 C R) (p17 C R)
abbrev p18:=P C r7 q5 (p6 C R)
abbrev p4:=cd (t 17) (p5 C R) (p18 C R)
abbrev p19:=P C r5 q4 (p4 C R)
abbrev p2:=cd (t 11) (p3 C R) (p19 C R)
abbrev p20:=P C r3 q2 (p2 C R)
abbrev p21:=P C r1 q1 (p20 C R)
abbrev p22:=P C r0 q0 (p21 C R)
theorem s (S:St):X C c (retK R) S = p22 C R S:=by kernel_rfl
theorem E:type_of% @s:=@s
end w19_spoiled
namespace w19_alike
abbrev q0:=[2,3]
abbrev r0:List G:=[e 2 (.box true 28 (t 0)),e 3 (.box true 2 (t 1)),Mb 4 false]
abbrev q1:=[2,3,5,6,7]
abbrev z0:List Value:=[.int .i64 0,.int .i64 0,.int .i64 0,.int .i64 0,.int .i64 0,.int .i64 0,.int .i64 0,.bool false,.bool false,.int .u64 0,.int .u64 0,.int .u64 0,.int .u64 0,.bool false,.int .u64 0,.int .u64 0,.int .u64 0,.int .u64 0,.bool false,.int .u64 0,.int .u64 0,.int .u64 0,.int .u64 0,.bool false,.int .u64 0,.int .u64 0,.int .u64 0,.int .u64 0]
abbrev r1:List G:=[L 16 28 2,L 17 2 3,K2 18 120 16 17,m 15 18,x 19 15 0,x 20 15 1,x 21 15 2,e 5 (.new z0),V 28 5 19,m 6 20,m 7 21]
abbrev q2:=[2,5,6,7,8,9,10]
abbrev r2:List G:=[L 23 28 2,L 24 2 3,K2 25 89 23 24,m 22 25,x 26 22 0,x 27 22 1,x 28 22 2,e 8 (.new z0),V 28 8 26,m 9 27,m 10 28]
abbrev q3:=[2,5,6,7,8,9,10,11,12]
abbrev r3:List G:=[L 30 28 2,K1 31 121 30,m 29 31,x 32 29 0,x 33 29 1,m 11 32,m 12 33]
abbrev q4:=[2,5,6,7,8,9,10,11,12,13,14]
abbrev r4:List G:=[L 35 28 2,K1 36 90 35,m 34 36,x 37 34 0,x 38 34 1,m 13 37,m 14 38]
abbrev r5:List G:=[L 39 28 2,k1 40 122 39,L 41 28 2,k1 42 123 41,e 43 (.bq false (t 40) (t 42)),m 44 43,ym 45 44 7,ym 46 44 10,y 47 44 (.bin .eql (t 45) (t 46)),w 48 44 47,m 49 48,y 50 49 (.ld true 28 (t 5)),y 51 49 (.ld true 28 (t 8)),y 52 49 (.eqg false 94 (t 50) (t 51)),w 53 49 52,m 54 53,ym 55 54 6,ym 56 54 9,y 57 54 (.call true 37 [(t 55),(t 56)]),w 58 54 57,m 59 58,ym 60 59 12,ym 61 59 14,y 62 59 (.bin .eql (t 60) (t 61)),w 63 59 62,m 64 63,ym 65 64 11,ym 66 64 13,y 67 64 (.call true 37 [(t 65),(t 66)]),w 68 64 67]
abbrev t5:List G:=[m 4 68]
abbrev c:MC:=sq [g r0 q0,g r1 q1,g r2 q2,g r3 q3,g r4 q4,gd r5 t5 [4],.ret]
theorem ok:compF Tryz.prog Tryz.f60 (an (rg 6) c [(5,30,[],(up 30),[])]) = some (69,c,[(4,none)]):=by kernel_rfl
abbrev p1:=Pd C r5 t5 [4] R
abbrev p2:=P C r4 q4 (p1 C R)
abbrev p3:=P C r3 q3 (p2 C R)
abbrev p4:=P C r2 q2 (p3 C R)
abbrev p5:=P C r1 q1 (p4 C R)
abbrev p6:=P C r0 q0 (p5 C R)
theorem s (S:St):X C c (retK R) S = p6 C R S:=by kernel_rfl
theorem E:type_of% @s:=@s
end w19_alike
end Go.Proofs.YtncmmbacoknefaaGreat

/- Pk: Rows of pieces; equality of pieces; law 19's known. -/
namespace Go.Proofs.YtncmmbacoknefaaGreat
open Go Go.RowKit Sx
set_option linter.unusedVariables false
set_option linter.unusedSimpArgs false
def pc_0:PcV:=⟨0,0,0,c0⟩
theorem pcells_at:∀ {ls:List PcV} {i j:Nat},i < ls.length→j < 24→(pcells ls)[24 * i + j]? = (pcell (ls.getD i pc_0))[j]?
 | [],i,j,h,_=>absurd h (Nat.not_lt_zero _)
 | x :: ls,0,j,h,hj=>by
  show (pcell x ++ pcells ls)[24 * 0 + j]? = _
  rw [List.getElem?_append_left (by show _ < 24; omega)]
  rw [Nat.mul_zero,Nat.zero_add]
  rfl
 | x :: ls,i + 1,j,h,hj=>by
  show (pcell x ++ pcells ls)[24 * (i + 1) + j]? = _
  rw [List.getElem?_append_right (by show 24≤_; omega),show 24 * (i + 1) + j - (pcell x).length = 24 * i + j from by show 24 * (i + 1) + j - 24 = _; omega]
  exact pcells_at (by simpa using h) hj
namespace Sx
variable {C:Cx} {S:St} {K:St→Prop} {d:Option Nat}
theorem ldP_q1 {L:List Kn} {e:TypeId} {g n cap o:Nat} {ls:List PcV} (i j:Nat) (x:PcV) {v:Value} (hT:(C.kn S).T = kX C.w0.heap.size L) (hm:.g (wK e 24 (.slice (some ⟨g,0,none⟩) n cap) n (pcells ls))∈L) (ho:o = 24 * i + j) (hi:i < ls.length) (hx:ls.getD i pc_0 = x) (hv:(pcell x)[j]? = some v)
  (hk:K (S.put d (.v v))):ldP C false 1 ⟨g,o,none⟩ d K S:=by
 subst ho
 subst hx
 have hj:j < 24:=(List.getElem?_eq_some_iff.1 hv).1
 exact ldP_row (b:=false) (l:=[v]) hT hm rfl (read1 (by rw [pcells_at hi hj]; exact hv)) hk
end Sx
abbrev L19:Smps:=[(0,7),(1,8),(2,90)]
abbrev A19:List PcV:=piecz 3 L19
theorem a19:A19.length = 2∧perz 3 L19 = 0∧(A19.getD 0 pc_0).k = 2∧(A19.getD 0 pc_0).n = 2∧(A19.getD 1 pc_0).i = 2∧(A19.getD 1 pc_0).c.o = true:=⟨by kernel_rfl,by kernel_rfl,by kernel_rfl,by kernel_rfl,by kernel_rfl,by kernel_rfl⟩
theorem L19_in:∀ s∈L19,I64 s.1∧I64 s.2:=by unfold I64; decide
set_option maxRecDepth 100000 in
set_option maxHeartbeats 1000000 in
theorem g_known19 (w:World):Calls Tryz.prog 36 #[] w fun e w'=>e = .returned (.bool true)∧Below w.heap.size w w':=by
 have o1:=fun W=>rx_of (x := -9) ⟨by decide,by decide⟩ W
 have kb:=fun W=>gx_base (k := -3) (t:=3) ⟨by decide,by decide⟩ ⟨by decide,by decide⟩ W
 rw [show (-3:Int) * un 3 = -9 from by decide] at kb
 have f9:Fits (-9):=(bd_i64 (x := -9) ⟨by decide,by decide⟩).fits
 obtain ⟨e1,e2,e3,e4,e5,e6⟩:=a19
 refine known_of (enter Tryz.func36 w19_known.ok (args:=[]) (by simp) ?_)
 repeat' (first | simp (disch:=omega) only [sxE,w19_known.E,Nat.reduceAdd,Nat.reduceEqDiff,Nat.reduceMul,Nat.reduceSub,Int.reduceAdd,Int.reduceSub,Int.reduceMul,Int.reduceNeg,Int.reduceLT,Int.reduceLE,Int.reduceEq,Int.reduceToNat,↓reduceIte,Int.reducePow,Nat.reduceLeDiff,Nat.reduceLT,ne_eq,eq_self,List.length_cons,List.length_nil,qxE] | (with_reducible refine cregF ?_))
 refine genA_c (L:=[]) (cs:=scells L19) (T:=58) (fun b=>.slice (some ⟨b,0,none⟩) 3 3) (kX_nil _) (fun W=>by kernel_rfl) fun b _=>?_
 repeat' (first | simp (disch:=omega) only [sxE,w19_known.E,Nat.reduceAdd,Nat.reduceEqDiff,Nat.reduceMul,Nat.reduceSub,Int.reduceAdd,Int.reduceSub,Int.reduceMul,Int.reduceNeg,Int.reduceLT,Int.reduceLE,Int.reduceEq,Int.reduceToNat,↓reduceIte,Int.reducePow,Nat.reduceLeDiff,Nat.reduceLT,ne_eq,eq_self,List.length_cons,List.length_nil,qxE] | (with_reducible refine cregF ?_))
 refine asks_rowB (L:=[.g (cK b (scells L19))]) (e:=75) (s:=24) (ι:=Unit) (fun _=>True) (fun _=>2) (fun _=>pcells A19) (fun _ v=>.tuple #[v,.int .i64 0]) en_pieces_All rfl (fun W hW hok=>?_) ?_
 ·have hb:(cK b (scells L19)).ok w.heap.size W:=hok _ List.mem_cons_self
  refine (pc_all (t:=3) (sls_cK hb.2 L19_in (by decide)) ⟨by decide,by decide⟩ (by decide)).mono ?_
  rintro e w' ⟨v,h1,h2,h3⟩
  rw [e2] at h1
  rw [e1] at h2
  exact ⟨(),v,trivial,h1,h2,h3⟩
 rintro - a1 c1 - - - hg1 -
 obtain ⟨g1,rfl⟩:=hg1 (by decide)
 have l2:0 < A19.length∧1 < A19.length:=by rw [e1]; decide
 generalize A19 = A at *
 obtain ⟨l2,l3⟩:=l2
 have v3:(pcell (A.getD 0 pc_0))[2]? = some (.int .i64 2):=by rw [← e3]; rfl
 have v4:(pcell (A.getD 0 pc_0))[1]? = some (.int .i64 2):=by rw [← e4]; rfl
 have v5:(pcell (A.getD 1 pc_0))[0]? = some (.int .i64 2):=by rw [← e5]; rfl
 have v6:(pcell (A.getD 1 pc_0))[3]? = some (.bool true):=by rw [← e6]; rfl
 have m1:(Kn.g (wK 75 24 (.slice (some ⟨g1,0,none⟩) 2 c1) 2 (pcells A)))∈([.g (wK 75 24 (.slice (some ⟨g1,0,none⟩) 2 c1) 2 (pcells A)),.g (cK b (scells L19))]:List Kn):=List.mem_cons_self
 clear e1 e2 e3 e4 e5 e6
 repeat' (first | simp (disch:=omega) only [sxE,w19_known.E,Nat.reduceAdd,Nat.reduceEqDiff,Nat.reduceMul,Nat.reduceSub,Int.reduceAdd,Int.reduceSub,Int.reduceMul,Int.reduceNeg,Int.reduceLT,Int.reduceLE,Int.reduceEq,Int.reduceToNat,↓reduceIte,Int.reducePow,Nat.reduceLeDiff,Nat.reduceLT,ne_eq,eq_self,List.length_cons,List.length_nil,qxE,beq_self_eq_true,Bool.not_false] | (with_reducible refine Sx.call_at (f:=62) (fun W hW=>kb W) ?_) | (with_reducible refine Sx.call_at (f:=50) (fun W hW=>o1 W) ?_) | (with_reducible refine ldP_self false 1 g1 ?_; first | refine ldP_q1 0 2 _ rfl m1 rfl l2 rfl v3 ?_ | refine ldP_q1 0 1 _ rfl m1 rfl l2 rfl v4 ?_ | refine ldP_q1 1 0 _ rfl m1 rfl l3 rfl v5 ?_ | refine ldP_q1 1 3 _ rfl m1 rfl l3 rfl v6 ?_) | (with_reducible refine eq_is (fun W=>by first | exact eqx_run f9 f9 W) ?_) | (with_reducible refine cregF ?_))
end Go.Proofs.YtncmmbacoknefaaGreat

/- Pd: pieces: the reference's Start, Valid, begin, line on states that samples reach. -/
namespace Go.Proofs.YtncmmbacoknefaaGreat
open Go Go.RowKit Sx
set_option linter.unusedVariables false
set_option linter.unusedSimpArgs false
structure PcG (s:PcS):Prop where
 t:tolz s.t = true
 i0:0≤s.i
 i1:s.i≤1073741824
 n0:0≤s.n
 n1:s.n≤1073741824
 c:0 < s.n→s.c.ok
 T:I64 s.T
 V:I64 s.V
 L:I64 s.L
 k:0 < s.n→s.k = ke s.V s.t
 z:s.n = 0→s = ⟨s.t,s.i,0,0,0,0,0,c0⟩
 one:s.n = 1→s.L = s.T∧s.c = cO
 more:1 < s.n→s.T < s.L∧s.c.o = false
theorem pci_g {t:Int} {ss:Smps} {i:Nat} {a:PcS × List PcV} (h:PcI t ss i a) (ht:tolz t = true) (hi:i≤1073741824):PcG a.1 :=
 ⟨by rw [h.tt]; exact ht,h.i0,by have:=h.ix; have:=h.n0; omega,h.n0,by have:=h.n1; omega,h.c,h.T,h.V,h.L,fun hn=>by rw [h.tt]; exact h.ke hn,fun hz=>by rw [h.z hz]; rfl,h.one,h.more⟩
abbrev pcY (t i:Int):Value:=.agg #[.int .i64 t,.int .i64 i,.int .i64 0,.int .i64 0,.int .i64 0,.int .i64 0,.int .i64 0,.bool false,.bool false,.int .u64 0,.int .u64 0,.int .u64 0,.int .u64 0,.bool false,.int .u64 0,.int .u64 0,.int .u64 0,.int .u64 0,.bool false,.int .u64 0,.int .u64 0,.int .u64 0,.int .u64 0,.bool false,.int .u64 0,.int .u64 0,.int .u64 0,.int .u64 0]
theorem pcv_y (t i:Int):pcv ⟨t,i,0,0,0,0,0,c0⟩ = pcY t i:=rfl
theorem guardT_pstate:Tryz.prog.eqGuardType Tryz.prog.depth 94 = false:=by kernel_rfl
theorem eq_pstate_self (t I N T V L k:Int) (o:Bool) (n:Bool) (a b c d:Int) (n1:Bool) (a1 b1 c1 d1:Int) (m:Bool) (e f g h:Int) (m1:Bool) (e1 f1 g1 h1:Int) (w:World) :
  (Op.equalIn 10000 94 (.agg #[.int .i64 t,.int .i64 I,.int .i64 N,.int .i64 T,.int .i64 V,.int .i64 L,.int .i64 k,.bool o,.bool n,.int .u64 a,.int .u64 b,.int .u64 c,.int .u64 d,.bool n1,.int .u64 a1,.int .u64 b1,.int .u64 c1,.int .u64 d1,.bool m,.int .u64 e,.int .u64 f,.int .u64 g,.int .u64 h,.bool m1,.int .u64 e1,.int .u64 f1,.int .u64 g1,.int .u64 h1]) (.agg #[.int .i64 t,.int .i64 I,.int .i64 N,.int .i64 T,.int .i64 V,.int .i64 L,.int .i64 k,.bool o,.bool n,.int .u64 a,.int .u64 b,.int .u64 c,.int .u64 d,.bool n1,.int .u64 a1,.int .u64 b1,.int .u64 c1,.int .u64 d1,.bool m,.int .u64 e,.int .u64 f,.int .u64 g,.int .u64 h,.bool m1,.int .u64 e1,.int .u64 f1,.int .u64 g1,.int .u64 h1])).run Tryz.prog w = .ok true w:=by
 have E:=fun W=>eq_cone9_self o n a b c d n1 a1 b1 c1 d1 m e f g h m1 e1 f1 g1 h1 W
 unfold KR at E
 simp [go_sem,E]
theorem eqpst_run {ng:Bool} {xo yo:Operand} (t I N T V L k:Int) (o:Bool) (n:Bool) (a b c d:Int) (n1:Bool) (a1 b1 c1 d1:Int) (m:Bool) (e f g h:Int) (m1:Bool) (e1 f1 g1 h1:Int) (W:World) :
  ((do eqGuard (if ng then .neq else .eql) 94 xo yo (.agg #[.int .i64 t,.int .i64 I,.int .i64 N,.int .i64 T,.int .i64 V,.int .i64 L,.int .i64 k,.bool o,.bool n,.int .u64 a,.int .u64 b,.int .u64 c,.int .u64 d,.bool n1,.int .u64 a1,.int .u64 b1,.int .u64 c1,.int .u64 d1,.bool m,.int .u64 e,.int .u64 f,.int .u64 g,.int .u64 h,.bool m1,.int .u64 e1,.int .u64 f1,.int .u64 g1,.int .u64 h1]) (.agg #[.int .i64 t,.int .i64 I,.int .i64 N,.int .i64 T,.int .i64 V,.int .i64 L,.int .i64 k,.bool o,.bool n,.int .u64 a,.int .u64 b,.int .u64 c,.int .u64 d,.bool n1,.int .u64 a1,.int .u64 b1,.int .u64 c1,.int .u64 d1,.bool m,.int .u64 e,.int .u64 f,.int .u64 g,.int .u64 h,.bool m1,.int .u64 e1,.int .u64 f1,.int .u64 g1,.int .u64 h1]); binOp (if ng then .neq else .eql) 94 (.agg #[.int .i64 t,.int .i64 I,.int .i64 N,.int .i64 T,.int .i64 V,.int .i64 L,.int .i64 k,.bool o,.bool n,.int .u64 a,.int .u64 b,.int .u64 c,.int .u64 d,.bool n1,.int .u64 a1,.int .u64 b1,.int .u64 c1,.int .u64 d1,.bool m,.int .u64 e,.int .u64 f,.int .u64 g,.int .u64 h,.bool m1,.int .u64 e1,.int .u64 f1,.int .u64 g1,.int .u64 h1]) (.agg #[.int .i64 t,.int .i64 I,.int .i64 N,.int .i64 T,.int .i64 V,.int .i64 L,.int .i64 k,.bool o,.bool n,.int .u64 a,.int .u64 b,.int .u64 c,.int .u64 d,.bool n1,.int .u64 a1,.int .u64 b1,.int .u64 c1,.int .u64 d1,.bool m,.int .u64 e,.int .u64 f,.int .u64 g,.int .u64 h,.bool m1,.int .u64 e1,.int .u64 f1,.int .u64 g1,.int .u64 h1])):Sem Value).run Tryz.prog W = .ok (.bool (!ng)) W :=
 (eqb_run (ng:=ng) (xo:=xo) (yo:=yo) guardT_pstate (eq_pstate_self t I N T V L k o n a b c d n1 a1 b1 c1 d1 m e f g h m1 e1 f1 g1 h1 W)).trans (by cases ng <;> rfl)
theorem rx_pcstart {t:Int} (hi:I64 t) (W:World):Gives Tryz.prog 58 [.int .i64 t] W (· = if tolz t then .tuple #[pcZ t,.int .i64 0] else .tuple #[pcZ 0,.int .i64 9]):=by
 refine gives_known en_r19_Start ?_
 have k:=fun W=>rx_tol hi W
 have e:decide (0≤t∧t≤4611686018427387904) = tolz t:=by unfold tolz; rw [Bool.decide_and]
 rw [e] at k
 cases h:tolz t
 ·rw [h] at k
  refine known_of (enter Tryz.func58 r19_Start.ok (args:=[_]) (by simp) ?_)
  repeat' (first | simp (disch:=omega) only [sxE,r19_Start.E,Nat.reduceAdd,Nat.reduceEqDiff,Nat.reduceMul,Nat.reduceSub,Int.reduceAdd,Int.reduceSub,Int.reduceMul,Int.reduceNeg,Int.reduceLT,Int.reduceLE,Int.reduceEq,Int.reduceToNat,↓reduceIte,Int.reducePow,Nat.reduceLeDiff,Nat.reduceLT,ne_eq,eq_self,List.length_cons,List.length_nil,qxE] | (with_reducible refine Sx.call_at (f:=93) (fun W hW=>k W) ?_) | (with_reducible refine cregF ?_))
 ·rw [h] at k
  refine known_of (enter Tryz.func58 r19_Start.ok (args:=[_]) (by simp) ?_)
  repeat' (first | simp (disch:=omega) only [sxE,r19_Start.E,Nat.reduceAdd,Nat.reduceEqDiff,Nat.reduceMul,Nat.reduceSub,Int.reduceAdd,Int.reduceSub,Int.reduceMul,Int.reduceNeg,Int.reduceLT,Int.reduceLE,Int.reduceEq,Int.reduceToNat,↓reduceIte,Int.reducePow,Nat.reduceLeDiff,Nat.reduceLT,ne_eq,eq_self,List.length_cons,List.length_nil,qxE] | (with_reducible refine Sx.call_at (f:=93) (fun W hW=>k W) ?_) | (with_reducible refine cregF ?_))
theorem rx_unit (t:Int) (W:World):Gives Tryz.prog 98 [.int .i64 t] W (· = .int .i64 (un t)):=by
 refine gives_known en_r19_unit ?_
 unfold un
 refine known_of (enter Tryz.func98 r19_unit.ok (args:=[_]) (by simp) ?_)
 repeat' (first | simp (disch:=omega) only [sxE,r19_unit.E,Nat.reduceAdd,Nat.reduceEqDiff,Nat.reduceMul,Nat.reduceSub,Int.reduceAdd,Int.reduceSub,Int.reduceMul,Int.reduceNeg,Int.reduceLT,Int.reduceLE,Int.reduceEq,Int.reduceToNat,↓reduceIte,Int.reducePow,Nat.reduceLeDiff,Nat.reduceLT,ne_eq,eq_self,List.length_cons,List.length_nil,qxE] | (with_reducible refine cregF ?_))
theorem rx_floordiv {a b:Int} (ha:I64 a) (h:0 < b) (W:World):Gives Tryz.prog 97 [.int .i64 a,.int .i64 b] W (· = .tuple #[.int .i64 (a / b),.bool true]):=by
 refine gives_known en_r01_FloorDiv ?_
 have hf:=fdiv_tdiv (a:=a) h
 have hi:=ediv_i64 ha h
 have d2:decide (b < 0) = false:=decide_eq_false (by omega)
 have x0:((0:Int) == 0) = true:=rfl
 have x1:(true == false) = false:=rfl
 have x2:(false == false) = true:=rfl
 have b0:(b == 0) = false:=beq_eq_false_iff_ne.2 (by omega)
 have b1:(b == -1) = false:=beq_eq_false_iff_ne.2 (by omega)
 refine known_of (enter Tryz.func97 r01_FloorDiv.ok (args:=[_,_]) (by simp) ?_)
 rcases Int.lt_or_le a 0 with ha0 | ha0
 ·have d1:decide (a < 0) = true:=decide_eq_true ha0
  by_cases hr:a.tmod b = 0
  ·rw [if_neg (fun h=>h.1 hr)] at hf
   have hw:IntKind.i64.wrap (a.tdiv b) = a / b:=by rw [← hf]; exact IntWalk.i64_in _ hi
   clear hf hi
   generalize a / b = Q at *
   repeat' (first | simp (disch:=omega) only [sxE,r01_FloorDiv.E,Nat.reduceAdd,Nat.reduceEqDiff,Nat.reduceMul,Nat.reduceSub,Int.reduceAdd,Int.reduceSub,Int.reduceMul,Int.reduceNeg,Int.reduceLT,Int.reduceLE,Int.reduceEq,Int.reduceToNat,↓reduceIte,Int.reducePow,Nat.reduceLeDiff,Nat.reduceLT,ne_eq,eq_self,List.length_cons,List.length_nil,qxE,hw,hr,b0,b1,x0,d1,d2,x1,x2,Bool.not_true] | ((with_reducible first | apply cond_beq | apply gd_beq) <;> (intro hc; first | simp only [beq_iff_eq.2 hc] | simp only [beq_eq_false_iff_ne.2 hc] | skip)) | ((with_reducible first | apply cond_dec | apply gd_dec) <;> (intro hc; first | simp only [decide_eq_true hc] | simp only [decide_eq_false hc] | skip)) | ((with_reducible first | apply cond_of | apply gd_of) <;> (intro hc; try simp only [hc])) | (with_reducible refine cregF ?_))
  ·rw [if_pos ⟨hr,ha0⟩] at hf
   have h1:=Int.ediv_neg_of_neg_of_pos ha0 h
   have h2:=hi.1
   have hw:IntKind.i64.wrap (a.tdiv b) = a / b + 1:=by rw [show a.tdiv b = a / b + 1 by omega]; exact IntWalk.i64_in _ ⟨by omega,by omega⟩
   clear hf hi
   generalize a / b = Q at *
   have e:Q + 1 - 1 = Q:=by omega
   have r1:(a.tmod b == 0) = false:=beq_eq_false_iff_ne.2 hr
   repeat' (first | simp (disch:=omega) only [sxE,r01_FloorDiv.E,Nat.reduceAdd,Nat.reduceEqDiff,Nat.reduceMul,Nat.reduceSub,Int.reduceAdd,Int.reduceSub,Int.reduceMul,Int.reduceNeg,Int.reduceLT,Int.reduceLE,Int.reduceEq,Int.reduceToNat,↓reduceIte,Int.reducePow,Nat.reduceLeDiff,Nat.reduceLT,ne_eq,eq_self,List.length_cons,List.length_nil,qxE,hw,e,r1,b0,b1,d1,d2,x1,x2,Bool.not_true] | ((with_reducible first | apply cond_beq | apply gd_beq) <;> (intro hc; first | simp only [beq_iff_eq.2 hc] | simp only [beq_eq_false_iff_ne.2 hc] | skip)) | ((with_reducible first | apply cond_dec | apply gd_dec) <;> (intro hc; first | simp only [decide_eq_true hc] | simp only [decide_eq_false hc] | skip)) | ((with_reducible first | apply cond_of | apply gd_of) <;> (intro hc; try simp only [hc])) | (with_reducible refine cregF ?_))
 ·have hw:IntKind.i64.wrap (a / b) = a / b:=IntWalk.i64_in _ hi
  have d1:decide (a < 0) = false:=decide_eq_false (by omega)
  have am:(a == -9223372036854775808) = false:=beq_eq_false_iff_ne.2 (by omega)
  clear hf hi
  repeat' (first | simp (disch:=omega) only [sxE,r01_FloorDiv.E,Nat.reduceAdd,Nat.reduceEqDiff,Nat.reduceMul,Nat.reduceSub,Int.reduceAdd,Int.reduceSub,Int.reduceMul,Int.reduceNeg,Int.reduceLT,Int.reduceLE,Int.reduceEq,Int.reduceToNat,↓reduceIte,Int.reducePow,Nat.reduceLeDiff,Nat.reduceLT,ne_eq,eq_self,List.length_cons,List.length_nil,qxE,hw,am,b0,b1,d1,d2,x1,x2,Bool.not_true] | ((with_reducible first | apply cond_beq | apply gd_beq) <;> (intro hc; first | simp only [beq_iff_eq.2 hc] | simp only [beq_eq_false_iff_ne.2 hc] | skip)) | ((with_reducible first | apply cond_dec | apply gd_dec) <;> (intro hc; first | simp only [decide_eq_true hc] | simp only [decide_eq_false hc] | skip)) | ((with_reducible first | apply cond_of | apply gd_of) <;> (intro hc; try simp only [hc])) | (with_reducible refine cregF ?_))
theorem rx_key {v t:Int} (hv:I64 v) (ht:I64 t) (W:World):Gives Tryz.prog 38 [.int .i64 v,.int .i64 t] W (· = .int .i64 (ke v t)):=by
 refine gives_known en_r19_Key ?_
 have k1:=fun W=>rx_unit t W
 have k2:=fun W=>rx_floordiv hv (un_pos t) W
 unfold ke
 generalize un t = u at *
 refine known_of (enter Tryz.func38 r19_Key.ok (args:=[_,_]) (by simp) ?_)
 repeat' (first | simp (disch:=omega) only [sxE,r19_Key.E,Nat.reduceAdd,Nat.reduceEqDiff,Nat.reduceMul,Nat.reduceSub,Int.reduceAdd,Int.reduceSub,Int.reduceMul,Int.reduceNeg,Int.reduceLT,Int.reduceLE,Int.reduceEq,Int.reduceToNat,↓reduceIte,Int.reducePow,Nat.reduceLeDiff,Nat.reduceLT,ne_eq,eq_self,List.length_cons,List.length_nil,qxE] | (with_reducible refine Sx.call_at (f:=98) (fun W hW=>k1 W) ?_) | (with_reducible refine Sx.call_at (f:=97) (fun W hW=>k2 W) ?_) | (with_reducible refine cregF ?_))
theorem rx_base {k t:Int} (hk:I64 k) (ht:I64 t) (W:World):Gives Tryz.prog 41 [.int .i64 k,.int .i64 t] W (· = WX (k * un t)):=by
 refine gives_known en_r19_Base ?_
 have k1:=fun W=>rx_unit t W
 have o1:=fun W=>rx_of hk W
 have o2:=fun W=>rx_of (un_i64 ht) W
 have f1:=(bd_i64 hk).fits
 have f2:=(bd_i64 (un_i64 ht)).fits
 have f3:=(bd_mul (bd_i64 hk) (bd_i64 (un_i64 ht))).fits
 have mu:=fun W=>rx_mul f1 f2 f3 W
 generalize un t = u at *
 refine known_of (enter Tryz.func41 r19_Base.ok (args:=[_,_]) (by simp) ?_)
 repeat' (first | simp (disch:=omega) only [sxE,r19_Base.E,Nat.reduceAdd,Nat.reduceEqDiff,Nat.reduceMul,Nat.reduceSub,Int.reduceAdd,Int.reduceSub,Int.reduceMul,Int.reduceNeg,Int.reduceLT,Int.reduceLE,Int.reduceEq,Int.reduceToNat,↓reduceIte,Int.reducePow,Nat.reduceLeDiff,Nat.reduceLT,ne_eq,eq_self,List.length_cons,List.length_nil,qxE] | (with_reducible refine Sx.call_at (f:=98) (fun W hW=>k1 W) ?_) | (with_reducible refine Sx.call_at (f:=50) (fun W hW=>o1 W) ?_) | (with_reducible refine Sx.call_at (f:=50) (fun W hW=>o2 W) ?_) | (with_reducible refine Sx.call_at (f:=76) (fun W hW=>mu W) ?_) | (with_reducible refine cregF ?_))
theorem rx_pcbegin {s:PcS} (ht:I64 s.t) (i0:0≤s.i) (i1:s.i≤1073741824) (n0:0≤s.n) (n1:s.n≤1073741824) {xt xv:Int} (hx:I64 xv) (W:World):Gives Tryz.prog 145 [pcv s,.agg #[.int .i64 xt,.int .i64 xv]] W (· = pcv (pcb s.t (s.i + s.n) xt xv)):=by
 refine gives_known en_r19_begin ?_
 have k:=fun W=>rx_kstart W
 have kk:=fun W=>rx_key hx ht W
 obtain ⟨st,si,sn,sT,sV,sL,sk,⟨o,p,q,p1,q1⟩⟩:=s
 dsimp only at *
 refine known_of (enter Tryz.func145 r19_begin.ok (args:=[_,_]) (by simp) ?_)
 repeat' (first | simp (disch:=omega) only [sxE,r19_begin.E,Nat.reduceAdd,Nat.reduceEqDiff,Nat.reduceMul,Nat.reduceSub,Int.reduceAdd,Int.reduceSub,Int.reduceMul,Int.reduceNeg,Int.reduceLT,Int.reduceLE,Int.reduceEq,Int.reduceToNat,↓reduceIte,Int.reducePow,Nat.reduceLeDiff,Nat.reduceLT,ne_eq,eq_self,List.length_cons,List.length_nil,qxE,kxE] | (with_reducible refine Sx.call_at (f:=55) (fun W hW=>k W) ?_) | (with_reducible refine Sx.call_at (f:=38) (fun W hW=>kk W) ?_) | (with_reducible refine cregF ?_))
 rfl
theorem rx_pcvalid {s:PcS} (h:PcG s) (W:World):Gives Tryz.prog 123 [pcv s] W (· = .bool true):=by
 refine gives_known en_r19_Valid ?_
 obtain ⟨t0,t1⟩:=tolz_iff.1 h.t
 have it:I64 s.t:=⟨by omega,by omega⟩
 have k1:=fun W=>rx_tol it W
 rw [decide_eq_true (show 0≤s.t∧s.t≤4611686018427387904 from ⟨t0,t1⟩)] at k1
 have i0:=h.i0
 have i1:=h.i1
 have kk:=fun W=>rx_key h.V it W
 by_cases h0:s.n = 0
 ·rw [h.z h0,pcv_y]
  generalize s.t = t at *
  generalize s.i = i at *
  clear h h0 kk
  refine known_of (enter Tryz.func123 r19_Valid.ok (args:=[_]) (by simp) ?_)
  repeat' (first | simp (disch:=omega) only [sxE,r19_Valid.E,Nat.reduceAdd,Nat.reduceEqDiff,Nat.reduceMul,Nat.reduceSub,Int.reduceAdd,Int.reduceSub,Int.reduceMul,Int.reduceNeg,Int.reduceLT,Int.reduceLE,Int.reduceEq,Int.reduceToNat,↓reduceIte,Int.reducePow,Nat.reduceLeDiff,Nat.reduceLT,ne_eq,eq_self,List.length_cons,List.length_nil,qxE,kxE,beq_self_eq_true,Bool.not_false,Bool.not_true] | (with_reducible refine Sx.call_at (f:=93) (fun W hW=>k1 W) ?_) | (with_reducible refine eq_is (fun W=>by exact eqpst_run _ _ _ _ _ _ _ _ _ _ _ _ _ _ _ _ _ _ _ _ _ _ _ _ _ _ _ _ W) ?_) | (with_reducible refine cregF ?_))
 have hk:=h.k (by have:=h.n0; omega)
 by_cases h1:s.n = 1
 ·obtain ⟨e1,e2⟩:=h.one h1
  obtain ⟨t,i,n,T,V,L,k,c⟩:=s
  dsimp only at *
  subst e1 e2 h1 hk
  have k2:=fun W=>rx_kstart W
  clear h it h0
  generalize ke V t = K at *
  show Calls _ _ #[.agg #[.int .i64 t,.int .i64 i,.int .i64 1,.int .i64 L,.int .i64 V,.int .i64 L,.int .i64 K,.bool true,.bool (sg 0),.int .u64 (lb0 (ab 0)),.int .u64 (lb1 (ab 0)),.int .u64 (lb2 (ab 0)),.int .u64 (lb3 (ab 0)),.bool (sg 0),.int .u64 (lb0 (ab 0)),.int .u64 (lb1 (ab 0)),.int .u64 (lb2 (ab 0)),.int .u64 (lb3 (ab 0)),.bool (sg 0),.int .u64 (lb0 (ab 0)),.int .u64 (lb1 (ab 0)),.int .u64 (lb2 (ab 0)),.int .u64 (lb3 (ab 0)),.bool (sg 0),.int .u64 (lb0 (ab 0)),.int .u64 (lb1 (ab 0)),.int .u64 (lb2 (ab 0)),.int .u64 (lb3 (ab 0))]] _ _
  refine known_of (enter Tryz.func123 r19_Valid.ok (args:=[_]) (by simp) ?_)
  repeat' (first | simp (disch:=omega) only [sxE,r19_Valid.E,Nat.reduceAdd,Nat.reduceEqDiff,Nat.reduceMul,Nat.reduceSub,Int.reduceAdd,Int.reduceSub,Int.reduceMul,Int.reduceNeg,Int.reduceLT,Int.reduceLE,Int.reduceEq,Int.reduceToNat,↓reduceIte,Int.reducePow,Nat.reduceLeDiff,Nat.reduceLT,ne_eq,eq_self,List.length_cons,List.length_nil,qxE,kxE,beq_self_eq_true,Bool.not_false,Bool.not_true] | (with_reducible refine Sx.call_at (f:=93) (fun W hW=>k1 W) ?_) | (with_reducible refine Sx.call_at (f:=55) (fun W hW=>k2 W) ?_) | (with_reducible refine Sx.call_at (f:=38) (fun W hW=>kk W) ?_) | (with_reducible refine eq_is (fun W=>by exact eqkx_run W) ?_) | (with_reducible refine cregF ?_))
 ·have hn:1 < s.n:=by have:=h.n0; omega
  obtain ⟨hL,ho⟩:=h.more hn
  have k2:=(kv_ok (h.c (by omega))).v2
  have hm:=h.n1
  obtain ⟨t,i,n,T,V,L,k,⟨o,p,q,p1,q1⟩⟩:=s
  dsimp only at *
  subst ho hk
  have k2:∀ W,Gives Tryz.prog 39 [KX false p q p1 q1] W (· = .bool true):=k2
  clear h it
  generalize ke V t = K at *
  refine known_of (enter Tryz.func123 r19_Valid.ok (args:=[_]) (by simp) ?_)
  repeat' (first | simp (disch:=omega) only [sxE,r19_Valid.E,Nat.reduceAdd,Nat.reduceEqDiff,Nat.reduceMul,Nat.reduceSub,Int.reduceAdd,Int.reduceSub,Int.reduceMul,Int.reduceNeg,Int.reduceLT,Int.reduceLE,Int.reduceEq,Int.reduceToNat,↓reduceIte,Int.reducePow,Nat.reduceLeDiff,Nat.reduceLT,ne_eq,eq_self,List.length_cons,List.length_nil,qxE,kxE,beq_self_eq_true,Bool.not_false,Bool.not_true] | (with_reducible refine Sx.call_at (f:=93) (fun W hW=>k1 W) ?_) | (with_reducible refine Sx.call_at (f:=39) (fun W hW=>k2 W) ?_) | (with_reducible refine Sx.call_at (f:=38) (fun W hW=>kk W) ?_) | (with_reducible refine cregF ?_))
end Go.Proofs.YtncmmbacoknefaaGreat

/- Pf: pieces: the reference's Step, Finish, All and Same. -/
namespace Go.Proofs.YtncmmbacoknefaaGreat
open Go Go.RowKit Sx
set_option linter.unusedVariables false
set_option linter.unusedSimpArgs false
def pstz (s:PcS) (xt xv:Int):Value × List PcV × Int:=if 0 < s.n∧xt≤s.L then (pcZ 0,[],7) else if 1073741824≤s.i + s.n then (pcZ 0,[],3) else (pcv (pcn s xt xv),pce s xt xv,0)
theorem pstz_ok {s:PcS} {xt xv:Int} (h1:¬ (0 < s.n∧xt≤s.L)) (h2:¬ 1073741824≤s.i + s.n):pstz s xt xv = (pcv (pcn s xt xv),pce s xt xv,0):=by
 unfold pstz
 rw [if_neg h1,if_neg h2]
def PtpB (w:World) (r:Value × List PcV × Int) (en:Ending) (w':World):Prop:=∃ v,en = .returned (.tuple #[r.1,v,.int .i64 r.2.2])∧w'.ownsRow w.heap.size 75 24 v r.2.1.length (pcells r.2.1)∧Below w.heap.size w w'
set_option maxRecDepth 100000 in
theorem rx_pcfin {w:World} {s:PcS} (h:PcG s):Calls Tryz.prog 90 #[pcv s] w (PllB w (pcl s) 0):=by
 refine (enterX Tryz.func90 r19_Finish.ok (args:=[pcv s]) (R:=fun u X=>∃ v L,u = .tuple #[v,.int .i64 0]∧X = kX w.heap.size L∧rowOf L 75 24 v (pcl s).length (pcells (pcl s))) (by simp) ?run).mono ?fin
 case fin =>
  rintro e w' ⟨u,X,rfl,⟨v,L,rfl,rfl,hr⟩,hX,hbl,-⟩
  exact ⟨v,rfl,hr.own hX,hbl⟩
 case run =>
  have kv:=fun W=>rx_pcvalid h W
  by_cases hn:0 < s.n
  ·have e:pcl s = [⟨s.i,s.n,s.k,s.c⟩]:=if_pos hn
   rw [e]
   clear e h
   obtain ⟨st,si,sn,sT,sV,sL,sk,⟨o,p,q,p1,q1⟩⟩:=s
   dsimp only at *
   repeat' (first | simp (disch:=omega) only [sxE,r19_Finish.E,Nat.reduceAdd,Nat.reduceEqDiff,Nat.reduceMul,Nat.reduceSub,Int.reduceAdd,Int.reduceSub,Int.reduceMul,Int.reduceNeg,Int.reduceLT,Int.reduceLE,Int.reduceEq,Int.reduceToNat,↓reduceIte,Int.reducePow,Nat.reduceLeDiff,Nat.reduceLT,ne_eq,eq_self,List.length_cons,List.length_nil,qxE,kxE,Bool.not_true,Bool.not_false] | (with_reducible refine Sx.call_at (f:=123) (fun W hW=>kv W) ?_) | (refine genA_w (L:=[]) (cs:=pcell ⟨si,sn,sk,⟨o,p,q,p1,q1⟩⟩) (e:=75) (s:=24) (n:=1) (kX_nil _) (by simp [maxLen]) rfl (fun W=>by kernel_rfl) fun b hb=>?_) | (with_reducible refine cregF ?_))
   exact ⟨_,_,rfl,rfl,.inr (List.mem_singleton.2 rfl)⟩
  ·have e:pcl s = []:=if_neg hn
   rw [e]
   have hz:s.n = 0:=by have:=h.n0; omega
   rw [h.z hz,pcv_y] at kv ⊢
   generalize s.t = t at *
   generalize s.i = i0 at *
   clear e h hn hz
   repeat' (first | simp (disch:=omega) only [sxE,r19_Finish.E,Nat.reduceAdd,Nat.reduceEqDiff,Nat.reduceMul,Nat.reduceSub,Int.reduceAdd,Int.reduceSub,Int.reduceMul,Int.reduceNeg,Int.reduceLT,Int.reduceLE,Int.reduceEq,Int.reduceToNat,↓reduceIte,Int.reducePow,Nat.reduceLeDiff,Nat.reduceLT,ne_eq,eq_self,List.length_cons,List.length_nil,qxE,kxE,Bool.not_true,beq_self_eq_true] | (with_reducible refine Sx.call_at (f:=123) (fun W hW=>kv W) ?_) | (with_reducible refine cregF ?_))
   exact ⟨.slice none 0 0,[],rfl,kX_nil _,.inl ⟨rfl,rfl,rfl⟩⟩
set_option maxRecDepth 100000 in
set_option maxHeartbeats 2000000 in
theorem rx_pcstep {w:World} {s:PcS} {xt xv:Int} (h:PcG s) (hxt:I64 xt) (hxv:I64 xv):Calls Tryz.prog 89 #[pcv s,.agg #[.int .i64 xt,.int .i64 xv]] w (PtpB w (pstz s xt xv)):=by
 refine (enterX Tryz.func89 r19_Step.ok (args:=[pcv s,.agg #[.int .i64 xt,.int .i64 xv]]) (R:=fun u X=>∃ v L,u = .tuple #[(pstz s xt xv).1,v,.int .i64 (pstz s xt xv).2.2]∧X = kX w.heap.size L∧rowOf L 75 24 v (pstz s xt xv).2.1.length (pcells (pstz s xt xv).2.1)) (by simp) ?run).mono ?fin
 case fin =>
  rintro e w' ⟨u,X,rfl,⟨v,L,rfl,rfl,hr⟩,hX,hbl,-⟩
  exact ⟨v,rfl,hr.own hX,hbl⟩
 case run =>
  have kv:=fun W=>rx_pcvalid h W
  obtain ⟨t0,t1⟩:=tolz_iff.1 h.t
  have it:I64 s.t:=⟨by omega,by omega⟩
  have i1:=h.i1
  have i0:=h.i0
  have kb:=fun W=>rx_pcbegin (s:=s) it h.i0 h.i1 h.n0 h.n1 (xt:=xt) hxv W
  have m1:=h.n1
  have m0:=h.n0
  by_cases hn:0 < s.n
  ·by_cases hle:xt≤s.L
   ·have e:pstz s xt xv = (pcZ 0,[],7):=if_pos ⟨hn,hle⟩
    rw [e]
    clear e h kb
    obtain ⟨st,si,sn,sT,sV,sL,sk,⟨o,p,q,p1,q1⟩⟩:=s
    dsimp only at *
    repeat' (first | simp (disch:=omega) only [sxE,r19_Step.E,Nat.reduceAdd,Nat.reduceEqDiff,Nat.reduceMul,Nat.reduceSub,Int.reduceAdd,Int.reduceSub,Int.reduceMul,Int.reduceNeg,Int.reduceLT,Int.reduceLE,Int.reduceEq,Int.reduceToNat,↓reduceIte,Int.reducePow,Nat.reduceLeDiff,Nat.reduceLT,ne_eq,eq_self,List.length_cons,List.length_nil,qxE,kxE,Bool.not_true] | (with_reducible refine Sx.call_at (f:=123) (fun W hW=>kv W) ?_) | (with_reducible refine cregF ?_))
    exact ⟨.slice none 0 0,[],rfl,kX_nil _,.inl ⟨rfl,rfl,rfl⟩⟩
   ·by_cases hmax:1073741824≤s.i + s.n
    ·have e:pstz s xt xv = (pcZ 0,[],3):=by unfold pstz; rw [if_neg (fun h=>hle h.2),if_pos hmax]
     rw [e]
     clear e h kb
     obtain ⟨st,si,sn,sT,sV,sL,sk,⟨o,p,q,p1,q1⟩⟩:=s
     dsimp only at *
     repeat' (first | simp (disch:=omega) only [sxE,r19_Step.E,Nat.reduceAdd,Nat.reduceEqDiff,Nat.reduceMul,Nat.reduceSub,Int.reduceAdd,Int.reduceSub,Int.reduceMul,Int.reduceNeg,Int.reduceLT,Int.reduceLE,Int.reduceEq,Int.reduceToNat,↓reduceIte,Int.reducePow,Nat.reduceLeDiff,Nat.reduceLT,ne_eq,eq_self,List.length_cons,List.length_nil,qxE,kxE,Bool.not_true] | (with_reducible refine Sx.call_at (f:=123) (fun W hW=>kv W) ?_) | (with_reducible refine cregF ?_))
     exact ⟨.slice none 0 0,[],rfl,kX_nil _,.inl ⟨rfl,rfl,rfl⟩⟩
    ·rw [pstz_ok (fun h=>hle h.2) hmax]
     have hc:=h.c hn
     have iT:=h.T
     have hk:=h.k hn
     have hz:ab (s.k * un s.t) < 73786976294838206464:=by rw [hk]; exact ke_small h.V t0 t1
     have iK:I64 s.k:=by rw [hk]; exact ke_i64 h.V
     have fi:∀ W,Calls Tryz.prog 90 #[pcv s] W (PllB W (pcl s) 0):=fun W=>rx_pcfin h
     have hTL:s.T≤s.L:=by
      by_cases h1:s.n = 1
      ·exact Int.le_of_eq (h.one h1).1.symm
      ·exact Int.le_of_lt (h.more (by omega)).1
     have hx:s.T < xt:=by omega
     clear h hk
     obtain ⟨st,si,sn,sT,sV,sL,sk,⟨o,p,q,p1,q1⟩⟩:=s
     dsimp only at *
     have d1:=fun W=>rx_sdist hxt iT (Int.le_of_lt hx) W
     have o1:=fun W=>rx_base iK it W
     have fz:Fits (sk * un st):=(bd_mul (bd_i64 iK) (bd_i64 (un_i64 it))).fits
     have iDt:U64 (xt - sT):=⟨by omega,by have:=hxt.2; have:=iT.1; omega⟩
     have th:=fun W=>rx_through fz.rw hxv ⟨by omega,by omega⟩ iDt (eps:=st) W
     rw [thV_yes hz t0 t1 (by omega)] at th
     have tp:=th_p hz hxv ⟨t0,t1⟩ iDt (by omega)
     have mt:=fun W=>rx_meet (kv_ok hc) (kv_ok tp.cl.ok) W
     have hsm:pcm ⟨st,si,sn,sT,sV,sL,sk,⟨o,p,q,p1,q1⟩⟩ xt xv = cmt ⟨o,p,q,p1,q1⟩ ⟨false,mn (xv - sk * un st - st) (xt - sT),mD (xv - sk * un st - st) (xt - sT),mn (xv - sk * un st + st) (xt - sT),mD (xv - sk * un st + st) (xt - sT)⟩:=rfl
     unfold mtV mtv at mt
     rw [Bool.true_and,if_pos rfl] at mt
     have hE1:pcn ⟨st,si,sn,sT,sV,sL,sk,⟨o,p,q,p1,q1⟩⟩ xt xv = if pcg ⟨st,si,sn,sT,sV,sL,sk,⟨o,p,q,p1,q1⟩⟩ xt xv = true then ⟨st,si,sn + 1,sT,sV,xt,sk,(pcm ⟨st,si,sn,sT,sV,sL,sk,⟨o,p,q,p1,q1⟩⟩ xt xv).1⟩ else pcb st (si + sn) xt xv:=rfl
     have hE2:pce ⟨st,si,sn,sT,sV,sL,sk,⟨o,p,q,p1,q1⟩⟩ xt xv = if pcg ⟨st,si,sn,sT,sV,sL,sk,⟨o,p,q,p1,q1⟩⟩ xt xv = true then [] else pcl ⟨st,si,sn,sT,sV,sL,sk,⟨o,p,q,p1,q1⟩⟩:=rfl
     have hE3:pcg ⟨st,si,sn,sT,sV,sL,sk,⟨o,p,q,p1,q1⟩⟩ xt xv = (pcm ⟨st,si,sn,sT,sV,sL,sk,⟨o,p,q,p1,q1⟩⟩ xt xv).2:=by unfold pcg; rw [decide_eq_true hn,Bool.true_and]
     have hE4:pcl ⟨st,si,sn,sT,sV,sL,sk,⟨o,p,q,p1,q1⟩⟩ = [⟨si,sn,sk,⟨o,p,q,p1,q1⟩⟩]:=if_pos hn
     rw [hE4] at hE2 fi
     rw [hsm] at hE1 hE3
     clear tp hsm hE4
     generalize sk * un st = B0 at *
     generalize mn (xv - B0 - st) (xt - sT) = a1 at *
     generalize mD (xv - B0 - st) (xt - sT) = a2 at *
     generalize mn (xv - B0 + st) (xt - sT) = a3 at *
     generalize mD (xv - B0 + st) (xt - sT) = a4 at *
     generalize cmt ⟨o,p,q,p1,q1⟩ ⟨false,a1,a2,a3,a4⟩ = M at *
     obtain ⟨⟨mo,mp,mq,mp1,mq1⟩,mb⟩:=M
     dsimp only at hE1 hE3 mt
     have mt:∀ W,Gives Tryz.prog 45 [KX o p q p1 q1,KX false a1 a2 a3 a4] W (· = .tuple #[KX mo mp mq mp1 mq1,.bool mb]):=mt
     cases mb
     ·rw [if_neg (by rw [hE3]; decide)] at hE1 hE2
      rw [hE1,hE2]
      clear hE1 hE2 hE3 hc hTL
      repeat' (first | simp (disch:=omega) only [sxE,r19_Step.E,Nat.reduceAdd,Nat.reduceEqDiff,Nat.reduceMul,Nat.reduceSub,Int.reduceAdd,Int.reduceSub,Int.reduceMul,Int.reduceNeg,Int.reduceLT,Int.reduceLE,Int.reduceEq,Int.reduceToNat,↓reduceIte,Int.reducePow,Nat.reduceLeDiff,Nat.reduceLT,ne_eq,eq_self,List.length_cons,List.length_nil,qxE,kxE,Bool.not_true,Bool.not_false] | (with_reducible refine Sx.call_at (f:=123) (fun W hW=>kv W) ?_) | (with_reducible refine Sx.call_at (f:=41) (fun W hW=>o1 W) ?_) | (with_reducible refine Sx.call_at (f:=42) (fun W hW=>d1 W) ?_) | (with_reducible refine Sx.call_at (f:=40) (fun W hW=>th W) ?_) | (with_reducible refine Sx.call_at (f:=45) (fun W hW=>mt W) ?_) | (with_reducible refine cregF ?_))
      refine asks_rowB (L:=[]) (e:=75) (s:=24) (ι:=Unit) (fun _=>True) (fun _=>1) (fun _=>pcell ⟨si,sn,sk,⟨o,p,q,p1,q1⟩⟩) (fun _ v=>.tuple #[v,.int .i64 0]) en_r19_Finish (kX_nil _) (fun W hW hok=>?_) ?_
      ·refine (fi W).mono ?_
       rintro e w' ⟨v,q1,q2,q3⟩
       rw [pcells_one] at q2
       exact ⟨(),v,trivial,q1,q2,q3⟩
      rintro - a5 c5 - - - - -
      repeat' (first | simp (disch:=omega) only [sxE,r19_Step.E,Nat.reduceAdd,Nat.reduceEqDiff,Nat.reduceMul,Nat.reduceSub,Int.reduceAdd,Int.reduceSub,Int.reduceMul,Int.reduceNeg,Int.reduceLT,Int.reduceLE,Int.reduceEq,Int.reduceToNat,↓reduceIte,Int.reducePow,Nat.reduceLeDiff,Nat.reduceLT,ne_eq,eq_self,List.length_cons,List.length_nil,qxE,kxE,Bool.not_true,Bool.not_false] | (with_reducible refine Sx.call_at (f:=145) (fun W hW=>kb W) ?_) | (with_reducible refine cregF ?_))
      exact ⟨_,_,rfl,rfl,.inr (List.mem_singleton.2 rfl)⟩
     ·rw [if_pos hE3] at hE1 hE2
      rw [hE1,hE2]
      clear hE1 hE2 hE3 hc hTL fi kb
      repeat' (first | simp (disch:=omega) only [sxE,r19_Step.E,Nat.reduceAdd,Nat.reduceEqDiff,Nat.reduceMul,Nat.reduceSub,Int.reduceAdd,Int.reduceSub,Int.reduceMul,Int.reduceNeg,Int.reduceLT,Int.reduceLE,Int.reduceEq,Int.reduceToNat,↓reduceIte,Int.reducePow,Nat.reduceLeDiff,Nat.reduceLT,ne_eq,eq_self,List.length_cons,List.length_nil,qxE,kxE,Bool.not_true,Bool.not_false] | (with_reducible refine Sx.call_at (f:=123) (fun W hW=>kv W) ?_) | (with_reducible refine Sx.call_at (f:=41) (fun W hW=>o1 W) ?_) | (with_reducible refine Sx.call_at (f:=42) (fun W hW=>d1 W) ?_) | (with_reducible refine Sx.call_at (f:=40) (fun W hW=>th W) ?_) | (with_reducible refine Sx.call_at (f:=45) (fun W hW=>mt W) ?_) | (with_reducible refine cregF ?_))
      exact ⟨.slice none 0 0,[],rfl,kX_nil _,.inl ⟨rfl,rfl,rfl⟩⟩
  ·have hz:s.n = 0:=by omega
   by_cases hmax:1073741824≤s.i + s.n
   ·have e:pstz s xt xv = (pcZ 0,[],3):=by unfold pstz; rw [if_neg (fun h=>hn h.1),if_pos hmax]
    rw [e]
    rw [h.z hz,pcv_y] at kv ⊢
    rw [hz] at hmax
    generalize s.t = t at *
    generalize s.i = i at *
    clear e h hn hz m0 m1 kb
    repeat' (first | simp (disch:=omega) only [sxE,r19_Step.E,Nat.reduceAdd,Nat.reduceEqDiff,Nat.reduceMul,Nat.reduceSub,Int.reduceAdd,Int.reduceSub,Int.reduceMul,Int.reduceNeg,Int.reduceLT,Int.reduceLE,Int.reduceEq,Int.reduceToNat,↓reduceIte,Int.reducePow,Nat.reduceLeDiff,Nat.reduceLT,ne_eq,eq_self,List.length_cons,List.length_nil,qxE,kxE,Bool.not_true,beq_self_eq_true] | (with_reducible refine Sx.call_at (f:=123) (fun W hW=>kv W) ?_) | (with_reducible refine cregF ?_))
    exact ⟨.slice none 0 0,[],rfl,kX_nil _,.inl ⟨rfl,rfl,rfl⟩⟩
   have e:pstz s xt xv = (pcv (pcb s.t (s.i + s.n) xt xv),[],0):=by
    have eg:pcg s xt xv = false:=by unfold pcg; rw [decide_eq_false hn]; rfl
    rw [pstz_ok (fun h=>hn h.1) hmax]
    unfold pcn pce pcl
    rw [eg,if_neg (by decide),if_neg (by decide),if_neg hn]
   rw [e]
   rw [hz] at hmax
   have ez:s.i + s.n = s.i + 0:=by rw [hz]
   rw [ez] at kb ⊢
   rw [h.z hz,pcv_y] at kv kb ⊢
   generalize s.t = t at *
   generalize s.i = i at *
   clear e h hn hz m0 m1 ez
   repeat' (first | simp (disch:=omega) only [sxE,r19_Step.E,Nat.reduceAdd,Nat.reduceEqDiff,Nat.reduceMul,Nat.reduceSub,Int.reduceAdd,Int.reduceSub,Int.reduceMul,Int.reduceNeg,Int.reduceLT,Int.reduceLE,Int.reduceEq,Int.reduceToNat,↓reduceIte,Int.reducePow,Nat.reduceLeDiff,Nat.reduceLT,ne_eq,eq_self,List.length_cons,List.length_nil,qxE,kxE,Bool.not_true,beq_self_eq_true] | (with_reducible refine Sx.call_at (f:=123) (fun W hW=>kv W) ?_) | (with_reducible refine Sx.call_at (f:=145) (fun W hW=>kb W) ?_) | (with_reducible refine cregF ?_))
   exact ⟨.slice none 0 0,[],rfl,kX_nil _,.inl ⟨rfl,rfl,rfl⟩⟩
theorem guardT_piece:Tryz.prog.eqGuardType Tryz.prog.depth 75 = false:=by kernel_rfl
theorem eq_piece_self (I N k:Int) (o:Bool) (n:Bool) (a b c d:Int) (n1:Bool) (a1 b1 c1 d1:Int) (m:Bool) (e f g h:Int) (m1:Bool) (e1 f1 g1 h1:Int) (w:World) :
  (Op.equalIn 10000 75 (.agg #[.int .i64 I,.int .i64 N,.int .i64 k,.bool o,.bool n,.int .u64 a,.int .u64 b,.int .u64 c,.int .u64 d,.bool n1,.int .u64 a1,.int .u64 b1,.int .u64 c1,.int .u64 d1,.bool m,.int .u64 e,.int .u64 f,.int .u64 g,.int .u64 h,.bool m1,.int .u64 e1,.int .u64 f1,.int .u64 g1,.int .u64 h1]) (.agg #[.int .i64 I,.int .i64 N,.int .i64 k,.bool o,.bool n,.int .u64 a,.int .u64 b,.int .u64 c,.int .u64 d,.bool n1,.int .u64 a1,.int .u64 b1,.int .u64 c1,.int .u64 d1,.bool m,.int .u64 e,.int .u64 f,.int .u64 g,.int .u64 h,.bool m1,.int .u64 e1,.int .u64 f1,.int .u64 g1,.int .u64 h1])).run Tryz.prog w = .ok true w:=by
 have E:=fun W=>eq_cone9_self o n a b c d n1 a1 b1 c1 d1 m e f g h m1 e1 f1 g1 h1 W
 unfold KR at E
 simp [go_sem,E]
theorem eqp_run {ng:Bool} {xo yo:Operand} (x:PcV) (W:World) :
  ((do eqGuard (if ng then .neq else .eql) 75 xo yo (.agg (pcell x).toArray) (.agg (pcell x).toArray); binOp (if ng then .neq else .eql) 75 (.agg (pcell x).toArray) (.agg (pcell x).toArray)):Sem Value).run Tryz.prog W = .ok (.bool (!ng)) W :=
 (eqb_run (ng:=ng) (xo:=xo) (yo:=yo) guardT_piece (eq_piece_self _ _ _ _ _ _ _ _ _ _ _ _ _ _ _ _ _ _ _ _ _ _ _ _ W)).trans (by cases ng <;> rfl)
theorem ldP_oP {C:Sx.Cx} {S:Sx.St} {K:Sx.St→Prop} {d:Option Nat} {e:TypeId} {base g n cap o:Nat} {ls:List PcV} (i:Nat) (h:C.w0.ownsRow base e 24 (.slice (some ⟨g,0,none⟩) n cap) n (pcells ls)) (ho:o = 24 * i) (hi:i < ls.length)
  (hk:K (S.put d (.v (Sx.mk true (pcell (ls.getD i pc_0)))))):Sx.ldP C true 24 ⟨g,o,none⟩ d K S:=by
 subst ho
 refine ldP_own (b:=true) (l:=pcell (ls.getD i pc_0)) h rfl (fun j v hj=>?_) hk
 rw [pcells_at hi (by have:=(List.getElem?_eq_some_iff.1 hj).1; exact this)]
 exact hj
set_option maxRecDepth 100000 in
theorem rx_same19 {w:World} {v v':Value} {ls:List PcV} {B B':Nat} (h:w.ownsRow B 75 24 v ls.length (pcells ls)) (h':w.ownsRow B' 75 24 v' ls.length (pcells ls)):Calls Tryz.prog 37 #[v,v'] w fun e w'=>e = .returned (.bool true)∧Below w.heap.size w w':=by
 obtain ⟨a,cap,rfl,c1,c2,c3⟩:=row_form h
 obtain ⟨a',cap',rfl,d1,d2,d3⟩:=row_form h'
 simp only [maxLen] at c2
 refine known_of (enter Tryz.func37 r19_Same.ok (args:=[_,_]) (by simp) ?_)
 repeat' (first | simp (disch:=omega) only [sxE,r19_Same.E,Nat.reduceAdd,Nat.reduceEqDiff,Nat.reduceMul,Nat.reduceSub,Int.reduceAdd,Int.reduceSub,Int.reduceMul,Int.reduceNeg,Int.reduceLT,Int.reduceLE,Int.reduceEq,Int.reduceToNat,↓reduceIte,Int.reducePow,Nat.reduceLeDiff,Nat.reduceLT,ne_eq,eq_self,List.length_cons,List.length_nil,qxE,beq_self_eq_true,Bool.not_true] | (with_reducible refine cregF ?_))
 rw [r19_Same.p2_l]
 refine LX_inv (fun i:Nat=>⟨0,[(0,.v (.slice a ls.length cap)),(1,.v (.slice a' ls.length cap')),(5,.v (.int .i64 (i:Int)))],[],ext0⟩) (fun i=>i≤ls.length) (fun i=>ls.length - i) ?round 0 (Nat.zero_le _) ?start
 case start =>
  have c0:((0:Nat):Int) = 0:=rfl
  simp (disch:=omega) only [sxE,r19_Same.E,Nat.reduceAdd,Nat.reduceEqDiff,Nat.reduceMul,Nat.reduceSub,Int.reduceAdd,Int.reduceSub,Int.reduceMul,Int.reduceNeg,Int.reduceLT,Int.reduceLE,Int.reduceEq,Int.reduceToNat,↓reduceIte,Int.reducePow,Nat.reduceLeDiff,Nat.reduceLT,ne_eq,eq_self,List.length_cons,List.length_nil,c0]
 case round =>
  intro i hi
  by_cases hlt:i < ls.length
  ·obtain ⟨g,rfl⟩:=c3 (by omega)
   obtain ⟨g',rfl⟩:=d3 (by omega)
   have e0:(i:Int) + 1 = ((i + 1:Nat):Int):=by omega
   repeat' (first | simp (disch:=omega) only [sxE,r19_Same.E,Nat.reduceAdd,Nat.reduceEqDiff,Nat.reduceMul,Nat.reduceSub,Int.reduceAdd,Int.reduceSub,Int.reduceMul,Int.reduceNeg,Int.reduceLT,Int.reduceLE,Int.reduceEq,Int.reduceToNat,↓reduceIte,Int.reducePow,Nat.reduceLeDiff,Nat.reduceLT,ne_eq,eq_self,List.length_cons,List.length_nil,qxE,Bool.not_true] | (with_reducible refine ldP_self true 24 g ?_; refine ldP_oP i h ?_ hlt ?_; omega) | (with_reducible refine ldP_self true 24 g' ?_; refine ldP_oP i h' ?_ hlt ?_; omega) | (with_reducible refine eq_is (fun W=>by exact eqp_run _ W) ?_) | (with_reducible refine cregF ?_))
   rw [e0]
   exact ⟨i + 1,by omega,by omega,rfl⟩
  ·obtain rfl:i = ls.length:=by omega
   repeat' (first | simp (disch:=omega) only [sxE,r19_Same.E,Nat.reduceAdd,Nat.reduceEqDiff,Nat.reduceMul,Nat.reduceSub,Int.reduceAdd,Int.reduceSub,Int.reduceMul,Int.reduceNeg,Int.reduceLT,Int.reduceLE,Int.reduceEq,Int.reduceToNat,↓reduceIte,Int.reducePow,Nat.reduceLeDiff,Nat.reduceLT,ne_eq,eq_self,List.length_cons,List.length_nil,qxE] | (with_reducible refine cregF ?_))
end Go.Proofs.YtncmmbacoknefaaGreat

/- Pc: pieces: the segments, plain. -/
namespace Go.Proofs.YtncmmbacoknefaaGreat
open Go Go.RowKit Sx
set_option linter.unusedVariables false
set_option linter.unusedSimpArgs false
def pgd (t:Int) (ss:Smps) (a j:Nat):Cn:=thc (ke (ss.getD a (0,0)).2 t * un t) (ss.getD (a + j) (0,0)).2 t ((ss.getD (a + j) (0,0)).1 - (ss.getD a (0,0)).1)
def pgk (t:Int) (ss:Smps) (a:Nat):Nat→Cn
 | 0=>cO
 | j + 1=>(cmt (pgk t ss a j) (pgd t ss a (j + 1))).1
def pgb (t:Int) (ss:Smps) (a j:Nat):Bool:=(cmt (pgk t ss a j) (pgd t ss a (j + 1))).2
def pgl (t:Int) (ss:Smps) (a m:Nat):PcV:=⟨(a:Int),(m:Int) + 1,ke (ss.getD a (0,0)).2 t,pgk t ss a m⟩
def PCl (t:Int) (ss:Smps):Nat→List PcV→Nat→Prop
 | a,[],e=>a = e
 | a,x :: l,e=>∃ m,x = pgl t ss a m∧(∀ j,j < m→pgb t ss a j = true)∧pgb t ss a m = false∧PCl t ss (a + m + 1) l e
def POk (t:Int) (ss:Smps):Nat→List PcV→Nat→Prop
 | a,[],e=>a = e
 | a,x :: l,e=>∃ m,x = pgl t ss a m∧a + m + 1≤e∧(∀ j,j < m→pgb t ss a j = true)∧(l≠[]→a + m + 1 < e∧pgb t ss a m = false)∧POk t ss (a + m + 1) l e
theorem PCl.le {t:Int} {ss:Smps}:∀ {l:List PcV} {a e:Nat},PCl t ss a l e→a≤e
 | [],a,e,h=>Nat.le_of_eq h
 | x :: l,a,e,⟨m,_,_,_,h⟩=>by have:=PCl.le h; omega
theorem PCl.snoc {t:Int} {ss:Smps} {b m:Nat} (hf:∀ j,j < m→pgb t ss b j = true) (hb:pgb t ss b m = false):∀ {l:List PcV} {a:Nat},PCl t ss a l b→PCl t ss a (l ++ [pgl t ss b m]) (b + m + 1)
 | [],a,h=>by
  have h:a = b:=h
  subst h
  exact ⟨m,rfl,hf,hb,rfl⟩
 | x :: l,a,⟨n,h1,h2,h3,h⟩=>⟨n,h1,h2,h3,PCl.snoc hf hb h⟩
theorem PCl.last {t:Int} {ss:Smps} {b m:Nat} (hf:∀ j,j < m→pgb t ss b j = true):∀ {l:List PcV} {a:Nat},PCl t ss a l b→POk t ss a (l ++ [pgl t ss b m]) (b + m + 1)
 | [],a,h=>by
  have h:a = b:=h
  subst h
  exact ⟨m,rfl,Nat.le_refl _,hf,fun h=>absurd rfl h,rfl⟩
 | x :: l,a,⟨n,h1,h2,h3,h⟩=>⟨n,h1,by have:=h.le; omega,h2,fun _=>⟨by have:=h.le; omega,h3⟩,PCl.last hf h⟩
end Go.Proofs.YtncmmbacoknefaaGreat

/- Kp: Cones: the plain laws of meeting and of having a slope. -/
namespace Go.Proofs.YtncmmbacoknefaaGreat
set_option linter.unusedVariables false
set_option linter.unusedSimpArgs false
theorem has_cl {p q p1 q1 x y:Int}:(Cn.mk false p q p1 q1).has x y = true↔p * y≤x * q∧x * q1≤p1 * y:=by
 unfold Cn.has
 simp
theorem Cl.lo {p q p1 q1:Int} (h:Cl p q p1 q1):(Cn.mk false p q p1 q1).has p q = true:=has_cl.2 ⟨Int.le_refl _,h.le⟩
theorem Cl.hi {p q p1 q1:Int} (h:Cl p q p1 q1):(Cn.mk false p q p1 q1).has p1 q1 = true:=has_cl.2 ⟨h.le,Int.le_refl _⟩
theorem Cn.ok.cases {c:Cn} (h:c.ok):c = cO∨(c.o = false∧Cl c.p c.q c.p1 c.q1):=h
end Go.Proofs.YtncmmbacoknefaaGreat

/- Pl: Laws of pieces: what they share. -/
namespace Go.Proofs.YtncmmbacoknefaaGreat
open Go Go.RowKit Sx
set_option linter.unusedVariables false
set_option linter.unusedSimpArgs false
theorem POk.len {t:Int} {ss:Smps}:∀ {l:List PcV} {a e:Nat},POk t ss a l e→a + l.length≤e
 | [],a,e,h=>Nat.le_of_eq h
 | x :: l,a,e,⟨m,_,_,_,_,h⟩=>by have:=POk.len h; rw [List.length_cons]; omega
end Go.Proofs.YtncmmbacoknefaaGreat

/- CdTs: MADE BY PROGRAM (sxgen.py): the small code of some functions, points of it and their equations. -/
namespace Go.Proofs.YtncmmbacoknefaaGreat
open Go Go.RowKit Sx Sx.Q
set_option linter.unusedVariables false
variable (C:Cx) (R L1 L2 L3 L4:St→Prop)
namespace m_Tape__Some
abbrev q0:=[0,1]
abbrev r0:List G:=[e 4 (.mv (.const (.slice none 0 0)))]
abbrev q1:=[0,5]
abbrev r1:List G:=[m 6 0,m 7 1,K2 8 16 6 7,m 5 8]
abbrev q2:=[0,5,11]
abbrev r2:List G:=[m 9 5,e 10 (.len false (t 9)),bi 11 .eql 10 0]
abbrev r3:List G:=[m 12 0,K1 13 68 12,m 14 0,K1 15 68 14,e 16 (.bd [.int .i64 0,.int .i64 0] [(0,1,(t 13)),(1,1,(t 15))]),e 17 (.gen false (.bsl 27 1 [0]) [(t 16)]),m 5 17]
abbrev r4:List G:=[m 18 5,m 4 18]
abbrev c:MC:=sq [g r0 q0,g r1 q1,sq [g r2 q2,ci 11 (g r3 [5]) .skip],g r4 [4],.ret]
theorem ok:compF Tryz.prog Tryz.f118 (an (rg 5) c []) = some (19,c,[(4,none)]):=by kernel_rfl
abbrev p1:=P C r4 [4] R
abbrev p3:=P C r3 [5] (p1 C R)
abbrev p2:=cd (t 11) (p3 C R) (p1 C R)
abbrev p4:=P C r2 q2 (p2 C R)
abbrev p5:=P C r1 q1 (p4 C R)
abbrev p6:=P C r0 q0 (p5 C R)
theorem s (S:St):X C c (retK R) S = p6 C R S:=by kernel_rfl
theorem E:type_of% @s:=@s
end m_Tape__Some
end Go.Proofs.YtncmmbacoknefaaGreat

/- Ts: The tape's Some: at least one sample. -/
namespace Go.Proofs.YtncmmbacoknefaaGreat
open Go Go.RowKit Sx
set_option linter.unusedVariables false
set_option linter.unusedSimpArgs false
theorem own_up {w:World} {base base':Nat} {e:TypeId} {size n:Nat} {v:Value} {xs:List Value} (h:w.ownsRow base e size v n xs) (hb:∀ b,v.ownBlock = some b→base'≤b):w.ownsRow base' e size v n xs:=by
 refine ⟨h.1,?_⟩
 rcases h.2 with hn | ⟨g,cap,cur,rfl,hbg,rest⟩
 ·exact .inl hn
 ·exact .inr ⟨g,cap,cur,rfl,hb g rfl,rest⟩
theorem hK_bs {w:World} {tb B Bm g:Nat}:g∈(Kn.g (hK w tb B Bm)).bs↔tb≤g∧g < w.heap.size:=by
 show g∈List.range' tb (w.heap.size - tb)↔_
 rw [List.mem_range']
 constructor
 ·rintro ⟨i,hi,rfl⟩; omega
 ·rintro h; exact ⟨g - tb,by omega,by omega⟩
theorem smp_one {T V:Int} (hT:I64 T) (hV:I64 V):Smp [(T,V)]:=by
 refine ⟨⟨by simp,fun x hx=>?_⟩,fun s hs=>?_⟩
 ·have:x = T:=by simpa using hx
  rw [this]; exact hT
 ·rw [List.mem_singleton.1 hs]; exact hV
theorem row_new {w w':World} {tb B Bm:Nat} {e:TypeId} {s n:Nat} {v:Value} {xs:List Value} (hle:tb≤w.heap.size) (h:w'.ownsRow (cut w tb).heap.size e s v n xs) (hn:∀ b∈v.ownBlock.toList,b ∉ (Kn.g (hK w tb B Bm)).bs):w'.ownsRow w.heap.size e s v n xs :=
 own_up h fun b hb=>by
  have h1:=(h.lt b hb).1
  rw [cut_size hle] at h1
  have h2:¬ (tb≤b∧b < w.heap.size):=fun h=>hn b (by rw [hb]; exact List.mem_singleton.2 rfl) (hK_bs.2 h)
  omega
set_option maxRecDepth 100000 in
theorem some_any {B Bm:Nat} (tb:Nat) {n:Int} (n0:0≤n) (hn:n≤1000) (w:World) (ht:TapeOk B Bm w tb) :
  Calls Tryz.prog 118 #[.pointer (some ⟨tb,0,none⟩),.int .i64 n] w fun e w'=>∃ v ss,e = .returned v∧(Smp ss∧1≤ss.length∧(ss.length:Int)≤n + 1)∧w'.ownsRow w.heap.size 58 2 v ss.length (scells ss)∧TapeOk B Bm w' tb∧w.grownBy w' (some tb):=by
 have hle:=Nat.le_of_lt ht.lt
 refine Calls.mono (enterG Tryz.func118 m_Tape__Some.ok (args:=[.pointer (some ⟨tb,0,none⟩),.int .i64 n]) (w0:=cut w tb) (T:=kX (cut w tb).heap.size [.g (hK w tb B Bm)]) (R:=fun v X=>∃ ss L,(Smp ss∧1≤ss.length∧(ss.length:Int)≤n + 1)∧X = kX (cut w tb).heap.size L∧.g (hK w tb B Bm)∈L∧.g (wK 58 2 v ss.length (scells ss))∈L∧∀ b∈v.ownBlock.toList,b ∉ (Kn.g (hK w tb B Bm)).bs) (by simp) (below_cut hle) (hK_start ht).1 (kX_stab (Sx.cx _ (cut w tb) _) _) (hK_start ht).2 ?run) ?fin
 case fin =>
  rintro e w' ⟨v,X,rfl,⟨ss,L,hP,rfl,m1,m2,hnb⟩,hX,hbl,-⟩
  obtain ⟨h1,h2⟩:=hK_end hX m1 hbl
  exact ⟨v,ss,rfl,hP,row_new hle (hX _ m2) hnb,h1,h2⟩
 case run =>
  have hk:=tpk_h' ht
  have hin:∀ b,b ∉ (kX (cut w tb).heap.size [.g (hK w tb B Bm)]).bs→b ∉ (Kn.g (hK w tb B Bm)).bs:=fun b h h'=>h (kX_bs.2 ⟨_,List.mem_singleton.2 rfl,h'⟩)
  have htb:tb∈(Kn.g (hK w tb B Bm)).bs:=hK_bs.2 ⟨Nat.le_refl _,ht.lt⟩
  repeat' (first | simp (disch:=omega) only [sxE,m_Tape__Some.E,Nat.reduceAdd,Nat.reduceEqDiff,Nat.reduceMul,Nat.reduceSub,Int.reduceAdd,Int.reduceSub,Int.reduceMul,Int.reduceNeg,Int.reduceLT,Int.reduceLE,Int.reduceEq,Int.reduceToNat,↓reduceIte,Int.reducePow,Nat.reduceLeDiff,Nat.reduceLT,ne_eq,eq_self,List.length_cons,List.length_nil,qxE] | (with_reducible refine cregF ?_))
  refine asks_rowT (L:=[.g (hK w tb B Bm)]) (e:=58) (s:=2) (fun ss:Smps=>Smp ss∧(ss.length:Int)≤n) (fun ss=>ss.length) (fun ss=>scells ss) (fun ss v=>v) hk en_m_Tape__Samples rfl (List.mem_singleton.2 rfl) htb rfl (fun j hj=>.inl (List.mem_singleton.1 hj)) (fun W hW=>by
   refine (samples_any tb n n0 hn W hW).mono ?_
   rintro e w' ⟨v,ss,h1,h2,h3,h4,h5⟩
   exact ⟨ss,v,h1,h2,h3,h4,h5⟩) ?_
  rintro ss al cl_ ⟨hsm,hs⟩ hcl - hal hnb
  have hnb':∀ b∈(Value.slice al ss.length cl_).ownBlock.toList,b ∉ (Kn.g (hK w tb B Bm)).bs:=fun b hb=>hin b (hnb b hb)
  by_cases h0:ss.length = 0
  ·obtain rfl:=List.eq_nil_of_length_eq_zero h0
   have htb':∀ j∈[Kn.g (wK 58 2 (.slice al 0 cl_) 0 (scells [])),.g (hK w tb B Bm)],j = .g (hK w tb B Bm)∨tb ∉ j.bs:=fun j hj=>by
    rcases List.mem_cons.1 hj with rfl | hj
    ·exact .inr fun h=>hnb' tb (by have:=wK_bs.1 h; rw [show (Value.slice al ([]:Smps).length cl_).ownBlock = some tb from this]; exact List.mem_singleton.2 rfl) htb
    ·exact .inl (List.mem_singleton.1 hj)
   have c0:((([]:Smps).length:Nat):Int) = 0:=rfl
   repeat' (first | simp (disch:=omega) only [sxE,m_Tape__Some.E,Nat.reduceAdd,Nat.reduceEqDiff,Nat.reduceMul,Nat.reduceSub,Int.reduceAdd,Int.reduceSub,Int.reduceMul,Int.reduceNeg,Int.reduceLT,Int.reduceLE,Int.reduceEq,Int.reduceToNat,↓reduceIte,Int.reducePow,Nat.reduceLeDiff,Nat.reduceLT,ne_eq,eq_self,List.length_cons,List.length_nil,qxE,c0,beq_self_eq_true] | (with_reducible refine cregF ?_))
   refine asks_tc rfl hk (t_int tb) en_m_Tape__Int rfl (List.mem_cons_of_mem _ (List.mem_singleton.2 rfl)) rfl htb' ?_
   intro T hT
   repeat' (first | simp (disch:=omega) only [sxE,m_Tape__Some.E,Nat.reduceAdd,Nat.reduceEqDiff,Nat.reduceMul,Nat.reduceSub,Int.reduceAdd,Int.reduceSub,Int.reduceMul,Int.reduceNeg,Int.reduceLT,Int.reduceLE,Int.reduceEq,Int.reduceToNat,↓reduceIte,Int.reducePow,Nat.reduceLeDiff,Nat.reduceLT,ne_eq,eq_self,List.length_cons,List.length_nil,qxE] | (with_reducible refine cregF ?_))
   refine asks_tc rfl hk (t_int tb) en_m_Tape__Int rfl (List.mem_cons_of_mem _ (List.mem_singleton.2 rfl)) rfl htb' ?_
   intro V hV
   repeat' (first | simp (disch:=omega) only [sxE,m_Tape__Some.E,Nat.reduceAdd,Nat.reduceEqDiff,Nat.reduceMul,Nat.reduceSub,Int.reduceAdd,Int.reduceSub,Int.reduceMul,Int.reduceNeg,Int.reduceLT,Int.reduceLE,Int.reduceEq,Int.reduceToNat,↓reduceIte,Int.reducePow,Nat.reduceLeDiff,Nat.reduceLT,ne_eq,eq_self,List.length_cons,List.length_nil,qxE] | (with_reducible refine cregF ?_))
   refine genA_w (cs:=[.int .i64 T,.int .i64 V]) (e:=58) (s:=2) (n:=1) rfl (by simp [maxLen]) rfl (fun W=>by kernel_rfl) fun b hb=>?_
   repeat' (first | simp (disch:=omega) only [sxE,m_Tape__Some.E,Nat.reduceAdd,Nat.reduceEqDiff,Nat.reduceMul,Nat.reduceSub,Int.reduceAdd,Int.reduceSub,Int.reduceMul,Int.reduceNeg,Int.reduceLT,Int.reduceLE,Int.reduceEq,Int.reduceToNat,↓reduceIte,Int.reducePow,Nat.reduceLeDiff,Nat.reduceLT,ne_eq,eq_self,List.length_cons,List.length_nil,qxE] | (with_reducible refine cregF ?_))
   refine ⟨[(T,V)],_,⟨smp_one hT hV,Nat.le_refl _,by show (1:Int)≤_; omega⟩,rfl,List.mem_cons_of_mem _ (List.mem_cons_of_mem _ (List.mem_singleton.2 rfl)),List.mem_cons_self,fun x hx hx2=>hb ?_⟩
   have e:x = b:=by simpa [Value.ownBlock] using hx
   rw [← e]
   exact kX_bs.2 ⟨_,List.mem_cons_of_mem _ (List.mem_singleton.2 rfl),hx2⟩
  ·repeat' (first | simp (disch:=omega) only [sxE,m_Tape__Some.E,Nat.reduceAdd,Nat.reduceEqDiff,Nat.reduceMul,Nat.reduceSub,Int.reduceAdd,Int.reduceSub,Int.reduceMul,Int.reduceNeg,Int.reduceLT,Int.reduceLE,Int.reduceEq,Int.reduceToNat,↓reduceIte,Int.reducePow,Nat.reduceLeDiff,Nat.reduceLT,ne_eq,eq_self,List.length_cons,List.length_nil,qxE] | (with_reducible refine cregF ?_))
   exact ⟨ss,_,⟨hsm,by omega,by omega⟩,rfl,List.mem_cons_of_mem _ (List.mem_singleton.2 rfl),List.mem_cons_self,hnb'⟩
end Go.Proofs.YtncmmbacoknefaaGreat

/- Pg: swing: the program's Valid, Step and Finish; raw states; what law 14 compares. -/
namespace Go.Proofs.YtncmmbacoknefaaGreat
open Go Go.RowKit Sx
set_option linter.unusedVariables false
set_option linter.unusedSimpArgs false
theorem i64_z:I64 0:=⟨by decide,by decide⟩
theorem gx_pcvalid {s:PcS} (h:PcG s) (W:World):Gives Tryz.prog 122 [pcv s] W (· = .bool true):=by
 refine gives_known en_pieces_Valid ?_
 obtain ⟨t0,t1⟩:=tolz_iff.1 h.t
 have it:I64 s.t:=⟨by omega,by omega⟩
 have k1:=fun W=>gx_ptol s.t W
 rw [h.t] at k1
 have i0:=h.i0
 have i1:=h.i1
 have m0:=h.n0
 have m1:=h.n1
 have kk:=fun W=>gx_key h.V it W
 by_cases h0:s.n = 0
 ·rw [h.z h0,pcv_y]
  generalize s.t = t at *
  generalize s.i = i at *
  clear h h0 m0 m1 kk
  refine known_of (enter Tryz.func122 pieces_Valid.ok (args:=[_]) (by simp) ?_)
  repeat' (first | simp (disch:=omega) only [sxE,pieces_Valid.E,Nat.reduceAdd,Nat.reduceEqDiff,Nat.reduceMul,Nat.reduceSub,Int.reduceAdd,Int.reduceSub,Int.reduceMul,Int.reduceNeg,Int.reduceLT,Int.reduceLE,Int.reduceEq,Int.reduceToNat,↓reduceIte,Int.reducePow,Nat.reduceLeDiff,Nat.reduceLT,ne_eq,eq_self,List.length_cons,List.length_nil,qxE,kxE,beq_self_eq_true,Bool.not_false,Bool.not_true] | (with_reducible refine Sx.call_at (f:=119) (fun W hW=>k1 W) ?_) | (with_reducible refine eq_is (fun W=>by exact eqpst_run _ _ _ _ _ _ _ _ _ _ _ _ _ _ _ _ _ _ _ _ _ _ _ _ _ _ _ _ W) ?_) | (with_reducible refine cregF ?_))
 have hk:=h.k (by omega)
 by_cases h1:s.n = 1
 ·obtain ⟨e1,e2⟩:=h.one h1
  obtain ⟨t,i,n,T,V,L,k,c⟩:=s
  dsimp only at *
  subst e1 e2 h1 hk
  have k2:=fun W=>gx_kstart W
  clear h it h0 m0 m1
  generalize ke V t = K at *
  show Calls _ _ #[.agg #[.int .i64 t,.int .i64 i,.int .i64 1,.int .i64 L,.int .i64 V,.int .i64 L,.int .i64 K,.bool true,.bool (sg 0),.int .u64 (lb0 (ab 0)),.int .u64 (lb1 (ab 0)),.int .u64 (lb2 (ab 0)),.int .u64 (lb3 (ab 0)),.bool (sg 0),.int .u64 (lb0 (ab 0)),.int .u64 (lb1 (ab 0)),.int .u64 (lb2 (ab 0)),.int .u64 (lb3 (ab 0)),.bool (sg 0),.int .u64 (lb0 (ab 0)),.int .u64 (lb1 (ab 0)),.int .u64 (lb2 (ab 0)),.int .u64 (lb3 (ab 0)),.bool (sg 0),.int .u64 (lb0 (ab 0)),.int .u64 (lb1 (ab 0)),.int .u64 (lb2 (ab 0)),.int .u64 (lb3 (ab 0))]] _ _
  refine known_of (enter Tryz.func122 pieces_Valid.ok (args:=[_]) (by simp) ?_)
  repeat' (first | simp (disch:=omega) only [sxE,pieces_Valid.E,Nat.reduceAdd,Nat.reduceEqDiff,Nat.reduceMul,Nat.reduceSub,Int.reduceAdd,Int.reduceSub,Int.reduceMul,Int.reduceNeg,Int.reduceLT,Int.reduceLE,Int.reduceEq,Int.reduceToNat,↓reduceIte,Int.reducePow,Nat.reduceLeDiff,Nat.reduceLT,ne_eq,eq_self,List.length_cons,List.length_nil,qxE,kxE,beq_self_eq_true,Bool.not_false,Bool.not_true] | (with_reducible refine Sx.call_at (f:=119) (fun W hW=>k1 W) ?_) | (with_reducible refine Sx.call_at (f:=158) (fun W hW=>k2 W) ?_) | (with_reducible refine Sx.call_at (f:=61) (fun W hW=>kk W) ?_) | (with_reducible refine eq_is (fun W=>by exact eqkx_run W) ?_) | (with_reducible refine cregF ?_))
 ·have hn:1 < s.n:=by omega
  obtain ⟨hL,ho⟩:=h.more hn
  have k2:=(kv_ok (h.c (by omega))).v1
  obtain ⟨t,i,n,T,V,L,k,⟨o,p,q,p1,q1⟩⟩:=s
  dsimp only at *
  subst ho
  have k2:∀ W,Gives Tryz.prog 159 [KX false p q p1 q1] W (· = .bool true):=k2
  subst hk
  clear h it
  generalize ke V t = K at *
  refine known_of (enter Tryz.func122 pieces_Valid.ok (args:=[_]) (by simp) ?_)
  repeat' (first | simp (disch:=omega) only [sxE,pieces_Valid.E,Nat.reduceAdd,Nat.reduceEqDiff,Nat.reduceMul,Nat.reduceSub,Int.reduceAdd,Int.reduceSub,Int.reduceMul,Int.reduceNeg,Int.reduceLT,Int.reduceLE,Int.reduceEq,Int.reduceToNat,↓reduceIte,Int.reducePow,Nat.reduceLeDiff,Nat.reduceLT,ne_eq,eq_self,List.length_cons,List.length_nil,qxE,kxE,beq_self_eq_true,Bool.not_false,Bool.not_true] | (with_reducible refine Sx.call_at (f:=119) (fun W hW=>k1 W) ?_) | (with_reducible refine Sx.call_at (f:=159) (fun W hW=>k2 W) ?_) | (with_reducible refine Sx.call_at (f:=61) (fun W hW=>kk W) ?_) | (with_reducible refine cregF ?_))
set_option maxRecDepth 100000 in
set_option maxHeartbeats 2000000 in
theorem gx_pcstep {w:World} {s:PcS} {xt xv:Int} (h:PcG s) (hxt:I64 xt) (hxv:I64 xv):Calls Tryz.prog 120 #[pcv s,.agg #[.int .i64 xt,.int .i64 xv]] w (PtpB w (pstz s xt xv)):=by
 refine (enterX Tryz.func120 pieces_Step.ok (args:=[pcv s,.agg #[.int .i64 xt,.int .i64 xv]]) (R:=fun u X=>∃ v L,u = .tuple #[(pstz s xt xv).1,v,.int .i64 (pstz s xt xv).2.2]∧X = kX w.heap.size L∧rowOf L 75 24 v (pstz s xt xv).2.1.length (pcells (pstz s xt xv).2.1)) (by simp) ?run).mono ?fin
 case fin =>
  rintro e w' ⟨u,X,rfl,⟨v,L,rfl,rfl,hr⟩,hX,hbl,-⟩
  exact ⟨v,rfl,hr.own hX,hbl⟩
 case run =>
  have kv:=fun W=>gx_pcvalid h W
  obtain ⟨t0,t1⟩:=tolz_iff.1 h.t
  have m1:=h.n1
  have m0:=h.n0
  have i0:=h.i0
  have i1:=h.i1
  by_cases hle:0 < s.n∧xt≤s.L
  ·have e:pstz s xt xv = (pcZ 0,[],7):=if_pos hle
   obtain ⟨hn,hle⟩:=hle
   rw [e]
   clear e h
   obtain ⟨st,si,sn,sT,sV,sL,sk,⟨o,p,q,p1,q1⟩⟩:=s
   dsimp only at *
   repeat' (first | simp (disch:=omega) only [sxE,pieces_Step.E,Nat.reduceAdd,Nat.reduceEqDiff,Nat.reduceMul,Nat.reduceSub,Int.reduceAdd,Int.reduceSub,Int.reduceMul,Int.reduceNeg,Int.reduceLT,Int.reduceLE,Int.reduceEq,Int.reduceToNat,↓reduceIte,Int.reducePow,Nat.reduceLeDiff,Nat.reduceLT,ne_eq,eq_self,List.length_cons,List.length_nil,qxE,kxE,Bool.not_true] | (with_reducible refine Sx.call_at (f:=122) (fun W hW=>kv W) ?_) | ((with_reducible first | apply cond_beq | apply gd_beq) <;> (intro hc; first | simp only [beq_iff_eq.2 hc] | simp only [beq_eq_false_iff_ne.2 hc] | skip)) | ((with_reducible first | apply cond_dec | apply gd_dec) <;> (intro hc; first | simp only [decide_eq_true hc] | simp only [decide_eq_false hc] | skip)) | ((with_reducible first | apply cond_of | apply gd_of) <;> (intro hc; try simp only [hc])) | (with_reducible refine cregF ?_))
   exact ⟨.slice none 0 0,[],rfl,kX_nil _,.inl ⟨rfl,rfl,rfl⟩⟩
  by_cases hmax:1073741824≤s.i + s.n
  ·have e:pstz s xt xv = (pcZ 0,[],3):=by unfold pstz; rw [if_neg hle,if_pos hmax]
   rw [e]
   clear e h
   obtain ⟨st,si,sn,sT,sV,sL,sk,⟨o,p,q,p1,q1⟩⟩:=s
   dsimp only at *
   repeat' (first | simp (disch:=omega) only [sxE,pieces_Step.E,Nat.reduceAdd,Nat.reduceEqDiff,Nat.reduceMul,Nat.reduceSub,Int.reduceAdd,Int.reduceSub,Int.reduceMul,Int.reduceNeg,Int.reduceLT,Int.reduceLE,Int.reduceEq,Int.reduceToNat,↓reduceIte,Int.reducePow,Nat.reduceLeDiff,Nat.reduceLT,ne_eq,eq_self,List.length_cons,List.length_nil,qxE,kxE,Bool.not_true] | (with_reducible refine Sx.call_at (f:=122) (fun W hW=>kv W) ?_) | ((with_reducible first | apply cond_beq | apply gd_beq) <;> (intro hc; first | simp only [beq_iff_eq.2 hc] | simp only [beq_eq_false_iff_ne.2 hc] | skip)) | ((with_reducible first | apply cond_dec | apply gd_dec) <;> (intro hc; first | simp only [decide_eq_true hc] | simp only [decide_eq_false hc] | skip)) | ((with_reducible first | apply cond_of | apply gd_of) <;> (intro hc; try simp only [hc])) | (with_reducible refine cregF ?_))
   all_goals exact ⟨.slice none 0 0,[],rfl,kX_nil _,.inl ⟨rfl,rfl,rfl⟩⟩
  rw [pstz_ok hle hmax]
  have hTL:0 < s.n→s.T < xt:=fun hn=>by
   have:s.T≤s.L:=by
    by_cases h1:s.n = 1
    ·exact Int.le_of_eq (h.one h1).1.symm
    ·exact Int.le_of_lt (h.more (by omega)).1
   have:=fun h=>hle ⟨hn,h⟩
   omega
  have iT:=h.T
  have hc:=h.c
  have iK:I64 s.k:=by
   rcases Int.lt_or_le 0 s.n with hn | hn
   ·rw [h.k hn]; exact ke_i64 h.V
   ·rw [h.z (by omega)]; exact i64_z
  have hz:0 < s.n→ab (s.k * un s.t) < 73786976294838206464:=fun hn=>by rw [h.k hn]; exact ke_small h.V t0 t1
  clear h
  have kst:∀ {W:World} {b n0:Nat},n0≤b→HB W b (qcs s (.slice none 0 0)).toArray→Calls Tryz.prog 95 #[.pointer (some ⟨b,0,none⟩),.agg #[.int .i64 xt,.int .i64 xv]] W (EndP W b n0 (.slice none 0 0) (qcs (pcn s xt xv)) 75 24 (0 + (pce s xt xv).length) ([] ++ pcells (pce s xt xv))) :=
   fun hle hb=>pc_step hle hb (World.ownsRow_nil _ _ _ _) (fun h=>by cases h) t0 t1 i0 i1 m0 m1 iT iK hz hc hxt hxv hTL (by decide)
  generalize pce s xt xv = es at *
  generalize pcn s xt xv = s' at *
  obtain ⟨st,si,sn,sT,sV,sL,sk,⟨o,p,q,p1,q1⟩⟩:=s
  obtain ⟨st',si',sn',sT',sV',sL',sk',⟨o',p',q',p1',q1'⟩⟩:=s'
  dsimp only at *
  clear iT iK hz hc hTL t0 t1
  have hle':0 < sn→¬ xt≤sL:=fun h h'=>hle ⟨h,h'⟩
  clear hle
  
  
  by_cases hn:0 < sn
  ·have hle:=hle' hn
   repeat' (first | simp (disch:=omega) only [sxE,pieces_Step.E,Nat.reduceAdd,Nat.reduceEqDiff,Nat.reduceMul,Nat.reduceSub,Int.reduceAdd,Int.reduceSub,Int.reduceMul,Int.reduceNeg,Int.reduceLT,Int.reduceLE,Int.reduceEq,Int.reduceToNat,↓reduceIte,Int.reducePow,Nat.reduceLeDiff,Nat.reduceLT,ne_eq,eq_self,List.length_cons,List.length_nil,qxE,kxE,Bool.not_true] | (with_reducible refine Sx.call_at (f:=122) (fun W hW=>kv W) ?_) | ((with_reducible first | apply cond_beq | apply gd_beq) <;> (intro hc; first | simp only [beq_iff_eq.2 hc] | simp only [beq_eq_false_iff_ne.2 hc] | skip)) | ((with_reducible first | apply cond_dec | apply gd_dec) <;> (intro hc; first | simp only [decide_eq_true hc] | simp only [decide_eq_false hc] | skip)) | ((with_reducible first | apply cond_of | apply gd_of) <;> (intro hc; try simp only [hc])) | (with_reducible refine cregF ?_))
   refine genA_az (L:=[]) (z:=.agg #[.int .i64 0,.int .i64 0,.int .i64 0,.int .i64 0,.int .i64 0,.int .i64 0,.int .i64 0,.bool false,.bool false,.int .u64 0,.int .u64 0,.int .u64 0,.int .u64 0,.bool false,.int .u64 0,.int .u64 0,.int .u64 0,.int .u64 0,.bool false,.int .u64 0,.int .u64 0,.int .u64 0,.int .u64 0,.bool false,.int .u64 0,.int .u64 0,.int .u64 0,.int .u64 0,.slice none 0 0]) [.int .i64 0,.int .i64 0,.int .i64 0,.int .i64 0,.int .i64 0,.int .i64 0,.int .i64 0,.bool false,.bool false,.int .u64 0,.int .u64 0,.int .u64 0,.int .u64 0,.bool false,.int .u64 0,.int .u64 0,.int .u64 0,.int .u64 0,.bool false,.int .u64 0,.int .u64 0,.int .u64 0,.int .u64 0,.bool false,.int .u64 0,.int .u64 0,.int .u64 0,.int .u64 0,.slice none 0 0] rfl (by kernel_rfl) (by kernel_rfl) (kX_nil _) fun b _=>?_
   repeat' (first | simp (disch:=omega) only [sxE,pieces_Step.E,Nat.reduceAdd,Nat.reduceEqDiff,Nat.reduceMul,Nat.reduceSub,Int.reduceAdd,Int.reduceSub,Int.reduceMul,Int.reduceNeg,Int.reduceLT,Int.reduceLE,Int.reduceEq,Int.reduceToNat,↓reduceIte,Int.reducePow,Nat.reduceLeDiff,Nat.reduceLT,ne_eq,eq_self,List.length_cons,List.length_nil,qxE,kxE,x_stq,x_cSl] | (with_reducible refine cregF ?_))
   refine stL_c (b:=b) (R:=[]) rfl (List.mem_singleton.2 rfl) (fun k hk=>by cases hk) rfl rfl ?_
   repeat' (first | simp (disch:=omega) only [sxE,pieces_Step.E,Nat.reduceAdd,Nat.reduceEqDiff,Nat.reduceMul,Nat.reduceSub,Int.reduceAdd,Int.reduceSub,Int.reduceMul,Int.reduceNeg,Int.reduceLT,Int.reduceLE,Int.reduceEq,Int.reduceToNat,↓reduceIte,Int.reducePow,Nat.reduceLeDiff,Nat.reduceLT,ne_eq,eq_self,List.length_cons,List.length_nil,qxE,kxE,x_stq,x_cSl] | (with_reducible refine cregF ?_))
   refine asks_ob (C:=Sx.cx _ w _) [] (ι:=Unit) (e:=75) (s:=24) (fun _=>True) (fun _=>.tuple #[]) b (qcs ⟨st,si,sn,sT,sV,sL,sk,⟨o,p,q,p1,q1⟩⟩ (.slice none 0 0)) (fun _ v'=>qcs ⟨st',si',sn',sT',sV',sL',sk',⟨o',p',q',p1',q1'⟩⟩ v') (.slice none 0 0) 0 [] (fun _=>0 + es.length) (fun _=>[] ++ pcells es) en_pieces_work__step rfl (List.mem_singleton.2 rfl) (.inl ⟨rfl,rfl,rfl⟩) (fun _ h=>h) (fun k hk=>by cases hk) (fun W hW hbW hB ho=>?_) fun _ v' _ hnb hsh hR' hgl=>?_
   ·refine (kst hbW hB).mono ?_
    rintro e w' ⟨v',rfl,g1,g2,g3,g4,g5⟩
    exact ⟨(),v',trivial,rfl,g1,g2,g3,g4,g5⟩
   obtain ⟨va,vc,rfl,-,-,-⟩:=hsh
   repeat' (first | simp (disch:=omega) only [sxE,pieces_Step.E,Nat.reduceAdd,Nat.reduceEqDiff,Nat.reduceMul,Nat.reduceSub,Int.reduceAdd,Int.reduceSub,Int.reduceMul,Int.reduceNeg,Int.reduceLT,Int.reduceLE,Int.reduceEq,Int.reduceToNat,↓reduceIte,Int.reducePow,Nat.reduceLeDiff,Nat.reduceLT,ne_eq,eq_self,List.length_cons,List.length_nil,qxE,kxE,x_stq,x_cSl] | (with_reducible refine ldP_blk b ?_; refine ldP_k (b:=b) rfl (by first | exact List.mem_cons_self | exact List.mem_cons_of_mem _ List.mem_cons_self | exact List.mem_cons_of_mem _ (List.mem_cons_of_mem _ List.mem_cons_self) | exact List.mem_cons_of_mem _ (List.mem_cons_of_mem _ (List.mem_cons_of_mem _ List.mem_cons_self)) | exact List.mem_cons_of_mem _ (List.mem_cons_of_mem _ (List.mem_cons_of_mem _ (List.mem_cons_of_mem _ List.mem_cons_self)))) rfl ?_) | (with_reducible refine And.intro ?_ ?_) | (with_reducible refine cregF ?_))
   all_goals refine ⟨_,_,rfl,rfl,.inr ?_⟩
   all_goals rw [Nat.zero_add,List.nil_append]
   all_goals exact List.mem_cons_of_mem _ (List.mem_singleton.2 rfl)
  ·repeat' (first | simp (disch:=omega) only [sxE,pieces_Step.E,Nat.reduceAdd,Nat.reduceEqDiff,Nat.reduceMul,Nat.reduceSub,Int.reduceAdd,Int.reduceSub,Int.reduceMul,Int.reduceNeg,Int.reduceLT,Int.reduceLE,Int.reduceEq,Int.reduceToNat,↓reduceIte,Int.reducePow,Nat.reduceLeDiff,Nat.reduceLT,ne_eq,eq_self,List.length_cons,List.length_nil,qxE,kxE,Bool.not_true] | (with_reducible refine Sx.call_at (f:=122) (fun W hW=>kv W) ?_) | ((with_reducible first | apply cond_beq | apply gd_beq) <;> (intro hc; first | simp only [beq_iff_eq.2 hc] | simp only [beq_eq_false_iff_ne.2 hc] | skip)) | ((with_reducible first | apply cond_dec | apply gd_dec) <;> (intro hc; first | simp only [decide_eq_true hc] | simp only [decide_eq_false hc] | skip)) | ((with_reducible first | apply cond_of | apply gd_of) <;> (intro hc; try simp only [hc])) | (with_reducible refine cregF ?_))
   refine genA_az (L:=[]) (z:=.agg #[.int .i64 0,.int .i64 0,.int .i64 0,.int .i64 0,.int .i64 0,.int .i64 0,.int .i64 0,.bool false,.bool false,.int .u64 0,.int .u64 0,.int .u64 0,.int .u64 0,.bool false,.int .u64 0,.int .u64 0,.int .u64 0,.int .u64 0,.bool false,.int .u64 0,.int .u64 0,.int .u64 0,.int .u64 0,.bool false,.int .u64 0,.int .u64 0,.int .u64 0,.int .u64 0,.slice none 0 0]) [.int .i64 0,.int .i64 0,.int .i64 0,.int .i64 0,.int .i64 0,.int .i64 0,.int .i64 0,.bool false,.bool false,.int .u64 0,.int .u64 0,.int .u64 0,.int .u64 0,.bool false,.int .u64 0,.int .u64 0,.int .u64 0,.int .u64 0,.bool false,.int .u64 0,.int .u64 0,.int .u64 0,.int .u64 0,.bool false,.int .u64 0,.int .u64 0,.int .u64 0,.int .u64 0,.slice none 0 0] rfl (by kernel_rfl) (by kernel_rfl) (kX_nil _) fun b _=>?_
   repeat' (first | simp (disch:=omega) only [sxE,pieces_Step.E,Nat.reduceAdd,Nat.reduceEqDiff,Nat.reduceMul,Nat.reduceSub,Int.reduceAdd,Int.reduceSub,Int.reduceMul,Int.reduceNeg,Int.reduceLT,Int.reduceLE,Int.reduceEq,Int.reduceToNat,↓reduceIte,Int.reducePow,Nat.reduceLeDiff,Nat.reduceLT,ne_eq,eq_self,List.length_cons,List.length_nil,qxE,kxE,x_stq,x_cSl] | (with_reducible refine cregF ?_))
   refine stL_c (b:=b) (R:=[]) rfl (List.mem_singleton.2 rfl) (fun k hk=>by cases hk) rfl rfl ?_
   repeat' (first | simp (disch:=omega) only [sxE,pieces_Step.E,Nat.reduceAdd,Nat.reduceEqDiff,Nat.reduceMul,Nat.reduceSub,Int.reduceAdd,Int.reduceSub,Int.reduceMul,Int.reduceNeg,Int.reduceLT,Int.reduceLE,Int.reduceEq,Int.reduceToNat,↓reduceIte,Int.reducePow,Nat.reduceLeDiff,Nat.reduceLT,ne_eq,eq_self,List.length_cons,List.length_nil,qxE,kxE,x_stq,x_cSl] | (with_reducible refine cregF ?_))
   refine asks_ob (C:=Sx.cx _ w _) [] (ι:=Unit) (e:=75) (s:=24) (fun _=>True) (fun _=>.tuple #[]) b (qcs ⟨st,si,sn,sT,sV,sL,sk,⟨o,p,q,p1,q1⟩⟩ (.slice none 0 0)) (fun _ v'=>qcs ⟨st',si',sn',sT',sV',sL',sk',⟨o',p',q',p1',q1'⟩⟩ v') (.slice none 0 0) 0 [] (fun _=>0 + es.length) (fun _=>[] ++ pcells es) en_pieces_work__step rfl (List.mem_singleton.2 rfl) (.inl ⟨rfl,rfl,rfl⟩) (fun _ h=>h) (fun k hk=>by cases hk) (fun W hW hbW hB ho=>?_) fun _ v' _ hnb hsh hR' hgl=>?_
   ·refine (kst hbW hB).mono ?_
    rintro e w' ⟨v',rfl,g1,g2,g3,g4,g5⟩
    exact ⟨(),v',trivial,rfl,g1,g2,g3,g4,g5⟩
   obtain ⟨va,vc,rfl,-,-,-⟩:=hsh
   repeat' (first | simp (disch:=omega) only [sxE,pieces_Step.E,Nat.reduceAdd,Nat.reduceEqDiff,Nat.reduceMul,Nat.reduceSub,Int.reduceAdd,Int.reduceSub,Int.reduceMul,Int.reduceNeg,Int.reduceLT,Int.reduceLE,Int.reduceEq,Int.reduceToNat,↓reduceIte,Int.reducePow,Nat.reduceLeDiff,Nat.reduceLT,ne_eq,eq_self,List.length_cons,List.length_nil,qxE,kxE,x_stq,x_cSl] | (with_reducible refine ldP_blk b ?_; refine ldP_k (b:=b) rfl (by first | exact List.mem_cons_self | exact List.mem_cons_of_mem _ List.mem_cons_self | exact List.mem_cons_of_mem _ (List.mem_cons_of_mem _ List.mem_cons_self) | exact List.mem_cons_of_mem _ (List.mem_cons_of_mem _ (List.mem_cons_of_mem _ List.mem_cons_self)) | exact List.mem_cons_of_mem _ (List.mem_cons_of_mem _ (List.mem_cons_of_mem _ (List.mem_cons_of_mem _ List.mem_cons_self)))) rfl ?_) | (with_reducible refine And.intro ?_ ?_) | (with_reducible refine cregF ?_))
   all_goals refine ⟨_,_,rfl,rfl,.inr ?_⟩
   all_goals rw [Nat.zero_add,List.nil_append]
   all_goals exact List.mem_cons_of_mem _ (List.mem_singleton.2 rfl)
set_option maxRecDepth 100000 in
set_option maxHeartbeats 2000000 in
theorem gx_pcfin {w:World} {s:PcS} (h:PcG s):Calls Tryz.prog 121 #[pcv s] w (PllB w (pcl s) 0):=by
 refine (enterX Tryz.func121 pieces_Finish.ok (args:=[pcv s]) (R:=fun u X=>∃ v L,u = .tuple #[v,.int .i64 0]∧X = kX w.heap.size L∧rowOf L 75 24 v (pcl s).length (pcells (pcl s))) (by simp) ?run).mono ?fin
 case fin =>
  rintro e w' ⟨u,X,rfl,⟨v,L,rfl,rfl,hr⟩,hX,hbl,-⟩
  exact ⟨v,rfl,hr.own hX,hbl⟩
 case run =>
  have kv:=fun W=>gx_pcvalid h W
  have kst:∀ {W:World} {b n0:Nat},n0≤b→HB W b (qcs s (.slice none 0 0)).toArray→Calls Tryz.prog 96 #[.pointer (some ⟨b,0,none⟩)] W (EndP W b n0 (.slice none 0 0) (qcs s) 75 24 (0 + (pcl s).length) ([] ++ pcells (pcl s))) :=
   fun hle hb=>pc_end hle hb (World.ownsRow_nil _ _ _ _) (fun h=>by cases h) (by decide)
  generalize pcl s = es at *
  clear h
  obtain ⟨st,si,sn,sT,sV,sL,sk,⟨o,p,q,p1,q1⟩⟩:=s
  try dsimp only at *
  repeat' (first | simp (disch:=omega) only [sxE,pieces_Finish.E,Nat.reduceAdd,Nat.reduceEqDiff,Nat.reduceMul,Nat.reduceSub,Int.reduceAdd,Int.reduceSub,Int.reduceMul,Int.reduceNeg,Int.reduceLT,Int.reduceLE,Int.reduceEq,Int.reduceToNat,↓reduceIte,Int.reducePow,Nat.reduceLeDiff,Nat.reduceLT,ne_eq,eq_self,List.length_cons,List.length_nil,qxE,kxE,Bool.not_true] | (with_reducible refine Sx.call_at (f:=122) (fun W hW=>kv W) ?_) | (with_reducible refine cregF ?_))
  refine genA_az (L:=[]) (z:=.agg #[.int .i64 0,.int .i64 0,.int .i64 0,.int .i64 0,.int .i64 0,.int .i64 0,.int .i64 0,.bool false,.bool false,.int .u64 0,.int .u64 0,.int .u64 0,.int .u64 0,.bool false,.int .u64 0,.int .u64 0,.int .u64 0,.int .u64 0,.bool false,.int .u64 0,.int .u64 0,.int .u64 0,.int .u64 0,.bool false,.int .u64 0,.int .u64 0,.int .u64 0,.int .u64 0,.slice none 0 0]) [.int .i64 0,.int .i64 0,.int .i64 0,.int .i64 0,.int .i64 0,.int .i64 0,.int .i64 0,.bool false,.bool false,.int .u64 0,.int .u64 0,.int .u64 0,.int .u64 0,.bool false,.int .u64 0,.int .u64 0,.int .u64 0,.int .u64 0,.bool false,.int .u64 0,.int .u64 0,.int .u64 0,.int .u64 0,.bool false,.int .u64 0,.int .u64 0,.int .u64 0,.int .u64 0,.slice none 0 0] rfl (by kernel_rfl) (by kernel_rfl) (kX_nil _) fun b _=>?_
  repeat' (first | simp (disch:=omega) only [sxE,pieces_Finish.E,Nat.reduceAdd,Nat.reduceEqDiff,Nat.reduceMul,Nat.reduceSub,Int.reduceAdd,Int.reduceSub,Int.reduceMul,Int.reduceNeg,Int.reduceLT,Int.reduceLE,Int.reduceEq,Int.reduceToNat,↓reduceIte,Int.reducePow,Nat.reduceLeDiff,Nat.reduceLT,ne_eq,eq_self,List.length_cons,List.length_nil,qxE,kxE,x_stq,x_cSl] | (with_reducible refine cregF ?_))
  refine stL_c (b:=b) (R:=[]) rfl (List.mem_singleton.2 rfl) (fun k hk=>by cases hk) rfl rfl ?_
  repeat' (first | simp (disch:=omega) only [sxE,pieces_Finish.E,Nat.reduceAdd,Nat.reduceEqDiff,Nat.reduceMul,Nat.reduceSub,Int.reduceAdd,Int.reduceSub,Int.reduceMul,Int.reduceNeg,Int.reduceLT,Int.reduceLE,Int.reduceEq,Int.reduceToNat,↓reduceIte,Int.reducePow,Nat.reduceLeDiff,Nat.reduceLT,ne_eq,eq_self,List.length_cons,List.length_nil,qxE,kxE,x_stq,x_cSl] | (with_reducible refine cregF ?_))
  refine asks_ob (C:=Sx.cx _ w _) [] (ι:=Unit) (e:=75) (s:=24) (fun _=>True) (fun _=>.tuple #[]) b (qcs ⟨st,si,sn,sT,sV,sL,sk,⟨o,p,q,p1,q1⟩⟩ (.slice none 0 0)) (fun _ v'=>qcs ⟨st,si,sn,sT,sV,sL,sk,⟨o,p,q,p1,q1⟩⟩ v') (.slice none 0 0) 0 [] (fun _=>0 + es.length) (fun _=>[] ++ pcells es) en_pieces_work__end rfl (List.mem_singleton.2 rfl) (.inl ⟨rfl,rfl,rfl⟩) (fun _ h=>h) (fun k hk=>by cases hk) (fun W hW hbW hB ho=>?_) fun _ v' _ hnb hsh hR' hgl=>?_
  ·refine (kst hbW hB).mono ?_
   rintro e w' ⟨v',rfl,g1,g2,g3,g4,g5⟩
   exact ⟨(),v',trivial,rfl,g1,g2,g3,g4,g5⟩
  obtain ⟨va,vc,rfl,-,-,-⟩:=hsh
  repeat' (first | simp (disch:=omega) only [sxE,pieces_Finish.E,Nat.reduceAdd,Nat.reduceEqDiff,Nat.reduceMul,Nat.reduceSub,Int.reduceAdd,Int.reduceSub,Int.reduceMul,Int.reduceNeg,Int.reduceLT,Int.reduceLE,Int.reduceEq,Int.reduceToNat,↓reduceIte,Int.reducePow,Nat.reduceLeDiff,Nat.reduceLT,ne_eq,eq_self,List.length_cons,List.length_nil,qxE,kxE,x_stq,x_cSl] | (with_reducible refine ldP_blk b ?_; refine ldP_k (b:=b) rfl (by first | exact List.mem_cons_self | exact List.mem_cons_of_mem _ List.mem_cons_self | exact List.mem_cons_of_mem _ (List.mem_cons_of_mem _ List.mem_cons_self) | exact List.mem_cons_of_mem _ (List.mem_cons_of_mem _ (List.mem_cons_of_mem _ List.mem_cons_self)) | exact List.mem_cons_of_mem _ (List.mem_cons_of_mem _ (List.mem_cons_of_mem _ (List.mem_cons_of_mem _ List.mem_cons_self)))) rfl ?_) | (with_reducible refine cregF ?_))
  refine ⟨_,_,rfl,rfl,.inr ?_⟩
  rw [Nat.zero_add,List.nil_append]
  exact List.mem_cons_of_mem _ (List.mem_singleton.2 rfl)
structure PVal (v:Value) (b:Bool):Prop where
 v1:∀ W,Gives Tryz.prog 122 [v] W (· = .bool b)
 v2:∀ W,Gives Tryz.prog 123 [v] W (· = .bool b)
 cells:∃ (t I N T V L K:Int) (o:Bool) (n:Bool) (a b c d:Int) (n1:Bool) (a1 b1 c1 d1:Int) (m:Bool) (e f g h:Int) (m1:Bool) (e1 f1 g1 h1:Int),v = .agg #[.int .i64 t,.int .i64 I,.int .i64 N,.int .i64 T,.int .i64 V,.int .i64 L,.int .i64 K,.bool o,.bool n,.int .u64 a,.int .u64 b,.int .u64 c,.int .u64 d,.bool n1,.int .u64 a1,.int .u64 b1,.int .u64 c1,.int .u64 d1,.bool m,.int .u64 e,.int .u64 f,.int .u64 g,.int .u64 h,.bool m1,.int .u64 e1,.int .u64 f1,.int .u64 g1,.int .u64 h1]
 is:b = true→∃ s,PcG s∧v = pcv s
theorem pv_ok {s:PcS} (h:PcG s):PVal (pcv s) true :=
 ⟨fun W=>gx_pcvalid h W,fun W=>rx_pcvalid h W,⟨_,_,_,_,_,_,_,_,_,_,_,_,_,_,_,_,_,_,_,_,_,_,_,_,_,_,_,_,rfl⟩,fun _=>⟨s,h,rfl⟩⟩
theorem eq_ratio8 (n:Bool) (a b c d:Int) (n1:Bool) (a1 b1 c1 d1:Int) (w:World) :
  (Op.equalIn 9998 39 (.agg #[.bool n,.int .u64 a,.int .u64 b,.int .u64 c,.int .u64 d,.bool n1,.int .u64 a1,.int .u64 b1,.int .u64 c1,.int .u64 d1]) (.agg #[.bool false,.int .u64 0,.int .u64 0,.int .u64 0,.int .u64 0,.bool false,.int .u64 0,.int .u64 0,.int .u64 0,.int .u64 0])).run Tryz.prog w = .ok (weq n a b c d false 0 0 0 0 && weq n1 a1 b1 c1 d1 false 0 0 0 0) w:=by
 have h:=fun W=>eq_wide n a b c d false 0 0 0 0 9994 W
 have h':=fun W=>eq_wide n1 a1 b1 c1 d1 false 0 0 0 0 9994 W
 generalize weq n a b c d false 0 0 0 0 = e at *
 generalize weq n1 a1 b1 c1 d1 false 0 0 0 0 = e' at *
 cases e <;> cases e' <;> simp [go_sem,h,h']
theorem eq_cone9 (o:Bool) (n:Bool) (a b c d:Int) (n1:Bool) (a1 b1 c1 d1:Int) (m:Bool) (e f g h:Int) (m1:Bool) (e1 f1 g1 h1:Int) (w:World) :
  (Op.equalIn 9999 73 (KR o n a b c d n1 a1 b1 c1 d1 m e f g h m1 e1 f1 g1 h1) (KR false false 0 0 0 0 false 0 0 0 0 false 0 0 0 0 false 0 0 0 0)).run Tryz.prog w =
   .ok ((o == false) && (weq n a b c d false 0 0 0 0 && weq n1 a1 b1 c1 d1 false 0 0 0 0) && (weq m e f g h false 0 0 0 0 && weq m1 e1 f1 g1 h1 false 0 0 0 0)) w:=by
 have E1:=fun W=>eq_ratio8 n a b c d n1 a1 b1 c1 d1 W
 have E2:=fun W=>eq_ratio8 m e f g h m1 e1 f1 g1 h1 W
 generalize (weq n a b c d false 0 0 0 0 && weq n1 a1 b1 c1 d1 false 0 0 0 0) = x at *
 generalize (weq m e f g h false 0 0 0 0 && weq m1 e1 f1 g1 h1 false 0 0 0 0) = y at *
 unfold KR
 cases o <;> cases x <;> cases y <;> simp [go_sem,E1,E2]
theorem kz0_eq {o:Bool} {n:Bool} {a b c d:Int} {n1:Bool} {a1 b1 c1 d1:Int} {m:Bool} {e f g h:Int} {m1:Bool} {e1 f1 g1 h1:Int} (H:((o == false) && (weq n a b c d false 0 0 0 0 && weq n1 a1 b1 c1 d1 false 0 0 0 0) && (weq m e f g h false 0 0 0 0 && weq m1 e1 f1 g1 h1 false 0 0 0 0)) = true):([.bool o,.bool n,.int .u64 a,.int .u64 b,.int .u64 c,.int .u64 d,.bool n1,.int .u64 a1,.int .u64 b1,.int .u64 c1,.int .u64 d1,.bool m,.int .u64 e,.int .u64 f,.int .u64 g,.int .u64 h,.bool m1,.int .u64 e1,.int .u64 f1,.int .u64 g1,.int .u64 h1]:List Value) = [.bool false,.bool false,.int .u64 0,.int .u64 0,.int .u64 0,.int .u64 0,.bool false,.int .u64 0,.int .u64 0,.int .u64 0,.int .u64 0,.bool false,.int .u64 0,.int .u64 0,.int .u64 0,.int .u64 0,.bool false,.int .u64 0,.int .u64 0,.int .u64 0,.int .u64 0]:=by
 simp only [Bool.and_eq_true] at H
 obtain ⟨⟨k0,k1,k2⟩,k3,k4⟩:=H
 obtain ⟨rfl,rfl,rfl,rfl,rfl⟩:=weq0 k1
 obtain ⟨rfl,rfl,rfl,rfl,rfl⟩:=weq0 k2
 obtain ⟨rfl,rfl,rfl,rfl,rfl⟩:=weq0 k3
 obtain ⟨rfl,rfl,rfl,rfl,rfl⟩:=weq0 k4
 have k0:o = false:=by simpa using k0
 rw [k0]
theorem eq_pst0 (t I T V L K:Int) (o:Bool) (n:Bool) (a b c d:Int) (n1:Bool) (a1 b1 c1 d1:Int) (m:Bool) (e f g h:Int) (m1:Bool) (e1 f1 g1 h1:Int):∃ r,(∀ w,(Op.equalIn 10000 94 (.agg #[.int .i64 t,.int .i64 I,.int .i64 0,.int .i64 T,.int .i64 V,.int .i64 L,.int .i64 K,.bool o,.bool n,.int .u64 a,.int .u64 b,.int .u64 c,.int .u64 d,.bool n1,.int .u64 a1,.int .u64 b1,.int .u64 c1,.int .u64 d1,.bool m,.int .u64 e,.int .u64 f,.int .u64 g,.int .u64 h,.bool m1,.int .u64 e1,.int .u64 f1,.int .u64 g1,.int .u64 h1]) (pcY t I)).run Tryz.prog w = .ok r w)∧(r = true→(.agg #[.int .i64 t,.int .i64 I,.int .i64 0,.int .i64 T,.int .i64 V,.int .i64 L,.int .i64 K,.bool o,.bool n,.int .u64 a,.int .u64 b,.int .u64 c,.int .u64 d,.bool n1,.int .u64 a1,.int .u64 b1,.int .u64 c1,.int .u64 d1,.bool m,.int .u64 e,.int .u64 f,.int .u64 g,.int .u64 h,.bool m1,.int .u64 e1,.int .u64 f1,.int .u64 g1,.int .u64 h1]) = pcY t I):=by
 have E:=fun W=>eq_cone9 o n a b c d n1 a1 b1 c1 d1 m e f g h m1 e1 f1 g1 h1 W
 have H:=@kz0_eq o n a b c d n1 a1 b1 c1 d1 m e f g h m1 e1 f1 g1 h1
 generalize ((o == false) && (weq n a b c d false 0 0 0 0 && weq n1 a1 b1 c1 d1 false 0 0 0 0) && (weq m e f g h false 0 0 0 0 && weq m1 e1 f1 g1 h1 false 0 0 0 0)) = x at *
 unfold KR at E
 by_cases hT:T = 0
 ·by_cases hV:V = 0
  ·by_cases hL:L = 0
   ·by_cases hK:K = 0
    ·subst hT hV hL hK
     refine ⟨x,fun w=>?_,fun hx=>?_⟩
     ·cases x <;> simp [go_sem,E]
     ·have e:=H hx
      exact congrArg (fun l:List Value=>Value.agg (.int .i64 t :: .int .i64 I :: .int .i64 0 :: .int .i64 0 :: .int .i64 0 :: .int .i64 0 :: .int .i64 0 :: l).toArray) e
    ·exact ⟨false,fun w=>by subst hT hV hL; simp [go_sem,hK],fun h=>by cases h⟩
   ·exact ⟨false,fun w=>by subst hT hV; simp [go_sem,hL],fun h=>by cases h⟩
  ·exact ⟨false,fun w=>by subst hT; simp [go_sem,hV],fun h=>by cases h⟩
 ·exact ⟨false,fun w=>by simp [go_sem,hT],fun h=>by cases h⟩
set_option maxRecDepth 100000 in
theorem eqb_pst {ng:Bool} {xo yo:Operand} {x y:Array Value} {r:Bool} (h:∀ w,(Op.equalIn 10000 94 (.agg x) (.agg y)).run Tryz.prog w = .ok r w) (W:World) :
  ((do eqGuard (if ng then .neq else .eql) 94 xo yo (.agg x) (.agg y); binOp (if ng then .neq else .eql) 94 (.agg x) (.agg y)):Sem Value).run Tryz.prog W = .ok (.bool (if ng then !r else r)) W :=
 eqb_run (ng:=ng) (xo:=xo) (yo:=yo) guardT_pstate (h W)
set_option maxRecDepth 100000 in
set_option maxHeartbeats 2000000 in
theorem pv_raw {t I N T V L K:Int} (it:I64 t) (iT:I64 T) (iV:I64 V) (iL:I64 L) (o:Bool) (n:Bool) {a b c d:Int} (n1:Bool) {a1 b1 c1 d1:Int} (m:Bool) {e f g h:Int} (m1:Bool) {e1 f1 g1 h1:Int} (k1:U64 a) (k2:U64 b) (k3:U64 c) (k4:U64 d) (k5:U64 a1) (k6:U64 b1) (k7:U64 c1) (k8:U64 d1) (k9:U64 e) (k10:U64 f) (k11:U64 g) (k12:U64 h) (k13:U64 e1) (k14:U64 f1) (k15:U64 g1) (k16:U64 h1):∃ r,PVal (.agg #[.int .i64 t,.int .i64 I,.int .i64 N,.int .i64 T,.int .i64 V,.int .i64 L,.int .i64 K,.bool o,.bool n,.int .u64 a,.int .u64 b,.int .u64 c,.int .u64 d,.bool n1,.int .u64 a1,.int .u64 b1,.int .u64 c1,.int .u64 d1,.bool m,.int .u64 e,.int .u64 f,.int .u64 g,.int .u64 h,.bool m1,.int .u64 e1,.int .u64 f1,.int .u64 g1,.int .u64 h1]) r:=by
 obtain ⟨v,hv⟩:∃ v:Value,v = (.agg #[.int .i64 t,.int .i64 I,.int .i64 N,.int .i64 T,.int .i64 V,.int .i64 L,.int .i64 K,.bool o,.bool n,.int .u64 a,.int .u64 b,.int .u64 c,.int .u64 d,.bool n1,.int .u64 a1,.int .u64 b1,.int .u64 c1,.int .u64 d1,.bool m,.int .u64 e,.int .u64 f,.int .u64 g,.int .u64 h,.bool m1,.int .u64 e1,.int .u64 f1,.int .u64 g1,.int .u64 h1]):=⟨_,rfl⟩
 have q1:=fun W=>gx_ptol t W
 have q2:=fun W=>rx_tol it W
 rw [show decide (0≤t∧t≤4611686018427387904) = tolz t by unfold tolz; rw [Bool.decide_and]] at q2
 have kk:=fun W=>gx_key iV it W
 have kr:=fun W=>rx_key iV it W
 have no:∀ r,(∀ W,Gives Tryz.prog 122 [v] W (· = .bool r))→(∀ W,Gives Tryz.prog 123 [v] W (· = .bool r))→(r = true→∃ s,PcG s∧v = pcv s)→∃ r,PVal v r:=fun r g1 g2 g3=>⟨r,g1,g2,⟨_,_,_,_,_,_,_,_,_,_,_,_,_,_,_,_,_,_,_,_,_,_,_,_,_,_,_,_,hv⟩,g3⟩
 rw [← hv]
 by_cases hz:tolz t = true∧0≤I∧I≤1073741824∧0≤N∧N≤1073741824
 ·obtain ⟨hz,hI0,hI1,hN0,hN1⟩:=hz
  rw [hz] at q1 q2
  by_cases hn0:N = 0
  ·subst hn0
   obtain ⟨r,hr,hr2⟩:=eq_pst0 t I T V L K o n a b c d n1 a1 b1 c1 d1 m e f g h m1 e1 f1 g1 h1
   refine no r (fun W=>gives_known en_pieces_Valid ?_) (fun W=>gives_known en_r19_Valid ?_) fun h=>⟨⟨t,I,0,0,0,0,0,c0⟩,⟨hz,hI0,hI1,Int.le_refl _,(show (0:Int)≤1073741824 by decide),(fun h=>absurd h (Int.lt_irrefl _)),i64_z,i64_z,i64_z,(fun h=>absurd h (Int.lt_irrefl _)),fun _=>rfl,(fun h=>by have h:(0:Int) = 1:=h; omega),(fun h=>by have h:(1:Int) < 0:=h; omega)⟩,by rw [pcv_y,hv]; exact hr2 h⟩
   ·subst hv
    refine known_of (enter Tryz.func122 pieces_Valid.ok (args:=[_]) (by simp) ?_)
    repeat' (first | simp (disch:=omega) only [sxE,pieces_Valid.E,Nat.reduceAdd,Nat.reduceEqDiff,Nat.reduceMul,Nat.reduceSub,Int.reduceAdd,Int.reduceSub,Int.reduceMul,Int.reduceNeg,Int.reduceLT,Int.reduceLE,Int.reduceEq,Int.reduceToNat,↓reduceIte,Int.reducePow,Nat.reduceLeDiff,Nat.reduceLT,ne_eq,eq_self,List.length_cons,List.length_nil,qxE,kxE,beq_self_eq_true,Bool.not_false,Bool.not_true] | (with_reducible refine Sx.call_at (f:=119) (fun W hW=>q1 W) ?_) | (with_reducible refine eq_is (fun W=>by exact eqb_pst hr W) ?_) | (with_reducible refine cregF ?_))
   ·subst hv
    refine known_of (enter Tryz.func123 r19_Valid.ok (args:=[_]) (by simp) ?_)
    repeat' (first | simp (disch:=omega) only [sxE,r19_Valid.E,Nat.reduceAdd,Nat.reduceEqDiff,Nat.reduceMul,Nat.reduceSub,Int.reduceAdd,Int.reduceSub,Int.reduceMul,Int.reduceNeg,Int.reduceLT,Int.reduceLE,Int.reduceEq,Int.reduceToNat,↓reduceIte,Int.reducePow,Nat.reduceLeDiff,Nat.reduceLT,ne_eq,eq_self,List.length_cons,List.length_nil,qxE,kxE,beq_self_eq_true,Bool.not_false,Bool.not_true] | (with_reducible refine Sx.call_at (f:=93) (fun W hW=>q2 W) ?_) | (with_reducible refine eq_is (fun W=>by exact eqb_pst hr W) ?_) | (with_reducible refine cregF ?_))
  by_cases hk:¬ K = ke V t
  ·generalize ke V t = K' at *
   have hK':(K == K') = false:=beq_eq_false_iff_ne.2 hk
   refine no false (fun W=>gives_known en_pieces_Valid ?_) (fun W=>gives_known en_r19_Valid ?_) fun h=>by cases h
   ·subst hv
    refine known_of (enter Tryz.func122 pieces_Valid.ok (args:=[_]) (by simp) ?_)
    repeat' (first | simp (disch:=omega) only [sxE,pieces_Valid.E,Nat.reduceAdd,Nat.reduceEqDiff,Nat.reduceMul,Nat.reduceSub,Int.reduceAdd,Int.reduceSub,Int.reduceMul,Int.reduceNeg,Int.reduceLT,Int.reduceLE,Int.reduceEq,Int.reduceToNat,↓reduceIte,Int.reducePow,Nat.reduceLeDiff,Nat.reduceLT,ne_eq,eq_self,List.length_cons,List.length_nil,qxE,kxE,hK',beq_self_eq_true,Bool.not_false,Bool.not_true] | (with_reducible refine Sx.call_at (f:=119) (fun W hW=>q1 W) ?_) | (with_reducible refine Sx.call_at (f:=61) (fun W hW=>kk W) ?_) | (with_reducible refine cregF ?_))
   ·subst hv
    refine known_of (enter Tryz.func123 r19_Valid.ok (args:=[_]) (by simp) ?_)
    repeat' (first | simp (disch:=omega) only [sxE,r19_Valid.E,Nat.reduceAdd,Nat.reduceEqDiff,Nat.reduceMul,Nat.reduceSub,Int.reduceAdd,Int.reduceSub,Int.reduceMul,Int.reduceNeg,Int.reduceLT,Int.reduceLE,Int.reduceEq,Int.reduceToNat,↓reduceIte,Int.reducePow,Nat.reduceLeDiff,Nat.reduceLT,ne_eq,eq_self,List.length_cons,List.length_nil,qxE,kxE,hK',beq_self_eq_true,Bool.not_false,Bool.not_true] | (with_reducible refine Sx.call_at (f:=93) (fun W hW=>q2 W) ?_) | (with_reducible refine Sx.call_at (f:=38) (fun W hW=>kr W) ?_) | (with_reducible refine cregF ?_))
  have hk:=Decidable.not_not.1 hk
  obtain ⟨K',hKe⟩:∃ K',ke V t = K':=⟨_,rfl⟩
  rw [hKe] at kk kr hk
  subst hk
  by_cases hn1:N = 1
  ·subst hn1
   have s1:=fun W=>gx_kstart W
   have s2:=fun W=>rx_kstart W
   by_cases hL:L = T
   ·subst hL
    have hkz:=@kz_eq n a b c d n1 a1 b1 c1 d1 m e f g h m1 e1 f1 g1 h1
    have E:=fun {ng xo yo} W=>@eqkr_run ng xo yo o n a b c d n1 a1 b1 c1 d1 m e f g h m1 e1 f1 g1 h1 W
    obtain ⟨r,hr⟩:∃ r,((o == true) && (weq n a b c d false 0 0 0 0 && weq n1 a1 b1 c1 d1 false 0 0 0 0) && (weq m e f g h false 0 0 0 0 && weq m1 e1 f1 g1 h1 false 0 0 0 0)) = r:=⟨_,rfl⟩
    rw [hr] at E
    refine no r (fun W=>gives_known en_pieces_Valid ?_) (fun W=>gives_known en_r19_Valid ?_) fun h'=>?_
    ·subst hv
     refine known_of (enter Tryz.func122 pieces_Valid.ok (args:=[_]) (by simp) ?_)
     repeat' (first | simp (disch:=omega) only [sxE,pieces_Valid.E,Nat.reduceAdd,Nat.reduceEqDiff,Nat.reduceMul,Nat.reduceSub,Int.reduceAdd,Int.reduceSub,Int.reduceMul,Int.reduceNeg,Int.reduceLT,Int.reduceLE,Int.reduceEq,Int.reduceToNat,↓reduceIte,Int.reducePow,Nat.reduceLeDiff,Nat.reduceLT,ne_eq,eq_self,List.length_cons,List.length_nil,qxE,kxE,beq_self_eq_true,Bool.not_false,Bool.not_true] | (with_reducible refine Sx.call_at (f:=119) (fun W hW=>q1 W) ?_) | (with_reducible refine Sx.call_at (f:=158) (fun W hW=>s1 W) ?_) | (with_reducible refine Sx.call_at (f:=61) (fun W hW=>kk W) ?_) | (with_reducible refine eq_is (fun W=>by exact E W) ?_) | (with_reducible refine cregF ?_))
    ·subst hv
     refine known_of (enter Tryz.func123 r19_Valid.ok (args:=[_]) (by simp) ?_)
     repeat' (first | simp (disch:=omega) only [sxE,r19_Valid.E,Nat.reduceAdd,Nat.reduceEqDiff,Nat.reduceMul,Nat.reduceSub,Int.reduceAdd,Int.reduceSub,Int.reduceMul,Int.reduceNeg,Int.reduceLT,Int.reduceLE,Int.reduceEq,Int.reduceToNat,↓reduceIte,Int.reducePow,Nat.reduceLeDiff,Nat.reduceLT,ne_eq,eq_self,List.length_cons,List.length_nil,qxE,kxE,beq_self_eq_true,Bool.not_false,Bool.not_true] | (with_reducible refine Sx.call_at (f:=93) (fun W hW=>q2 W) ?_) | (with_reducible refine Sx.call_at (f:=55) (fun W hW=>s2 W) ?_) | (with_reducible refine Sx.call_at (f:=38) (fun W hW=>kr W) ?_) | (with_reducible refine eq_is (fun W=>by exact E W) ?_) | (with_reducible refine cregF ?_))
    ·rw [h'] at hr
     have ho:o = true:=by
      have:=hr
      simp only [Bool.and_eq_true] at this
      simpa using this.1.1
     subst ho
     have e':=hkz hr
     refine ⟨⟨t,I,1,L,V,L,K,cO⟩,⟨hz,hI0,hI1,by show (0:Int)≤1; decide,by show (1:Int)≤_; decide,fun _=>cO_ok,iL,iV,iL,(fun _=>hKe.symm),(fun h=>by cases h),fun _=>⟨rfl,rfl⟩,(fun h=>by have:(1:Int) < 1:=h; omega)⟩,?_⟩
     have e2:=congrArg (fun v:Value=>Value.agg (.int .i64 t :: .int .i64 I :: .int .i64 1 :: .int .i64 L :: .int .i64 V :: .int .i64 L :: .int .i64 K :: v.cells.toList).toArray) e'
     rw [hv]
     exact e2
   ·have hL':(L == T) = false:=beq_eq_false_iff_ne.2 hL
    refine no false (fun W=>gives_known en_pieces_Valid ?_) (fun W=>gives_known en_r19_Valid ?_) fun h=>by cases h
    ·subst hv
     refine known_of (enter Tryz.func122 pieces_Valid.ok (args:=[_]) (by simp) ?_)
     repeat' (first | simp (disch:=omega) only [sxE,pieces_Valid.E,Nat.reduceAdd,Nat.reduceEqDiff,Nat.reduceMul,Nat.reduceSub,Int.reduceAdd,Int.reduceSub,Int.reduceMul,Int.reduceNeg,Int.reduceLT,Int.reduceLE,Int.reduceEq,Int.reduceToNat,↓reduceIte,Int.reducePow,Nat.reduceLeDiff,Nat.reduceLT,ne_eq,eq_self,List.length_cons,List.length_nil,qxE,kxE,hL',beq_self_eq_true,Bool.not_false,Bool.not_true] | (with_reducible refine Sx.call_at (f:=119) (fun W hW=>q1 W) ?_) | (with_reducible refine Sx.call_at (f:=158) (fun W hW=>s1 W) ?_) | (with_reducible refine Sx.call_at (f:=61) (fun W hW=>kk W) ?_) | (with_reducible refine cregF ?_))
    ·subst hv
     refine known_of (enter Tryz.func123 r19_Valid.ok (args:=[_]) (by simp) ?_)
     repeat' (first | simp (disch:=omega) only [sxE,r19_Valid.E,Nat.reduceAdd,Nat.reduceEqDiff,Nat.reduceMul,Nat.reduceSub,Int.reduceAdd,Int.reduceSub,Int.reduceMul,Int.reduceNeg,Int.reduceLT,Int.reduceLE,Int.reduceEq,Int.reduceToNat,↓reduceIte,Int.reducePow,Nat.reduceLeDiff,Nat.reduceLT,ne_eq,eq_self,List.length_cons,List.length_nil,qxE,kxE,hL',beq_self_eq_true,Bool.not_false,Bool.not_true] | (with_reducible refine Sx.call_at (f:=93) (fun W hW=>q2 W) ?_) | (with_reducible refine Sx.call_at (f:=55) (fun W hW=>s2 W) ?_) | (with_reducible refine Sx.call_at (f:=38) (fun W hW=>kr W) ?_) | (with_reducible refine cregF ?_))
  ·by_cases hL:T < L
   ·cases o
    ·obtain ⟨r,x,hx⟩:=kv_raw false n n1 m m1 k1 k2 k3 k4 k5 k6 k7 k8 k9 k10 k11 k12 k13 k14 k15 k16
     have y1:=hx.v1
     have y2:=hx.v2
     refine no r (fun W=>gives_known en_pieces_Valid ?_) (fun W=>gives_known en_r19_Valid ?_) fun h'=>?_
     ·subst hv
      refine known_of (enter Tryz.func122 pieces_Valid.ok (args:=[_]) (by simp) ?_)
      repeat' (first | simp (disch:=omega) only [sxE,pieces_Valid.E,Nat.reduceAdd,Nat.reduceEqDiff,Nat.reduceMul,Nat.reduceSub,Int.reduceAdd,Int.reduceSub,Int.reduceMul,Int.reduceNeg,Int.reduceLT,Int.reduceLE,Int.reduceEq,Int.reduceToNat,↓reduceIte,Int.reducePow,Nat.reduceLeDiff,Nat.reduceLT,ne_eq,eq_self,List.length_cons,List.length_nil,qxE,kxE,beq_self_eq_true,Bool.not_false,Bool.not_true] | (with_reducible refine Sx.call_at (f:=119) (fun W hW=>q1 W) ?_) | (with_reducible refine Sx.call_at (f:=159) (fun W hW=>y1 W) ?_) | (with_reducible refine Sx.call_at (f:=61) (fun W hW=>kk W) ?_) | (with_reducible refine cregF ?_))
     ·subst hv
      refine known_of (enter Tryz.func123 r19_Valid.ok (args:=[_]) (by simp) ?_)
      cases r <;> repeat' (first | simp (disch:=omega) only [sxE,r19_Valid.E,Nat.reduceAdd,Nat.reduceEqDiff,Nat.reduceMul,Nat.reduceSub,Int.reduceAdd,Int.reduceSub,Int.reduceMul,Int.reduceNeg,Int.reduceLT,Int.reduceLE,Int.reduceEq,Int.reduceToNat,↓reduceIte,Int.reducePow,Nat.reduceLeDiff,Nat.reduceLT,ne_eq,eq_self,List.length_cons,List.length_nil,qxE,kxE,beq_self_eq_true,Bool.not_false,Bool.not_true] | (with_reducible refine Sx.call_at (f:=93) (fun W hW=>q2 W) ?_) | (with_reducible refine Sx.call_at (f:=39) (fun W hW=>y2 W) ?_) | (with_reducible refine Sx.call_at (f:=38) (fun W hW=>kr W) ?_) | (with_reducible refine cregF ?_))
     ·obtain ⟨e',hxo⟩:=hx.is h'
      obtain ⟨xo,xp,xq,xp1,xq1⟩:=x
      have ho:xo = false:=by
       have:=congrArg (fun v:Value=>v.cells.toList.head?) e'
       have:some (Value.bool false) = some (Value.bool xo):=this
       cases this; rfl
      refine ⟨⟨t,I,N,T,V,L,K,⟨xo,xp,xq,xp1,xq1⟩⟩,⟨hz,hI0,hI1,hN0,hN1,fun _=>hxo,iT,iV,iL,(fun _=>hKe.symm),fun h=>absurd h hn0,fun h=>absurd h hn1,fun _=>⟨hL,ho⟩⟩,?_⟩
      rw [hv]
      exact congrArg (fun v:Value=>Value.agg (.int .i64 t :: .int .i64 I :: .int .i64 N :: .int .i64 T :: .int .i64 V :: .int .i64 L :: .int .i64 K :: v.cells.toList).toArray) e'
    ·have y1:=fun W=>gv_open n a b c d n1 a1 b1 c1 d1 m e f g h m1 e1 f1 g1 h1 W
     have y2:=fun W=>rv_open n a b c d n1 a1 b1 c1 d1 m e f g h m1 e1 f1 g1 h1 W
     generalize kz n a b c d n1 a1 b1 c1 d1 m e f g h m1 e1 f1 g1 h1 = r at *
     refine no false (fun W=>gives_known en_pieces_Valid ?_) (fun W=>gives_known en_r19_Valid ?_) fun h=>by cases h
     ·subst hv
      refine known_of (enter Tryz.func122 pieces_Valid.ok (args:=[_]) (by simp) ?_)
      repeat' (first | simp (disch:=omega) only [sxE,pieces_Valid.E,Nat.reduceAdd,Nat.reduceEqDiff,Nat.reduceMul,Nat.reduceSub,Int.reduceAdd,Int.reduceSub,Int.reduceMul,Int.reduceNeg,Int.reduceLT,Int.reduceLE,Int.reduceEq,Int.reduceToNat,↓reduceIte,Int.reducePow,Nat.reduceLeDiff,Nat.reduceLT,ne_eq,eq_self,List.length_cons,List.length_nil,qxE,kxE,beq_self_eq_true,Bool.not_false,Bool.not_true] | (with_reducible refine Sx.call_at (f:=119) (fun W hW=>q1 W) ?_) | (with_reducible refine Sx.call_at (f:=61) (fun W hW=>kk W) ?_) | (with_reducible refine cregF ?_))
     ·subst hv
      refine known_of (enter Tryz.func123 r19_Valid.ok (args:=[_]) (by simp) ?_)
      cases r <;> repeat' (first | simp (disch:=omega) only [sxE,r19_Valid.E,Nat.reduceAdd,Nat.reduceEqDiff,Nat.reduceMul,Nat.reduceSub,Int.reduceAdd,Int.reduceSub,Int.reduceMul,Int.reduceNeg,Int.reduceLT,Int.reduceLE,Int.reduceEq,Int.reduceToNat,↓reduceIte,Int.reducePow,Nat.reduceLeDiff,Nat.reduceLT,ne_eq,eq_self,List.length_cons,List.length_nil,qxE,kxE,beq_self_eq_true,Bool.not_false,Bool.not_true] | (with_reducible refine Sx.call_at (f:=93) (fun W hW=>q2 W) ?_) | (with_reducible refine Sx.call_at (f:=39) (fun W hW=>y2 W) ?_) | (with_reducible refine Sx.call_at (f:=38) (fun W hW=>kr W) ?_) | (with_reducible refine cregF ?_))
   ·refine no false (fun W=>gives_known en_pieces_Valid ?_) (fun W=>gives_known en_r19_Valid ?_) fun h=>by cases h
    ·subst hv
     refine known_of (enter Tryz.func122 pieces_Valid.ok (args:=[_]) (by simp) ?_)
     repeat' (first | simp (disch:=omega) only [sxE,pieces_Valid.E,Nat.reduceAdd,Nat.reduceEqDiff,Nat.reduceMul,Nat.reduceSub,Int.reduceAdd,Int.reduceSub,Int.reduceMul,Int.reduceNeg,Int.reduceLT,Int.reduceLE,Int.reduceEq,Int.reduceToNat,↓reduceIte,Int.reducePow,Nat.reduceLeDiff,Nat.reduceLT,ne_eq,eq_self,List.length_cons,List.length_nil,qxE,kxE,decide_eq_false hL,beq_self_eq_true,Bool.not_false,Bool.not_true] | (with_reducible refine Sx.call_at (f:=119) (fun W hW=>q1 W) ?_) | (with_reducible refine Sx.call_at (f:=61) (fun W hW=>kk W) ?_) | (with_reducible refine cregF ?_))
    ·subst hv
     refine known_of (enter Tryz.func123 r19_Valid.ok (args:=[_]) (by simp) ?_)
     repeat' (first | simp (disch:=omega) only [sxE,r19_Valid.E,Nat.reduceAdd,Nat.reduceEqDiff,Nat.reduceMul,Nat.reduceSub,Int.reduceAdd,Int.reduceSub,Int.reduceMul,Int.reduceNeg,Int.reduceLT,Int.reduceLE,Int.reduceEq,Int.reduceToNat,↓reduceIte,Int.reducePow,Nat.reduceLeDiff,Nat.reduceLT,ne_eq,eq_self,List.length_cons,List.length_nil,qxE,kxE,beq_self_eq_true,Bool.not_false,Bool.not_true] | (with_reducible refine Sx.call_at (f:=93) (fun W hW=>q2 W) ?_) | (with_reducible refine Sx.call_at (f:=38) (fun W hW=>kr W) ?_) | ((with_reducible first | apply cond_beq | apply gd_beq) <;> (intro hc; first | simp only [beq_iff_eq.2 hc] | simp only [beq_eq_false_iff_ne.2 hc] | skip)) | ((with_reducible first | apply cond_dec | apply gd_dec) <;> (intro hc; first | simp only [decide_eq_true hc] | simp only [decide_eq_false hc] | skip)) | ((with_reducible first | apply cond_of | apply gd_of) <;> (intro hc; try simp only [hc])) | (with_reducible refine cregF ?_))
 ·refine no false (fun W=>gives_known en_pieces_Valid ?_) (fun W=>gives_known en_r19_Valid ?_) fun h=>by cases h
  all_goals subst hv
  ·refine known_of (enter Tryz.func122 pieces_Valid.ok (args:=[_]) (by simp) ?_)
   cases hzt:tolz t
   ·rw [hzt] at q1
    repeat' (first | simp (disch:=omega) only [sxE,pieces_Valid.E,Nat.reduceAdd,Nat.reduceEqDiff,Nat.reduceMul,Nat.reduceSub,Int.reduceAdd,Int.reduceSub,Int.reduceMul,Int.reduceNeg,Int.reduceLT,Int.reduceLE,Int.reduceEq,Int.reduceToNat,↓reduceIte,Int.reducePow,Nat.reduceLeDiff,Nat.reduceLT,ne_eq,eq_self,List.length_cons,List.length_nil,qxE,kxE,Bool.not_false,Bool.not_true] | (with_reducible refine Sx.call_at (f:=119) (fun W hW=>q1 W) ?_) | (with_reducible refine cregF ?_))
   ·rw [hzt] at q1
    rcases Int.lt_or_le I 0 with hI | hI
    ·have dd1:=decide_eq_true hI
     repeat' (first | simp (disch:=omega) only [sxE,pieces_Valid.E,Nat.reduceAdd,Nat.reduceEqDiff,Nat.reduceMul,Nat.reduceSub,Int.reduceAdd,Int.reduceSub,Int.reduceMul,Int.reduceNeg,Int.reduceLT,Int.reduceLE,Int.reduceEq,Int.reduceToNat,↓reduceIte,Int.reducePow,Nat.reduceLeDiff,Nat.reduceLT,ne_eq,eq_self,List.length_cons,List.length_nil,qxE,kxE,dd1,Bool.not_false,Bool.not_true] | (with_reducible refine Sx.call_at (f:=119) (fun W hW=>q1 W) ?_) | (with_reducible refine cregF ?_))
    have dd1:decide (I < 0) = false:=decide_eq_false (by omega)
    rcases Int.lt_or_le 1073741824 I with hI1 | hI1
    ·have dd2:=decide_eq_true hI1
     repeat' (first | simp (disch:=omega) only [sxE,pieces_Valid.E,Nat.reduceAdd,Nat.reduceEqDiff,Nat.reduceMul,Nat.reduceSub,Int.reduceAdd,Int.reduceSub,Int.reduceMul,Int.reduceNeg,Int.reduceLT,Int.reduceLE,Int.reduceEq,Int.reduceToNat,↓reduceIte,Int.reducePow,Nat.reduceLeDiff,Nat.reduceLT,ne_eq,eq_self,List.length_cons,List.length_nil,qxE,kxE,dd1,dd2,Bool.not_false,Bool.not_true] | (with_reducible refine Sx.call_at (f:=119) (fun W hW=>q1 W) ?_) | (with_reducible refine cregF ?_))
    have dd2:decide (1073741824 < I) = false:=decide_eq_false (by omega)
    rcases Int.lt_or_le N 0 with hN | hN
    ·have dd3:=decide_eq_true hN
     repeat' (first | simp (disch:=omega) only [sxE,pieces_Valid.E,Nat.reduceAdd,Nat.reduceEqDiff,Nat.reduceMul,Nat.reduceSub,Int.reduceAdd,Int.reduceSub,Int.reduceMul,Int.reduceNeg,Int.reduceLT,Int.reduceLE,Int.reduceEq,Int.reduceToNat,↓reduceIte,Int.reducePow,Nat.reduceLeDiff,Nat.reduceLT,ne_eq,eq_self,List.length_cons,List.length_nil,qxE,kxE,dd1,dd2,dd3,Bool.not_false,Bool.not_true] | (with_reducible refine Sx.call_at (f:=119) (fun W hW=>q1 W) ?_) | (with_reducible refine cregF ?_))
    have dd3:decide (N < 0) = false:=decide_eq_false (by omega)
    have hgt:1073741824 < N:=Int.not_le.1 fun h=>hz ⟨hzt,hI,hI1,hN,h⟩
    have dd4:decide (1073741824 < N) = true:=decide_eq_true hgt
    repeat' (first | simp (disch:=omega) only [sxE,pieces_Valid.E,Nat.reduceAdd,Nat.reduceEqDiff,Nat.reduceMul,Nat.reduceSub,Int.reduceAdd,Int.reduceSub,Int.reduceMul,Int.reduceNeg,Int.reduceLT,Int.reduceLE,Int.reduceEq,Int.reduceToNat,↓reduceIte,Int.reducePow,Nat.reduceLeDiff,Nat.reduceLT,ne_eq,eq_self,List.length_cons,List.length_nil,qxE,kxE,dd1,dd2,dd3,dd4,Bool.not_false,Bool.not_true] | (with_reducible refine Sx.call_at (f:=119) (fun W hW=>q1 W) ?_) | (with_reducible refine cregF ?_))
  ·refine known_of (enter Tryz.func123 r19_Valid.ok (args:=[_]) (by simp) ?_)
   cases hzt:tolz t
   ·rw [hzt] at q2
    repeat' (first | simp (disch:=omega) only [sxE,r19_Valid.E,Nat.reduceAdd,Nat.reduceEqDiff,Nat.reduceMul,Nat.reduceSub,Int.reduceAdd,Int.reduceSub,Int.reduceMul,Int.reduceNeg,Int.reduceLT,Int.reduceLE,Int.reduceEq,Int.reduceToNat,↓reduceIte,Int.reducePow,Nat.reduceLeDiff,Nat.reduceLT,ne_eq,eq_self,List.length_cons,List.length_nil,qxE,kxE,Bool.not_false,Bool.not_true] | (with_reducible refine Sx.call_at (f:=93) (fun W hW=>q2 W) ?_) | (with_reducible refine cregF ?_))
   ·rw [hzt] at q2
    rcases Int.lt_or_le I 0 with hI | hI
    ·have dd1:=decide_eq_true hI
     repeat' (first | simp (disch:=omega) only [sxE,r19_Valid.E,Nat.reduceAdd,Nat.reduceEqDiff,Nat.reduceMul,Nat.reduceSub,Int.reduceAdd,Int.reduceSub,Int.reduceMul,Int.reduceNeg,Int.reduceLT,Int.reduceLE,Int.reduceEq,Int.reduceToNat,↓reduceIte,Int.reducePow,Nat.reduceLeDiff,Nat.reduceLT,ne_eq,eq_self,List.length_cons,List.length_nil,qxE,kxE,dd1,Bool.not_false,Bool.not_true] | (with_reducible refine Sx.call_at (f:=93) (fun W hW=>q2 W) ?_) | (with_reducible refine cregF ?_))
    have dd1:decide (I < 0) = false:=decide_eq_false (by omega)
    rcases Int.lt_or_le 1073741824 I with hI1 | hI1
    ·have dd2:=decide_eq_true hI1
     repeat' (first | simp (disch:=omega) only [sxE,r19_Valid.E,Nat.reduceAdd,Nat.reduceEqDiff,Nat.reduceMul,Nat.reduceSub,Int.reduceAdd,Int.reduceSub,Int.reduceMul,Int.reduceNeg,Int.reduceLT,Int.reduceLE,Int.reduceEq,Int.reduceToNat,↓reduceIte,Int.reducePow,Nat.reduceLeDiff,Nat.reduceLT,ne_eq,eq_self,List.length_cons,List.length_nil,qxE,kxE,dd1,dd2,Bool.not_false,Bool.not_true] | (with_reducible refine Sx.call_at (f:=93) (fun W hW=>q2 W) ?_) | (with_reducible refine cregF ?_))
    have dd2:decide (1073741824 < I) = false:=decide_eq_false (by omega)
    have hNn:N < 0∨1073741824 < N:=by
     rcases Int.lt_or_le N 0 with hN | hN
     ·exact .inl hN
     ·exact .inr (Int.not_le.1 fun h=>hz ⟨hzt,hI,hI1,hN,h⟩)
    obtain ⟨K',hKe⟩:∃ K',ke V t = K':=⟨_,rfl⟩
    rw [hKe] at kr
    clear kk hKe no
    by_cases hk:K = K'
    ·subst hk
     rcases hNn with hN | hN
     ·have dd3:decide (1 < N) = false:=decide_eq_false (by omega)
      repeat' (first | simp (disch:=omega) only [sxE,r19_Valid.E,Nat.reduceAdd,Nat.reduceEqDiff,Nat.reduceMul,Nat.reduceSub,Int.reduceAdd,Int.reduceSub,Int.reduceMul,Int.reduceNeg,Int.reduceLT,Int.reduceLE,Int.reduceEq,Int.reduceToNat,↓reduceIte,Int.reducePow,Nat.reduceLeDiff,Nat.reduceLT,ne_eq,eq_self,List.length_cons,List.length_nil,qxE,kxE,dd1,dd2,dd3,beq_self_eq_true,Bool.not_false,Bool.not_true] | (with_reducible refine Sx.call_at (f:=93) (fun W hW=>q2 W) ?_) | (with_reducible refine Sx.call_at (f:=38) (fun W hW=>kr W) ?_) | (with_reducible refine cregF ?_))
     ·have dd3:decide (1 < N) = true:=decide_eq_true (by omega)
      have dd4:decide (N≤1073741824) = false:=decide_eq_false (by omega)
      repeat' (first | simp (disch:=omega) only [sxE,r19_Valid.E,Nat.reduceAdd,Nat.reduceEqDiff,Nat.reduceMul,Nat.reduceSub,Int.reduceAdd,Int.reduceSub,Int.reduceMul,Int.reduceNeg,Int.reduceLT,Int.reduceLE,Int.reduceEq,Int.reduceToNat,↓reduceIte,Int.reducePow,Nat.reduceLeDiff,Nat.reduceLT,ne_eq,eq_self,List.length_cons,List.length_nil,qxE,kxE,dd1,dd2,dd3,dd4,beq_self_eq_true,Bool.not_false,Bool.not_true] | (with_reducible refine Sx.call_at (f:=93) (fun W hW=>q2 W) ?_) | (with_reducible refine Sx.call_at (f:=38) (fun W hW=>kr W) ?_) | (with_reducible refine cregF ?_))
    ·have hK':(K == K') = false:=beq_eq_false_iff_ne.2 hk
     repeat' (first | simp (disch:=omega) only [sxE,r19_Valid.E,Nat.reduceAdd,Nat.reduceEqDiff,Nat.reduceMul,Nat.reduceSub,Int.reduceAdd,Int.reduceSub,Int.reduceMul,Int.reduceNeg,Int.reduceLT,Int.reduceLE,Int.reduceEq,Int.reduceToNat,↓reduceIte,Int.reducePow,Nat.reduceLeDiff,Nat.reduceLT,ne_eq,eq_self,List.length_cons,List.length_nil,qxE,kxE,dd1,dd2,hK',Bool.not_false,Bool.not_true] | (with_reducible refine Sx.call_at (f:=93) (fun W hW=>q2 W) ?_) | (with_reducible refine Sx.call_at (f:=38) (fun W hW=>kr W) ?_) | (with_reducible refine cregF ?_))
end Go.Proofs.YtncmmbacoknefaaGreat

/- Pj: swing: what law 14 compares; states that the tape makes. -/
namespace Go.Proofs.YtncmmbacoknefaaGreat
open Go Go.RowKit Sx
set_option linter.unusedVariables false
set_option linter.unusedSimpArgs false
theorem pstz_form (s:PcS) (xt xv:Int):∃ (t I N T V L K:Int) (o:Bool) (n:Bool) (a b c d:Int) (n1:Bool) (a1 b1 c1 d1:Int) (m:Bool) (e f g h:Int) (m1:Bool) (e1 f1 g1 h1:Int),(pstz s xt xv).1 = .agg #[.int .i64 t,.int .i64 I,.int .i64 N,.int .i64 T,.int .i64 V,.int .i64 L,.int .i64 K,.bool o,.bool n,.int .u64 a,.int .u64 b,.int .u64 c,.int .u64 d,.bool n1,.int .u64 a1,.int .u64 b1,.int .u64 c1,.int .u64 d1,.bool m,.int .u64 e,.int .u64 f,.int .u64 g,.int .u64 h,.bool m1,.int .u64 e1,.int .u64 f1,.int .u64 g1,.int .u64 h1]:=by
 unfold pstz
 split
 ·exact ⟨_,_,_,_,_,_,_,_,_,_,_,_,_,_,_,_,_,_,_,_,_,_,_,_,_,_,_,_,rfl⟩
 ·split
  ·exact ⟨_,_,_,_,_,_,_,_,_,_,_,_,_,_,_,_,_,_,_,_,_,_,_,_,_,_,_,_,rfl⟩
  ·exact ⟨_,_,_,_,_,_,_,_,_,_,_,_,_,_,_,_,_,_,_,_,_,_,_,_,_,_,_,_,rfl⟩
set_option maxRecDepth 100000 in
set_option maxHeartbeats 2000000 in
theorem g_alike19 {v:Value} {r:Bool} (hv:PVal v r) {xt xv:Int} (hxt:I64 xt) (hxv:I64 xv) (w:World):Calls Tryz.prog 60 #[v,.agg #[.int .i64 xt,.int .i64 xv]] w fun e w'=>e = .returned (.bool true)∧Below w.heap.size w w':=by
 have v1:=hv.v1
 have v2:=hv.v2
 cases r
 ·obtain ⟨t,I,N,T,V,L,K,o,n,a,b,c,d,n1,a1,b1,c1,d1,m,e,f,g,h,m1,e1,f1,g1,h1,rfl,-⟩:=hv.cells
  clear hv
  have st1:∀ W,Gives Tryz.prog 120 [.agg #[.int .i64 t,.int .i64 I,.int .i64 N,.int .i64 T,.int .i64 V,.int .i64 L,.int .i64 K,.bool o,.bool n,.int .u64 a,.int .u64 b,.int .u64 c,.int .u64 d,.bool n1,.int .u64 a1,.int .u64 b1,.int .u64 c1,.int .u64 d1,.bool m,.int .u64 e,.int .u64 f,.int .u64 g,.int .u64 h,.bool m1,.int .u64 e1,.int .u64 f1,.int .u64 g1,.int .u64 h1],.agg #[.int .i64 xt,.int .i64 xv]] W (· = .tuple #[pcZ 0,.slice none 0 0,.int .i64 1]):=fun W=>by
   refine gives_known en_pieces_Step ?_
   refine known_of (enter Tryz.func120 pieces_Step.ok (args:=[_,_]) (by simp) ?_)
   repeat' (first | simp (disch:=omega) only [sxE,pieces_Step.E,Nat.reduceAdd,Nat.reduceEqDiff,Nat.reduceMul,Nat.reduceSub,Int.reduceAdd,Int.reduceSub,Int.reduceMul,Int.reduceNeg,Int.reduceLT,Int.reduceLE,Int.reduceEq,Int.reduceToNat,↓reduceIte,Int.reducePow,Nat.reduceLeDiff,Nat.reduceLT,ne_eq,eq_self,List.length_cons,List.length_nil,qxE,Bool.not_false] | (with_reducible refine Sx.call_at (f:=122) (fun W hW=>v1 W) ?_) | (with_reducible refine cregF ?_))
  have st2:∀ W,Gives Tryz.prog 89 [.agg #[.int .i64 t,.int .i64 I,.int .i64 N,.int .i64 T,.int .i64 V,.int .i64 L,.int .i64 K,.bool o,.bool n,.int .u64 a,.int .u64 b,.int .u64 c,.int .u64 d,.bool n1,.int .u64 a1,.int .u64 b1,.int .u64 c1,.int .u64 d1,.bool m,.int .u64 e,.int .u64 f,.int .u64 g,.int .u64 h,.bool m1,.int .u64 e1,.int .u64 f1,.int .u64 g1,.int .u64 h1],.agg #[.int .i64 xt,.int .i64 xv]] W (· = .tuple #[pcZ 0,.slice none 0 0,.int .i64 1]):=fun W=>by
   refine gives_known en_r19_Step ?_
   refine known_of (enter Tryz.func89 r19_Step.ok (args:=[_,_]) (by simp) ?_)
   repeat' (first | simp (disch:=omega) only [sxE,r19_Step.E,Nat.reduceAdd,Nat.reduceEqDiff,Nat.reduceMul,Nat.reduceSub,Int.reduceAdd,Int.reduceSub,Int.reduceMul,Int.reduceNeg,Int.reduceLT,Int.reduceLE,Int.reduceEq,Int.reduceToNat,↓reduceIte,Int.reducePow,Nat.reduceLeDiff,Nat.reduceLT,ne_eq,eq_self,List.length_cons,List.length_nil,qxE,Bool.not_false] | (with_reducible refine Sx.call_at (f:=123) (fun W hW=>v2 W) ?_) | (with_reducible refine cregF ?_))
  have fn1:∀ W,Gives Tryz.prog 121 [.agg #[.int .i64 t,.int .i64 I,.int .i64 N,.int .i64 T,.int .i64 V,.int .i64 L,.int .i64 K,.bool o,.bool n,.int .u64 a,.int .u64 b,.int .u64 c,.int .u64 d,.bool n1,.int .u64 a1,.int .u64 b1,.int .u64 c1,.int .u64 d1,.bool m,.int .u64 e,.int .u64 f,.int .u64 g,.int .u64 h,.bool m1,.int .u64 e1,.int .u64 f1,.int .u64 g1,.int .u64 h1]] W (· = .tuple #[.slice none 0 0,.int .i64 1]):=fun W=>by
   refine gives_known en_pieces_Finish ?_
   refine known_of (enter Tryz.func121 pieces_Finish.ok (args:=[_]) (by simp) ?_)
   repeat' (first | simp (disch:=omega) only [sxE,pieces_Finish.E,Nat.reduceAdd,Nat.reduceEqDiff,Nat.reduceMul,Nat.reduceSub,Int.reduceAdd,Int.reduceSub,Int.reduceMul,Int.reduceNeg,Int.reduceLT,Int.reduceLE,Int.reduceEq,Int.reduceToNat,↓reduceIte,Int.reducePow,Nat.reduceLeDiff,Nat.reduceLT,ne_eq,eq_self,List.length_cons,List.length_nil,qxE,Bool.not_false] | (with_reducible refine Sx.call_at (f:=122) (fun W hW=>v1 W) ?_) | (with_reducible refine cregF ?_))
  have fn2:∀ W,Gives Tryz.prog 90 [.agg #[.int .i64 t,.int .i64 I,.int .i64 N,.int .i64 T,.int .i64 V,.int .i64 L,.int .i64 K,.bool o,.bool n,.int .u64 a,.int .u64 b,.int .u64 c,.int .u64 d,.bool n1,.int .u64 a1,.int .u64 b1,.int .u64 c1,.int .u64 d1,.bool m,.int .u64 e,.int .u64 f,.int .u64 g,.int .u64 h,.bool m1,.int .u64 e1,.int .u64 f1,.int .u64 g1,.int .u64 h1]] W (· = .tuple #[.slice none 0 0,.int .i64 1]):=fun W=>by
   refine gives_known en_r19_Finish ?_
   refine known_of (enter Tryz.func90 r19_Finish.ok (args:=[_]) (by simp) ?_)
   repeat' (first | simp (disch:=omega) only [sxE,r19_Finish.E,Nat.reduceAdd,Nat.reduceEqDiff,Nat.reduceMul,Nat.reduceSub,Int.reduceAdd,Int.reduceSub,Int.reduceMul,Int.reduceNeg,Int.reduceLT,Int.reduceLE,Int.reduceEq,Int.reduceToNat,↓reduceIte,Int.reducePow,Nat.reduceLeDiff,Nat.reduceLT,ne_eq,eq_self,List.length_cons,List.length_nil,qxE,Bool.not_false] | (with_reducible refine Sx.call_at (f:=123) (fun W hW=>v2 W) ?_) | (with_reducible refine cregF ?_))
  have sm:∀ W,Gives Tryz.prog 37 [.slice none 0 0,.slice none 0 0] W (· = .bool true):=fun W=>gives_known en_r19_Same (rx_same19 (ls:=[]) (B:=0) (B':=0) (World.ownsRow_nil _ _ _ _) (World.ownsRow_nil _ _ _ _))
  refine known_of (enter Tryz.func60 w19_alike.ok (args:=[_,_]) (by simp) ?_)
  repeat' (first | simp (disch:=omega) only [sxE,w19_alike.E,Nat.reduceAdd,Nat.reduceEqDiff,Nat.reduceMul,Nat.reduceSub,Int.reduceAdd,Int.reduceSub,Int.reduceMul,Int.reduceNeg,Int.reduceLT,Int.reduceLE,Int.reduceEq,Int.reduceToNat,↓reduceIte,Int.reducePow,Nat.reduceLeDiff,Nat.reduceLT,ne_eq,eq_self,List.length_cons,List.length_nil,qxE,beq_self_eq_true,Bool.not_false] | (with_reducible refine Sx.call_at (f:=120) (fun W hW=>st1 W) ?_) | (with_reducible refine Sx.call_at (f:=89) (fun W hW=>st2 W) ?_) | (with_reducible refine Sx.call_at (f:=121) (fun W hW=>fn1 W) ?_) | (with_reducible refine Sx.call_at (f:=90) (fun W hW=>fn2 W) ?_) | (with_reducible refine Sx.call_at (f:=122) (fun W hW=>v1 W) ?_) | (with_reducible refine Sx.call_at (f:=123) (fun W hW=>v2 W) ?_) | (with_reducible refine Sx.call_at (f:=37) (fun W hW=>sm W) ?_) | (with_reducible refine eq_is (fun W=>by exact eqpst_run _ _ _ _ _ _ _ _ _ _ _ _ _ _ _ _ _ _ _ _ _ _ _ _ _ _ _ _ W) ?_) | (with_reducible refine cregF ?_))
 ·obtain ⟨s,hs,rfl⟩:=hv.is rfl
  clear hv
  obtain ⟨Z,hZ⟩:∃ Z,pstz s xt xv = Z:=⟨_,rfl⟩
  obtain ⟨t,I,N,T,V,L,K,o,n,a,b,c,d,n1,a1,b1,c1,d1,m,e,f,g,h,m1,e1,f1,g1,h1,hF⟩:=pstz_form s xt xv
  have S1:=fun W=>gx_pcstep (w:=W) hs hxt hxv
  have S2:=fun W=>rx_pcstep (w:=W) hs hxt hxv
  have F1:=fun W=>gx_pcfin (w:=W) hs
  have F2:=fun W=>rx_pcfin (w:=W) hs
  rw [hZ] at S1 S2 hF
  obtain ⟨Z1,ls,er⟩:=Z
  dsimp only at hF
  subst hF
  generalize pcl s = es at *
  clear hZ hs hxt hxv
  obtain ⟨st,si,sn,sT,sV,sL,sk,⟨so,sp,sq,sp1,sq1⟩⟩:=s
  try dsimp only at *
  
  
  
  refine known_of (enter Tryz.func60 w19_alike.ok (args:=[_,_]) (by simp) ?_)
  repeat' (first | simp (disch:=omega) only [sxE,w19_alike.E,Nat.reduceAdd,Nat.reduceEqDiff,Nat.reduceMul,Nat.reduceSub,Int.reduceAdd,Int.reduceSub,Int.reduceMul,Int.reduceNeg,Int.reduceLT,Int.reduceLE,Int.reduceEq,Int.reduceToNat,↓reduceIte,Int.reducePow,Nat.reduceLeDiff,Nat.reduceLT,ne_eq,eq_self,List.length_cons,List.length_nil,qxE] | (with_reducible refine cregF ?_))
  refine asks_rowB (L:=[]) (e:=75) (s:=24) (ι:=Unit) (fun _=>True) (fun _=>ls.length) (fun _=>pcells ls) (fun _ v=>.tuple #[.agg #[.int .i64 t,.int .i64 I,.int .i64 N,.int .i64 T,.int .i64 V,.int .i64 L,.int .i64 K,.bool o,.bool n,.int .u64 a,.int .u64 b,.int .u64 c,.int .u64 d,.bool n1,.int .u64 a1,.int .u64 b1,.int .u64 c1,.int .u64 d1,.bool m,.int .u64 e,.int .u64 f,.int .u64 g,.int .u64 h,.bool m1,.int .u64 e1,.int .u64 f1,.int .u64 g1,.int .u64 h1],v,.int .i64 er]) en_pieces_Step (kX_nil _) (fun W hW hok=>?_) ?_
  ·refine (S1 W).mono ?_
   exact fun e w' ⟨v,h1,h2,h3⟩=>⟨(),v,trivial,h1,h2,h3⟩
  rintro - y1 k1 - - - - -
  repeat' (first | simp (disch:=omega) only [sxE,w19_alike.E,Nat.reduceAdd,Nat.reduceEqDiff,Nat.reduceMul,Nat.reduceSub,Int.reduceAdd,Int.reduceSub,Int.reduceMul,Int.reduceNeg,Int.reduceLT,Int.reduceLE,Int.reduceEq,Int.reduceToNat,↓reduceIte,Int.reducePow,Nat.reduceLeDiff,Nat.reduceLT,ne_eq,eq_self,List.length_cons,List.length_nil,qxE] | (with_reducible refine cregF ?_))
  refine asks_rowB (e:=75) (s:=24) (ι:=Unit) (fun _=>True) (fun _=>ls.length) (fun _=>pcells ls) (fun _ v=>.tuple #[.agg #[.int .i64 t,.int .i64 I,.int .i64 N,.int .i64 T,.int .i64 V,.int .i64 L,.int .i64 K,.bool o,.bool n,.int .u64 a,.int .u64 b,.int .u64 c,.int .u64 d,.bool n1,.int .u64 a1,.int .u64 b1,.int .u64 c1,.int .u64 d1,.bool m,.int .u64 e,.int .u64 f,.int .u64 g,.int .u64 h,.bool m1,.int .u64 e1,.int .u64 f1,.int .u64 g1,.int .u64 h1],v,.int .i64 er]) en_r19_Step rfl (fun W hW hok=>?_) ?_
  ·refine (S2 W).mono ?_
   exact fun e w' ⟨v,h1,h2,h3⟩=>⟨(),v,trivial,h1,h2,h3⟩
  rintro - y2 k2 - - - - -
  repeat' (first | simp (disch:=omega) only [sxE,w19_alike.E,Nat.reduceAdd,Nat.reduceEqDiff,Nat.reduceMul,Nat.reduceSub,Int.reduceAdd,Int.reduceSub,Int.reduceMul,Int.reduceNeg,Int.reduceLT,Int.reduceLE,Int.reduceEq,Int.reduceToNat,↓reduceIte,Int.reducePow,Nat.reduceLeDiff,Nat.reduceLT,ne_eq,eq_self,List.length_cons,List.length_nil,qxE] | (with_reducible refine cregF ?_))
  refine asks_rowB (e:=75) (s:=24) (ι:=Unit) (fun _=>True) (fun _=>es.length) (fun _=>pcells es) (fun _ v=>.tuple #[v,.int .i64 0]) en_pieces_Finish rfl (fun W hW hok=>?_) ?_
  ·refine (F1 W).mono ?_
   exact fun e w' ⟨v,h1,h2,h3⟩=>⟨(),v,trivial,h1,h2,h3⟩
  rintro - y3 k3 - - - - -
  repeat' (first | simp (disch:=omega) only [sxE,w19_alike.E,Nat.reduceAdd,Nat.reduceEqDiff,Nat.reduceMul,Nat.reduceSub,Int.reduceAdd,Int.reduceSub,Int.reduceMul,Int.reduceNeg,Int.reduceLT,Int.reduceLE,Int.reduceEq,Int.reduceToNat,↓reduceIte,Int.reducePow,Nat.reduceLeDiff,Nat.reduceLT,ne_eq,eq_self,List.length_cons,List.length_nil,qxE] | (with_reducible refine cregF ?_))
  refine asks_rowB (e:=75) (s:=24) (ι:=Unit) (fun _=>True) (fun _=>es.length) (fun _=>pcells es) (fun _ v=>.tuple #[v,.int .i64 0]) en_r19_Finish rfl (fun W hW hok=>?_) ?_
  ·refine (F2 W).mono ?_
   exact fun e w' ⟨v,h1,h2,h3⟩=>⟨(),v,trivial,h1,h2,h3⟩
  rintro - y4 k4 - - - - -
  
  
  
  
  repeat' (first | simp (disch:=omega) only [sxE,w19_alike.E,Nat.reduceAdd,Nat.reduceEqDiff,Nat.reduceMul,Nat.reduceSub,Int.reduceAdd,Int.reduceSub,Int.reduceMul,Int.reduceNeg,Int.reduceLT,Int.reduceLE,Int.reduceEq,Int.reduceToNat,↓reduceIte,Int.reducePow,Nat.reduceLeDiff,Nat.reduceLT,ne_eq,eq_self,List.length_cons,List.length_nil,qxE,beq_self_eq_true,Bool.not_false] | (with_reducible refine Sx.call_at (f:=122) (fun W hW=>v1 W) ?_) | (with_reducible refine Sx.call_at (f:=123) (fun W hW=>v2 W) ?_) | (with_reducible refine eq_is (fun W=>by exact eqpst_run _ _ _ _ _ _ _ _ _ _ _ _ _ _ _ _ _ _ _ _ _ _ _ _ _ _ _ _ W) ?_) | (with_reducible refine cregF ?_))
  refine known_ext (fun W hW hok=>gives_known en_r19_Same (rx_same19 (hok (.g (wK 75 24 (.slice y1 ls.length k1) ls.length (pcells ls))) (by repeat (first | with_reducible exact List.mem_cons_self | refine List.mem_cons_of_mem _ ?_))) (hok (.g (wK 75 24 (.slice y2 ls.length k2) ls.length (pcells ls))) (by repeat (first | with_reducible exact List.mem_cons_self | refine List.mem_cons_of_mem _ ?_))))) ?_
  repeat' (first | simp (disch:=omega) only [sxE,w19_alike.E,Nat.reduceAdd,Nat.reduceEqDiff,Nat.reduceMul,Nat.reduceSub,Int.reduceAdd,Int.reduceSub,Int.reduceMul,Int.reduceNeg,Int.reduceLT,Int.reduceLE,Int.reduceEq,Int.reduceToNat,↓reduceIte,Int.reducePow,Nat.reduceLeDiff,Nat.reduceLT,ne_eq,eq_self,List.length_cons,List.length_nil,qxE,beq_self_eq_true] | (with_reducible refine cregF ?_))
  refine known_ext (fun W hW hok=>gives_known en_r19_Same (rx_same19 (hok (.g (wK 75 24 (.slice y3 es.length k3) es.length (pcells es))) (by repeat (first | with_reducible exact List.mem_cons_self | refine List.mem_cons_of_mem _ ?_))) (hok (.g (wK 75 24 (.slice y4 es.length k4) es.length (pcells es))) (by repeat (first | with_reducible exact List.mem_cons_self | refine List.mem_cons_of_mem _ ?_))))) ?_
  repeat' (first | simp (disch:=omega) only [sxE,w19_alike.E,Nat.reduceAdd,Nat.reduceEqDiff,Nat.reduceMul,Nat.reduceSub,Int.reduceAdd,Int.reduceSub,Int.reduceMul,Int.reduceNeg,Int.reduceLT,Int.reduceLE,Int.reduceEq,Int.reduceToNat,↓reduceIte,Int.reducePow,Nat.reduceLeDiff,Nat.reduceLT,ne_eq,eq_self,List.length_cons,List.length_nil,qxE,beq_self_eq_true] | (with_reducible refine cregF ?_))
theorem i64_wrapped (x:Int):I64 (IntKind.i64.wrap x):=by
 rw [IntKind.wrap_i64]
 constructor <;> omega
theorem pcf_g {t:Int} {ss:Smps} (ht:tolz t = true) (hin:∀ s∈ss,I64 s.1∧I64 s.2) (hinc:incr ss = true) {i:Nat} (hi:i≤ss.length) (hl:ss.length≤1073741824):PcG (pcf t (ss.take i)).1:=pci_g (pci_at ht hin hinc i hi) ht (by omega)
theorem pstz_at {t:Int} {ss:Smps} (ht:tolz t = true) (hin:∀ s∈ss,I64 s.1∧I64 s.2) (hinc:incr ss = true) {i:Nat} (hi:i < ss.length) (hl:ss.length≤1000):pstz (pcf t (ss.take i)).1 (ss.getD i (0,0)).1 (ss.getD i (0,0)).2 = (pcv (pcf t (ss.take (i + 1))).1,pce (pcf t (ss.take i)).1 (ss.getD i (0,0)).1 (ss.getD i (0,0)).2,0):=by
 have hsi:=pci_at ht hin hinc i (by omega)
 rw [show pcf t (ss.take (i + 1)) = pca (pcf t (ss.take i)) (ss.getD i (0,0)) by rw [take_snoc' hi,pcf_snoc]]
 refine pstz_ok (fun ⟨q1,q2⟩=>?_) (by have:=hsi.ix; omega)
 have hi0:0 < i:=by have:=hsi.n1; omega
 have q3:=(hsi.l hi0).2
 have q4:=of_decide_eq_true hinc (i - 1) (by omega)
 rw [show i - 1 + 1 = i by omega] at q4
 omega
set_option maxRecDepth 100000 in
set_option maxHeartbeats 2000000 in
theorem t_state19 (tb:Nat):TpC 56 [.pointer (some ⟨tb,0,none⟩)] tb (fun x:PcS × Int × Int=>PcG x.1∧I64 x.2.1∧I64 x.2.2) (fun x=>.tuple #[pcv x.1,.agg #[.int .i64 x.2.1,.int .i64 x.2.2]]):=by
 intro B Bm w ht
 have hle:=Nat.le_of_lt ht.lt
 refine Calls.mono (enterG Tryz.func56 w19_state.ok (args:=[.pointer (some ⟨tb,0,none⟩)]) (w0:=cut w tb) (T:=kX (cut w tb).heap.size [.g (hK w tb B Bm)]) (R:=fun v X=>∃ x:PcS × Int × Int,∃ L,(PcG x.1∧I64 x.2.1∧I64 x.2.2)∧v = .tuple #[pcv x.1,.agg #[.int .i64 x.2.1,.int .i64 x.2.2]]∧X = kX (cut w tb).heap.size L∧.g (hK w tb B Bm)∈L) (by simp) (below_cut hle) (hK_start ht).1 (kX_stab (Sx.cx _ (cut w tb) _) _) (hK_start ht).2 ?run) ?fin
 case fin =>
  rintro e w' ⟨v,X,rfl,⟨x,L,hP,rfl,rfl,m1⟩,hX,hbl,-⟩
  obtain ⟨h1,h2⟩:=hK_end hX m1 hbl
  exact ⟨x,hP,rfl,h1,h2⟩
 case run =>
  have hk:=tpk_h' ht
  have htb:tb∈(Kn.g (hK w tb B Bm)).bs:=hK_bs.2 ⟨Nat.le_refl _,ht.lt⟩
  repeat' (first | simp (disch:=omega) only [sxE,w19_state.E,Nat.reduceAdd,Nat.reduceEqDiff,Nat.reduceMul,Nat.reduceSub,Int.reduceAdd,Int.reduceSub,Int.reduceMul,Int.reduceNeg,Int.reduceLT,Int.reduceLE,Int.reduceEq,Int.reduceToNat,↓reduceIte,Int.reducePow,Nat.reduceLeDiff,Nat.reduceLT,ne_eq,eq_self,List.length_cons,List.length_nil,qxE] | (with_reducible refine cregF ?_))
  refine asks_tc rfl hk (t_tol tb) en_m_Tape__Tolerance rfl (List.mem_singleton.2 rfl) rfl (fun j hj=>.inl (List.mem_singleton.1 hj)) ?_
  rintro t ⟨t0,t1⟩
  have hz:tolz t = true:=tolz_iff.2 ⟨t0,t1⟩
  have k1:=fun W=>rx_pcstart (t:=t) ⟨by omega,by omega⟩ W
  rw [if_pos hz] at k1
  repeat' (first | simp (disch:=omega) only [sxE,w19_state.E,Nat.reduceAdd,Nat.reduceEqDiff,Nat.reduceMul,Nat.reduceSub,Int.reduceAdd,Int.reduceSub,Int.reduceMul,Int.reduceNeg,Int.reduceLT,Int.reduceLE,Int.reduceEq,Int.reduceToNat,↓reduceIte,Int.reducePow,Nat.reduceLeDiff,Nat.reduceLT,ne_eq,eq_self,List.length_cons,List.length_nil,qxE] | (with_reducible refine Sx.call_at (f:=58) (fun W hW=>k1 W) ?_) | (with_reducible refine cregF ?_))
  refine asks_rowT (L:=[.g (hK w tb B Bm)]) (e:=58) (s:=2) (fun ss:Smps=>Smp ss∧1≤ss.length∧(ss.length:Int)≤12 + 1) (fun ss=>ss.length) (fun ss=>scells ss) (fun ss v=>v) hk en_m_Tape__Some rfl (List.mem_singleton.2 rfl) htb rfl (fun j hj=>.inl (List.mem_singleton.1 hj)) (fun W hW=>by
   refine (some_any tb (by decide) (by decide) W hW).mono ?_
   rintro e w' ⟨v,ss,h1,h2,h3,h4,h5⟩
   exact ⟨ss,v,h2,h1,h3,h4,h5⟩) ?_
  rintro ss al cl_ ⟨hsm,hs1,hs⟩ hcl - hal -
  obtain ⟨b,rfl⟩:=hal (by omega)
  have hin:=smp_inI hsm
  have hinc:=smp_incr hsm
  clear hsm
  have mS:(Kn.g (wK 58 2 (.slice (some ⟨b,0,none⟩) ss.length cl_) ss.length (scells ss)))∈([.g (wK 58 2 (.slice (some ⟨b,0,none⟩) ss.length cl_) ss.length (scells ss)),.g (hK w tb B Bm)]:List Kn):=List.mem_cons_self
  repeat' (first | simp (disch:=omega) only [sxE,w19_state.E,Nat.reduceAdd,Nat.reduceEqDiff,Nat.reduceMul,Nat.reduceSub,Int.reduceAdd,Int.reduceSub,Int.reduceMul,Int.reduceNeg,Int.reduceLT,Int.reduceLE,Int.reduceEq,Int.reduceToNat,↓reduceIte,Int.reducePow,Nat.reduceLeDiff,Nat.reduceLT,ne_eq,eq_self,List.length_cons,List.length_nil,qxE] | (with_reducible refine cregF ?_))
  rw [w19_state.p2_l]
  refine LX_inv (fun i:Nat=>⟨3,[(2,.p 0 0),(3,.p 1 0),(4,.p 2 0),(6,.v (.slice (some ⟨b,0,none⟩) ss.length cl_)),(7,.v (.int .i64 (i:Int)))],[(2,[.int .i64 (pcf t (ss.take i)).1.t,.int .i64 (pcf t (ss.take i)).1.i,.int .i64 (pcf t (ss.take i)).1.n,.int .i64 (pcf t (ss.take i)).1.T,.int .i64 (pcf t (ss.take i)).1.V,.int .i64 (pcf t (ss.take i)).1.L,.int .i64 (pcf t (ss.take i)).1.k,.bool (pcf t (ss.take i)).1.c.o,.bool (sg (pcf t (ss.take i)).1.c.p),.int .u64 (lb0 (ab (pcf t (ss.take i)).1.c.p)),.int .u64 (lb1 (ab (pcf t (ss.take i)).1.c.p)),.int .u64 (lb2 (ab (pcf t (ss.take i)).1.c.p)),.int .u64 (lb3 (ab (pcf t (ss.take i)).1.c.p)),.bool (sg (pcf t (ss.take i)).1.c.q),.int .u64 (lb0 (ab (pcf t (ss.take i)).1.c.q)),.int .u64 (lb1 (ab (pcf t (ss.take i)).1.c.q)),.int .u64 (lb2 (ab (pcf t (ss.take i)).1.c.q)),.int .u64 (lb3 (ab (pcf t (ss.take i)).1.c.q)),.bool (sg (pcf t (ss.take i)).1.c.p1),.int .u64 (lb0 (ab (pcf t (ss.take i)).1.c.p1)),.int .u64 (lb1 (ab (pcf t (ss.take i)).1.c.p1)),.int .u64 (lb2 (ab (pcf t (ss.take i)).1.c.p1)),.int .u64 (lb3 (ab (pcf t (ss.take i)).1.c.p1)),.bool (sg (pcf t (ss.take i)).1.c.q1),.int .u64 (lb0 (ab (pcf t (ss.take i)).1.c.q1)),.int .u64 (lb1 (ab (pcf t (ss.take i)).1.c.q1)),.int .u64 (lb2 (ab (pcf t (ss.take i)).1.c.q1)),.int .u64 (lb3 (ab (pcf t (ss.take i)).1.c.q1))]),(1,[.int .i64 0,.int .i64 0]),(0,[.int .i64 0,.int .i64 0,.int .i64 0,.int .i64 0,.int .i64 0,.int .i64 0,.int .i64 0,.bool false,.bool false,.int .u64 0,.int .u64 0,.int .u64 0,.int .u64 0,.bool false,.int .u64 0,.int .u64 0,.int .u64 0,.int .u64 0,.bool false,.int .u64 0,.int .u64 0,.int .u64 0,.int .u64 0,.bool false,.int .u64 0,.int .u64 0,.int .u64 0,.int .u64 0])],kX (cut w tb).heap.size [.g (wK 58 2 (.slice (some ⟨b,0,none⟩) ss.length cl_) ss.length (scells ss)),.g (hK w tb B Bm)]⟩) (fun i=>i + 1≤ss.length) (fun i=>ss.length - i) ?round 0 hs1 ?start
  case start =>
   have c0:((0:Nat):Int) = 0:=rfl
   simp (disch:=omega) only [sxE,w19_state.E,Nat.reduceAdd,Nat.reduceEqDiff,Nat.reduceMul,Nat.reduceSub,Int.reduceAdd,Int.reduceSub,Int.reduceMul,Int.reduceNeg,Int.reduceLT,Int.reduceLE,Int.reduceEq,Int.reduceToNat,↓reduceIte,Int.reducePow,Nat.reduceLeDiff,Nat.reduceLT,ne_eq,eq_self,List.length_cons,List.length_nil,c0]
   exact (congrArg (fun v:Value=>v.cells.toList) (pcv_0 t)).symm
  case round =>
   intro i hi
   try dsimp only at hi ⊢
   have hG:=pcf_g hz hin hinc (i:=i) (by omega) (by omega)
   have hx:=smp_i64 hin i
   by_cases hlt:i + 1 < ss.length
   ·have hst:=pstz_at hz hin hinc (i:=i) (by omega) (by omega)
    have e0:(i:Int) + 1 = ((i + 1:Nat):Int):=by omega
    generalize hA':(pcf t (ss.take (i + 1))).1 = A' at *
    generalize pce (pcf t (ss.take i)).1 (ss.getD i (0,0)).1 (ss.getD i (0,0)).2 = es at *
    generalize (pcf t (ss.take i)).1 = A at *
    obtain ⟨st,si,sn,sT,sV,sL,sk,⟨o,p,q,p1,q1⟩⟩:=A
    obtain ⟨st',si',sn',sT',sV',sL',sk',⟨o',p',q',p1',q1'⟩⟩:=A'
    clear hin hinc
    repeat' (first | simp (disch:=omega) only [sxE,w19_state.E,Nat.reduceAdd,Nat.reduceEqDiff,Nat.reduceMul,Nat.reduceSub,Int.reduceAdd,Int.reduceSub,Int.reduceMul,Int.reduceNeg,Int.reduceLT,Int.reduceLE,Int.reduceEq,Int.reduceToNat,↓reduceIte,Int.reducePow,Nat.reduceLeDiff,Nat.reduceLT,ne_eq,eq_self,List.length_cons,List.length_nil,qxE] | (with_reducible refine ldP_self true 2 b ?_; refine ldP_s2 i rfl mS ?_ ?_ ?_; omega; omega) | (with_reducible refine cregF ?_))
    refine asks_rowB (L:=[.g (wK 58 2 (.slice (some ⟨b,0,none⟩) ss.length cl_) ss.length (scells ss)),.g (hK w tb B Bm)]) (e:=75) (s:=24) (ι:=Unit) (fun _=>True) (fun _=>es.length) (fun _=>pcells es) (fun _ v=>.tuple #[pcv ⟨st',si',sn',sT',sV',sL',sk',⟨o',p',q',p1',q1'⟩⟩,v,.int .i64 0]) en_r19_Step rfl (fun W hW hok=>?_) ?_
    ·have:=rx_pcstep (w:=W) hG hx.1 hx.2
     rw [hst] at this
     exact this.mono fun e w' ⟨v,h1,h2,h3⟩=>⟨(),v,trivial,h1,h2,h3⟩
    rintro - a2 c2 - - - - -
    repeat' (first | simp (disch:=omega) only [sxE,w19_state.E,Nat.reduceAdd,Nat.reduceEqDiff,Nat.reduceMul,Nat.reduceSub,Int.reduceAdd,Int.reduceSub,Int.reduceMul,Int.reduceNeg,Int.reduceLT,Int.reduceLE,Int.reduceEq,Int.reduceToNat,↓reduceIte,Int.reducePow,Nat.reduceLeDiff,Nat.reduceLT,ne_eq,eq_self,List.length_cons,List.length_nil,qxE] | (with_reducible refine cregF ?_))
    rw [e0]
    refine ⟨i + 1,by omega,by omega,rfl,?_,?_⟩
    ·rw [hA']
    ·exact extS_kn fun k hk=>List.mem_cons_of_mem _ hk
   ·generalize (pcf t (ss.take i)).1 = A at *
    obtain ⟨st,si,sn,sT,sV,sL,sk,⟨o,p,q,p1,q1⟩⟩:=A
    have hi':i = ss.length - 1:=by omega
    clear hin hinc
    repeat' (first | simp (disch:=omega) only [sxE,w19_state.E,Nat.reduceAdd,Nat.reduceEqDiff,Nat.reduceMul,Nat.reduceSub,Int.reduceAdd,Int.reduceSub,Int.reduceMul,Int.reduceNeg,Int.reduceLT,Int.reduceLE,Int.reduceEq,Int.reduceToNat,↓reduceIte,Int.reducePow,Nat.reduceLeDiff,Nat.reduceLT,ne_eq,eq_self,List.length_cons,List.length_nil,qxE] | (with_reducible refine ldP_self true 2 b ?_; refine ldP_s2 (ss.length - 1) rfl mS ?_ ?_ ?_; omega; omega) | (with_reducible refine And.intro ?_ ?_) | (with_reducible refine cregF ?_))
    all_goals exact ⟨(⟨st,si,sn,sT,sV,sL,sk,⟨o,p,q,p1,q1⟩⟩,_,_),_,⟨hG,(by rw [hi'] at hx; exact hx.1),(by rw [hi'] at hx; exact hx.2)⟩,rfl,rfl,List.mem_cons_of_mem _ (List.mem_singleton.2 rfl)⟩
set_option maxRecDepth 100000 in
set_option maxHeartbeats 2000000 in
theorem t_spoiled19 (tb:Nat) {s:PcS} (hs:PcG s):TpC 59 [.pointer (some ⟨tb,0,none⟩),pcv s] tb (fun x:Value × Bool=>PVal x.1 x.2) (fun x=>x.1):=by
 intro B Bm w ht
 have hle:=Nat.le_of_lt ht.lt
 refine Calls.mono (enterG Tryz.func59 w19_spoiled.ok (args:=[.pointer (some ⟨tb,0,none⟩),pcv s]) (w0:=cut w tb) (T:=kX (cut w tb).heap.size [.g (hK w tb B Bm)]) (R:=fun v X=>(∃ r,PVal v r)∧X = kX (cut w tb).heap.size [.g (hK w tb B Bm)]) (by simp) (below_cut hle) (hK_start ht).1 (kX_stab (Sx.cx _ (cut w tb) _) _) (hK_start ht).2 ?run) ?fin
 case fin =>
  rintro e w' ⟨v,X,rfl,⟨⟨r,hr⟩,rfl⟩,hX,hbl,-⟩
  obtain ⟨h1,h2⟩:=hK_end hX (List.mem_singleton.2 rfl) hbl
  exact ⟨(v,r),hr,rfl,h1,h2⟩
 case run =>
  have hk:=tpk_h' ht
  have it:I64 s.t:=by obtain ⟨q1,q2⟩:=tolz_iff.1 hs.t; exact ⟨by omega,by omega⟩
  have iT:=hs.T
  have iV:=hs.V
  have iL:=hs.L
  have m0:=hs.n0
  have m1:=hs.n1
  clear hs
  obtain ⟨st,si,sn,sT,sV,sL,sk,⟨o,p,q,p1,q1⟩⟩:=s
  dsimp only at *
  repeat' (first | simp (disch:=omega) only [sxE,w19_spoiled.E,Nat.reduceAdd,Nat.reduceEqDiff,Nat.reduceMul,Nat.reduceSub,Int.reduceAdd,Int.reduceSub,Int.reduceMul,Int.reduceNeg,Int.reduceLT,Int.reduceLE,Int.reduceEq,Int.reduceToNat,↓reduceIte,Int.reducePow,Nat.reduceLeDiff,Nat.reduceLT,ne_eq,eq_self,List.length_cons,List.length_nil,qxE] | (with_reducible refine cregF ?_))
  refine asks_tc rfl (hk) (t_next tb (by decide) (by decide)) en_m_Tape__Next rfl (by first | exact List.mem_singleton.2 rfl | simp) rfl (by first | exact fun j hj=>.inl (List.mem_singleton.1 hj) | simp) ?_
  rintro r ⟨r0,r1⟩
  have hr:r = 0∨r = 1∨r = 2∨r = 3∨r = 4∨r = 5∨r = 6:=by omega
  rcases hr with rfl | rfl | rfl | rfl | rfl | rfl | rfl
  ·repeat' (first | simp (disch:=omega) only [sxE,w19_spoiled.E,Nat.reduceAdd,Nat.reduceEqDiff,Nat.reduceMul,Nat.reduceSub,Int.reduceAdd,Int.reduceSub,Int.reduceMul,Int.reduceNeg,Int.reduceLT,Int.reduceLE,Int.reduceEq,Int.reduceToNat,↓reduceIte,Int.reducePow,Nat.reduceLeDiff,Nat.reduceLT,ne_eq,eq_self,List.length_cons,List.length_nil,qxE] | (with_reducible refine cregF ?_))
   refine asks_tc rfl (hk) (t_next tb (by decide) (by decide)) en_m_Tape__Next rfl (by first | exact List.mem_singleton.2 rfl | simp) rfl (by first | exact fun j hj=>.inl (List.mem_singleton.1 hj) | simp) ?_
   rintro x ⟨x0,x1⟩
   repeat' (first | simp (disch:=omega) only [sxE,w19_spoiled.E,Nat.reduceAdd,Nat.reduceEqDiff,Nat.reduceMul,Nat.reduceSub,Int.reduceAdd,Int.reduceSub,Int.reduceMul,Int.reduceNeg,Int.reduceLT,Int.reduceLE,Int.reduceEq,Int.reduceToNat,↓reduceIte,Int.reducePow,Nat.reduceLeDiff,Nat.reduceLT,ne_eq,eq_self,List.length_cons,List.length_nil,qxE] | (with_reducible refine cregF ?_))
   exact pv_raw it iT iV iL _ _ _ _ _ (lb0_in _) (lb1_in _) (lb2_in _) (lb3_in _) (lb0_in _) (lb1_in _) (lb2_in _) (lb3_in _) (lb0_in _) (lb1_in _) (lb2_in _) (lb3_in _) (lb0_in _) (lb1_in _) (lb2_in _) (lb3_in _)
  ·repeat' (first | simp (disch:=omega) only [sxE,w19_spoiled.E,Nat.reduceAdd,Nat.reduceEqDiff,Nat.reduceMul,Nat.reduceSub,Int.reduceAdd,Int.reduceSub,Int.reduceMul,Int.reduceNeg,Int.reduceLT,Int.reduceLE,Int.reduceEq,Int.reduceToNat,↓reduceIte,Int.reducePow,Nat.reduceLeDiff,Nat.reduceLT,ne_eq,eq_self,List.length_cons,List.length_nil,qxE] | (with_reducible refine cregF ?_))
   refine asks_tc rfl (hk) (t_next tb (by decide) (by decide)) en_m_Tape__Next rfl (by first | exact List.mem_singleton.2 rfl | simp) rfl (by first | exact fun j hj=>.inl (List.mem_singleton.1 hj) | simp) ?_
   rintro x ⟨x0,x1⟩
   repeat' (first | simp (disch:=omega) only [sxE,w19_spoiled.E,Nat.reduceAdd,Nat.reduceEqDiff,Nat.reduceMul,Nat.reduceSub,Int.reduceAdd,Int.reduceSub,Int.reduceMul,Int.reduceNeg,Int.reduceLT,Int.reduceLE,Int.reduceEq,Int.reduceToNat,↓reduceIte,Int.reducePow,Nat.reduceLeDiff,Nat.reduceLT,ne_eq,eq_self,List.length_cons,List.length_nil,qxE] | (with_reducible refine cregF ?_))
   exact pv_raw (i64_wrapped _) iT iV iL _ _ _ _ _ (lb0_in _) (lb1_in _) (lb2_in _) (lb3_in _) (lb0_in _) (lb1_in _) (lb2_in _) (lb3_in _) (lb0_in _) (lb1_in _) (lb2_in _) (lb3_in _) (lb0_in _) (lb1_in _) (lb2_in _) (lb3_in _)
  ·repeat' (first | simp (disch:=omega) only [sxE,w19_spoiled.E,Nat.reduceAdd,Nat.reduceEqDiff,Nat.reduceMul,Nat.reduceSub,Int.reduceAdd,Int.reduceSub,Int.reduceMul,Int.reduceNeg,Int.reduceLT,Int.reduceLE,Int.reduceEq,Int.reduceToNat,↓reduceIte,Int.reducePow,Nat.reduceLeDiff,Nat.reduceLT,ne_eq,eq_self,List.length_cons,List.length_nil,qxE] | (with_reducible refine cregF ?_))
   refine asks_tc rfl (hk) (t_next tb (by decide) (by decide)) en_m_Tape__Next rfl (by first | exact List.mem_singleton.2 rfl | simp) rfl (by first | exact fun j hj=>.inl (List.mem_singleton.1 hj) | simp) ?_
   rintro x ⟨x0,x1⟩
   repeat' (first | simp (disch:=omega) only [sxE,w19_spoiled.E,Nat.reduceAdd,Nat.reduceEqDiff,Nat.reduceMul,Nat.reduceSub,Int.reduceAdd,Int.reduceSub,Int.reduceMul,Int.reduceNeg,Int.reduceLT,Int.reduceLE,Int.reduceEq,Int.reduceToNat,↓reduceIte,Int.reducePow,Nat.reduceLeDiff,Nat.reduceLT,ne_eq,eq_self,List.length_cons,List.length_nil,qxE] | (with_reducible refine cregF ?_))
   exact pv_raw it iT iV (i64_wrapped _) _ _ _ _ _ (lb0_in _) (lb1_in _) (lb2_in _) (lb3_in _) (lb0_in _) (lb1_in _) (lb2_in _) (lb3_in _) (lb0_in _) (lb1_in _) (lb2_in _) (lb3_in _) (lb0_in _) (lb1_in _) (lb2_in _) (lb3_in _)
  ·repeat' (first | simp (disch:=omega) only [sxE,w19_spoiled.E,Nat.reduceAdd,Nat.reduceEqDiff,Nat.reduceMul,Nat.reduceSub,Int.reduceAdd,Int.reduceSub,Int.reduceMul,Int.reduceNeg,Int.reduceLT,Int.reduceLE,Int.reduceEq,Int.reduceToNat,↓reduceIte,Int.reducePow,Nat.reduceLeDiff,Nat.reduceLT,ne_eq,eq_self,List.length_cons,List.length_nil,qxE] | (with_reducible refine cregF ?_))
   exact pv_raw it iT iV iL _ _ _ _ _ (lb0_in _) (lb1_in _) (lb2_in _) (lb3_in _) (lb0_in _) (lb1_in _) (lb2_in _) (lb3_in _) (lb0_in _) (lb1_in _) (lb2_in _) (lb3_in _) (lb0_in _) (lb1_in _) (lb2_in _) (lb3_in _)
  ·repeat' (first | simp (disch:=omega) only [sxE,w19_spoiled.E,Nat.reduceAdd,Nat.reduceEqDiff,Nat.reduceMul,Nat.reduceSub,Int.reduceAdd,Int.reduceSub,Int.reduceMul,Int.reduceNeg,Int.reduceLT,Int.reduceLE,Int.reduceEq,Int.reduceToNat,↓reduceIte,Int.reducePow,Nat.reduceLeDiff,Nat.reduceLT,ne_eq,eq_self,List.length_cons,List.length_nil,qxE] | (with_reducible refine cregF ?_))
   exact pv_raw it iT iV iL _ _ _ _ _ (lb0_in _) (lb1_in _) (lb2_in _) (lb3_in _) (lb0_in _) (lb1_in _) (lb2_in _) (lb3_in _) (lb0_in _) (lb1_in _) (lb2_in _) (lb3_in _) (lb0_in _) (lb1_in _) (lb2_in _) (lb3_in _)
  ·repeat' (first | simp (disch:=omega) only [sxE,w19_spoiled.E,Nat.reduceAdd,Nat.reduceEqDiff,Nat.reduceMul,Nat.reduceSub,Int.reduceAdd,Int.reduceSub,Int.reduceMul,Int.reduceNeg,Int.reduceLT,Int.reduceLE,Int.reduceEq,Int.reduceToNat,↓reduceIte,Int.reducePow,Nat.reduceLeDiff,Nat.reduceLT,ne_eq,eq_self,List.length_cons,List.length_nil,qxE] | (with_reducible refine cregF ?_))
   refine asks_tc rfl (hk) (t_next tb (by decide) (by decide)) en_m_Tape__Next rfl (by first | exact List.mem_singleton.2 rfl | simp) rfl (by first | exact fun j hj=>.inl (List.mem_singleton.1 hj) | simp) ?_
   rintro x ⟨x0,x1⟩
   repeat' (first | simp (disch:=omega) only [sxE,w19_spoiled.E,Nat.reduceAdd,Nat.reduceEqDiff,Nat.reduceMul,Nat.reduceSub,Int.reduceAdd,Int.reduceSub,Int.reduceMul,Int.reduceNeg,Int.reduceLT,Int.reduceLE,Int.reduceEq,Int.reduceToNat,↓reduceIte,Int.reducePow,Nat.reduceLeDiff,Nat.reduceLT,ne_eq,eq_self,List.length_cons,List.length_nil,qxE] | (with_reducible refine cregF ?_))
   exact pv_raw it iT iV iL _ _ _ _ _ (lb0_in _) (lb1_in _) (lb2_in _) (lb3_in _) (lb0_in _) (lb1_in _) (lb2_in _) (lb3_in _) (lb0_in _) (lb1_in _) (lb2_in _) (lb3_in _) (lb0_in _) (lb1_in _) (lb2_in _) (lb3_in _)
  ·repeat' (first | simp (disch:=omega) only [sxE,w19_spoiled.E,Nat.reduceAdd,Nat.reduceEqDiff,Nat.reduceMul,Nat.reduceSub,Int.reduceAdd,Int.reduceSub,Int.reduceMul,Int.reduceNeg,Int.reduceLT,Int.reduceLE,Int.reduceEq,Int.reduceToNat,↓reduceIte,Int.reducePow,Nat.reduceLeDiff,Nat.reduceLT,ne_eq,eq_self,List.length_cons,List.length_nil,qxE] | (with_reducible refine cregF ?_))
   refine asks_tc rfl (hk) (t_next tb (by decide) (by decide)) en_m_Tape__Next rfl (by first | exact List.mem_singleton.2 rfl | simp) rfl (by first | exact fun j hj=>.inl (List.mem_singleton.1 hj) | simp) ?_
   rintro x ⟨x0,x1⟩
   repeat' (first | simp (disch:=omega) only [sxE,w19_spoiled.E,Nat.reduceAdd,Nat.reduceEqDiff,Nat.reduceMul,Nat.reduceSub,Int.reduceAdd,Int.reduceSub,Int.reduceMul,Int.reduceNeg,Int.reduceLT,Int.reduceLE,Int.reduceEq,Int.reduceToNat,↓reduceIte,Int.reducePow,Nat.reduceLeDiff,Nat.reduceLT,ne_eq,eq_self,List.length_cons,List.length_nil,qxE] | (with_reducible refine cregF ?_))
   exact pv_raw it iT iV iL _ _ _ _ _ (lb0_in _) (lb1_in _) (lb2_in _) (lb3_in _) (lb0_in _) (lb1_in _) (lb2_in _) (lb3_in _) (lb0_in _) (lb1_in _) (lb2_in _) (lb3_in _) (lb0_in _) (lb1_in _) (lb2_in _) (lb3_in _)
end Go.Proofs.YtncmmbacoknefaaGreat

/- Open: Opening arguments that are structs: samples and Wides. -/
namespace Go.Proofs.YtncmmbacoknefaaGreat
open Go.ChangeShapes Go.WideShapes Go.ChangeAt Go.RowKit
set_option linter.unusedVariables false
set_option linter.unusedSimpArgs false
section
variable {H:Type} {enc:TypeId × Value→H} {P:Program}
theorem list2 {l:List Value} (h:l.length = 2):∃ x y,l = [x,y]:=by
 match l,h with
 | [x,y],_=>exact ⟨x,y,rfl⟩
theorem list5 {l:List Value} (h:l.length = 5):∃ x y z u v,l = [x,y,z,u,v]:=by
 match l,h with
 | [x,y,z,u,v],_=>exact ⟨x,y,z,u,v,rfl⟩
theorem open_smp {t:TypeId} {f0 f1:Field} {v:Value} {d:DataW H} {ps:List MemPlace} {W:World} {base:Nat} (ht:P.underlying t = some (.struct #[f0,f1])) (k0:P.underlying f0.type = some (.int .i64)) (k1:P.underlying f1.type = some (.int .i64)) (o0:f0.offset = 0) (o1:f1.offset = 1)
  (c0:P.cellsOf f0.type = 1) (c1:P.cellsOf f1.type = 1) (ct:P.cellsOf t = 2) (hv:Value.okWide P W .any base t v) (h:DataW.Trod enc P W 0 (fun _=>true) true t v d ps):∃ a b,v = .agg #[.int .i64 a,.int .i64 b]∧I64 a∧I64 b:=by
 obtain ⟨cs,rfl,hsz⟩:=okWide_struct ht hv
 obtain ⟨fuel,hf⟩:=h
 obtain ⟨y0,y1,n,_,hlen,e0,e1⟩:=trod_struct2 ht hf
 have hl:cs.toList.length = 2:=by rw [Array.length_toList,hsz,ct]
 obtain ⟨x,y,hxy⟩:=list2 hl
 have hcs:cs = #[x,y]:=by rw [← Array.toArray_toList (xs:=cs),hxy]
 subst hcs
 rw [o0,c0] at e0
 rw [o1,c1] at e1
 obtain ⟨a,ea,-,wa⟩:=DataW.trod_int k0 e0
 obtain ⟨b,eb,-,wb⟩:=DataW.trod_int k1 e1
 simp [Value.cells] at ea eb
 subst ea; subst eb
 exact ⟨a,b,rfl,I64.of_wf wa,I64.of_wf wb⟩
theorem list10 {l:List Value} (h:l.length = 10):∃ a b c d e x y z u v,l = [a,b,c,d,e,x,y,z,u,v]:=by
 match l,h with
 | [a,b,c,d,e,x,y,z,u,v],_=>exact ⟨a,b,c,d,e,x,y,z,u,v,rfl⟩
theorem cells_wid {t e:TypeId} {f0 f1:Field} {n:Nat} {y:DataW H} {l:List Value} {W:World} (ht:P.underlying t = some (.struct #[f0,f1])) (k0:P.underlying f0.type = some .bool) (k1:P.underlying f1.type = some (.array 4 e)) (ke:P.underlying e = some (.int .u64)) (o0:f0.offset = 0) (o1:f1.offset = 1)
  (c0:P.cellsOf f0.type = 1) (c1:P.cellsOf f1.type = 4) (ce:P.cellsOf e = 1) (hl:l.length = 5) {ps:List MemPlace} (hf:DataW.trod enc P W 0 (fun _=>true) true n t l = some (y,ps)):∃ nb a b c d',l = [.bool nb,.int .u64 a,.int .u64 b,.int .u64 c,.int .u64 d']∧U64 a∧U64 b∧U64 c∧U64 d':=by
 obtain ⟨y0,y1,m0,_,hlen,e0,e1⟩:=trod_struct2 ht hf
 obtain ⟨x,y',z,u,v,rfl⟩:=list5 hl
 rw [o0,c0] at e0
 rw [o1,c1] at e1
 obtain ⟨nb,en,-⟩:=DataW.trod_bool k0 e0
 have e1':DataW.trod enc P W 0 (fun _=>true) true m0 f1.type [y',z,u,v] = some y1:=by simpa [Value.cells] using e1
 obtain ⟨z0,z1,z2,z3,m,_,g0,g1,g2,g3⟩:=trod_array4 k1 ce e1'
 obtain ⟨a0,r0,-,w0⟩:=DataW.trod_int ke g0
 obtain ⟨a1,r1,-,w1⟩:=DataW.trod_int ke g1
 obtain ⟨a2,r2,-,w2⟩:=DataW.trod_int ke g2
 obtain ⟨a3,r3,-,w3⟩:=DataW.trod_int ke g3
 simp [Value.cells] at en r0 r1 r2 r3
 subst en; subst r0; subst r1; subst r2; subst r3
 exact ⟨nb,a0,a1,a2,a3,rfl,U64.of_wf w0,U64.of_wf w1,U64.of_wf w2,U64.of_wf w3⟩
end
set_option maxRecDepth 100000 in
theorem open_sample {H:Type} {enc:TypeId × Value→H} {v:Value} {d:DataW H} {ps:List MemPlace} {W:World} {base:Nat} (hv:Value.okWide Tryz.prog W .any base 58 v) (h:DataW.Trod enc Tryz.prog W 0 (fun _=>true) true 58 v d ps):∃ a b,v = .agg #[.int .i64 a,.int .i64 b]∧I64 a∧I64 b :=
 open_smp Tryz.underlying58 Tryz.underlying2 Tryz.underlying2 rfl rfl (by kernel_rfl) (by kernel_rfl) (by kernel_rfl) hv h
end Go.Proofs.YtncmmbacoknefaaGreat

/- OpK: Opening arguments that are cones. -/
namespace Go.Proofs.YtncmmbacoknefaaGreat
open Go.ChangeShapes Go.WideShapes Go.ChangeAt Go.RowKit
set_option linter.unusedVariables false
set_option linter.unusedSimpArgs false
section
variable {H:Type} {enc:TypeId × Value→H}
theorem list21 {l:List Value} (h:l.length = 21):∃ o a b c d e f g h i j a1 b1 c1 d1 e1 f1 g1 h1 i1 j1,l = [o,a,b,c,d,e,f,g,h,i,j,a1,b1,c1,d1,e1,f1,g1,h1,i1,j1]:=by
 match l,h with
 | [o,a,b,c,d,e,f,g,h,i,j,a1,b1,c1,d1,e1,f1,g1,h1,i1,j1],_=>exact ⟨o,a,b,c,d,e,f,g,h,i,j,a1,b1,c1,d1,e1,f1,g1,h1,i1,j1,rfl⟩
set_option maxRecDepth 100000 in
theorem cells_rat {l:List Value} {n:Nat} {y:DataW H} {W:World} (hl:l.length = 10) {ps:List MemPlace} (hf:DataW.trod enc Tryz.prog W 0 (fun _=>true) true n 39 l = some (y,ps)) :
  ∃ n a b c d' n1 a1 b1 c1 d1,l = [.bool n,.int .u64 a,.int .u64 b,.int .u64 c,.int .u64 d',.bool n1,.int .u64 a1,.int .u64 b1,.int .u64 c1,.int .u64 d1]∧(U64 a∧U64 b∧U64 c∧U64 d')∧(U64 a1∧U64 b1∧U64 c1∧U64 d1):=by
 obtain ⟨y0,y1,n,_,hlen,e0,e1⟩:=trod_struct2 Tryz.underlying39 hf
 have cw:Tryz.prog.cellsOf 37 = 5:=by kernel_rfl
 obtain ⟨a0,a1,a2,a3,a4,a5,a6,a7,a8,a9,rfl⟩:=list10 hl
 simp only [cw] at e0 e1
 have e0':DataW.trod enc Tryz.prog W 0 (fun _=>true) true n 37 [a0,a1,a2,a3,a4] = some y0:=by simpa [Value.cells] using e0
 have e1':DataW.trod enc Tryz.prog W 0 (fun _=>true) true n 37 [a5,a6,a7,a8,a9] = some y1:=by simpa [Value.cells] using e1
 obtain ⟨n1,w0,w1,w2,w3,g1,u1,u2,u3,u4⟩:=cells_wid Tryz.underlying37 Tryz.underlying4 Tryz.underlying35 Tryz.underlying34 rfl rfl (by kernel_rfl) (by kernel_rfl) (by kernel_rfl) rfl e0'
 obtain ⟨n2,x0,x1,x2,x3,g2,v1,v2,v3,v4⟩:=cells_wid Tryz.underlying37 Tryz.underlying4 Tryz.underlying35 Tryz.underlying34 rfl rfl (by kernel_rfl) (by kernel_rfl) (by kernel_rfl) rfl e1'
 cases g1
 cases g2
 exact ⟨_,_,_,_,_,_,_,_,_,_,rfl,⟨u1,u2,u3,u4⟩,⟨v1,v2,v3,v4⟩⟩
end
end Go.Proofs.YtncmmbacoknefaaGreat

/- OpP: Opening arguments that are states of swing. -/
namespace Go.Proofs.YtncmmbacoknefaaGreat
open Go.ChangeShapes Go.WideShapes Go.ChangeAt Go.RowKit
set_option linter.unusedVariables false
set_option linter.unusedSimpArgs false
section
variable {H:Type} {enc:TypeId × Value→H}
theorem list28 {l:List Value} (h:l.length = 28):∃ x0 x1 x2 x3 x4 x5 x6 x7 x8 x9 x10 x11 x12 x13 x14 x15 x16 x17 x18 x19 x20 x21 x22 x23 x24 x25 x26 x27,l = [x0,x1,x2,x3,x4,x5,x6,x7,x8,x9,x10,x11,x12,x13,x14,x15,x16,x17,x18,x19,x20,x21,x22,x23,x24,x25,x26,x27]:=by
 match l,h with
 | [x0,x1,x2,x3,x4,x5,x6,x7,x8,x9,x10,x11,x12,x13,x14,x15,x16,x17,x18,x19,x20,x21,x22,x23,x24,x25,x26,x27],_=>exact ⟨x0,x1,x2,x3,x4,x5,x6,x7,x8,x9,x10,x11,x12,x13,x14,x15,x16,x17,x18,x19,x20,x21,x22,x23,x24,x25,x26,x27,rfl⟩
theorem cells_cone {l:List Value} {n:Nat} {y:DataW H} {W:World} (hl:l.length = 21) {ps:List MemPlace} (hf:DataW.trod enc Tryz.prog W 0 (fun _=>true) true n 73 l = some (y,ps)) :
  ∃ (o n:Bool) (a b c d:Int) (n1:Bool) (a1 b1 c1 d1:Int) (m:Bool) (e f g h:Int) (m1:Bool) (e1 f1 g1 h1:Int),l = [.bool o,.bool n,.int .u64 a,.int .u64 b,.int .u64 c,.int .u64 d,.bool n1,.int .u64 a1,.int .u64 b1,.int .u64 c1,.int .u64 d1,.bool m,.int .u64 e,.int .u64 f,.int .u64 g,.int .u64 h,.bool m1,.int .u64 e1,.int .u64 f1,.int .u64 g1,.int .u64 h1] ∧
   ((U64 a∧U64 b∧U64 c∧U64 d)∧(U64 a1∧U64 b1∧U64 c1∧U64 d1))∧((U64 e∧U64 f∧U64 g∧U64 h)∧(U64 e1∧U64 f1∧U64 g1∧U64 h1)):=by
 obtain ⟨y0,y1,y2,n,_,hlen,e0,e1,e2⟩:=Go.Deep.trod_struct3 Tryz.underlying73 hf
 have cr:Tryz.prog.cellsOf 39 = 10:=by kernel_rfl
 have cb:Tryz.prog.cellsOf 4 = 1:=by kernel_rfl
 obtain ⟨o,a,b,c,d,e,f,g,h,i,j,a1,b1,c1,d1,e1',f1,g1,h1,i1,j1,rfl⟩:=list21 hl
 simp only [cr,cb] at e0 e1 e2
 obtain ⟨nb,en,-⟩:=DataW.trod_bool Tryz.underlying4 e0
 have k1:DataW.trod enc Tryz.prog W 0 (fun _=>true) true n 39 [a,b,c,d,e,f,g,h,i,j] = some y1:=by simpa [Value.cells] using e1
 have k2:DataW.trod enc Tryz.prog W 0 (fun _=>true) true n 39 [a1,b1,c1,d1,e1',f1,g1,h1,i1,j1] = some y2:=by simpa [Value.cells] using e2
 obtain ⟨n1,w0,w1,w2,w3,n2,x0,x1,x2,x3,g1',u,p⟩:=cells_rat rfl k1
 obtain ⟨n3,w0',w1',w2',w3',n4,x0',x1',x2',x3',g2',q,r⟩:=cells_rat rfl k2
 simp [Value.cells] at en
 subst en
 cases g1'
 cases g2'
 exact ⟨_,_,_,_,_,_,_,_,_,_,_,_,_,_,_,_,_,_,_,_,_,rfl,⟨u,p⟩,⟨q,r⟩⟩
theorem trod_struct7 {P:Program} {w:World} {base:Nat} {spare:Nat→Bool} {held:Bool} {t:TypeId} {f0 f1 f2 f3 f4 f5 f6:Field} {fuel:Nat} {cs:List Value} {x:DataW H × List MemPlace} (ht:P.underlying t = some (.struct #[f0,f1,f2,f3,f4,f5,f6])) (h:DataW.trod enc P w base spare held fuel t cs = some x) :
  ∃ y0 y1 y2 y3 y4 y5 y6 n,DataW.trod enc P w base spare held n f0.type ((cs.drop f0.offset).take (P.cellsOf f0.type)) = some y0∧DataW.trod enc P w base spare held n f1.type ((cs.drop f1.offset).take (P.cellsOf f1.type)) = some y1∧DataW.trod enc P w base spare held n f2.type ((cs.drop f2.offset).take (P.cellsOf f2.type)) = some y2∧DataW.trod enc P w base spare held n f3.type ((cs.drop f3.offset).take (P.cellsOf f3.type)) = some y3∧DataW.trod enc P w base spare held n f4.type ((cs.drop f4.offset).take (P.cellsOf f4.type)) = some y4∧DataW.trod enc P w base spare held n f5.type ((cs.drop f5.offset).take (P.cellsOf f5.type)) = some y5∧DataW.trod enc P w base spare held n f6.type ((cs.drop f6.offset).take (P.cellsOf f6.type)) = some y6:=by
 obtain ⟨xs,n,_,rfl,hl,hlen,hf⟩:=DataW.trod_struct ht h
 match xs,hlen with
 | [y0,y1,y2,y3,y4,y5,y6],_=>exact ⟨y0,y1,y2,y3,y4,y5,y6,n,by simpa using hf 0 f0 rfl,by simpa using hf 1 f1 rfl,by simpa using hf 2 f2 rfl,by simpa using hf 3 f3 rfl,by simpa using hf 4 f4 rfl,by simpa using hf 5 f5 rfl,by simpa using hf 6 f6 rfl⟩
theorem cells_smp {x z:Value} {n:Nat} {y:DataW H} {W:World} {ps:List MemPlace} (hf:DataW.trod enc Tryz.prog W 0 (fun _=>true) true n 58 [x,z] = some (y,ps)):∃ T V:Int,x = .int .i64 T∧z = .int .i64 V∧I64 T∧I64 V:=by
 obtain ⟨y0,y1,m,_,_,e0,e1⟩:=trod_struct2 Tryz.underlying58 hf
 have ci:Tryz.prog.cellsOf 2 = 1:=by kernel_rfl
 simp only [ci] at e0 e1
 obtain ⟨T,r0,-,w0⟩:=DataW.trod_int Tryz.underlying2 e0
 obtain ⟨V,r1,-,w1⟩:=DataW.trod_int Tryz.underlying2 e1
 simp at r0 r1
 exact ⟨T,V,r0,r1,I64.of_wf w0,I64.of_wf w1⟩
end
set_option maxRecDepth 100000 in
theorem open_pcst {H:Type} {enc:TypeId × Value→H} {v:Value} {d:DataW H} {ps:List MemPlace} {W:World} {base:Nat} (hv:Value.okWide Tryz.prog W .any base 94 v) (h:DataW.Trod enc Tryz.prog W 0 (fun _=>true) true 94 v d ps):∃ r,PVal v r:=by
 obtain ⟨cs,rfl,hsz⟩:=okWide_struct Tryz.underlying94 hv
 obtain ⟨fuel,hf⟩:=h
 obtain ⟨z0,z1,z2,z3,z4,z5,z6,n,e0,e1,e2,e3,e4,e5,e6⟩:=trod_struct7 Tryz.underlying94 hf
 have ct:Tryz.prog.cellsOf 94 = 28:=by kernel_rfl
 have c0:Tryz.prog.cellsOf 2 = 1:=by kernel_rfl
 have c1:Tryz.prog.cellsOf 3 = 1:=by kernel_rfl
 have c2:Tryz.prog.cellsOf 58 = 2:=by kernel_rfl
 have c3:Tryz.prog.cellsOf 73 = 21:=by kernel_rfl
 have hl:cs.toList.length = 28:=by rw [Array.length_toList,hsz,ct]
 obtain ⟨x0,x1,x2,x3,x4,x5,x6,x7,x8,x9,x10,x11,x12,x13,x14,x15,x16,x17,x18,x19,x20,x21,x22,x23,x24,x25,x26,x27,hxy⟩:=list28 hl
 have hcs:cs = #[x0,x1,x2,x3,x4,x5,x6,x7,x8,x9,x10,x11,x12,x13,x14,x15,x16,x17,x18,x19,x20,x21,x22,x23,x24,x25,x26,x27]:=by rw [← Array.toArray_toList (xs:=cs),hxy]
 subst hcs
 simp only [c0,c1,c2,c3] at e0 e1 e2 e3 e4 e5 e6
 have k0:DataW.trod enc Tryz.prog W 0 (fun _=>true) true n 2 [x0] = some z0:=by simpa [Value.cells] using e0
 have k1:DataW.trod enc Tryz.prog W 0 (fun _=>true) true n 3 [x1] = some z1:=by simpa [Value.cells] using e1
 have k2:DataW.trod enc Tryz.prog W 0 (fun _=>true) true n 3 [x2] = some z2:=by simpa [Value.cells] using e2
 have k3:DataW.trod enc Tryz.prog W 0 (fun _=>true) true n 58 [x3,x4] = some z3:=by simpa [Value.cells] using e3
 have k4:DataW.trod enc Tryz.prog W 0 (fun _=>true) true n 2 [x5] = some z4:=by simpa [Value.cells] using e4
 have k5:DataW.trod enc Tryz.prog W 0 (fun _=>true) true n 2 [x6] = some z5:=by simpa [Value.cells] using e5
 have k6:DataW.trod enc Tryz.prog W 0 (fun _=>true) true n 73 [x7,x8,x9,x10,x11,x12,x13,x14,x15,x16,x17,x18,x19,x20,x21,x22,x23,x24,x25,x26,x27] = some z6:=by simpa [Value.cells] using e6
 obtain ⟨t,r0,-,w0⟩:=DataW.trod_int Tryz.underlying2 k0
 obtain ⟨I,r1,-,w1⟩:=DataW.trod_int Tryz.underlying3 k1
 obtain ⟨N,r2,-,w2⟩:=DataW.trod_int Tryz.underlying3 k2
 obtain ⟨T,V,rfl,rfl,iT,iV⟩:=cells_smp k3
 obtain ⟨L,r4,-,w4⟩:=DataW.trod_int Tryz.underlying2 k4
 obtain ⟨K,r5,-,w5⟩:=DataW.trod_int Tryz.underlying2 k5
 obtain ⟨o,n,a,b,c,d,n1,a1,b1,c1',d1,m,e,f,g,h,m1,e1',f1,g1,h1,rc,⟨⟨u1,u2,u3,u4⟩,⟨p1,p2,p3,p4⟩⟩,⟨⟨q1,q2,q3,q4⟩,⟨s1,s2,s3,s4⟩⟩⟩:=cells_cone rfl k6
 cases r0
 cases r1
 cases r2
 cases r4
 cases r5
 cases rc
 exact pv_raw (I64.of_wf w0) iT iV (I64.of_wf w4) _ _ _ _ _ u1 u2 u3 u4 p1 p2 p3 p4 q1 q2 q3 q4 s1 s2 s3 s4
end Go.Proofs.YtncmmbacoknefaaGreat
