/- Several texts in one: OpS. -/
import Derived.Test.YtncmmbacoknefaaGreatSf25
set_option linter.defProp false

/- OpS: Opening arguments that are states of swing. -/
namespace Go.Proofs.YtncmmbacoknefaaGreat
open Go.ChangeShapes Go.WideShapes Go.ChangeAt Go.RowKit
set_option linter.unusedVariables false
set_option linter.unusedSimpArgs false
section
variable {H:Type} {enc:TypeId × Value→H}
theorem list26 {l:List Value} (h:l.length = 26):∃ x0 x1 x2 x3 x4 x5 x6 x7 x8 x9 x10 x11 x12 x13 x14 x15 x16 x17 x18 x19 x20 x21 x22 x23 x24 x25,l = [x0,x1,x2,x3,x4,x5,x6,x7,x8,x9,x10,x11,x12,x13,x14,x15,x16,x17,x18,x19,x20,x21,x22,x23,x24,x25]:=by
 match l,h with
 | [x0,x1,x2,x3,x4,x5,x6,x7,x8,x9,x10,x11,x12,x13,x14,x15,x16,x17,x18,x19,x20,x21,x22,x23,x24,x25],_=>exact ⟨x0,x1,x2,x3,x4,x5,x6,x7,x8,x9,x10,x11,x12,x13,x14,x15,x16,x17,x18,x19,x20,x21,x22,x23,x24,x25,rfl⟩
theorem cells_cone {l:List Value} {n:Nat} {y:DataW H} {W:World} (hl:l.length = 21) {ps:List MemPlace} (hf:DataW.trod enc Tryz.prog W 0 (fun _=>true) true n 73 l = some (y,ps)) :
  ∃ (o n:Bool) (a b c d:Int) (n1:Bool) (a1 b1 c1 d1:Int) (m:Bool) (e f g h:Int) (m1:Bool) (e1 f1 g1 h1:Int),l = [.bool o,.bool n,.int .u64 a,.int .u64 b,.int .u64 c,.int .u64 d,.bool n1,.int .u64 a1,.int .u64 b1,.int .u64 c1,.int .u64 d1,.bool m,.int .u64 e,.int .u64 f,.int .u64 g,.int .u64 h,.bool m1,.int .u64 e1,.int .u64 f1,.int .u64 g1,.int .u64 h1] ∧
   ((U64 a∧U64 b∧U64 c∧U64 d)∧(U64 a1∧U64 b1∧U64 c1∧U64 d1))∧((U64 e∧U64 f∧U64 g∧U64 h)∧(U64 e1∧U64 f1∧U64 g1∧U64 h1)):=by
 obtain ⟨y0,y1,y2,n,_,hlen,e0,e1,e2⟩:=Go.Deep.trod_struct3 Tryz.underlying73 hf
 have cr:Tryz.prog.cellsOf 39 = 10:=by kernel_rfl
 have cb:Tryz.prog.cellsOf 4 = 1:=by kernel_rfl
 obtain ⟨o,a,b,c,d,e,f,g,h,i,j,a1,b1,c1,d1,e1',f1,g1,h1,i1,j1,rfl⟩:=list21 hl
 simp only [cr,cb] at e0 e1 e2
 obtain ⟨nb,en,-⟩:=DataW.trod_bool Tryz.underlying4 e0
 have k1:DataW.trod enc Tryz.prog W 0 (fun _=>true) true n 39 [a,b,c,d,e,f,g,h,i,j] = some y1:=by simpa [Value.cells] using e1
 have k2:DataW.trod enc Tryz.prog W 0 (fun _=>true) true n 39 [a1,b1,c1,d1,e1',f1,g1,h1,i1,j1] = some y2:=by simpa [Value.cells] using e2
 obtain ⟨n1,w0,w1,w2,w3,n2,x0,x1,x2,x3,g1',u,p⟩:=cells_rat rfl k1
 obtain ⟨n3,w0',w1',w2',w3',n4,x0',x1',x2',x3',g2',q,r⟩:=cells_rat rfl k2
 simp [Value.cells] at en
 subst en
 cases g1'
 cases g2'
 exact ⟨_,_,_,_,_,_,_,_,_,_,_,_,_,_,_,_,_,_,_,_,_,rfl,⟨u,p⟩,⟨q,r⟩⟩
theorem trod_struct5 {P:Program} {w:World} {base:Nat} {spare:Nat→Bool} {held:Bool} {t:TypeId} {f0 f1 f2 f3 f4:Field} {fuel:Nat} {cs:List Value} {x:DataW H × List MemPlace} (ht:P.underlying t = some (.struct #[f0,f1,f2,f3,f4])) (h:DataW.trod enc P w base spare held fuel t cs = some x) :
  ∃ y0 y1 y2 y3 y4 n,DataW.trod enc P w base spare held n f0.type ((cs.drop f0.offset).take (P.cellsOf f0.type)) = some y0∧DataW.trod enc P w base spare held n f1.type ((cs.drop f1.offset).take (P.cellsOf f1.type)) = some y1∧DataW.trod enc P w base spare held n f2.type ((cs.drop f2.offset).take (P.cellsOf f2.type)) = some y2∧DataW.trod enc P w base spare held n f3.type ((cs.drop f3.offset).take (P.cellsOf f3.type)) = some y3∧DataW.trod enc P w base spare held n f4.type ((cs.drop f4.offset).take (P.cellsOf f4.type)) = some y4:=by
 obtain ⟨xs,n,_,rfl,hl,hlen,hf⟩:=DataW.trod_struct ht h
 match xs,hlen with
 | [y0,y1,y2,y3,y4],_=>exact ⟨y0,y1,y2,y3,y4,n,by simpa using hf 0 f0 rfl,by simpa using hf 1 f1 rfl,by simpa using hf 2 f2 rfl,by simpa using hf 3 f3 rfl,by simpa using hf 4 f4 rfl⟩
theorem cells_smp {x z:Value} {n:Nat} {y:DataW H} {W:World} {ps:List MemPlace} (hf:DataW.trod enc Tryz.prog W 0 (fun _=>true) true n 58 [x,z] = some (y,ps)):∃ T V:Int,x = .int .i64 T∧z = .int .i64 V∧I64 T∧I64 V:=by
 obtain ⟨y0,y1,m,_,_,e0,e1⟩:=trod_struct2 Tryz.underlying58 hf
 have ci:Tryz.prog.cellsOf 2 = 1:=by kernel_rfl
 simp only [ci] at e0 e1
 obtain ⟨T,r0,-,w0⟩:=DataW.trod_int Tryz.underlying2 e0
 obtain ⟨V,r1,-,w1⟩:=DataW.trod_int Tryz.underlying2 e1
 simp at r0 r1
 exact ⟨T,V,r0,r1,I64.of_wf w0,I64.of_wf w1⟩
end
set_option maxRecDepth 100000 in
theorem open_swst {H:Type} {enc:TypeId × Value→H} {v:Value} {d:DataW H} {ps:List MemPlace} {W:World} {base:Nat} (hv:Value.okWide Tryz.prog W .any base 103 v) (h:DataW.Trod enc Tryz.prog W 0 (fun _=>true) true 103 v d ps):∃ r,SVal v r:=by
 obtain ⟨cs,rfl,hsz⟩:=okWide_struct Tryz.underlying103 hv
 obtain ⟨fuel,hf⟩:=h
 obtain ⟨z0,z1,z2,z3,z4,n,e0,e1,e2,e3,e4⟩:=trod_struct5 Tryz.underlying103 hf
 have ct:Tryz.prog.cellsOf 103 = 26:=by kernel_rfl
 have c0:Tryz.prog.cellsOf 2 = 1:=by kernel_rfl
 have c1:Tryz.prog.cellsOf 3 = 1:=by kernel_rfl
 have c2:Tryz.prog.cellsOf 58 = 2:=by kernel_rfl
 have c3:Tryz.prog.cellsOf 73 = 21:=by kernel_rfl
 have hl:cs.toList.length = 26:=by rw [Array.length_toList,hsz,ct]
 obtain ⟨x0,x1,x2,x3,x4,x5,x6,x7,x8,x9,x10,x11,x12,x13,x14,x15,x16,x17,x18,x19,x20,x21,x22,x23,x24,x25,hxy⟩:=list26 hl
 have hcs:cs = #[x0,x1,x2,x3,x4,x5,x6,x7,x8,x9,x10,x11,x12,x13,x14,x15,x16,x17,x18,x19,x20,x21,x22,x23,x24,x25]:=by rw [← Array.toArray_toList (xs:=cs),hxy]
 subst hcs
 simp only [c0,c1,c2,c3] at e0 e1 e2 e3 e4
 have k0:DataW.trod enc Tryz.prog W 0 (fun _=>true) true n 2 [x0] = some z0:=by simpa [Value.cells] using e0
 have k1:DataW.trod enc Tryz.prog W 0 (fun _=>true) true n 3 [x1] = some z1:=by simpa [Value.cells] using e1
 have k2:DataW.trod enc Tryz.prog W 0 (fun _=>true) true n 58 [x2,x3] = some z2:=by simpa [Value.cells] using e2
 have k3:DataW.trod enc Tryz.prog W 0 (fun _=>true) true n 2 [x4] = some z3:=by simpa [Value.cells] using e3
 have k4:DataW.trod enc Tryz.prog W 0 (fun _=>true) true n 73 [x5,x6,x7,x8,x9,x10,x11,x12,x13,x14,x15,x16,x17,x18,x19,x20,x21,x22,x23,x24,x25] = some z4:=by simpa [Value.cells] using e4
 obtain ⟨t,r0,-,w0⟩:=DataW.trod_int Tryz.underlying2 k0
 obtain ⟨N,r1,-,w1⟩:=DataW.trod_int Tryz.underlying3 k1
 obtain ⟨T,V,rfl,rfl,iT,iV⟩:=cells_smp k2
 obtain ⟨L,r3,-,w3⟩:=DataW.trod_int Tryz.underlying2 k3
 obtain ⟨o,n,a,b,c,d,n1,a1,b1,c1',d1,m,e,f,g,h,m1,e1',f1,g1,h1,rc,⟨⟨u1,u2,u3,u4⟩,⟨p1,p2,p3,p4⟩⟩,⟨⟨q1,q2,q3,q4⟩,⟨s1,s2,s3,s4⟩⟩⟩:=cells_cone rfl k4
 cases r0
 cases r1
 cases r3
 cases rc
 exact sv_raw (I64.of_wf w0) iT iV (I64.of_wf w3) _ _ _ _ _ u1 u2 u3 u4 p1 p2 p3 p4 q1 q2 q3 q4 s1 s2 s3 s4
end Go.Proofs.YtncmmbacoknefaaGreat
