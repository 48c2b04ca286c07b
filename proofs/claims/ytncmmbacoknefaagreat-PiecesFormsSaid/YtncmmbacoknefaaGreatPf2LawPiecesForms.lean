/- Proved: tscodeclaw19.PiecesForms returns true for all arguments. No condition. -/
import Derived.Test.YtncmmbacoknefaaGreatRows
import Derived.Test.YtncmmbacoknefaaGreatPf2ClPiecesForms
import Derived.WalkKit
import Derived.ProofKit
import Derived.OpenShut
import Derived.SizedLaws
import Derived.Outline
import Derived.Test.YtncmmbacoknefaaGreatPf22
import Derived.Test.YtncmmbacoknefaaGreatPf23
import Derived.Test.YtncmmbacoknefaaGreatPf24
import Derived.Test.YtncmmbacoknefaaGreatPf25
namespace Go.Proofs.YtncmmbacoknefaaGreat.piecesForms
open Go.ChangeShapes Go.WideShapes Go.ChangeAt Go.RowKit Sx
set_option linter.unusedVariables false
set_option linter.unusedSimpArgs false


set_option maxHeartbeats 8000000 in
set_option maxRecDepth 100000 in
theorem walk (w:World) (v0:Value) (b0:Bool) (hv0:PVal v0 b0) (t1 v1:Int) (hs1:I64 t1∧I64 v1) (a2:Int) (h2:I64 a2) (a3:Int) (h3:I64 a3) (s4:Option Addr) (l4 c4:Nat) (z4:List Int) (h4:SlZ w .i64 (.slice s4 l4 c4) z4) :
    Calls Tryz.prog 13 #[v0,.agg #[.int .i64 t1,.int .i64 v1],.int .i64 a2,.int .i64 a3,.slice s4 l4 c4] w fun e w'=>e = .returned (.bool true)∧Below w.heap.size w w':=by

  have kn:=fun W=>gives_known en_w19_known (g_known19 W)
  obtain ⟨t0,I0,N0,T0,V0,L0,K0,o0,n0,a0,b0,c0,d0,n10,a10,b10,c10,d10,m0,e0,f0,g0,h0,m10,e10,f10,g10,h10,rfl⟩:=id hv0.cells
  obtain ⟨hsT,hsV⟩:=hs1
  have sg:=fun W=>gx_pcstart a2 W
  have sr:=fun W=>rx_pcstart h2 W
  obtain ⟨Sv,er,hS,hSf⟩:∃ Sv er,(if tolz a2 then .tuple #[pcZ a2,.int .i64 0] else .tuple #[pcZ 0,.int .i64 9]:Value) = .tuple #[Sv,.int .i64 er]∧∃ x,Sv = pcZ x:=by
    cases tolz a2
    · exact ⟨_,_,rfl,0,rfl⟩
    · exact ⟨_,_,rfl,a2,rfl⟩
  obtain ⟨xz,rfl⟩:=hSf
  rw [hS] at sg sr
  clear hS
  refine known_of (enter Tryz.func13 w19_PiecesForms.ok (args:=[_,_,_,_,_]) (by simp) ?_)
  repeat' (first | simp (disch:=omega) only [sxE,w19_PiecesForms.E,Nat.reduceAdd,Nat.reduceEqDiff,Nat.reduceMul,Nat.reduceSub,Int.reduceAdd,Int.reduceSub,Int.reduceMul,Int.reduceNeg,Int.reduceLT,Int.reduceLE,Int.reduceEq,Int.reduceToNat,↓reduceIte,Int.reducePow,Nat.reduceLeDiff,Nat.reduceLT,ne_eq,eq_self,List.length_cons,List.length_nil,qxE] | (with_reducible refine cregF ?_))
  refine asks_new (L:=[]) rfl (kX_nil _) h4 en_m_New fun tb htb=>?_; clear htb
  repeat' (first | simp (disch:=omega) only [sxE,w19_PiecesForms.E,Nat.reduceAdd,Nat.reduceEqDiff,Nat.reduceMul,Nat.reduceSub,Int.reduceAdd,Int.reduceSub,Int.reduceMul,Int.reduceNeg,Int.reduceLT,Int.reduceLE,Int.reduceEq,Int.reduceToNat,↓reduceIte,Int.reducePow,Nat.reduceLeDiff,Nat.reduceLT,ne_eq,eq_self,List.length_cons,List.length_nil,qxE] | (with_reducible refine cregF ?_))
  refine asks_tc rfl (tpk_t _ tb) (t_state19 tb) en_w19_state rfl (by first | exact List.mem_singleton.2 rfl | simp) rfl (by first | exact fun j hj=>.inl (List.mem_singleton.1 hj) | simp) ?_
  rintro ⟨s,yT,yV⟩ ⟨hs,hyT,hyV⟩
  dsimp only at hs hyT hyV ⊢
  have sp:=@t_spoiled19 tb s hs
  have hsO:=pv_ok hs
  have A1:=fun W=>gives_known en_w19_alike (g_alike19 hv0 hsT hsV W)
  have A2:=fun W=>gives_known en_w19_alike (g_alike19 hsO hyT hyV W)
  have A3:=fun W=>gives_known en_w19_alike (g_alike19 hsO hsT hsV W)
  have G1:=fun W=>gx_key hsV h2 W
  have R1:=fun W=>rx_key hsV h2 W
  have G2:=fun W=>gx_base h3 h2 W
  have R2:=fun W=>rx_base h3 h2 W
  have F2:Fits (a3 * un a2):=(bd_mul (bd_i64 h3) (bd_i64 (un_i64 h2))).fits
  clear hsO hs
  obtain ⟨st,si,sn,sT,sV,sL,sk,⟨o,p,q,p1,q1⟩⟩:=s
  try dsimp only at *
  repeat' (first | simp (disch:=omega) only [sxE,w19_PiecesForms.E,Nat.reduceAdd,Nat.reduceEqDiff,Nat.reduceMul,Nat.reduceSub,Int.reduceAdd,Int.reduceSub,Int.reduceMul,Int.reduceNeg,Int.reduceLT,Int.reduceLE,Int.reduceEq,Int.reduceToNat,↓reduceIte,Int.reducePow,Nat.reduceLeDiff,Nat.reduceLT,ne_eq,eq_self,List.length_cons,List.length_nil,qxE] | (with_reducible refine Sx.call_at (f:=57) (fun W hW=>sg W) ?_) | (with_reducible refine Sx.call_at (f:=58) (fun W hW=>sr W) ?_) | (with_reducible refine cregF ?_))
  refine asks_tc rfl (tpk_t _ tb) sp en_w19_spoiled rfl (List.mem_singleton.2 rfl) rfl (fun j hj=>.inl (List.mem_singleton.1 hj)) ?_
  rintro ⟨bv,br⟩ hb
  dsimp only at hb ⊢
  obtain ⟨bt,bI,bN,bT,bV,bL,bK,bo,bn,ba,bb,bc,bd,bn1,ba1,bb1,bc1,bd1,bm,be,bf,bg,bh,bm1,be1,bf1,bg1,bh1,rfl⟩:=id hb.cells
  have A4:=fun W=>gives_known en_w19_alike (g_alike19 hb hyT hyV W)
  clear sp
  repeat' (first | simp (disch:=omega) only [sxE,w19_PiecesForms.E,Nat.reduceAdd,Nat.reduceEqDiff,Nat.reduceMul,Nat.reduceSub,Int.reduceAdd,Int.reduceSub,Int.reduceMul,Int.reduceNeg,Int.reduceLT,Int.reduceLE,Int.reduceEq,Int.reduceToNat,↓reduceIte,Int.reducePow,Nat.reduceLeDiff,Nat.reduceLT,ne_eq,eq_self,List.length_cons,List.length_nil,qxE] | (with_reducible refine cregF ?_))
  refine asks_tc rfl (tpk_t _ tb) (t_tol tb) en_m_Tape__Tolerance rfl (by first | exact List.mem_singleton.2 rfl | simp) rfl (by first | exact fun j hj=>.inl (List.mem_singleton.1 hj) | simp) ?_
  rintro tz ⟨tz0,tz1⟩
  have itz:I64 tz:=⟨by omega,by omega⟩
  have G3:=fun W=>gx_key hsV itz W
  have R3:=fun W=>rx_key hsV itz W
  have G4:=fun W=>gx_base h3 itz W
  have R4:=fun W=>rx_base h3 itz W
  have F4:Fits (a3 * un tz):=(bd_mul (bd_i64 h3) (bd_i64 (un_i64 itz))).fits
  generalize a3 * un tz = B4 at *
  generalize a3 * un a2 = B2 at *
  repeat' (first | simp (disch:=omega) only [sxE,w19_PiecesForms.E,Nat.reduceAdd,Nat.reduceEqDiff,Nat.reduceMul,Nat.reduceSub,Int.reduceAdd,Int.reduceSub,Int.reduceMul,Int.reduceNeg,Int.reduceLT,Int.reduceLE,Int.reduceEq,Int.reduceToNat,↓reduceIte,Int.reducePow,Nat.reduceLeDiff,Nat.reduceLT,ne_eq,eq_self,List.length_cons,List.length_nil,qxE,beq_self_eq_true,Bool.not_false] | (with_reducible refine Sx.call_at (f:=36) (fun W hW=>kn W) ?_) | (with_reducible refine Sx.call_at (f:=60) (fun W hW=>A1 W) ?_) | (with_reducible refine Sx.call_at (f:=60) (fun W hW=>A2 W) ?_) | (with_reducible refine Sx.call_at (f:=60) (fun W hW=>A3 W) ?_) | (with_reducible refine Sx.call_at (f:=60) (fun W hW=>A4 W) ?_) | (with_reducible refine Sx.call_at (f:=61) (fun W hW=>G1 W) ?_) | (with_reducible refine Sx.call_at (f:=38) (fun W hW=>R1 W) ?_) | (with_reducible refine Sx.call_at (f:=61) (fun W hW=>G3 W) ?_) | (with_reducible refine Sx.call_at (f:=38) (fun W hW=>R3 W) ?_) | (with_reducible refine Sx.call_at (f:=62) (fun W hW=>G2 W) ?_) | (with_reducible refine Sx.call_at (f:=41) (fun W hW=>R2 W) ?_) | (with_reducible refine Sx.call_at (f:=62) (fun W hW=>G4 W) ?_) | (with_reducible refine Sx.call_at (f:=41) (fun W hW=>R4 W) ?_) | (with_reducible refine eq_is (fun W=>by first | exact eqx_run F2 F2 W) ?_) | (with_reducible refine eq_is (fun W=>by first | exact eqx_run F4 F4 W) ?_) | (with_reducible refine eq_is (fun W=>by exact eqpst_run _ _ _ _ _ _ _ _ _ _ _ _ _ _ _ _ _ _ _ _ _ _ _ _ _ _ _ _ W) ?_) | (with_reducible refine cregF ?_))
/-! ### The row -/
set_option maxRecDepth 100000 in
theorem lifted (os:Os) (started:os.Started) (H:Type) (enc:TypeId × Value→H) :
    ReturnsInHanded {} Tryz.checked os 13 .any (Rows.piecesFormsSpec.pre6 enc Tryz.prog Tryz.f13 Rows.piecesFormsRow.domain false) (Rows.piecesFormsSpec.post enc Tryz.prog Tryz.f13 false true false false):=by
  refine returnsInHanded_of_change_sized (C:=Tryz.checked) own started (by kernel_rfl) Tryz.func13
    (ChangeSpec.witness6 (enc:=enc) (C:=Tryz.checked) false ⟨#[],#[.agg #[.int .i64 0,.int .i64 0,.int .i64 0,.int .i64 0,.int .i64 0,.int .i64 0,.int .i64 0,.bool false,.bool false,.int .u64 0,.int .u64 0,.int .u64 0,.int .u64 0,.bool false,.int .u64 0,.int .u64 0,.int .u64 0,.int .u64 0,.bool false,.int .u64 0,.int .u64 0,.int .u64 0,.int .u64 0,.bool false,.int .u64 0,.int .u64 0,.int .u64 0,.int .u64 0],.agg #[.int .i64 0,.int .i64 0],.int .i64 0,.int .i64 0,.slice none 0 0],[]⟩ 8 (by kernel_rfl) (by kernel_rfl) (by kernel_rfl) (by kernel_rfl)) ?_
  intro W base args ds gs before hval0 hW hcnd hsz _
  have hval:∀ (j:Nat) t v,Tryz.f13.params[j]? = some t→args[j]? = some v→Value.okWide Tryz.prog W .any base t v:=hval0
  have hW':=hW
  obtain ⟨p,q,hA0,hV,rfl,hfz,hnd⟩:=hW
  have hA:DataW.TrodAll enc Tryz.prog W 0 (fun _=>true) true Tryz.f13.params.toList args.toList ds p:=hA0
  rw [Tryz.params13] at hA hval
  obtain ⟨v0,vs0,d0,ds0,p0,q0,hargs,rfl,rfl,g0,r0⟩:=trodAll_cons hA
  obtain ⟨v1,vs1,d1,ds1,p1,q1,rfl,rfl,rfl,g1,r1⟩:=trodAll_cons r0
  obtain ⟨v2,vs2,d2,ds2,p2,q2,rfl,rfl,rfl,g2,r2⟩:=trodAll_cons r1
  obtain ⟨v3,vs3,d3,ds3,p3,q3,rfl,rfl,rfl,g3,r3⟩:=trodAll_cons r2
  obtain ⟨v4,vs4,d4,ds4,p4,q4,rfl,rfl,rfl,g4,r4⟩:=trodAll_cons r3
  obtain ⟨rfl,rfl,rfl⟩:=trodAll_nil r4
  obtain rfl:args = #[v0,v1,v2,v3,v4]:=by cases args; simp_all
  obtain ⟨rfl,rfl⟩:=trodVars_none hV
  have hlt:∀ x∈(p0 ++ (p1 ++ (p2 ++ (p3 ++ (p4 ++ []))))) ++ [],x.block < W.heap.size:=fun x hx=>hW'.lt x hx
  obtain ⟨vb0,hsv0⟩:=open_pcst (hval 0 94 v0 rfl rfl) g0
  obtain ⟨ta1,va1,rfl,wa1,wb1⟩:=open_sample (hval 1 58 v1 rfl rfl) g1
  obtain ⟨a2,rfl,rfl,rfl,w2⟩:=open_int Tryz.underlying2 (hval 2 2 v2 rfl rfl) g2
  obtain ⟨a3,rfl,rfl,rfl,w3⟩:=open_int Tryz.underlying2 (hval 3 2 v3 rfl rfl) g3
  obtain ⟨z4,hs4⟩:=open_slz Tryz.underlying24 Tryz.underlying3 (by kernel_rfl) (hval 4 24 v4 rfl rfl) g4 (fun x hx=>hlt x (by simp [hx]))
  have hs4':=hs4
  obtain ⟨s4,l4,c4,rfl,_⟩:=hs4'
  refine (walk W _ vb0 hsv0 ta1 va1 ⟨wa1,wb1⟩ a2 (I64.of_wf w2) a3 (I64.of_wf w3) s4 l4 c4 z4 hs4).mono fun e W' ⟨he,hb⟩=>?_
  subst he
  exact ⟨_,rfl,law_post laidOut (by kernel_rfl) rfl rfl Tryz.underlying4 hW' rfl rfl rfl hb⟩

theorem over:Rows.piecesFormsRow.holds Tryz.pinned (OpenSpec.ofChange Rows.piecesFormsSpec) :=
  OpenClaim.holds_of_wide 13 Tryz.f13 rfl rfl rfl rfl rfl rfl rfl ⟨rfl,rfl,rfl,rfl,rfl⟩ rfl rfl rfl rfl rfl (by kernel_rfl) Tryz.func13 (by kernel_rfl)
    (of_decide_eq_true (by kernel_rfl)) (by unfold Func.isWrapper; first | (rw [if_pos (by decide +kernel)]; kernel_rfl) | (rw [if_neg (by decide +kernel)]; exact ⟨rfl,rfl⟩))
    (fun os started H enc _=>lifted os started H enc)

/-- The given statement. -/
theorem proved:Rows.PiecesFormsSaid :=
  over
#print axioms proved
end Go.Proofs.YtncmmbacoknefaaGreat.piecesForms

