/- Proved: tscodeclaw16.MeanMaximal returns true for all arguments. No condition. -/
import Derived.Test.YtncmmbacoknefaaRows
import Derived.Test.YtncmmbacoknefaaMnClMeanMaximal
import Derived.WalkKit
import Derived.ProofKit
import Derived.OpenShut
import Derived.SizedLaws
import Derived.Outline
import Derived.Test.YtncmmbacoknefaaMn2
import Derived.Test.YtncmmbacoknefaaMn3
import Derived.Test.YtncmmbacoknefaaMn4
import Derived.Test.YtncmmbacoknefaaMn5
namespace Go.Proofs.Ytncmmbacoknefaa.meanMaximal
open Go.ChangeShapes Go.WideShapes Go.ChangeAt Go.RowKit Sx
set_option linter.unusedVariables false
set_option linter.unusedSimpArgs false


set_option maxHeartbeats 8000000 in
set_option maxRecDepth 100000 in
theorem walk (w:World) (s0:Option Addr) (l0 c0:Nat) (z0:List Int) (h0:SlZ w .i64 (.slice s0 l0 c0) z0) :
    Calls Try.prog 4 #[.slice s0 l0 c0] w fun e w'=>e = .returned (.bool true)∧Below w.heap.size w w':=by

  have kn:=fun W=>gives_known en_w16_known (g_known16 W)
  refine known_of (enter Try.func4 w16_MeanMaximal.ok (args:=[_]) (by simp) ?_)
  repeat' (first | simp (disch:=omega) only [sxE,w16_MeanMaximal.E,Nat.reduceAdd,Nat.reduceEqDiff,Nat.reduceMul,Nat.reduceSub,Int.reduceAdd,Int.reduceSub,Int.reduceMul,Int.reduceNeg,Int.reduceLT,Int.reduceLE,Int.reduceEq,Int.reduceToNat,↓reduceIte,Int.reducePow,Nat.reduceLeDiff,Nat.reduceLT,ne_eq,eq_self,List.length_cons,List.length_nil,qxE] | (with_reducible refine cregF ?_))
  refine asks_new (L:=[]) rfl (kX_nil _) h0 en_m_New fun tb htb=>?_; clear htb
  repeat' (first | simp (disch:=omega) only [sxE,w16_MeanMaximal.E,Nat.reduceAdd,Nat.reduceEqDiff,Nat.reduceMul,Nat.reduceSub,Int.reduceAdd,Int.reduceSub,Int.reduceMul,Int.reduceNeg,Int.reduceLT,Int.reduceLE,Int.reduceEq,Int.reduceToNat,↓reduceIte,Int.reducePow,Nat.reduceLeDiff,Nat.reduceLT,ne_eq,eq_self,List.length_cons,List.length_nil,qxE] | (with_reducible refine cregF ?_))
  refine asks_rowT (L:=[.g (tK tb)]) (e:=2) (s:=1) (fun zs:List Int=>I64s zs∧(zs.length:Int)≤30) (fun zs=>zs.length) (fun zs=>zs.map (Value.int .i64)) (fun zs v=>v) (tpk_t _ tb) en_m_Tape__Values rfl (List.mem_singleton.2 rfl) (List.mem_singleton.2 rfl) rfl (fun j hj=>.inl (List.mem_singleton.1 hj)) (fun W hW=>by
    refine (values_any tb 30 (by decide) (by decide) W hW).mono ?_
    rintro e w' ⟨v,ss,h1,h2,h3,h4,h5⟩
    exact ⟨ss,v,h1,h2,h3,h4,h5⟩) ?_
  rintro zs al cl_ ⟨hsm,hs30⟩ hcl - hal hnb
  have htb:tb ∉ (Kn.g (wK 2 1 (.slice al zs.length cl_) zs.length (zs.map (Value.int .i64)))).bs:=fun h=>hnb tb h (List.mem_singleton.2 rfl)
  clear hnb h0
  have hin:∀ z∈zs,I64 z:=hsm
  repeat' (first | simp (disch:=omega) only [sxE,w16_MeanMaximal.E,Nat.reduceAdd,Nat.reduceEqDiff,Nat.reduceMul,Nat.reduceSub,Int.reduceAdd,Int.reduceSub,Int.reduceMul,Int.reduceNeg,Int.reduceLT,Int.reduceLE,Int.reduceEq,Int.reduceToNat,↓reduceIte,Int.reducePow,Nat.reduceLeDiff,Nat.reduceLT,ne_eq,eq_self,List.length_cons,List.length_nil,qxE] | (with_reducible refine cregF ?_))
  refine asks_tc rfl (tpk_t _ tb) (t_tol tb) en_m_Tape__Tolerance rfl (by simp) rfl (fun j hj=>?_) ?_
  · rcases List.mem_cons.1 hj with rfl | hj
    · exact .inr htb
    · exact .inl (List.mem_singleton.1 hj)
  rintro t ⟨t0,t1⟩
  have ht:tolz t = true:=tolz_iff.2 ⟨t0,t1⟩
  have it:I64 t:=⟨by omega,by omega⟩
  repeat' (first | simp (disch:=omega) only [sxE,w16_MeanMaximal.E,Nat.reduceAdd,Nat.reduceEqDiff,Nat.reduceMul,Nat.reduceSub,Int.reduceAdd,Int.reduceSub,Int.reduceMul,Int.reduceNeg,Int.reduceLT,Int.reduceLE,Int.reduceEq,Int.reduceToNat,↓reduceIte,Int.reducePow,Nat.reduceLeDiff,Nat.reduceLT,ne_eq,eq_self,List.length_cons,List.length_nil,qxE] | (with_reducible refine cregF ?_))
  refine asks_rowB (L:=[.g (wK 2 1 (.slice al zs.length cl_) zs.length (zs.map (Value.int .i64))),.g (tK tb)]) (e:=34) (s:=2) (ι:=Unit) (fun _=>True) (fun _=>(meall t zs).length) (fun _=>scells (meall t zs)) (fun _ v=>.tuple #[v,.int .i64 0]) en_mean_All rfl (fun W hW hok=>?_) ?_
  · obtain ⟨e1,e2⟩:=merz_ok ht (zs:=zs) (by omega)
    have:=gx_mall (t:=t) (slz_row (hok _ List.mem_cons_self) hin) it
    rw [e1,e2] at this
    exact this.mono fun e w' ⟨v,h1,h2,h3⟩=>⟨(),v,trivial,h1,h2,h3⟩
  have hO:=meall_ok hin t0
  have hl30:=hO.len
  generalize meall t zs = ls at *
  rintro - av2 c2 - hcl2 hcm2 hav2 -
  simp only [maxLen] at hcm2
  clear htb hsm
  repeat' (first | simp (disch:=omega) only [sxE,w16_MeanMaximal.E,Nat.reduceAdd,Nat.reduceEqDiff,Nat.reduceMul,Nat.reduceSub,Int.reduceAdd,Int.reduceSub,Int.reduceMul,Int.reduceNeg,Int.reduceLT,Int.reduceLE,Int.reduceEq,Int.reduceToNat,↓reduceIte,Int.reducePow,Nat.reduceLeDiff,Nat.reduceLT,ne_eq,eq_self,List.length_cons,List.length_nil,qxE] | (with_reducible refine cregF ?_))
  rw [w16_MeanMaximal.p2_l]
  refine LX_inv (fun x:Nat × Nat=>⟨0,[(4,.v (.slice al zs.length cl_)),(5,.v (.int .i64 t)),(6,.v (.slice av2 ls.length c2)),(7,.v (.int .i64 0)),(8,.v (.int .i64 (x.2:Int))),(9,.v (.int .i64 (x.1:Int)))],[],kX w.heap.size [.g (wK 34 2 (.slice av2 ls.length c2) ls.length (scells ls)),.g (wK 2 1 (.slice al zs.length cl_) zs.length (zs.map (Value.int .i64))),.g (tK tb)]⟩) (fun x=>x.1≤ls.length∧MOk t zs x.2 (ls.drop x.1) zs.length) (fun x=>ls.length - x.1) ?round (0,0) ⟨Nat.zero_le _,hO⟩ ?start
  case start =>
    have c0:((0:Nat):Int) = 0:=rfl
    simp (disch:=omega) only [sxE,w16_MeanMaximal.E,Nat.reduceAdd,Nat.reduceEqDiff,Nat.reduceMul,Nat.reduceSub,Int.reduceAdd,Int.reduceSub,Int.reduceMul,Int.reduceNeg,Int.reduceLT,Int.reduceLE,Int.reduceEq,Int.reduceToNat,↓reduceIte,Int.reducePow,Nat.reduceLeDiff,Nat.reduceLT,ne_eq,eq_self,List.length_cons,List.length_nil,c0]
  case round =>
    clear hO
    rintro ⟨i,a⟩ ⟨hi,hO⟩
    try dsimp only at hi hO ⊢
    by_cases hlt:i + 1 < ls.length
    · obtain ⟨g,rfl⟩:=hav2 (by omega)
      rw [drop_at (0,0) (show i < ls.length by omega)] at hO
      obtain ⟨m,hx,hle,hf,hnx,hO⟩:=hO
      obtain ⟨hle2,hno⟩:=hnx (by rw [drop_at (0,0) hlt]; exact List.cons_ne_nil _ _)
      obtain ⟨b,rfl⟩:=hal (by omega)
      have hx1:(ls.getD i (0,0)).1 = (m:Int) + 1:=by rw [hx]; rfl
      have mL:(.g (wK 34 2 (.slice (some ⟨g,0,none⟩) ls.length c2) ls.length (scells ls)))∈([.g (wK 34 2 (.slice (some ⟨g,0,none⟩) ls.length c2) ls.length (scells ls)),.g (wK 2 1 (.slice (some ⟨b,0,none⟩) zs.length cl_) zs.length (zs.map (Value.int .i64))),.g (tK tb)]:List Kn):=List.mem_cons_self
      have mS:(.g (wK 2 1 (.slice (some ⟨b,0,none⟩) zs.length cl_) zs.length (zs.map (Value.int .i64))))∈([.g (wK 34 2 (.slice (some ⟨g,0,none⟩) ls.length c2) ls.length (scells ls)),.g (wK 2 1 (.slice (some ⟨b,0,none⟩) zs.length cl_) zs.length (zs.map (Value.int .i64))),.g (tK tb)]:List Kn):=List.mem_cons_of_mem _ List.mem_cons_self
      have o0:=fun W=>rx_of (x:=0) ⟨by decide,by decide⟩ W
      clear hx hf
      repeat' (first | simp (disch:=omega) only [sxE,w16_MeanMaximal.E,Nat.reduceAdd,Nat.reduceEqDiff,Nat.reduceMul,Nat.reduceSub,Int.reduceAdd,Int.reduceSub,Int.reduceMul,Int.reduceNeg,Int.reduceLT,Int.reduceLE,Int.reduceEq,Int.reduceToNat,↓reduceIte,Int.reducePow,Nat.reduceLeDiff,Nat.reduceLT,ne_eq,eq_self,List.length_cons,List.length_nil,qxE,hx1] | (with_reducible refine ldP_self false 1 g ?_; refine ldP_sT i rfl mL ?_ ?_ ?_; omega; omega) | (with_reducible refine Sx.call_at (f:=20) (fun W hW=>o0 W) ?_) | (with_reducible refine cregF ?_))
      rw [w16_MeanMaximal.p17_l]
      refine LX_inv (fun x:Nat=>⟨1,[(4,.v (.slice (some ⟨b,0,none⟩) zs.length cl_)),(5,.v (.int .i64 t)),(6,.v (.slice (some ⟨g,0,none⟩) ls.length c2)),(7,.v (.int .i64 0)),(8,.v (.int .i64 (a:Int))),(9,.v (.int .i64 (i:Int))),(10,.v (.int .i64 ((m:Int) + 1))),(11,.p 0 0),(12,.v (.int .i64 (x:Int)))],[(0,[.bool (sg (zsum zs a x)),.int .u64 (lb0 (ab (zsum zs a x))),.int .u64 (lb1 (ab (zsum zs a x))),.int .u64 (lb2 (ab (zsum zs a x))),.int .u64 (lb3 (ab (zsum zs a x)))])],kX w.heap.size [.g (wK 34 2 (.slice (some ⟨g,0,none⟩) ls.length c2) ls.length (scells ls)),.g (wK 2 1 (.slice (some ⟨b,0,none⟩) zs.length cl_) zs.length (zs.map (Value.int .i64))),.g (tK tb)]⟩) (fun x=>x≤m + 2) (fun x=>m + 2 - x) ?round2 0 (Nat.zero_le _) ?start2
      case start2 =>
        have c0:((0:Nat):Int) = 0:=rfl
        simp (disch:=omega) only [sxE,w16_MeanMaximal.E,Nat.reduceAdd,Nat.reduceEqDiff,Nat.reduceMul,Nat.reduceSub,Int.reduceAdd,Int.reduceSub,Int.reduceMul,Int.reduceNeg,Int.reduceLT,Int.reduceLE,Int.reduceEq,Int.reduceToNat,↓reduceIte,Int.reducePow,Nat.reduceLeDiff,Nat.reduceLT,ne_eq,eq_self,List.length_cons,List.length_nil,c0]
        rfl
      case round2 =>
        intro x hxm
        try dsimp only at hxm ⊢
        by_cases hxl:x < m + 2
        · have hz:=zget hin (a + x)
          have f1:=zsum_fits hin (by omega) a (j:=x) (by omega)
          have f2:Fits (zsum zs a x + zs.getD (a + x) 0):=zsum_fits hin (by omega) a (j:=x + 1) (by omega)
          have o1:=fun W=>rx_of hz W
          have ad:=fun W=>rx_add f1 (one_fits hz) f2 W
          have e0:(x:Int) + 1 = ((x + 1:Nat):Int):=by omega
          have ez:zsum zs a (x + 1) = zsum zs a x + zs.getD (a + x) 0:=rfl
          clear hz f1 f2 hno hO hlt hx1 o0
          generalize hS:zsum zs a x = S at *
          repeat' (first | simp (disch:=omega) only [sxE,w16_MeanMaximal.E,Nat.reduceAdd,Nat.reduceEqDiff,Nat.reduceMul,Nat.reduceSub,Int.reduceAdd,Int.reduceSub,Int.reduceMul,Int.reduceNeg,Int.reduceLT,Int.reduceLE,Int.reduceEq,Int.reduceToNat,↓reduceIte,Int.reducePow,Nat.reduceLeDiff,Nat.reduceLT,ne_eq,eq_self,List.length_cons,List.length_nil,qxE] | (with_reducible refine ldP_self false 1 b ?_; refine ldP_i (a + x) rfl mS ?_ ?_ ?_; omega; omega) | (with_reducible refine Sx.call_at (f:=20) (fun W hW=>o1 W) ?_) | (with_reducible refine Sx.call_at (f:=22) (fun W hW=>ad W) ?_) | (with_reducible refine cregF ?_))
          rw [e0]
          refine ⟨x + 1,by omega,by omega,?_⟩
          rw [ez]
          exact ⟨rfl,rfl⟩
        · obtain rfl:x = m + 2:=by omega
          have f1:=zsum_fits hin (by omega) a (j:=m + 2) (by omega)
          have iN:I64 ((m:Int) + 1 + 1):=⟨by omega,by omega⟩
          have o1:=fun W=>rx_of iN W
          have d:=fun W=>rx_divmod f1 (bd_i64 iN).fits (by omega) W
          have hq:=zmean_in hin a (m + 1)
          have eq:zsum zs a (m + 2) / ((m:Int) + 1 + 1) = zmean zs a (m + 1):=by
            unfold zmean
            rw [show ((m + 1:Nat):Int) + 1 = (m:Int) + 1 + 1 by omega]
          have hmax:=seg_max hin hno
          have i6:=fun W=>rx_int64f (bd_i64 hq).fits W
          rw [(i6_id hq).1] at i6
          rw [eq] at d
          clear f1 iN hno eq
          generalize zmean zs a (m + 1) = M at *
          generalize zsum zs a (m + 2) % ((m:Int) + 1 + 1) = Rm at *
          generalize zsum zs a (m + 2) = S at *
          repeat' (first | simp (disch:=omega) only [sxE,w16_MeanMaximal.E,Nat.reduceAdd,Nat.reduceEqDiff,Nat.reduceMul,Nat.reduceSub,Int.reduceAdd,Int.reduceSub,Int.reduceMul,Int.reduceNeg,Int.reduceLT,Int.reduceLE,Int.reduceEq,Int.reduceToNat,↓reduceIte,Int.reducePow,Nat.reduceLeDiff,Nat.reduceLT,ne_eq,eq_self,List.length_cons,List.length_nil,qxE] | (with_reducible refine Sx.call_at (f:=20) (fun W hW=>o1 W) ?_) | (with_reducible refine Sx.call_at (f:=23) (fun W hW=>d W) ?_) | (with_reducible refine Sx.call_at (f:=25) (fun W hW=>i6 W) ?_) | (with_reducible refine cregF ?_))
          rw [w16_MeanMaximal.p8_l]
          refine LX_inv (fun x:Nat=>⟨0,[(4,.v (.slice (some ⟨b,0,none⟩) zs.length cl_)),(5,.v (.int .i64 t)),(6,.v (.slice (some ⟨g,0,none⟩) ls.length c2)),(7,.v (.int .i64 0)),(8,.v (.int .i64 (a:Int))),(9,.v (.int .i64 (i:Int))),(10,.v (.int .i64 ((m:Int) + 1))),(16,.v (.int .i64 M)),(18,.v (.bool (nrA zs a M t x))),(19,.v (.int .i64 (x:Int)))],[],kX w.heap.size [.g (wK 34 2 (.slice (some ⟨g,0,none⟩) ls.length c2) ls.length (scells ls)),.g (wK 2 1 (.slice (some ⟨b,0,none⟩) zs.length cl_) zs.length (zs.map (Value.int .i64))),.g (tK tb)]⟩) (fun x=>x≤m + 2) (fun x=>m + 2 - x) ?round3 0 (Nat.zero_le _) ?start3
          case start3 =>
            have c0:((0:Nat):Int) = 0:=rfl
            simp (disch:=omega) only [sxE,w16_MeanMaximal.E,Nat.reduceAdd,Nat.reduceEqDiff,Nat.reduceMul,Nat.reduceSub,Int.reduceAdd,Int.reduceSub,Int.reduceMul,Int.reduceNeg,Int.reduceLT,Int.reduceLE,Int.reduceEq,Int.reduceToNat,↓reduceIte,Int.reducePow,Nat.reduceLeDiff,Nat.reduceLT,ne_eq,eq_self,List.length_cons,List.length_nil,c0]
            rfl
          case round3 =>
            clear o0 o1 d i6 hxm hxl
            intro x hxm
            try dsimp only at hxm ⊢
            by_cases hxl:x < m + 2
            · have n1:=fun W=>rx_nearb (zget hin (a + x)) hq (t:=t) ⟨t0,by omega⟩ W
              have e0:(x:Int) + 1 = ((x + 1:Nat):Int):=by omega
              have ez:nrA zs a M t (x + 1) = (nrA zs a M t x && nr (zs.getD (a + x) 0) M t):=rfl
              clear hmax hO hlt hx1
              generalize nrA zs a M t x = B at *
              generalize nr (zs.getD (a + x) 0) M t = B2 at *
              cases B
              · repeat' (first | simp (disch:=omega) only [sxE,w16_MeanMaximal.E,Nat.reduceAdd,Nat.reduceEqDiff,Nat.reduceMul,Nat.reduceSub,Int.reduceAdd,Int.reduceSub,Int.reduceMul,Int.reduceNeg,Int.reduceLT,Int.reduceLE,Int.reduceEq,Int.reduceToNat,↓reduceIte,Int.reducePow,Nat.reduceLeDiff,Nat.reduceLT,ne_eq,eq_self,List.length_cons,List.length_nil,qxE,Bool.false_and] | (with_reducible refine cregF ?_))
                rw [e0]
                refine ⟨x + 1,by omega,by omega,?_⟩
                rw [ez]
                first | rfl | exact ⟨rfl,rfl⟩
              · repeat' (first | simp (disch:=omega) only [sxE,w16_MeanMaximal.E,Nat.reduceAdd,Nat.reduceEqDiff,Nat.reduceMul,Nat.reduceSub,Int.reduceAdd,Int.reduceSub,Int.reduceMul,Int.reduceNeg,Int.reduceLT,Int.reduceLE,Int.reduceEq,Int.reduceToNat,↓reduceIte,Int.reducePow,Nat.reduceLeDiff,Nat.reduceLT,ne_eq,eq_self,List.length_cons,List.length_nil,qxE,Bool.true_and] | (with_reducible refine ldP_self false 1 b ?_; refine ldP_i (a + x) rfl mS ?_ ?_ ?_; omega; omega) | (with_reducible refine Sx.call_at (f:=21) (fun W hW=>n1 W) ?_) | (with_reducible refine cregF ?_))
                rw [e0]
                refine ⟨x + 1,by omega,by omega,?_⟩
                rw [ez]
                first | rfl | exact ⟨rfl,rfl⟩
            · obtain rfl:x = m + 2:=by omega
              repeat' (first | simp (disch:=omega) only [sxE,w16_MeanMaximal.E,Nat.reduceAdd,Nat.reduceEqDiff,Nat.reduceMul,Nat.reduceSub,Int.reduceAdd,Int.reduceSub,Int.reduceMul,Int.reduceNeg,Int.reduceLT,Int.reduceLE,Int.reduceEq,Int.reduceToNat,↓reduceIte,Int.reducePow,Nat.reduceLeDiff,Nat.reduceLT,ne_eq,eq_self,List.length_cons,List.length_nil,qxE,hmax] | (with_reducible refine cregF ?_))
              have e0:(a:Int) + ((m:Int) + 1) = ((a + m + 1:Nat):Int):=by omega
              have e1:(i:Int) + 1 = ((i + 1:Nat):Int):=by omega
              rw [e0,e1]
              exact ⟨(i + 1,a + m + 1),⟨by dsimp only; omega,hO⟩,by dsimp only; omega,rfl,rfl⟩
    · repeat' (first | simp (disch:=omega) only [sxE,w16_MeanMaximal.E,Nat.reduceAdd,Nat.reduceEqDiff,Nat.reduceMul,Nat.reduceSub,Int.reduceAdd,Int.reduceSub,Int.reduceMul,Int.reduceNeg,Int.reduceLT,Int.reduceLE,Int.reduceEq,Int.reduceToNat,↓reduceIte,Int.reducePow,Nat.reduceLeDiff,Nat.reduceLT,ne_eq,eq_self,List.length_cons,List.length_nil,qxE,beq_self_eq_true] | (with_reducible refine Sx.call_at (f:=24) (fun W hW=>kn W) ?_) | (with_reducible refine cregF ?_))
/-! ### The row -/
set_option maxRecDepth 100000 in
theorem lifted (os:Os) (started:os.Started) (H:Type) (enc:TypeId × Value→H) :
    ReturnsInHanded {} Try.checked os 4 .any (Rows.meanMaximalSpec.pre6 enc Try.prog Try.f4 Rows.meanMaximalRow.domain false) (Rows.meanMaximalSpec.post enc Try.prog Try.f4 false true false false):=by
  refine returnsInHanded_of_change_sized (C:=Try.checked) own started (by kernel_rfl) Try.func4
    (ChangeSpec.witness6 (enc:=enc) (C:=Try.checked) false ⟨#[],#[.slice none 0 0],[]⟩ 8 (by kernel_rfl) (by kernel_rfl) (by kernel_rfl) (by kernel_rfl)) ?_
  intro W base args ds gs before hval0 hW hcnd hsz _
  have hval:∀ (j:Nat) t v,Try.f4.params[j]? = some t→args[j]? = some v→Value.okWide Try.prog W .any base t v:=hval0
  have hW':=hW
  obtain ⟨p,q,hA0,hV,rfl,hfz,hnd⟩:=hW
  have hA:DataW.TrodAll enc Try.prog W 0 (fun _=>true) true Try.f4.params.toList args.toList ds p:=hA0
  rw [Try.params4] at hA hval
  obtain ⟨v0,vs0,d0,ds0,p0,q0,hargs,rfl,rfl,g0,r0⟩:=trodAll_cons hA
  obtain ⟨rfl,rfl,rfl⟩:=trodAll_nil r0
  obtain rfl:args = #[v0]:=by cases args; simp_all
  obtain ⟨rfl,rfl⟩:=trodVars_none hV
  have hlt:∀ x∈(p0 ++ []) ++ [],x.block < W.heap.size:=fun x hx=>hW'.lt x hx
  obtain ⟨z0,hs0⟩:=open_slz Try.underlying23 Try.underlying3 (by kernel_rfl) (hval 0 23 v0 rfl rfl) g0 (fun x hx=>hlt x (by simp [hx]))
  have hs0':=hs0
  obtain ⟨s0,l0,c0,rfl,_⟩:=hs0'
  refine (walk W s0 l0 c0 z0 hs0).mono fun e W' ⟨he,hb⟩=>?_
  subst he
  exact ⟨_,rfl,law_post laidOut (by kernel_rfl) rfl rfl Try.underlying4 hW' rfl rfl rfl hb⟩

theorem over:Rows.meanMaximalRow.holds Try.pinned (OpenSpec.ofChange Rows.meanMaximalSpec) :=
  OpenClaim.holds_of_wide 4 Try.f4 rfl rfl rfl rfl rfl rfl rfl ⟨rfl,rfl,rfl,rfl,rfl⟩ rfl rfl rfl rfl rfl (by kernel_rfl) Try.func4 (by kernel_rfl)
    (of_decide_eq_true (by kernel_rfl)) (by unfold Func.isWrapper; first | (rw [if_pos (by decide +kernel)]; kernel_rfl) | (rw [if_neg (by decide +kernel)]; exact ⟨rfl,rfl⟩))
    (fun os started H enc _=>lifted os started H enc)

/-- The given statement. -/
theorem proved:Rows.MeanMaximalSaid :=
  over
#print axioms proved
end Go.Proofs.Ytncmmbacoknefaa.meanMaximal

