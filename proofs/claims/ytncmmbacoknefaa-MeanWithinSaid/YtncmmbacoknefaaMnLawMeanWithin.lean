/- Proved: tscodeclaw16.MeanWithin returns true for all arguments. No condition. -/
import Derived.Test.YtncmmbacoknefaaRows
import Derived.Test.YtncmmbacoknefaaMnClMeanWithin
import Derived.WalkKit
import Derived.ProofKit
import Derived.OpenShut
import Derived.SizedLaws
import Derived.Outline
import Derived.Test.YtncmmbacoknefaaMn2
import Derived.Test.YtncmmbacoknefaaMn3
import Derived.Test.YtncmmbacoknefaaMn4
import Derived.Test.YtncmmbacoknefaaMn5
namespace Go.Proofs.Ytncmmbacoknefaa.meanWithin
open Go.ChangeShapes Go.WideShapes Go.ChangeAt Go.RowKit Sx
set_option linter.unusedVariables false
set_option linter.unusedSimpArgs false


set_option maxHeartbeats 8000000 in
set_option maxRecDepth 100000 in
theorem walk (w:World) (s0:Option Addr) (l0 c0:Nat) (z0:List Int) (h0:SlZ w .i64 (.slice s0 l0 c0) z0) (s1:Option Addr) (l1 c1:Nat) (z1:List Int) (h1:SlZ w .i64 (.slice s1 l1 c1) z1) :
    Calls Try.prog 3 #[.slice s0 l0 c0,.slice s1 l1 c1] w fun e w'=>e = .returned (.bool true)∧Below w.heap.size w w':=by

  have kn:=fun W=>gives_known en_w16_known (g_known16 W)
  obtain rfl:l0 = z0.length:=by
    obtain ⟨a,l,cap,e,e2,-⟩:=id h0
    cases e
    exact e2.symm
  obtain ⟨lm,hlm,hlm2,hmin⟩:∃ lm:Nat,lm≤z0.length∧lm≤2000∧(if (2000:Int) < (z0.length:Int) then (2000:Int) else (z0.length:Int)) = (lm:Int):=by
    by_cases h:z0.length≤2000
    · exact ⟨z0.length,Nat.le_refl _,h,if_neg (by omega)⟩
    · exact ⟨2000,by omega,Nat.le_refl _,if_pos (by omega)⟩
  have hs:=take_slz h0 hlm
  have hlc:lm≤c0:=by
    obtain ⟨a,l,cap,e,e2,e3,-⟩:=id h0
    cases e
    omega
  obtain ⟨zr,hzr⟩:∃ zr,z0.take lm = zr:=⟨_,rfl⟩
  have hrl:zr.length = lm:=by rw [← hzr,List.length_take]; omega
  rw [hzr] at hs
  have hir:∀ z∈zr,I64 z:=by
    obtain ⟨a,l,cap,e,-,-,-,e3,-⟩:=id hs
    cases e
    exact fun z hz=>I64.of_wf (e3 z hz)
  clear hzr
  refine known_of (enter Try.func3 w16_MeanWithin.ok (args:=[_,_]) (by simp) ?_)
  repeat' (first | simp (disch:=omega) only [sxE,w16_MeanWithin.E,Nat.reduceAdd,Nat.reduceEqDiff,Nat.reduceMul,Nat.reduceSub,Int.reduceAdd,Int.reduceSub,Int.reduceMul,Int.reduceNeg,Int.reduceLT,Int.reduceLE,Int.reduceEq,Int.reduceToNat,↓reduceIte,Int.reducePow,Nat.reduceLeDiff,Nat.reduceLT,ne_eq,eq_self,List.length_cons,List.length_nil,qxE,hmin] | (with_reducible refine cregF ?_))
  refine genA_slh rfl elt_int64 lm rfl hlc ?_
  repeat' (first | simp (disch:=omega) only [sxE,w16_MeanWithin.E,Nat.reduceAdd,Nat.reduceEqDiff,Nat.reduceMul,Nat.reduceSub,Int.reduceAdd,Int.reduceSub,Int.reduceMul,Int.reduceNeg,Int.reduceLT,Int.reduceLE,Int.reduceEq,Int.reduceToNat,↓reduceIte,Int.reducePow,Nat.reduceLeDiff,Nat.reduceLT,ne_eq,eq_self,List.length_cons,List.length_nil,qxE] | (with_reducible refine cregF ?_))
  refine asks_new (L:=[]) rfl (kX_nil _) h1 en_m_New fun tb htb=>?_; clear htb
  repeat' (first | simp (disch:=omega) only [sxE,w16_MeanWithin.E,Nat.reduceAdd,Nat.reduceEqDiff,Nat.reduceMul,Nat.reduceSub,Int.reduceAdd,Int.reduceSub,Int.reduceMul,Int.reduceNeg,Int.reduceLT,Int.reduceLE,Int.reduceEq,Int.reduceToNat,↓reduceIte,Int.reducePow,Nat.reduceLeDiff,Nat.reduceLT,ne_eq,eq_self,List.length_cons,List.length_nil,qxE] | (with_reducible refine cregF ?_))
  refine asks_tc rfl (tpk_t _ tb) (t_tol tb) en_m_Tape__Tolerance rfl (by first | exact List.mem_singleton.2 rfl | simp) rfl (by first | exact fun j hj=>.inl (List.mem_singleton.1 hj) | simp) ?_
  rintro t ⟨t0,t1⟩
  have ht:tolz t = true:=tolz_iff.2 ⟨t0,t1⟩
  have it:I64 t:=⟨by omega,by omega⟩
  repeat' (first | simp (disch:=omega) only [sxE,w16_MeanWithin.E,Nat.reduceAdd,Nat.reduceEqDiff,Nat.reduceMul,Nat.reduceSub,Int.reduceAdd,Int.reduceSub,Int.reduceMul,Int.reduceNeg,Int.reduceLT,Int.reduceLE,Int.reduceEq,Int.reduceToNat,↓reduceIte,Int.reducePow,Nat.reduceLeDiff,Nat.reduceLT,ne_eq,eq_self,List.length_cons,List.length_nil,qxE] | (with_reducible refine cregF ?_))
  refine asks_rowT (L:=[.g (tK tb)]) (e:=2) (s:=1) (fun zs:List Int=>I64s zs∧(zs.length:Int)≤30) (fun zs=>zs.length) (fun zs=>zs.map (Value.int .i64)) (fun zs v=>v) (tpk_t _ tb) en_m_Tape__Values rfl (List.mem_singleton.2 rfl) (List.mem_singleton.2 rfl) rfl (fun j hj=>.inl (List.mem_singleton.1 hj)) (fun W hW=>by
    refine (values_any tb 30 (by decide) (by decide) W hW).mono ?_
    rintro e w' ⟨v,ss,h1,h2,h3,h4,h5⟩
    exact ⟨ss,v,h1,h2,h3,h4,h5⟩) ?_
  rintro zs al cl_ ⟨hsm,hs30⟩ hcl - hal hnb
  have hin:∀ z∈zs,I64 z:=hsm
  clear hnb h0 h1 hsm
  repeat' (first | simp (disch:=omega) only [sxE,w16_MeanWithin.E,Nat.reduceAdd,Nat.reduceEqDiff,Nat.reduceMul,Nat.reduceSub,Int.reduceAdd,Int.reduceSub,Int.reduceMul,Int.reduceNeg,Int.reduceLT,Int.reduceLE,Int.reduceEq,Int.reduceToNat,↓reduceIte,Int.reducePow,Nat.reduceLeDiff,Nat.reduceLT,ne_eq,eq_self,List.length_cons,List.length_nil,qxE] | (with_reducible refine cregF ?_))
  refine genA_c (L:=[.g (wK 2 1 (.slice al zs.length cl_) zs.length (zs.map (Value.int .i64))),.g (tK tb)]) (cs:=[.slice s0 lm c0,.slice al zs.length cl_]) (T:=22) (fun b=>.slice (some ⟨b,0,none⟩) 2 2) rfl (fun W=>by kernel_rfl) fun bA _=>?_
  repeat' (first | simp (disch:=omega) only [sxE,w16_MeanWithin.E,Nat.reduceAdd,Nat.reduceEqDiff,Nat.reduceMul,Nat.reduceSub,Int.reduceAdd,Int.reduceSub,Int.reduceMul,Int.reduceNeg,Int.reduceLT,Int.reduceLE,Int.reduceEq,Int.reduceToNat,↓reduceIte,Int.reducePow,Nat.reduceLeDiff,Nat.reduceLT,ne_eq,eq_self,List.length_cons,List.length_nil,qxE] | (rw [w16_MeanWithin.p2_l]) | (with_reducible apply LX_round) | (with_reducible refine ldP_blk bA ?_; refine ldP_k (b:=bA) rfl (by first | exact List.mem_cons_self | exact List.mem_cons_of_mem _ List.mem_cons_self | exact List.mem_cons_of_mem _ (List.mem_cons_of_mem _ List.mem_cons_self) | exact List.mem_cons_of_mem _ (List.mem_cons_of_mem _ (List.mem_cons_of_mem _ List.mem_cons_self)) | exact List.mem_cons_of_mem _ (List.mem_cons_of_mem _ (List.mem_cons_of_mem _ (List.mem_cons_of_mem _ List.mem_cons_self)))) rfl ?_) | (with_reducible refine cregF ?_))
  refine asks_rowB (L:=[.g (cK bA [.slice s0 lm c0,.slice al zs.length cl_]),.g (wK 2 1 (.slice al zs.length cl_) zs.length (zs.map (Value.int .i64))),.g (tK tb)]) (e:=34) (s:=2) (ι:=Unit) (fun _=>True) (fun _=>(meall t zr).length) (fun _=>scells (meall t zr)) (fun _ v=>.tuple #[v,.int .i64 0]) en_mean_All rfl (fun W hW hok=>?_) ?_
  · obtain ⟨e1,e2⟩:=merz_ok ht (zs:=zr) (by omega)
    have:=gx_mall (t:=t) (SlZ.below hs hW) it
    rw [e1,e2] at this
    exact this.mono fun e w' ⟨v,h1,h2,h3⟩=>⟨(),v,trivial,h1,h2,h3⟩
  have hO0:=meall_ok hir t0
  have hl0:=hO0.len
  generalize meall t zr = l0s at *
  rintro - av0 cc0 - hcl0 hcm0 hav0 -
  simp only [maxLen] at hcm0
  repeat' (first | simp (disch:=omega) only [sxE,w16_MeanWithin.E,Nat.reduceAdd,Nat.reduceEqDiff,Nat.reduceMul,Nat.reduceSub,Int.reduceAdd,Int.reduceSub,Int.reduceMul,Int.reduceNeg,Int.reduceLT,Int.reduceLE,Int.reduceEq,Int.reduceToNat,↓reduceIte,Int.reducePow,Nat.reduceLeDiff,Nat.reduceLT,ne_eq,eq_self,List.length_cons,List.length_nil,qxE] | (with_reducible refine ldP_blk bA ?_; refine ldP_k (b:=bA) rfl (by first | exact List.mem_cons_self | exact List.mem_cons_of_mem _ List.mem_cons_self | exact List.mem_cons_of_mem _ (List.mem_cons_of_mem _ List.mem_cons_self) | exact List.mem_cons_of_mem _ (List.mem_cons_of_mem _ (List.mem_cons_of_mem _ List.mem_cons_self)) | exact List.mem_cons_of_mem _ (List.mem_cons_of_mem _ (List.mem_cons_of_mem _ (List.mem_cons_of_mem _ List.mem_cons_self)))) rfl ?_) | (with_reducible refine cregF ?_))
  rw [w16_MeanWithin.p7_l]
  refine LX_inv (fun x:Nat × Nat=>⟨0,[(6,.v (.int .i64 t)),(7,.v (.slice (some ⟨bA,0,none⟩) 2 2)),(8,.v (.int .i64 0)),(9,.v (.slice av0 l0s.length cc0)),(10,.v (.int .i64 0)),(11,.v (.int .i64 (x.2:Int))),(12,.v (.int .i64 (x.1:Int)))],[],kX w.heap.size [.g (wK 34 2 (.slice av0 l0s.length cc0) l0s.length (scells l0s)),.g (cK bA [.slice s0 lm c0,.slice al zs.length cl_]),.g (wK 2 1 (.slice al zs.length cl_) zs.length (zs.map (Value.int .i64))),.g (tK tb)]⟩) (fun x=>x.1≤l0s.length∧MOk t zr x.2 (l0s.drop x.1) zr.length) (fun x=>l0s.length - x.1) ?round0 (0,0) ⟨Nat.zero_le _,hO0⟩ ?start0
  case start0 =>
    have c0:((0:Nat):Int) = 0:=rfl
    simp (disch:=omega) only [sxE,w16_MeanWithin.E,Nat.reduceAdd,Nat.reduceEqDiff,Nat.reduceMul,Nat.reduceSub,Int.reduceAdd,Int.reduceSub,Int.reduceMul,Int.reduceNeg,Int.reduceLT,Int.reduceLE,Int.reduceEq,Int.reduceToNat,↓reduceIte,Int.reducePow,Nat.reduceLeDiff,Nat.reduceLT,ne_eq,eq_self,List.length_cons,List.length_nil,c0]
  case round0 =>
    clear hO0
    rintro ⟨i,a⟩ ⟨hi,hO⟩
    try dsimp only at hi hO ⊢
    by_cases hlt:i < l0s.length
    · obtain ⟨g0,rfl⟩:=hav0 (by omega)
      rw [drop_at (0,0) hlt] at hO
      obtain ⟨m,hx,hle,hf,hnx,hO⟩:=hO
      obtain ⟨bz0,oz0,rfl,-,-⟩:=(show ∃ b off,s0 = some ⟨b,off,none⟩∧True∧True from by
        obtain ⟨a9,l9,c9,e9,-,-,-,-,h9⟩:=id hs
        cases e9
        obtain ⟨b9,o9,h9,-⟩:=h9 (by omega)
        exact ⟨b9,o9,h9,trivial,trivial⟩)
      have hq:=zmean_in hir a m
      have hx1:(l0s.getD i (0,0)).1 = (m:Int) + 1:=by rw [hx]; rfl
      have hx2:(l0s.getD i (0,0)).2 = zmean zr a m:=by rw [hx]; exact (i6_id hq).1
      have o0:=fun W=>rx_of (x:=0) ⟨by decide,by decide⟩ W
      clear hx hnx
      repeat' (first | simp (disch:=omega) only [sxE,w16_MeanWithin.E,Nat.reduceAdd,Nat.reduceEqDiff,Nat.reduceMul,Nat.reduceSub,Int.reduceAdd,Int.reduceSub,Int.reduceMul,Int.reduceNeg,Int.reduceLT,Int.reduceLE,Int.reduceEq,Int.reduceToNat,↓reduceIte,Int.reducePow,Nat.reduceLeDiff,Nat.reduceLT,ne_eq,eq_self,List.length_cons,List.length_nil,qxE,hx1] | (with_reducible refine ldP_self false 1 g0 ?_; refine ldP_sT (ss:=l0s) i rfl (by repeat (first | with_reducible exact List.mem_cons_self | refine List.mem_cons_of_mem _ ?_)) ?_ ?_ ?_; omega; omega) | (with_reducible refine ldP_blk bA ?_; refine ldP_k (b:=bA) rfl (by first | exact List.mem_cons_self | exact List.mem_cons_of_mem _ List.mem_cons_self | exact List.mem_cons_of_mem _ (List.mem_cons_of_mem _ List.mem_cons_self) | exact List.mem_cons_of_mem _ (List.mem_cons_of_mem _ (List.mem_cons_of_mem _ List.mem_cons_self)) | exact List.mem_cons_of_mem _ (List.mem_cons_of_mem _ (List.mem_cons_of_mem _ (List.mem_cons_of_mem _ List.mem_cons_self)))) rfl ?_) | (with_reducible refine Sx.call_at (f:=20) (fun W hW=>o0 W) ?_) | (with_reducible refine cregF ?_))
      rw [w16_MeanWithin.p13_l]
      refine LX_inv (fun x:Nat=>⟨1,[(6,.v (.int .i64 t)),(7,.v (.slice (some ⟨bA,0,none⟩) 2 2)),(8,.v (.int .i64 0)),(9,.v (.slice (some ⟨g0,0,none⟩) l0s.length cc0)),(10,.v (.int .i64 0)),(11,.v (.int .i64 ((a:Int) + (x:Int)))),(12,.v (.int .i64 (i:Int))),(13,.p 0 0),(14,.v (.int .i64 (x:Int)))],[(0,[.bool (sg (zsum zr a x)),.int .u64 (lb0 (ab (zsum zr a x))),.int .u64 (lb1 (ab (zsum zr a x))),.int .u64 (lb2 (ab (zsum zr a x))),.int .u64 (lb3 (ab (zsum zr a x)))])],kX w.heap.size [.g (wK 34 2 (.slice (some ⟨g0,0,none⟩) l0s.length cc0) l0s.length (scells l0s)),.g (cK bA [.slice (some ⟨bz0,oz0,none⟩) lm c0,.slice al zs.length cl_]),.g (wK 2 1 (.slice al zs.length cl_) zs.length (zs.map (Value.int .i64))),.g (tK tb)]⟩) (fun x=>x≤m + 1) (fun x=>m + 1 - x) ?rd0 0 (Nat.zero_le _) ?st0
      case st0 =>
        have c0:((0:Nat):Int) = 0:=rfl
        simp (disch:=omega) only [sxE,w16_MeanWithin.E,Nat.reduceAdd,Nat.reduceEqDiff,Nat.reduceMul,Nat.reduceSub,Int.reduceAdd,Int.reduceSub,Int.reduceMul,Int.reduceNeg,Int.reduceLT,Int.reduceLE,Int.reduceEq,Int.reduceToNat,↓reduceIte,Int.reducePow,Nat.reduceLeDiff,Nat.reduceLT,ne_eq,eq_self,List.length_cons,List.length_nil,c0,Int.add_zero]
        rfl
      case rd0 =>
        intro x hxm
        try dsimp only at hxm ⊢
        by_cases hxl:x < m + 1
        · have hz:=zget hir (a + x)
          have f1:=zsum_fits hir (by omega) a (j:=x) (by omega)
          have f2:Fits (zsum zr a x + zr.getD (a + x) 0):=zsum_fits hir (by omega) a (j:=x + 1) (by omega)
          have o1:=fun W=>rx_of hz W
          have ad:=fun W=>rx_add f1 (one_fits hz) f2 W
          have n1:=fun W=>rx_nearb hz hq (t:=t) ⟨t0,by omega⟩ W
          rw [seg_near hir hf (show x≤m by omega)] at n1
          have e0:(x:Int) + 1 = ((x + 1:Nat):Int):=by omega
          have e1:(a:Int) + (x:Int) + 1 = (a:Int) + ((x + 1:Nat):Int):=by omega
          have ez:zsum zr a (x + 1) = zsum zr a x + zr.getD (a + x) 0:=rfl
          clear hz f1 f2 hO o0 hf
          generalize zmean zr a m = M at *
          generalize hS:zsum zr a x = S at *
          repeat' (first | simp (disch:=omega) only [sxE,w16_MeanWithin.E,Nat.reduceAdd,Nat.reduceEqDiff,Nat.reduceMul,Nat.reduceSub,Int.reduceAdd,Int.reduceSub,Int.reduceMul,Int.reduceNeg,Int.reduceLT,Int.reduceLE,Int.reduceEq,Int.reduceToNat,↓reduceIte,Int.reducePow,Nat.reduceLeDiff,Nat.reduceLT,ne_eq,eq_self,List.length_cons,List.length_nil,qxE,hx1,hx2,Bool.not_true] | (with_reducible refine ldP_self false 1 g0 ?_; first | refine ldP_sT (ss:=l0s) i rfl (by repeat (first | with_reducible exact List.mem_cons_self | refine List.mem_cons_of_mem _ ?_)) (by omega) (by omega) ?_ | refine ldP_sV (ss:=l0s) i rfl (by repeat (first | with_reducible exact List.mem_cons_self | refine List.mem_cons_of_mem _ ?_)) (by omega) (by omega) ?_) | (with_reducible refine ldP_self false 1 bz0 ?_; refine ldP_z (a + x) hs (by omega) (by omega) ?_) | (with_reducible refine ldP_blk bA ?_; refine ldP_k (b:=bA) rfl (by first | exact List.mem_cons_self | exact List.mem_cons_of_mem _ List.mem_cons_self | exact List.mem_cons_of_mem _ (List.mem_cons_of_mem _ List.mem_cons_self) | exact List.mem_cons_of_mem _ (List.mem_cons_of_mem _ (List.mem_cons_of_mem _ List.mem_cons_self)) | exact List.mem_cons_of_mem _ (List.mem_cons_of_mem _ (List.mem_cons_of_mem _ (List.mem_cons_of_mem _ List.mem_cons_self)))) rfl ?_) | (with_reducible refine Sx.call_at (f:=20) (fun W hW=>o1 W) ?_) | (with_reducible refine Sx.call_at (f:=22) (fun W hW=>ad W) ?_) | (with_reducible refine Sx.call_at (f:=21) (fun W hW=>n1 W) ?_) | (with_reducible refine cregF ?_))
          rw [e0,e1]
          refine ⟨x + 1,by omega,by omega,?_⟩
          rw [ez]
          exact ⟨⟨rfl,rfl⟩,rfl⟩
        · obtain rfl:x = m + 1:=by omega
          have f1:=zsum_fits hir (by omega) a (j:=m + 1) (by omega)
          have iN:I64 ((m:Int) + 1):=⟨by omega,by omega⟩
          have o1:=fun W=>rx_of iN W
          have o2:=fun W=>rx_of hq W
          have d:=fun W=>rx_divmod f1 (bd_i64 iN).fits (by omega) W
          have eq:zsum zr a (m + 1) / ((m:Int) + 1) = zmean zr a m:=rfl
          rw [eq] at d
          have fq:=(bd_i64 hq).fits
          clear f1 iN eq o0
          generalize zmean zr a m = M at *
          generalize zsum zr a (m + 1) % ((m:Int) + 1) = Rm at *
          generalize zsum zr a (m + 1) = S at *
          have bnM:(M != M) = false:=bne_self_eq_false _
          repeat' (first | simp (disch:=omega) only [sxE,w16_MeanWithin.E,Nat.reduceAdd,Nat.reduceEqDiff,Nat.reduceMul,Nat.reduceSub,Int.reduceAdd,Int.reduceSub,Int.reduceMul,Int.reduceNeg,Int.reduceLT,Int.reduceLE,Int.reduceEq,Int.reduceToNat,↓reduceIte,Int.reducePow,Nat.reduceLeDiff,Nat.reduceLT,ne_eq,eq_self,List.length_cons,List.length_nil,qxE,hx1,hx2,bnM,bne_self_eq_false,beq_self_eq_true] | (with_reducible refine ldP_self false 1 g0 ?_; first | refine ldP_sT (ss:=l0s) i rfl (by repeat (first | with_reducible exact List.mem_cons_self | refine List.mem_cons_of_mem _ ?_)) (by omega) (by omega) ?_ | refine ldP_sV (ss:=l0s) i rfl (by repeat (first | with_reducible exact List.mem_cons_self | refine List.mem_cons_of_mem _ ?_)) (by omega) (by omega) ?_) | (with_reducible refine Sx.call_at (f:=20) (fun W hW=>o1 W) ?_) | (with_reducible refine Sx.call_at (f:=20) (fun W hW=>o2 W) ?_) | (with_reducible refine Sx.call_at (f:=23) (fun W hW=>d W) ?_) | (with_reducible refine eq_is (fun W=>by first | exact eqx_run fq fq W) ?_) | (with_reducible refine cregF ?_))
          have e0:(a:Int) + ((m + 1:Nat):Int) = ((a + m + 1:Nat):Int):=by omega
          have e1:(i:Int) + 1 = ((i + 1:Nat):Int):=by omega
          rw [e0,e1]
          exact ⟨(i + 1,a + m + 1),⟨by dsimp only; omega,hO⟩,by dsimp only; omega,rfl,rfl⟩
    · obtain rfl:i = l0s.length:=by omega
      rw [List.drop_length] at hO
      obtain rfl:a = zr.length:=hO
      have bnL:((zr.length:Int) == (lm:Int)) = true:=beq_iff_eq.2 (by omega)
      repeat' (first | simp (disch:=omega) only [sxE,w16_MeanWithin.E,Nat.reduceAdd,Nat.reduceEqDiff,Nat.reduceMul,Nat.reduceSub,Int.reduceAdd,Int.reduceSub,Int.reduceMul,Int.reduceNeg,Int.reduceLT,Int.reduceLE,Int.reduceEq,Int.reduceToNat,↓reduceIte,Int.reducePow,Nat.reduceLeDiff,Nat.reduceLT,ne_eq,eq_self,List.length_cons,List.length_nil,qxE,bnL,beq_self_eq_true,Bool.not_true] | (with_reducible refine ldP_blk bA ?_; refine ldP_k (b:=bA) rfl (by first | exact List.mem_cons_self | exact List.mem_cons_of_mem _ List.mem_cons_self | exact List.mem_cons_of_mem _ (List.mem_cons_of_mem _ List.mem_cons_self) | exact List.mem_cons_of_mem _ (List.mem_cons_of_mem _ (List.mem_cons_of_mem _ List.mem_cons_self)) | exact List.mem_cons_of_mem _ (List.mem_cons_of_mem _ (List.mem_cons_of_mem _ (List.mem_cons_of_mem _ List.mem_cons_self)))) rfl ?_) | (with_reducible refine cregF ?_))
      repeat' (first | simp (disch:=omega) only [sxE,w16_MeanWithin.E,Nat.reduceAdd,Nat.reduceEqDiff,Nat.reduceMul,Nat.reduceSub,Int.reduceAdd,Int.reduceSub,Int.reduceMul,Int.reduceNeg,Int.reduceLT,Int.reduceLE,Int.reduceEq,Int.reduceToNat,↓reduceIte,Int.reducePow,Nat.reduceLeDiff,Nat.reduceLT,ne_eq,eq_self,List.length_cons,List.length_nil,qxE] | (rw [w16_MeanWithin.p2_l]) | (with_reducible apply LX_round) | (with_reducible refine ldP_blk bA ?_; refine ldP_k (b:=bA) rfl (by first | exact List.mem_cons_self | exact List.mem_cons_of_mem _ List.mem_cons_self | exact List.mem_cons_of_mem _ (List.mem_cons_of_mem _ List.mem_cons_self) | exact List.mem_cons_of_mem _ (List.mem_cons_of_mem _ (List.mem_cons_of_mem _ List.mem_cons_self)) | exact List.mem_cons_of_mem _ (List.mem_cons_of_mem _ (List.mem_cons_of_mem _ (List.mem_cons_of_mem _ List.mem_cons_self)))) rfl ?_) | (with_reducible refine cregF ?_))
      refine asks_rowB (L:=[.g (wK 34 2 (.slice av0 l0s.length cc0) l0s.length (scells l0s)),.g (cK bA [.slice s0 lm c0,.slice al zs.length cl_]),.g (wK 2 1 (.slice al zs.length cl_) zs.length (zs.map (Value.int .i64))),.g (tK tb)]) (e:=34) (s:=2) (ι:=Unit) (fun _=>True) (fun _=>(meall t zs).length) (fun _=>scells (meall t zs)) (fun _ v=>.tuple #[v,.int .i64 0]) en_mean_All rfl (fun W hW hok=>?_) ?_
      · obtain ⟨e1,e2⟩:=merz_ok ht (zs:=zs) (by omega)
        have:=gx_mall (t:=t) (slz_row (hok (.g (wK 2 1 (.slice al zs.length cl_) zs.length (zs.map (Value.int .i64)))) (by repeat (first | with_reducible exact List.mem_cons_self | refine List.mem_cons_of_mem _ ?_))) hin) it
        rw [e1,e2] at this
        exact this.mono fun e w' ⟨v,h1,h2,h3⟩=>⟨(),v,trivial,h1,h2,h3⟩
      have hO1:=meall_ok hin t0
      have hl1:=hO1.len
      generalize meall t zs = l1s at *
      rintro - av1 cc1 - hcl1 hcm1 hav1 -
      simp only [maxLen] at hcm1
      repeat' (first | simp (disch:=omega) only [sxE,w16_MeanWithin.E,Nat.reduceAdd,Nat.reduceEqDiff,Nat.reduceMul,Nat.reduceSub,Int.reduceAdd,Int.reduceSub,Int.reduceMul,Int.reduceNeg,Int.reduceLT,Int.reduceLE,Int.reduceEq,Int.reduceToNat,↓reduceIte,Int.reducePow,Nat.reduceLeDiff,Nat.reduceLT,ne_eq,eq_self,List.length_cons,List.length_nil,qxE] | (with_reducible refine ldP_blk bA ?_; refine ldP_k (b:=bA) rfl (by first | exact List.mem_cons_self | exact List.mem_cons_of_mem _ List.mem_cons_self | exact List.mem_cons_of_mem _ (List.mem_cons_of_mem _ List.mem_cons_self) | exact List.mem_cons_of_mem _ (List.mem_cons_of_mem _ (List.mem_cons_of_mem _ List.mem_cons_self)) | exact List.mem_cons_of_mem _ (List.mem_cons_of_mem _ (List.mem_cons_of_mem _ (List.mem_cons_of_mem _ List.mem_cons_self)))) rfl ?_) | (with_reducible refine cregF ?_))
      rw [w16_MeanWithin.p7_l]
      refine LX_inv (fun x:Nat × Nat=>⟨0,[(6,.v (.int .i64 t)),(7,.v (.slice (some ⟨bA,0,none⟩) 2 2)),(8,.v (.int .i64 1)),(9,.v (.slice av1 l1s.length cc1)),(10,.v (.int .i64 0)),(11,.v (.int .i64 (x.2:Int))),(12,.v (.int .i64 (x.1:Int)))],[],kX w.heap.size [.g (wK 34 2 (.slice av1 l1s.length cc1) l1s.length (scells l1s)),.g (wK 34 2 (.slice av0 l0s.length cc0) l0s.length (scells l0s)),.g (cK bA [.slice s0 lm c0,.slice al zs.length cl_]),.g (wK 2 1 (.slice al zs.length cl_) zs.length (zs.map (Value.int .i64))),.g (tK tb)]⟩) (fun x=>x.1≤l1s.length∧MOk t zs x.2 (l1s.drop x.1) zs.length) (fun x=>l1s.length - x.1) ?round1 (0,0) ⟨Nat.zero_le _,hO1⟩ ?start1
      case start1 =>
        have c0:((0:Nat):Int) = 0:=rfl
        simp (disch:=omega) only [sxE,w16_MeanWithin.E,Nat.reduceAdd,Nat.reduceEqDiff,Nat.reduceMul,Nat.reduceSub,Int.reduceAdd,Int.reduceSub,Int.reduceMul,Int.reduceNeg,Int.reduceLT,Int.reduceLE,Int.reduceEq,Int.reduceToNat,↓reduceIte,Int.reducePow,Nat.reduceLeDiff,Nat.reduceLT,ne_eq,eq_self,List.length_cons,List.length_nil,c0]
      case round1 =>
        clear hO1
        rintro ⟨i,a⟩ ⟨hi,hO⟩
        try dsimp only at hi hO ⊢
        by_cases hlt:i < l1s.length
        · obtain ⟨g1,rfl⟩:=hav1 (by omega)
          rw [drop_at (0,0) hlt] at hO
          obtain ⟨m,hx,hle,hf,hnx,hO⟩:=hO
          obtain ⟨bz1,hal1⟩:=hal (by omega)
          subst hal1
          have hq:=zmean_in hin a m
          have hx1:(l1s.getD i (0,0)).1 = (m:Int) + 1:=by rw [hx]; rfl
          have hx2:(l1s.getD i (0,0)).2 = zmean zs a m:=by rw [hx]; exact (i6_id hq).1
          have o0:=fun W=>rx_of (x:=0) ⟨by decide,by decide⟩ W
          clear hx hnx
          repeat' (first | simp (disch:=omega) only [sxE,w16_MeanWithin.E,Nat.reduceAdd,Nat.reduceEqDiff,Nat.reduceMul,Nat.reduceSub,Int.reduceAdd,Int.reduceSub,Int.reduceMul,Int.reduceNeg,Int.reduceLT,Int.reduceLE,Int.reduceEq,Int.reduceToNat,↓reduceIte,Int.reducePow,Nat.reduceLeDiff,Nat.reduceLT,ne_eq,eq_self,List.length_cons,List.length_nil,qxE,hx1] | (with_reducible refine ldP_self false 1 g1 ?_; refine ldP_sT (ss:=l1s) i rfl (by repeat (first | with_reducible exact List.mem_cons_self | refine List.mem_cons_of_mem _ ?_)) ?_ ?_ ?_; omega; omega) | (with_reducible refine ldP_blk bA ?_; refine ldP_k (b:=bA) rfl (by first | exact List.mem_cons_self | exact List.mem_cons_of_mem _ List.mem_cons_self | exact List.mem_cons_of_mem _ (List.mem_cons_of_mem _ List.mem_cons_self) | exact List.mem_cons_of_mem _ (List.mem_cons_of_mem _ (List.mem_cons_of_mem _ List.mem_cons_self)) | exact List.mem_cons_of_mem _ (List.mem_cons_of_mem _ (List.mem_cons_of_mem _ (List.mem_cons_of_mem _ List.mem_cons_self)))) rfl ?_) | (with_reducible refine Sx.call_at (f:=20) (fun W hW=>o0 W) ?_) | (with_reducible refine cregF ?_))
          rw [w16_MeanWithin.p13_l]
          refine LX_inv (fun x:Nat=>⟨1,[(6,.v (.int .i64 t)),(7,.v (.slice (some ⟨bA,0,none⟩) 2 2)),(8,.v (.int .i64 1)),(9,.v (.slice (some ⟨g1,0,none⟩) l1s.length cc1)),(10,.v (.int .i64 0)),(11,.v (.int .i64 ((a:Int) + (x:Int)))),(12,.v (.int .i64 (i:Int))),(13,.p 0 0),(14,.v (.int .i64 (x:Int)))],[(0,[.bool (sg (zsum zs a x)),.int .u64 (lb0 (ab (zsum zs a x))),.int .u64 (lb1 (ab (zsum zs a x))),.int .u64 (lb2 (ab (zsum zs a x))),.int .u64 (lb3 (ab (zsum zs a x)))])],kX w.heap.size [.g (wK 34 2 (.slice (some ⟨g1,0,none⟩) l1s.length cc1) l1s.length (scells l1s)),.g (wK 34 2 (.slice av0 l0s.length cc0) l0s.length (scells l0s)),.g (cK bA [.slice s0 lm c0,.slice (some ⟨bz1,0,none⟩) zs.length cl_]),.g (wK 2 1 (.slice (some ⟨bz1,0,none⟩) zs.length cl_) zs.length (zs.map (Value.int .i64))),.g (tK tb)]⟩) (fun x=>x≤m + 1) (fun x=>m + 1 - x) ?rd1 0 (Nat.zero_le _) ?st1
          case st1 =>
            have c0:((0:Nat):Int) = 0:=rfl
            simp (disch:=omega) only [sxE,w16_MeanWithin.E,Nat.reduceAdd,Nat.reduceEqDiff,Nat.reduceMul,Nat.reduceSub,Int.reduceAdd,Int.reduceSub,Int.reduceMul,Int.reduceNeg,Int.reduceLT,Int.reduceLE,Int.reduceEq,Int.reduceToNat,↓reduceIte,Int.reducePow,Nat.reduceLeDiff,Nat.reduceLT,ne_eq,eq_self,List.length_cons,List.length_nil,c0,Int.add_zero]
            rfl
          case rd1 =>
            intro x hxm
            try dsimp only at hxm ⊢
            by_cases hxl:x < m + 1
            · have hz:=zget hin (a + x)
              have f1:=zsum_fits hin (by omega) a (j:=x) (by omega)
              have f2:Fits (zsum zs a x + zs.getD (a + x) 0):=zsum_fits hin (by omega) a (j:=x + 1) (by omega)
              have o1:=fun W=>rx_of hz W
              have ad:=fun W=>rx_add f1 (one_fits hz) f2 W
              have n1:=fun W=>rx_nearb hz hq (t:=t) ⟨t0,by omega⟩ W
              rw [seg_near hin hf (show x≤m by omega)] at n1
              have e0:(x:Int) + 1 = ((x + 1:Nat):Int):=by omega
              have e1:(a:Int) + (x:Int) + 1 = (a:Int) + ((x + 1:Nat):Int):=by omega
              have ez:zsum zs a (x + 1) = zsum zs a x + zs.getD (a + x) 0:=rfl
              clear hz f1 f2 hO o0 hf
              generalize zmean zs a m = M at *
              generalize hS:zsum zs a x = S at *
              repeat' (first | simp (disch:=omega) only [sxE,w16_MeanWithin.E,Nat.reduceAdd,Nat.reduceEqDiff,Nat.reduceMul,Nat.reduceSub,Int.reduceAdd,Int.reduceSub,Int.reduceMul,Int.reduceNeg,Int.reduceLT,Int.reduceLE,Int.reduceEq,Int.reduceToNat,↓reduceIte,Int.reducePow,Nat.reduceLeDiff,Nat.reduceLT,ne_eq,eq_self,List.length_cons,List.length_nil,qxE,hx1,hx2,Bool.not_true] | (with_reducible refine ldP_self false 1 g1 ?_; first | refine ldP_sT (ss:=l1s) i rfl (by repeat (first | with_reducible exact List.mem_cons_self | refine List.mem_cons_of_mem _ ?_)) (by omega) (by omega) ?_ | refine ldP_sV (ss:=l1s) i rfl (by repeat (first | with_reducible exact List.mem_cons_self | refine List.mem_cons_of_mem _ ?_)) (by omega) (by omega) ?_) | (with_reducible refine ldP_self false 1 bz1 ?_; refine ldP_i (zs:=zs) (a + x) rfl (by repeat (first | with_reducible exact List.mem_cons_self | refine List.mem_cons_of_mem _ ?_)) ?_ ?_ ?_; omega; omega) | (with_reducible refine ldP_blk bA ?_; refine ldP_k (b:=bA) rfl (by first | exact List.mem_cons_self | exact List.mem_cons_of_mem _ List.mem_cons_self | exact List.mem_cons_of_mem _ (List.mem_cons_of_mem _ List.mem_cons_self) | exact List.mem_cons_of_mem _ (List.mem_cons_of_mem _ (List.mem_cons_of_mem _ List.mem_cons_self)) | exact List.mem_cons_of_mem _ (List.mem_cons_of_mem _ (List.mem_cons_of_mem _ (List.mem_cons_of_mem _ List.mem_cons_self)))) rfl ?_) | (with_reducible refine Sx.call_at (f:=20) (fun W hW=>o1 W) ?_) | (with_reducible refine Sx.call_at (f:=22) (fun W hW=>ad W) ?_) | (with_reducible refine Sx.call_at (f:=21) (fun W hW=>n1 W) ?_) | (with_reducible refine cregF ?_))
              rw [e0,e1]
              refine ⟨x + 1,by omega,by omega,?_⟩
              rw [ez]
              exact ⟨⟨rfl,rfl⟩,rfl⟩
            · obtain rfl:x = m + 1:=by omega
              have f1:=zsum_fits hin (by omega) a (j:=m + 1) (by omega)
              have iN:I64 ((m:Int) + 1):=⟨by omega,by omega⟩
              have o1:=fun W=>rx_of iN W
              have o2:=fun W=>rx_of hq W
              have d:=fun W=>rx_divmod f1 (bd_i64 iN).fits (by omega) W
              have eq:zsum zs a (m + 1) / ((m:Int) + 1) = zmean zs a m:=rfl
              rw [eq] at d
              have fq:=(bd_i64 hq).fits
              clear f1 iN eq o0
              generalize zmean zs a m = M at *
              generalize zsum zs a (m + 1) % ((m:Int) + 1) = Rm at *
              generalize zsum zs a (m + 1) = S at *
              have bnM:(M != M) = false:=bne_self_eq_false _
              repeat' (first | simp (disch:=omega) only [sxE,w16_MeanWithin.E,Nat.reduceAdd,Nat.reduceEqDiff,Nat.reduceMul,Nat.reduceSub,Int.reduceAdd,Int.reduceSub,Int.reduceMul,Int.reduceNeg,Int.reduceLT,Int.reduceLE,Int.reduceEq,Int.reduceToNat,↓reduceIte,Int.reducePow,Nat.reduceLeDiff,Nat.reduceLT,ne_eq,eq_self,List.length_cons,List.length_nil,qxE,hx1,hx2,bnM,bne_self_eq_false,beq_self_eq_true] | (with_reducible refine ldP_self false 1 g1 ?_; first | refine ldP_sT (ss:=l1s) i rfl (by repeat (first | with_reducible exact List.mem_cons_self | refine List.mem_cons_of_mem _ ?_)) (by omega) (by omega) ?_ | refine ldP_sV (ss:=l1s) i rfl (by repeat (first | with_reducible exact List.mem_cons_self | refine List.mem_cons_of_mem _ ?_)) (by omega) (by omega) ?_) | (with_reducible refine Sx.call_at (f:=20) (fun W hW=>o1 W) ?_) | (with_reducible refine Sx.call_at (f:=20) (fun W hW=>o2 W) ?_) | (with_reducible refine Sx.call_at (f:=23) (fun W hW=>d W) ?_) | (with_reducible refine eq_is (fun W=>by first | exact eqx_run fq fq W) ?_) | (with_reducible refine cregF ?_))
              have e0:(a:Int) + ((m + 1:Nat):Int) = ((a + m + 1:Nat):Int):=by omega
              have e1:(i:Int) + 1 = ((i + 1:Nat):Int):=by omega
              rw [e0,e1]
              exact ⟨(i + 1,a + m + 1),⟨by dsimp only; omega,hO⟩,by dsimp only; omega,rfl,rfl⟩
        · obtain rfl:i = l1s.length:=by omega
          rw [List.drop_length] at hO
          obtain rfl:a = zs.length:=hO
          have bnL:((zs.length:Int) == (zs.length:Int)) = true:=beq_iff_eq.2 (by omega)
          repeat' (first | simp (disch:=omega) only [sxE,w16_MeanWithin.E,Nat.reduceAdd,Nat.reduceEqDiff,Nat.reduceMul,Nat.reduceSub,Int.reduceAdd,Int.reduceSub,Int.reduceMul,Int.reduceNeg,Int.reduceLT,Int.reduceLE,Int.reduceEq,Int.reduceToNat,↓reduceIte,Int.reducePow,Nat.reduceLeDiff,Nat.reduceLT,ne_eq,eq_self,List.length_cons,List.length_nil,qxE,bnL,beq_self_eq_true,Bool.not_true] | (rw [w16_MeanWithin.p2_l]) | (with_reducible apply LX_round) | (with_reducible refine ldP_blk bA ?_; refine ldP_k (b:=bA) rfl (by first | exact List.mem_cons_self | exact List.mem_cons_of_mem _ List.mem_cons_self | exact List.mem_cons_of_mem _ (List.mem_cons_of_mem _ List.mem_cons_self) | exact List.mem_cons_of_mem _ (List.mem_cons_of_mem _ (List.mem_cons_of_mem _ List.mem_cons_self)) | exact List.mem_cons_of_mem _ (List.mem_cons_of_mem _ (List.mem_cons_of_mem _ (List.mem_cons_of_mem _ List.mem_cons_self)))) rfl ?_) | (with_reducible refine Sx.call_at (f:=24) (fun W hW=>kn W) ?_) | (with_reducible refine cregF ?_))
/-! ### The row -/
set_option maxRecDepth 100000 in
theorem lifted (os:Os) (started:os.Started) (H:Type) (enc:TypeId × Value→H) :
    ReturnsInHanded {} Try.checked os 3 .any (Rows.meanWithinSpec.pre6 enc Try.prog Try.f3 Rows.meanWithinRow.domain false) (Rows.meanWithinSpec.post enc Try.prog Try.f3 false true false false):=by
  refine returnsInHanded_of_change_sized (C:=Try.checked) own started (by kernel_rfl) Try.func3
    (ChangeSpec.witness6 (enc:=enc) (C:=Try.checked) false ⟨#[],#[.slice none 0 0,.slice none 0 0],[]⟩ 8 (by kernel_rfl) (by kernel_rfl) (by kernel_rfl) (by kernel_rfl)) ?_
  intro W base args ds gs before hval0 hW hcnd hsz _
  have hval:∀ (j:Nat) t v,Try.f3.params[j]? = some t→args[j]? = some v→Value.okWide Try.prog W .any base t v:=hval0
  have hW':=hW
  obtain ⟨p,q,hA0,hV,rfl,hfz,hnd⟩:=hW
  have hA:DataW.TrodAll enc Try.prog W 0 (fun _=>true) true Try.f3.params.toList args.toList ds p:=hA0
  rw [Try.params3] at hA hval
  obtain ⟨v0,vs0,d0,ds0,p0,q0,hargs,rfl,rfl,g0,r0⟩:=trodAll_cons hA
  obtain ⟨v1,vs1,d1,ds1,p1,q1,rfl,rfl,rfl,g1,r1⟩:=trodAll_cons r0
  obtain ⟨rfl,rfl,rfl⟩:=trodAll_nil r1
  obtain rfl:args = #[v0,v1]:=by cases args; simp_all
  obtain ⟨rfl,rfl⟩:=trodVars_none hV
  have hlt:∀ x∈(p0 ++ (p1 ++ [])) ++ [],x.block < W.heap.size:=fun x hx=>hW'.lt x hx
  obtain ⟨z0,hs0⟩:=open_slz Try.underlying22 Try.underlying2 (by kernel_rfl) (hval 0 22 v0 rfl rfl) g0 (fun x hx=>hlt x (by simp [hx]))
  have hs0':=hs0
  obtain ⟨s0,l0,c0,rfl,_⟩:=hs0'
  obtain ⟨z1,hs1⟩:=open_slz Try.underlying23 Try.underlying3 (by kernel_rfl) (hval 1 23 v1 rfl rfl) g1 (fun x hx=>hlt x (by simp [hx]))
  have hs1':=hs1
  obtain ⟨s1,l1,c1,rfl,_⟩:=hs1'
  refine (walk W s0 l0 c0 z0 hs0 s1 l1 c1 z1 hs1).mono fun e W' ⟨he,hb⟩=>?_
  subst he
  exact ⟨_,rfl,law_post laidOut (by kernel_rfl) rfl rfl Try.underlying4 hW' rfl rfl rfl hb⟩

theorem over:Rows.meanWithinRow.holds Try.pinned (OpenSpec.ofChange Rows.meanWithinSpec) :=
  OpenClaim.holds_of_wide 3 Try.f3 rfl rfl rfl rfl rfl rfl rfl ⟨rfl,rfl,rfl,rfl,rfl⟩ rfl rfl rfl rfl rfl (by kernel_rfl) Try.func3 (by kernel_rfl)
    (of_decide_eq_true (by kernel_rfl)) (by unfold Func.isWrapper; first | (rw [if_pos (by decide +kernel)]; kernel_rfl) | (rw [if_neg (by decide +kernel)]; exact ⟨rfl,rfl⟩))
    (fun os started H enc _=>lifted os started H enc)

/-- The given statement. -/
theorem proved:Rows.MeanWithinSaid :=
  over
#print axioms proved
end Go.Proofs.Ytncmmbacoknefaa.meanWithin

