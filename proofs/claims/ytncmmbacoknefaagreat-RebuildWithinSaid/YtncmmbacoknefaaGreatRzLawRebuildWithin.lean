/- Proved: tscodeclaw20.RebuildWithin returns true for all arguments. No condition. -/
import Derived.Test.YtncmmbacoknefaaGreatRows
import Derived.Test.YtncmmbacoknefaaGreatRzClRebuildWithin
import Derived.OpenShut
import Derived.SizedLaws
import Derived.Laws.IdiomArrays
import Derived.WalkKit
import Derived.ProofKit
import Derived.Outline
import Derived.Test.YtncmmbacoknefaaGreatRz2
import Derived.Test.YtncmmbacoknefaaGreatRz3
import Derived.Test.YtncmmbacoknefaaGreatRz4
import Derived.Test.YtncmmbacoknefaaGreatRz5
namespace Go.Proofs.YtncmmbacoknefaaGreat.rebuildWithin
open Go.ChangeShapes Go.WideShapes Go.ChangeAt Go.RowKit Sx
set_option linter.unusedVariables false
set_option linter.unusedSimpArgs false


set_option maxHeartbeats 8000000 in
set_option maxRecDepth 100000 in
theorem walk (w:World) (s0:Option Addr) (l0 c0:Nat) (z0:List Int) (h0:SlZ w .i64 (.slice s0 l0 c0) z0) :
    Calls Tryz.prog 4 #[.slice s0 l0 c0] w fun e w'=>e = .returned (.bool true)∧Below w.heap.size w w':=by

  have kn:=fun W=>g_known20 W
  refine known_of (enter Tryz.func4 w20_RebuildWithin.ok (args:=[_]) (by simp) ?_)
  repeat' (first | simp (disch:=omega) only [sxE,w20_RebuildWithin.E,Nat.reduceAdd,Nat.reduceEqDiff,Nat.reduceMul,Nat.reduceSub,Int.reduceAdd,Int.reduceSub,Int.reduceMul,Int.reduceNeg,Int.reduceLT,Int.reduceLE,Int.reduceEq,Int.reduceToNat,↓reduceIte,Int.reducePow,Nat.reduceLeDiff,Nat.reduceLT,ne_eq,eq_self,List.length_cons,List.length_nil,qxE] | (with_reducible refine cregF ?_))
  refine asks_new (L:=[]) rfl (kX_nil _) h0 en_m_New fun tb htb=>?_; clear htb
  repeat' (first | simp (disch:=omega) only [sxE,w20_RebuildWithin.E,Nat.reduceAdd,Nat.reduceEqDiff,Nat.reduceMul,Nat.reduceSub,Int.reduceAdd,Int.reduceSub,Int.reduceMul,Int.reduceNeg,Int.reduceLT,Int.reduceLE,Int.reduceEq,Int.reduceToNat,↓reduceIte,Int.reducePow,Nat.reduceLeDiff,Nat.reduceLT,ne_eq,eq_self,List.length_cons,List.length_nil,qxE] | (with_reducible refine cregF ?_))
  refine asks_rowT (L:=[.g (tK tb)]) (e:=58) (s:=2) (fun ss:Smps=>Smp ss∧(ss.length:Int)≤30) (fun ss=>ss.length) (fun ss=>scells ss) (fun ss v=>v) (tpk_t _ tb) en_m_Tape__Samples rfl (List.mem_singleton.2 rfl) (List.mem_singleton.2 rfl) rfl (fun j hj=>.inl (List.mem_singleton.1 hj)) (fun W hW=>by
    refine (samples_any tb 30 (by decide) (by decide) W hW).mono ?_
    rintro e w' ⟨v,ss,h1,h2,h3,h4,h5⟩
    exact ⟨ss,v,h1,h2,h3,h4,h5⟩) ?_
  rintro ss al cl_ ⟨hsm,hs30⟩ hcl - hal hnb
  
  have htb:tb ∉ (.g (wK 58 2 (.slice al ss.length cl_) ss.length (scells ss)):Kn).bs:=fun h=>hnb tb h (List.mem_singleton.2 rfl)
  clear hnb
  have hin:=smp_inI hsm
  have hinc:=smp_incr hsm
  repeat' (first | simp (disch:=omega) only [sxE,w20_RebuildWithin.E,Nat.reduceAdd,Nat.reduceEqDiff,Nat.reduceMul,Nat.reduceSub,Int.reduceAdd,Int.reduceSub,Int.reduceMul,Int.reduceNeg,Int.reduceLT,Int.reduceLE,Int.reduceEq,Int.reduceToNat,↓reduceIte,Int.reducePow,Nat.reduceLeDiff,Nat.reduceLT,ne_eq,eq_self,List.length_cons,List.length_nil,qxE] | (with_reducible refine cregF ?_))
  refine asks_tc rfl (tpk_t _ tb) (t_tol tb) en_m_Tape__Tolerance rfl (by simp) rfl (fun j hj=>?_) ?_
  · rcases List.mem_cons.1 hj with rfl | hj
    · exact .inr htb
    · exact .inl (List.mem_singleton.1 hj)
  rintro t ⟨t0,t1⟩
  have ht:tolz t = true:=tolz_iff.2 ⟨t0,t1⟩
  have it:I64 t:=⟨by omega,by omega⟩
  clear hsm hcl
  repeat' (first | simp (disch:=omega) only [sxE,w20_RebuildWithin.E,Nat.reduceAdd,Nat.reduceEqDiff,Nat.reduceMul,Nat.reduceSub,Int.reduceAdd,Int.reduceSub,Int.reduceMul,Int.reduceNeg,Int.reduceLT,Int.reduceLE,Int.reduceEq,Int.reduceToNat,↓reduceIte,Int.reducePow,Nat.reduceLeDiff,Nat.reduceLT,ne_eq,eq_self,List.length_cons,List.length_nil,qxE] | (with_reducible refine cregF ?_))
  refine asks_rowB (L:=[.g (wK 58 2 (.slice al ss.length cl_) ss.length (scells ss)),.g (tK tb)]) (e:=41) (s:=12) (ι:=Unit) (fun _=>True) (fun _=>((swall t ss).map toR).length) (fun _=>rlcs ((swall t ss).map toR)) (fun _ v=>.tuple #[v,.int .i64 0]) en_r14_All rfl (fun W hW hok=>?_) ?_
  · obtain ⟨e1,e2⟩:=erz_ok ht hinc (by omega)
    have:=rx_swall (t:=t) (sls_own (hok _ List.mem_cons_self) hin) it (by omega)
    rw [e1,e2] at this
    rw [rlcs_toR,List.length_map]
    exact this.mono fun e w' ⟨v,h1,h2,h3⟩=>⟨(),v,trivial,h1,h2,h3⟩
  have hO:=swall_ok t ss
  have hOl:=hO.len
  have hR:=hO.rl ht hin hinc (by omega) (Nat.le_refl _)
  obtain ⟨hE,hV⟩:=hO.rlout hinc
  have hN:=hO.rl_near ht hin hinc (Nat.le_refl _)
  have hVl:=hO.rl_len (T:=ss.map Prod.fst)
  rw [← hV] at hN hVl
  simp only [Nat.zero_add] at hN hVl
  have hRl:((swall t ss).map toR).length≤30:=by rw [List.length_map]; omega
  generalize (swall t ss).map toR = L1 at *
  generalize hvs:rlout L1 (ss.map Prod.fst) = vs at *
  clear hV
  clear hO hOl
  rintro - ax cx_ - - - - -
  
  repeat' (first | simp (disch:=omega) only [sxE,w20_RebuildWithin.E,Nat.reduceAdd,Nat.reduceEqDiff,Nat.reduceMul,Nat.reduceSub,Int.reduceAdd,Int.reduceSub,Int.reduceMul,Int.reduceNeg,Int.reduceLT,Int.reduceLE,Int.reduceEq,Int.reduceToNat,↓reduceIte,Int.reducePow,Nat.reduceLeDiff,Nat.reduceLT,ne_eq,eq_self,List.length_cons,List.length_nil,qxE] | (with_reducible refine cregF ?_))
  
  refine asks_rowB (L:=[.g (wK 41 12 (.slice ax L1.length cx_) L1.length (rlcs L1)),.g (wK 58 2 (.slice al ss.length cl_) ss.length (scells ss)),.g (tK tb)]) (e:=2) (s:=1) (ι:=Unit) (fun _=>True) (fun _=>(ss.map Prod.snd).length) (fun _=>(ss.map Prod.snd).map (Value.int .i64)) (fun _ v=>v) en_r12_Values rfl (fun W hW hok=>?_) ?_
  · have:=r_svals (w:=W) (sls_own (hok (.g (wK 58 2 (.slice al ss.length cl_) ss.length (scells ss))) (by repeat (first | with_reducible exact List.mem_cons_self | refine List.mem_cons_of_mem _ ?_))) hin) (by omega)
    refine this.mono fun e w' ⟨v,h1,h2,h3⟩=>⟨(),v,trivial,h1,?_,h3⟩
    rw [List.length_map,show (ss.map Prod.snd).map (Value.int .i64) = vcells ss by unfold vcells; rw [List.map_map]; rfl]
    exact h2
  rintro - aa ca - - - - -
  have hvz:∀ z∈ss.map Prod.snd,I64 z:=fun z hz=>by
    obtain ⟨x,hx,rfl⟩:=List.mem_map.1 hz
    exact (hin x hx).2
  have hvl:(ss.map Prod.snd).length = ss.length:=List.length_map ..
  have hvg:∀ i,(ss.map Prod.snd).getD i 0 = (ss.getD i (0,0)).2:=fun i=>by
    rw [List.getD_eq_getElem?_getD,List.getD_eq_getElem?_getD,List.getElem?_map]
    cases ss[i]? <;> rfl
  generalize ss.map Prod.snd = zs at *
  
  repeat' (first | simp (disch:=omega) only [sxE,w20_RebuildWithin.E,Nat.reduceAdd,Nat.reduceEqDiff,Nat.reduceMul,Nat.reduceSub,Int.reduceAdd,Int.reduceSub,Int.reduceMul,Int.reduceNeg,Int.reduceLT,Int.reduceLE,Int.reduceEq,Int.reduceToNat,↓reduceIte,Int.reducePow,Nat.reduceLeDiff,Nat.reduceLT,ne_eq,eq_self,List.length_cons,List.length_nil,qxE] | (with_reducible refine cregF ?_))
  refine asks_rowB (e:=129) (s:=2) (ι:=Unit) (fun _=>True) (fun _=>(mqall t zs).length) (fun _=>scells (mqall t zs)) (fun _ v=>.tuple #[v,.int .i64 0]) en_r15_All rfl (fun W hW hok=>?_) ?_
  · refine (rx_qall (t:=t) (slz_row (hok (.g (wK 2 1 (.slice aa zs.length ca) zs.length (zs.map (Value.int .i64)))) (by repeat (first | with_reducible exact List.mem_cons_self | refine List.mem_cons_of_mem _ ?_))) hvz) ⟨t0,by omega⟩ (by omega)).mono ?_
    exact fun e w' ⟨v,h1,h2,h3⟩=>⟨(),v,trivial,h1,h2,h3⟩
  rintro - am cm_ - - - - -
  have hQ:=mqall_ok (t:=t) (zs:=zs) t0
  have hMI:=hQ.in64 hvz (by omega) (Nat.le_refl _)
  have hML:=hQ.cz_len (by omega) (Nat.le_refl _)
  rw [Nat.zero_add] at hML
  have hMN:=hQ.cz_near (by omega) (Nat.le_refl _)
  clear hQ
  generalize mqall t zs = ms at *
  
  repeat' (first | simp (disch:=omega) only [sxE,w20_RebuildWithin.E,Nat.reduceAdd,Nat.reduceEqDiff,Nat.reduceMul,Nat.reduceSub,Int.reduceAdd,Int.reduceSub,Int.reduceMul,Int.reduceNeg,Int.reduceLT,Int.reduceLE,Int.reduceEq,Int.reduceToNat,↓reduceIte,Int.reducePow,Nat.reduceLeDiff,Nat.reduceLT,ne_eq,eq_self,List.length_cons,List.length_nil,qxE] | (with_reducible refine cregF ?_))
  refine asks_rowB (e:=2) (s:=1) (ι:=Unit) (fun _=>True) (fun _=>(ss.map Prod.fst).length) (fun _=>(ss.map Prod.fst).map (Value.int .i64)) (fun _ v=>v) en_r12_Times rfl (fun W hW hok=>?_) ?_
  · have:=r_stimes (w:=W) (sls_own (hok (.g (wK 58 2 (.slice al ss.length cl_) ss.length (scells ss))) (by repeat (first | with_reducible exact List.mem_cons_self | refine List.mem_cons_of_mem _ ?_))) hin) (by omega)
    refine this.mono fun e w' ⟨v,h1,h2,h3⟩=>⟨(),v,trivial,h1,?_,h3⟩
    rw [List.length_map,show (ss.map Prod.fst).map (Value.int .i64) = tcells ss by unfold tcells; rw [List.map_map]]
    exact h2
  rintro - at9 ct - - - - -
  have hat:∀ z∈ss.map Prod.fst,I64 z:=fun z hz=>by
    obtain ⟨x,hx,rfl⟩:=List.mem_map.1 hz
    exact (hin x hx).1
  have hatl:(ss.map Prod.fst).length≤30:=by rw [List.length_map]; omega
  generalize ss.map Prod.fst = at_ at *
  
  repeat' (first | simp (disch:=omega) only [sxE,w20_RebuildWithin.E,Nat.reduceAdd,Nat.reduceEqDiff,Nat.reduceMul,Nat.reduceSub,Int.reduceAdd,Int.reduceSub,Int.reduceMul,Int.reduceNeg,Int.reduceLT,Int.reduceLE,Int.reduceEq,Int.reduceToNat,↓reduceIte,Int.reducePow,Nat.reduceLeDiff,Nat.reduceLT,ne_eq,eq_self,List.length_cons,List.length_nil,qxE] | (with_reducible refine cregF ?_))
  refine asks_rowB (e:=2) (s:=1) (ι:=Unit) (fun _=>True) (fun _=>vs.length) (fun _=>vs.map (Value.int .i64)) (fun _ v=>.tuple #[v,.int .i64 0]) en_rebuild_Lines rfl (fun W hW hok=>?_) ?_
  · have:=gx_lines (sll_row (hok (.g (wK 41 12 (.slice ax L1.length cx_) L1.length (rlcs L1))) (by repeat (first | with_reducible exact List.mem_cons_self | refine List.mem_cons_of_mem _ ?_))) hR) (slz_row (hok (.g (wK 2 1 (.slice at9 at_.length ct) at_.length (at_.map (Value.int .i64)))) (by repeat (first | with_reducible exact List.mem_cons_self | refine List.mem_cons_of_mem _ ?_))) hat) (by omega)
    rw [hvs,hE] at this
    exact this.mono fun e w' ⟨v,h1,h2,h3⟩=>⟨(),v,trivial,h1,h2,h3⟩
  rintro - av cv - - - hav -
  
  repeat' (first | simp (disch:=omega) only [sxE,w20_RebuildWithin.E,Nat.reduceAdd,Nat.reduceEqDiff,Nat.reduceMul,Nat.reduceSub,Int.reduceAdd,Int.reduceSub,Int.reduceMul,Int.reduceNeg,Int.reduceLT,Int.reduceLE,Int.reduceEq,Int.reduceToNat,↓reduceIte,Int.reducePow,Nat.reduceLeDiff,Nat.reduceLT,ne_eq,eq_self,List.length_cons,List.length_nil,qxE] | (with_reducible refine cregF ?_))
  refine asks_rowB (e:=2) (s:=1) (ι:=Unit) (fun _=>True) (fun _=>(cz ms).length) (fun _=>(cz ms).map (Value.int .i64)) (fun _ v=>v) en_rebuild_Constants rfl (fun W hW hok=>?_) ?_
  · refine (gx_consts (sls_row (hok (.g (wK 129 2 (.slice am ms.length cm_) ms.length (scells ms))) (by repeat (first | with_reducible exact List.mem_cons_self | refine List.mem_cons_of_mem _ ?_))) hMI) (by omega)).mono ?_
    exact fun e w' ⟨v,h1,h2,h3⟩=>⟨(),v,trivial,h1,h2,h3⟩
  rintro - aw cw - - - haw -
  have hWI:=cz_in (cs:=ms) fun c hc=>(hMI c hc).2
  generalize cz ms = ws at *
  
  have b1:((vs.length:Int) == (ss.length:Int)) = true:=beq_iff_eq.2 (by omega)
  have b2:((ws.length:Int) == (ss.length:Int)) = true:=beq_iff_eq.2 (by omega)
  clear hE hvs hR hat hMI h0
  repeat' (first | simp (disch:=omega) only [sxE,w20_RebuildWithin.E,Nat.reduceAdd,Nat.reduceEqDiff,Nat.reduceMul,Nat.reduceSub,Int.reduceAdd,Int.reduceSub,Int.reduceMul,Int.reduceNeg,Int.reduceLT,Int.reduceLE,Int.reduceEq,Int.reduceToNat,↓reduceIte,Int.reducePow,Nat.reduceLeDiff,Nat.reduceLT,ne_eq,eq_self,List.length_cons,List.length_nil,qxE,b1,b2,Bool.not_true,beq_self_eq_true] | (with_reducible refine cregF ?_))
  
  rw [w20_RebuildWithin.p2_l]
  refine LX_inv (fun i:Nat=>⟨0,[(4,.v (.slice al ss.length cl_)),(5,.v (.int .i64 t)),(10,.v (.slice av vs.length cv)),(12,.v (.slice aw ws.length cw)),(13,.v (.int .i64 (i:Int)))],[],(kX w.heap.size [.g (wK 2 1 (.slice aw ws.length cw) ws.length (ws.map (Value.int .i64))),.g (wK 2 1 (.slice av vs.length cv) vs.length (vs.map (Value.int .i64))),.g (wK 2 1 (.slice at9 at_.length ct) at_.length (at_.map (Value.int .i64))),.g (wK 129 2 (.slice am ms.length cm_) ms.length (scells ms)),.g (wK 2 1 (.slice aa zs.length ca) zs.length (zs.map (Value.int .i64))),.g (wK 41 12 (.slice ax L1.length cx_) L1.length (rlcs L1)),.g (wK 58 2 (.slice al ss.length cl_) ss.length (scells ss)),.g (tK tb)])⟩) (fun i=>i≤ss.length) (fun i=>ss.length - i) ?round 0 (Nat.zero_le _) ?start
  case start =>
    have c0:((0:Nat):Int) = 0:=rfl
    simp (disch:=omega) only [sxE,w20_RebuildWithin.E,Nat.reduceAdd,Nat.reduceEqDiff,Nat.reduceMul,Nat.reduceSub,Int.reduceAdd,Int.reduceSub,Int.reduceMul,Int.reduceNeg,Int.reduceLT,Int.reduceLE,Int.reduceEq,Int.reduceToNat,↓reduceIte,Int.reducePow,Nat.reduceLeDiff,Nat.reduceLT,ne_eq,eq_self,List.length_cons,List.length_nil,c0]
  case round =>
    intro i hi
    try dsimp only at hi ⊢
    by_cases hlt:i < ss.length
    · obtain ⟨gs,rfl⟩:=hal (by omega)
      obtain ⟨gv,rfl⟩:=hav (by omega)
      obtain ⟨gw,rfl⟩:=haw (by omega)
      obtain ⟨iv,nv⟩:=hN i hlt
      have iw:I64 (ws.getD i 0):=by
        rw [List.getD_eq_getElem?_getD,List.getElem?_eq_getElem (by omega)]
        exact hWI _ (List.getElem_mem _)
      have is_:=(smp_i64 hin i).2
      have nw:ab (ws.getD i 0 - (ss.getD i (0,0)).2)≤t:=by
        have:=hMN i (by omega)
        rw [Nat.zero_add,hvg] at this
        unfold ab
        split <;> omega
      have n1:=fun W=>rx_near iv is_ ⟨t0,t1⟩ nv W
      have n2:=fun W=>rx_near iw is_ ⟨t0,t1⟩ nw W
      have e0:(i:Int) + 1 = ((i + 1:Nat):Int):=by omega
      clear iv iw is_ nv nw hN hMN hvg hin hinc ht it hWI hvz
      repeat' (first | simp (disch:=omega) only [sxE,w20_RebuildWithin.E,Nat.reduceAdd,Nat.reduceEqDiff,Nat.reduceMul,Nat.reduceSub,Int.reduceAdd,Int.reduceSub,Int.reduceMul,Int.reduceNeg,Int.reduceLT,Int.reduceLE,Int.reduceEq,Int.reduceToNat,↓reduceIte,Int.reducePow,Nat.reduceLeDiff,Nat.reduceLT,ne_eq,eq_self,List.length_cons,List.length_nil,qxE,Bool.not_true] | ((with_reducible refine ldP_self false 1 gs ?_); refine ldP_sV i rfl (by repeat (first | with_reducible exact List.mem_cons_self | refine List.mem_cons_of_mem _ ?_)) ?_ ?_ ?_; omega; omega) | ((with_reducible refine ldP_self false 1 gv ?_); refine ldP_i (zs:=vs) i rfl (by repeat (first | with_reducible exact List.mem_cons_self | refine List.mem_cons_of_mem _ ?_)) ?_ ?_ ?_; omega; omega) | ((with_reducible refine ldP_self false 1 gw ?_); refine ldP_i (zs:=ws) i rfl (by repeat (first | with_reducible exact List.mem_cons_self | refine List.mem_cons_of_mem _ ?_)) ?_ ?_ ?_; omega; omega) | (with_reducible refine Sx.call_at (f:=30) (fun W hW=>n1 W) ?_) | (with_reducible refine Sx.call_at (f:=30) (fun W hW=>n2 W) ?_) | (with_reducible refine cregF ?_))
      rw [e0]
      exact ⟨i + 1,by omega,by omega,rfl⟩
    · obtain rfl:i = ss.length:=by omega
      repeat' (first | simp (disch:=omega) only [sxE,w20_RebuildWithin.E,Nat.reduceAdd,Nat.reduceEqDiff,Nat.reduceMul,Nat.reduceSub,Int.reduceAdd,Int.reduceSub,Int.reduceMul,Int.reduceNeg,Int.reduceLT,Int.reduceLE,Int.reduceEq,Int.reduceToNat,↓reduceIte,Int.reducePow,Nat.reduceLeDiff,Nat.reduceLT,ne_eq,eq_self,List.length_cons,List.length_nil,qxE] | (with_reducible refine Sx.call_at (f:=26) (fun W hW=>kn W) ?_) | (with_reducible refine cregF ?_))
/-! ### The row -/
set_option maxRecDepth 100000 in
theorem lifted (os:Os) (started:os.Started) (H:Type) (enc:TypeId × Value→H) :
    ReturnsInHanded {} Tryz.checked os 4 .any (Rows.rebuildWithinSpec.pre6 enc Tryz.prog Tryz.f4 Rows.rebuildWithinRow.domain false) (Rows.rebuildWithinSpec.post enc Tryz.prog Tryz.f4 false true false false):=by
  refine returnsInHanded_of_change_sized (C:=Tryz.checked) own started (by kernel_rfl) Tryz.func4
    (ChangeSpec.witness6 (enc:=enc) (C:=Tryz.checked) false ⟨#[],#[.slice none 0 0],[]⟩ 8 (by kernel_rfl) (by kernel_rfl) (by kernel_rfl) (by kernel_rfl)) ?_
  intro W base args ds gs before hval0 hW hcnd hsz _
  have hval:∀ (j:Nat) t v,Tryz.f4.params[j]? = some t→args[j]? = some v→Value.okWide Tryz.prog W .any base t v:=hval0
  have hW':=hW
  obtain ⟨p,q,hA0,hV,rfl,hfz,hnd⟩:=hW
  have hA:DataW.TrodAll enc Tryz.prog W 0 (fun _=>true) true Tryz.f4.params.toList args.toList ds p:=hA0
  rw [Tryz.params4] at hA hval
  obtain ⟨v0,vs0,d0,ds0,p0,q0,hargs,rfl,rfl,g0,r0⟩:=trodAll_cons hA
  obtain ⟨rfl,rfl,rfl⟩:=trodAll_nil r0
  obtain rfl:args = #[v0]:=by cases args; simp_all
  obtain ⟨rfl,rfl⟩:=trodVars_none hV
  have hlt:∀ x∈(p0 ++ []) ++ [],x.block < W.heap.size:=fun x hx=>hW'.lt x hx
  obtain ⟨z0,hs0⟩:=open_slz Tryz.underlying24 Tryz.underlying3 (by kernel_rfl) (hval 0 24 v0 rfl rfl) g0 (fun x hx=>hlt x (by simp [hx]))
  have hs0':=hs0
  obtain ⟨s0,l0,c0,rfl,_⟩:=hs0'
  refine (walk W s0 l0 c0 z0 hs0).mono fun e W' ⟨he,hb⟩=>?_
  subst he
  exact ⟨_,rfl,law_post laidOut (by kernel_rfl) rfl rfl Tryz.underlying4 hW' rfl rfl rfl hb⟩

theorem over:Rows.rebuildWithinRow.holds Tryz.pinned (OpenSpec.ofChange Rows.rebuildWithinSpec) :=
  OpenClaim.holds_of_wide 4 Tryz.f4 rfl rfl rfl rfl rfl rfl rfl ⟨rfl,rfl,rfl,rfl,rfl⟩ rfl rfl rfl rfl rfl (by kernel_rfl) Tryz.func4 (by kernel_rfl)
    (of_decide_eq_true (by kernel_rfl)) (by unfold Func.isWrapper; first | (rw [if_pos (by decide +kernel)]; kernel_rfl) | (rw [if_neg (by decide +kernel)]; exact ⟨rfl,rfl⟩))
    (fun os started H enc _=>lifted os started H enc)

/-- The given statement. -/
theorem proved:Rows.RebuildWithinSaid :=
  over
#print axioms proved
end Go.Proofs.YtncmmbacoknefaaGreat.rebuildWithin

