/- Several texts in one: Rc. -/
import Derived.Test.YtncmmbacoknefaaRk4
set_option linter.defProp false

/- Rc: Lists of constants that are not too long, plain. -/
namespace Go.Proofs.Ytncmmbacoknefaa
open Go Go.RowKit Sx
set_option linter.unusedVariables false
set_option linter.unusedSimpArgs false
def g50 (c:Int):Int:=if 50 < c then c % 40 + c % 3 / 2 * 1099511627776 else c
def f50 (c:Int × Int):Int × Int:=(g50 c.1,c.2)
def lst (cs:Smps) (i:Nat):Smps:=(cs.take i).map f50 ++ cs.drop i
theorem lst_len (cs:Smps) (i:Nat):(lst cs i).length = cs.length:=by
 unfold lst
 rw [List.length_append,List.length_map,List.length_take,List.length_drop]
 omega
theorem lst_at {cs:Smps} {i:Nat} (h:i < cs.length):(lst cs i).getD i (0,0) = cs.getD i (0,0):=by
 unfold lst
 rw [List.getD_eq_getElem?_getD,List.getElem?_append_right (by rw [List.length_map,List.length_take]; omega),List.length_map,List.length_take,List.getElem?_drop,List.getD_eq_getElem?_getD]
 congr 2
 omega
theorem set_app {α:Type} {s t:List α} {i:Nat} {x:α} (h:s.length≤i):(s ++ t).set i x = s ++ t.set (i - s.length) x:=by
 rw [List.set_append,if_neg (by omega)]
theorem lst_set {cs:Smps} {i:Nat} (h:i < cs.length):(lst cs i).set i (f50 (cs.getD i (0,0))) = lst cs (i + 1):=by
 unfold lst
 rw [List.take_add_one,List.map_append,List.append_assoc,set_app (show ((cs.take i).map f50).length≤i by rw [List.length_map,List.length_take]; omega),List.length_map,List.length_take,show i - min i cs.length = 0 by omega,List.drop_eq_getElem_cons h,List.set_cons_zero,List.getElem?_eq_getElem h,List.getD_eq_getElem?_getD,List.getElem?_eq_getElem h]
 rfl
theorem lst_same {cs:Smps} {i:Nat} (h:i < cs.length) (hc:(cs.getD i (0,0)).1≤50):lst cs (i + 1) = lst cs i:=by
 rw [← lst_set h]
 have e:f50 (cs.getD i (0,0)) = (lst cs i).getD i (0,0):=by
  rw [lst_at h]
  unfold f50 g50
  rw [if_neg (by omega)]
 have hl:i < (lst cs i).length:=by rw [lst_len]; exact h
 rw [e,List.getD_eq_getElem?_getD,List.getElem?_eq_getElem hl]
 exact List.set_getElem_self hl
theorem lst_end (cs:Smps):lst cs cs.length = cs.map f50:=by
 unfold lst
 rw [List.take_length,List.drop_length,List.append_nil]
theorem scells_setc:∀ {ss:Smps} {i:Nat} {x:Int},i < ss.length→(scells ss).set (2 * i) (.int .i64 x) = scells (ss.set i (x,(ss.getD i (0,0)).2))
 | [],i,x,h=>absurd h (Nat.not_lt_zero _)
 | s :: ss,0,x,h=>rfl
 | s :: ss,i + 1,x,h=>by
  show ((scell s ++ scells ss).set (2 * (i + 1)) _) = scell s ++ scells (ss.set i (x,(ss.getD i (0,0)).2))
  rw [← scells_setc (by simpa using h),set_app (show (scell s).length≤2 * (i + 1) by show 2≤_; omega),show 2 * (i + 1) - (scell s).length = 2 * i from by show 2 * (i + 1) - 2 = 2 * i; omega]
theorem g50_in {c:Int} (h:I64 c):I64 (g50 c):=by
 have h1:=h.1
 have h2:=h.2
 unfold g50
 split
 ·exact ⟨by omega,by omega⟩
 ·exact h
theorem f50_in {cs:Smps} (h:∀ c∈cs,I64 c.1∧I64 c.2):∀ c∈cs.map f50,I64 c.1∧I64 c.2:=fun c hc=>by
 obtain ⟨x,hx,rfl⟩:=List.mem_map.1 hc
 exact ⟨g50_in (h x hx).1,(h x hx).2⟩
theorem f50_len (c:Int × Int):(cz1 (f50 c)).length≤50:=by
 by_cases h:1≤(f50 c).1∧(f50 c).1≤1073741824
 ·rw [show cz1 (f50 c) = List.replicate (f50 c).1.toNat (f50 c).2 from if_pos h,List.length_replicate]
  unfold f50 g50 at h ⊢
  dsimp only at h ⊢
  split at h
  ·rw [if_pos (by assumption)]; omega
  ·rw [if_neg (by assumption)]; omega
 ·rw [show cz1 (f50 c) = [] from if_neg h]
  exact Nat.zero_le _
theorem cz_f50 (cs:Smps):(cz (cs.map f50)).length≤cs.length * 50:=by
 have:=cz_bound (B:=50) (cs:=cs.map f50) fun c hc=>by
  obtain ⟨x,-,rfl⟩:=List.mem_map.1 hc
  exact f50_len x
 rwa [List.length_map] at this
end Go.Proofs.Ytncmmbacoknefaa
