/- Several texts in one: Plain, Tool, Drift, Sx, SxO, SxR, SxP, SxQ, SxW, DriftM, SxD, SxE, SxH. -/
import Derived.WalkKit
import Derived.Laws.BitsAllLaws
import Derived.OpenShut
import Derived.ProofKit
import Derived.Test.YtncmmbacoknefaaGreatRows
import Derived.WalkLawsBesides
import Derived.WalkSpells
import Derived.ChangeKeysEq
import Derived.RegionTactic
import Derived.ChangeAlike
import Derived.Deep.RegionHeld3
import Derived.StillTail
import Derived.OrdersHeld
import Derived.Handy
import Derived.Scope
import Derived.Laws.Cells
import Derived.Laws.Entries
set_option linter.defProp false
namespace Go.Proofs.YtncmmbacoknefaaGreat
theorem ai {a b : Prop} (x : a) (y : b) : a ∧ b := ⟨x, y⟩
end Go.Proofs.YtncmmbacoknefaaGreat

/- Plain: Plain facts on 64-bit numbers: ranges, the middle of two numbers, distances. No program in sight. -/
namespace Go.Proofs.YtncmmbacoknefaaGreat
open Go.RowKit
set_option linter.unusedVariables false
set_option linter.unusedSimpArgs false
theorem hid {p:Prop} (h:p):Hid p:=h
def I64 (x:Int):Prop := -9223372036854775808≤x∧x≤9223372036854775807
def U64 (x:Int):Prop:=0≤x∧x≤18446744073709551615
theorem I64.of_wf {x:Int} (h:(Lit.int .i64 x).wf = true):I64 x:=bounds_i64 h
theorem U64.of_wf {x:Int} (h:(Lit.int .u64 x).wf = true):U64 x:=bounds_u64 h
theorem wrap_i64_lo (n:Int) (h0:0≤n) (h:n < 9223372036854775808):IntKind.i64.wrap n = n:=by
 rw [IntKind.wrap_i64]; omega
theorem wrap_i64_hi (n:Int) (h0:9223372036854775808≤n) (h:n < 18446744073709551616):IntKind.i64.wrap n = n - 18446744073709551616:=by
 rw [IntKind.wrap_i64]; omega
theorem wrap64_id (n:Int) (h:I64 n):wrap64 n = n:=IntWalk.wrap64_in n h
def dst (a b:Int):Int:=if a < b then b - a else a - b
theorem i64_zero:I64 0:=⟨by decide,by decide⟩
theorem ret_i {k:IntKind} {a b:Int} (h:a = b):Ending.returned (.int k a) = .returned (.int k b):=by rw [h]
theorem ret_b {a b:Bool} (h:a = b):Ending.returned (.bool a) = .returned (.bool b):=by rw [h]
theorem u64_wrap_id (x:Int) (h:U64 x):IntKind.u64.wrap x = x:=by
 obtain ⟨h1,h2⟩:=h
 rw [IntKind.wrap_u64]; omega
theorem dT {p:Prop} [Decidable p] (h:p):decide p = true:=decide_eq_true h
theorem dF {p:Prop} [Decidable p] (h:¬ p):decide p = false:=decide_eq_false h
def mag (a:Int):Int:=if a < 0 then -a else a
def hi64 (x y:Int):Int:=x * y / 18446744073709551616
def lo64 (x y:Int):Int:=x * y % 18446744073709551616
theorem mag_neg (a:Int) (ha:I64 a) (h:a < 0):IntKind.u64.wrap (-IntKind.u64.wrap a) = mag a:=by
 obtain ⟨a1,a2⟩:=ha
 unfold mag; rw [if_pos h,IntKind.wrap_u64,IntKind.wrap_u64]; omega
theorem hilo_nat (n m:Nat):((n * m / 18446744073709551616:Nat):Int) = hi64 n m:=by
 unfold hi64; rw [Int.natCast_ediv,Int.natCast_mul]; rfl
theorem lo_nat (n m:Nat):((n * m % 18446744073709551616:Nat):Int) = lo64 n m:=by
 unfold lo64; rw [Int.natCast_emod,Int.natCast_mul]; rfl
theorem u64_wrap_in (x:Int):U64 (IntKind.u64.wrap x):=by rw [IntKind.wrap_u64]; exact ⟨by omega,by omega⟩
theorem i64_wrap_in (x:Int):I64 (wrap64 x):=by simp only [wrap64]; exact ⟨by omega,by omega⟩
end Go.Proofs.YtncmmbacoknefaaGreat

/- Tool: Blocks of the heap that hold a variable, and the walk behind a world that is laid open no more. -/
namespace Go.Proofs.YtncmmbacoknefaaGreat
open Go.ChangeShapes Go.WideShapes Go.ChangeAt Go.RowKit
set_option linter.unusedVariables false
set_option linter.unusedSimpArgs false
def HB (W:World) (b:Nat) (cs:Array Value):Prop:=∃ T,W.heap[b]? = some (.cells cs T (0,0))
abbrev Bx (W:World) (b:Nat) (cs:Array Value):Prop:=HB W b cs∧(∀ i,W.cell? ⟨b,i,none⟩ = cs[i]?)∧(∀ i,W.frozen? ⟨b,i,none⟩ = false)∧b < W.heap.size
theorem HB.lt {W:World} {b:Nat} {cs:Array Value} (h:HB W b cs):b < W.heap.size:=by
 obtain ⟨T,h⟩:=h; exact (Array.getElem?_eq_some_iff.1 h).1
theorem Bx.of {W:World} {b:Nat} {cs:Array Value} (h:HB W b cs):Bx W b cs:=by
 refine ⟨h,?_,?_,h.lt⟩ <;> obtain ⟨T,h⟩:=h <;> intro i
 ·simp [World.cell?,h]
 ·simp [World.frozen?,h]
theorem HB.below {W W':World} {b:Nat} {cs:Array Value} (h:HB W b cs) (hb:Below W.heap.size W W'):HB W' b cs:=by
 have hl:=h.lt
 obtain ⟨T,h⟩:=h; exact ⟨T,(hb.block b hl).trans h⟩
theorem Bx.below {W W':World} {b:Nat} {cs:Array Value} (h:Bx W b cs) (hb:Below W.heap.size W W'):Bx W' b cs:=Bx.of (h.1.below hb)
theorem HB.drew {W:World} {b:Nat} {cs:Array Value} (h:HB W b cs):HB W.drew b cs:=h
theorem HB.new (W:World) (cs:Array Value) (T:TypeId) {b:Nat} (hb:b = W.heap.size):HB (W.alloc (.cells cs T (0,0))) b cs:=by
 subst hb
 refine ⟨T,?_⟩
 show (W.heap.push _)[W.heap.size]? = _
 simp
theorem HB.old {W:World} {o:Obj} {b:Nat} {cs:Array Value} (hl:b < W.heap.size) (h:HB W b cs):HB (W.alloc o) b cs:=by
 obtain ⟨T,h⟩:=h; exact ⟨T,(Below.heap_alloc W o b hl).trans h⟩
theorem HB.setne {W:World} {a:Addr} {v:Value} {b:Nat} {cs:Array Value} (hne:b≠a.block) (h:HB W b cs):HB (W.setCell a v) b cs:=by
 obtain ⟨T,h⟩:=h; exact ⟨T,(Below.heap_setCell W a v b hne).trans h⟩
theorem HB.set {W:World} {i:Nat} {v:Value} {b:Nat} {cs cs':Array Value} (h:HB W b cs) (e:cs.setIfInBounds i v = cs'):HB (W.setCell ⟨b,i,none⟩ v) b cs':=by
 obtain ⟨T,h⟩:=h
 refine ⟨T,?_⟩
 obtain ⟨hlt,hk⟩:=Array.getElem?_eq_some_iff.1 h
 show (W.heap.modify b _)[b]? = _
 rw [Array.getElem?_eq_getElem (by rw [Array.size_modify]; exact hlt),Array.getElem_modify_self,hk,← e]
 rfl
theorem wp_gen {P:Program} {c:Code} {Q:Exit→Act→World→Prop} {a:Act} {w:World} (S:World→Prop) (hS:S w) (h:∀ W,S W→c.wp P Q a W):c.wp P Q a w:=h w hS
theorem below_drewN {B n:Nat} {a w:World} (h:Below B a w):Below B a (w.drewN n):=⟨h.os,h.tape,h.output,h.size,h.block⟩
theorem below_more {w W W':World} (h:Below w.heap.size w W) (hb:Below W.heap.size W W'):Below w.heap.size w W':=Below.trans h (Below.mono hb h.size)
def HN (W:World) (b:Nat) (k:Nat):Prop:=∃ cs,cs.size = k∧HB W b cs
theorem HN.drew {W:World} {b k:Nat} (h:HN W b k):HN W.drew b k:=h
theorem HN.lt {W:World} {b k:Nat} (h:HN W b k):b < W.heap.size:=by obtain ⟨_,_,h⟩:=h; exact h.lt
theorem HN.old {W:World} {o:Obj} {b k:Nat} (hl:b < W.heap.size) (h:HN W b k):HN (W.alloc o) b k:=by obtain ⟨cs,e,h⟩:=h; exact ⟨cs,e,h.old hl⟩
theorem HN.set {W:World} {i:Nat} {v:Value} {b k:Nat} (h:HN W b k):HN (W.setCell ⟨b,i,none⟩ v) b k:=by obtain ⟨cs,e,h⟩:=h; exact ⟨_,by simpa using e,h.set rfl⟩
theorem HN.setne {W:World} {a:Addr} {v:Value} {b k:Nat} (hne:b≠a.block) (h:HN W b k):HN (W.setCell a v) b k:=by obtain ⟨cs,e,h⟩:=h; exact ⟨cs,e,h.setne hne⟩
theorem HN.of4 {W:World} {b:Nat} {v0 v1 v2 v3:Value} (h:HB W b #[v0,v1,v2,v3]):HN W b 4:=⟨_,rfl,h⟩
theorem HN.new4 (W:World) (T:TypeId) {b:Nat} {v0 v1 v2 v3:Value} (hb:b = W.heap.size):HN (W.alloc (.cells #[v0,v1,v2,v3] T (0,0))) b 4:=⟨_,rfl,HB.new W _ T hb⟩
theorem HB.over4 {W:World} {b:Nat} {v0 v1 v2 v3:Value} (h:HN W b 4):HB ((((W.setCell ⟨b,0,none⟩ v0).setCell ⟨b,1,none⟩ v1).setCell ⟨b,2,none⟩ v2).setCell ⟨b,3,none⟩ v3) b #[v0,v1,v2,v3]:=by
 obtain ⟨cs,e,h⟩:=h
 obtain ⟨l,rfl⟩:∃ l:List Value,cs = l.toArray:=⟨cs.toList,by simp⟩
 rw [List.size_toArray] at e
 rcases l with _ | ⟨x0,l⟩
 ·simp at e
 rw [List.length_cons] at e
 rcases l with _ | ⟨x1,l⟩
 ·simp at e
 rw [List.length_cons] at e
 rcases l with _ | ⟨x2,l⟩
 ·simp at e
 rw [List.length_cons] at e
 rcases l with _ | ⟨x3,l⟩
 ·simp at e
 rcases l with _ | ⟨y,l⟩
 rotate_left
 ·simp at e
 have h2:=(HB.set (i:=3) (v:=v3) (HB.set (i:=2) (v:=v2) (HB.set (i:=1) (v:=v1) (HB.set (i:=0) (v:=v0) h rfl) rfl) rfl) rfl)
 simpa only [List.setIfInBounds_toArray,List.set_cons_zero,List.set_cons_succ] using h2
theorem HN.of5 {W:World} {b:Nat} {v0 v1 v2 v3 v4:Value} (h:HB W b #[v0,v1,v2,v3,v4]):HN W b 5:=⟨_,rfl,h⟩
theorem HN.new5 (W:World) (T:TypeId) {b:Nat} {v0 v1 v2 v3 v4:Value} (hb:b = W.heap.size):HN (W.alloc (.cells #[v0,v1,v2,v3,v4] T (0,0))) b 5:=⟨_,rfl,HB.new W _ T hb⟩
theorem HB.over5 {W:World} {b:Nat} {v0 v1 v2 v3 v4:Value} (h:HN W b 5):HB (((((W.setCell ⟨b,0,none⟩ v0).setCell ⟨b,1,none⟩ v1).setCell ⟨b,2,none⟩ v2).setCell ⟨b,3,none⟩ v3).setCell ⟨b,4,none⟩ v4) b #[v0,v1,v2,v3,v4]:=by
 obtain ⟨cs,e,h⟩:=h
 obtain ⟨l,rfl⟩:∃ l:List Value,cs = l.toArray:=⟨cs.toList,by simp⟩
 rw [List.size_toArray] at e
 rcases l with _ | ⟨x0,l⟩
 ·simp at e
 rw [List.length_cons] at e
 rcases l with _ | ⟨x1,l⟩
 ·simp at e
 rw [List.length_cons] at e
 rcases l with _ | ⟨x2,l⟩
 ·simp at e
 rw [List.length_cons] at e
 rcases l with _ | ⟨x3,l⟩
 ·simp at e
 rw [List.length_cons] at e
 rcases l with _ | ⟨x4,l⟩
 ·simp at e
 rcases l with _ | ⟨y,l⟩
 rotate_left
 ·simp at e
 have h2:=(HB.set (i:=4) (v:=v4) (HB.set (i:=3) (v:=v3) (HB.set (i:=2) (v:=v2) (HB.set (i:=1) (v:=v1) (HB.set (i:=0) (v:=v0) h rfl) rfl) rfl) rfl) rfl)
 simpa only [List.setIfInBounds_toArray,List.set_cons_zero,List.set_cons_succ] using h2
theorem HN.below {W W':World} {b k:Nat} (h:HN W b k) (hb:Below W.heap.size W W'):HN W' b k:=by obtain ⟨cs,e,h⟩:=h; exact ⟨cs,e,h.below hb⟩
def cv (W:World) (b i:Nat):Value:=(W.cell? ⟨b,i,none⟩).getD undef
theorem HN.cell {W:World} {b k:Nat} (h:HN W b k) {i:Nat} (hi:i < k):W.cell? ⟨b,i,none⟩ = some (cv W b i):=by
 obtain ⟨cs,e,h⟩:=h
 have h1:=(Bx.of h).2.1 i
 have h2:cs[i]? = some cs[i]:=by simp [e,hi]
 unfold cv
 rw [h1,h2]; rfl
theorem HN.froz {W:World} {b k:Nat} (h:HN W b k) (i:Nat):W.frozen? ⟨b,i,none⟩ = false:=by
 obtain ⟨cs,e,h⟩:=h; exact (Bx.of h).2.2.1 i
abbrev By1 (W:World) (b:Nat):Prop:=HN W b 1∧W.cell? ⟨b,0,none⟩ = some (cv W b 0)∧(∀ i,W.frozen? ⟨b,i,none⟩ = false)∧b < W.heap.size
theorem By1.of {W:World} {b:Nat} (h:HN W b 1):By1 W b:=⟨h,h.cell (by decide),h.froz,h.lt⟩
abbrev By2 (W:World) (b:Nat):Prop:=HN W b 2∧W.cell? ⟨b,0,none⟩ = some (cv W b 0)∧W.cell? ⟨b,1,none⟩ = some (cv W b 1)∧(∀ i,W.frozen? ⟨b,i,none⟩ = false)∧b < W.heap.size
theorem By2.of {W:World} {b:Nat} (h:HN W b 2):By2 W b:=⟨h,h.cell (by decide),h.cell (by decide),h.froz,h.lt⟩
abbrev By4 (W:World) (b:Nat):Prop:=HN W b 4∧W.cell? ⟨b,0,none⟩ = some (cv W b 0)∧W.cell? ⟨b,1,none⟩ = some (cv W b 1)∧W.cell? ⟨b,2,none⟩ = some (cv W b 2)∧W.cell? ⟨b,3,none⟩ = some (cv W b 3)∧(∀ i,W.frozen? ⟨b,i,none⟩ = false)∧b < W.heap.size
theorem By4.of {W:World} {b:Nat} (h:HN W b 4):By4 W b:=⟨h,h.cell (by decide),h.cell (by decide),h.cell (by decide),h.cell (by decide),h.froz,h.lt⟩
abbrev By5 (W:World) (b:Nat):Prop:=HN W b 5∧W.cell? ⟨b,0,none⟩ = some (cv W b 0)∧W.cell? ⟨b,1,none⟩ = some (cv W b 1)∧W.cell? ⟨b,2,none⟩ = some (cv W b 2)∧W.cell? ⟨b,3,none⟩ = some (cv W b 3)∧W.cell? ⟨b,4,none⟩ = some (cv W b 4)∧(∀ i,W.frozen? ⟨b,i,none⟩ = false)∧b < W.heap.size
theorem By5.of {W:World} {b:Nat} (h:HN W b 5):By5 W b:=⟨h,h.cell (by decide),h.cell (by decide),h.cell (by decide),h.cell (by decide),h.cell (by decide),h.froz,h.lt⟩
abbrev By6 (W:World) (b:Nat):Prop:=HN W b 6∧W.cell? ⟨b,0,none⟩ = some (cv W b 0)∧W.cell? ⟨b,1,none⟩ = some (cv W b 1)∧W.cell? ⟨b,2,none⟩ = some (cv W b 2)∧W.cell? ⟨b,3,none⟩ = some (cv W b 3)∧W.cell? ⟨b,4,none⟩ = some (cv W b 4)∧W.cell? ⟨b,5,none⟩ = some (cv W b 5)∧(∀ i,W.frozen? ⟨b,i,none⟩ = false)∧b < W.heap.size
theorem By6.of {W:World} {b:Nat} (h:HN W b 6):By6 W b:=⟨h,h.cell (by decide),h.cell (by decide),h.cell (by decide),h.cell (by decide),h.cell (by decide),h.cell (by decide),h.froz,h.lt⟩
abbrev By8 (W:World) (b:Nat):Prop:=HN W b 8∧W.cell? ⟨b,0,none⟩ = some (cv W b 0)∧W.cell? ⟨b,1,none⟩ = some (cv W b 1)∧W.cell? ⟨b,2,none⟩ = some (cv W b 2)∧W.cell? ⟨b,3,none⟩ = some (cv W b 3)∧W.cell? ⟨b,4,none⟩ = some (cv W b 4)∧W.cell? ⟨b,5,none⟩ = some (cv W b 5)∧W.cell? ⟨b,6,none⟩ = some (cv W b 6)∧W.cell? ⟨b,7,none⟩ = some (cv W b 7)∧(∀ i,W.frozen? ⟨b,i,none⟩ = false)∧b < W.heap.size
theorem By8.of {W:World} {b:Nat} (h:HN W b 8):By8 W b:=⟨h,h.cell (by decide),h.cell (by decide),h.cell (by decide),h.cell (by decide),h.cell (by decide),h.cell (by decide),h.cell (by decide),h.cell (by decide),h.froz,h.lt⟩
abbrev By10 (W:World) (b:Nat):Prop:=HN W b 10∧W.cell? ⟨b,0,none⟩ = some (cv W b 0)∧W.cell? ⟨b,1,none⟩ = some (cv W b 1)∧W.cell? ⟨b,2,none⟩ = some (cv W b 2)∧W.cell? ⟨b,3,none⟩ = some (cv W b 3)∧W.cell? ⟨b,4,none⟩ = some (cv W b 4)∧W.cell? ⟨b,5,none⟩ = some (cv W b 5)∧W.cell? ⟨b,6,none⟩ = some (cv W b 6)∧W.cell? ⟨b,7,none⟩ = some (cv W b 7)∧W.cell? ⟨b,8,none⟩ = some (cv W b 8)∧W.cell? ⟨b,9,none⟩ = some (cv W b 9)∧(∀ i,W.frozen? ⟨b,i,none⟩ = false)∧b < W.heap.size
theorem By10.of {W:World} {b:Nat} (h:HN W b 10):By10 W b:=⟨h,h.cell (by decide),h.cell (by decide),h.cell (by decide),h.cell (by decide),h.cell (by decide),h.cell (by decide),h.cell (by decide),h.cell (by decide),h.cell (by decide),h.cell (by decide),h.froz,h.lt⟩
abbrev By12 (W:World) (b:Nat):Prop:=HN W b 12∧W.cell? ⟨b,0,none⟩ = some (cv W b 0)∧W.cell? ⟨b,1,none⟩ = some (cv W b 1)∧W.cell? ⟨b,2,none⟩ = some (cv W b 2)∧W.cell? ⟨b,3,none⟩ = some (cv W b 3)∧W.cell? ⟨b,4,none⟩ = some (cv W b 4)∧W.cell? ⟨b,5,none⟩ = some (cv W b 5)∧W.cell? ⟨b,6,none⟩ = some (cv W b 6)∧W.cell? ⟨b,7,none⟩ = some (cv W b 7)∧W.cell? ⟨b,8,none⟩ = some (cv W b 8)∧W.cell? ⟨b,9,none⟩ = some (cv W b 9)∧W.cell? ⟨b,10,none⟩ = some (cv W b 10)∧W.cell? ⟨b,11,none⟩ = some (cv W b 11)∧(∀ i,W.frozen? ⟨b,i,none⟩ = false)∧b < W.heap.size
theorem By12.of {W:World} {b:Nat} (h:HN W b 12):By12 W b:=⟨h,h.cell (by decide),h.cell (by decide),h.cell (by decide),h.cell (by decide),h.cell (by decide),h.cell (by decide),h.cell (by decide),h.cell (by decide),h.cell (by decide),h.cell (by decide),h.cell (by decide),h.cell (by decide),h.froz,h.lt⟩
theorem keep2 {w W W':World} {m:Nat} {n b1 b2:Nat} {c1 c2:Array Value} (h:Below w.heap.size w W∧n≤W.heap.size∧Bx W b1 c1∧Bx W b2 c2) (hb:Below m W W') (hm:m = W.heap.size):Below w.heap.size w W'∧n≤W'.heap.size∧Bx W' b1 c1∧Bx W' b2 c2:=by
 subst hm
 obtain ⟨h0,hn,h1,h2⟩:=h
 exact ⟨below_more h0 hb,Nat.le_trans hn hb.size,h1.below hb,h2.below hb⟩
end Go.Proofs.YtncmmbacoknefaaGreat

/- Drift: A region that draws its order, walked once: what reads or calls is taken in the text's order while the world may drift; then the boxes are made; then the stores follow. -/
namespace Go.Proofs.YtncmmbacoknefaaGreat
open Go Go.RowKit
set_option linter.unusedVariables false
set_option linter.unusedSimpArgs false
section
variable {P:Program} {ops:Array Oper} {Q:Exit→Act→World→Prop} {S:World→Prop} {row:Option Nat}
def stepIs (P:Program) (R:Value→World→Prop):Result Next→Prop
 | .ok (.value v) w'=>R v w'
 | .ok .skip w'=>R undef w'
 | .ok (.enter f args) w'=>Calls P f args w' fun e w''=>∃ v,e = .returned v∧R v w''
 | _=>False
def YieldsD (P:Program) (ops:Array Oper) (S:World→Prop) (row:Option Nat) (o:Oper) (v:Value) (a:Act):Prop :=
 (Region.wanted o (yielded ops a.tmps) = true∧∀ w,S w→stepIs P (fun u w'=>u = v∧w.grownBy w' row) ((execOp a.eval o).run P w)) ∨
 (Region.wanted o (yielded ops a.tmps) = false∧v = undef)
theorem YieldsD.of_same {o:Oper} {v:Value} {a a':Act} (hy:YieldsD P ops S row o v a) (he:execOp a'.eval o = execOp a.eval o)
  (hw:Region.wanted o (yielded ops a'.tmps) = Region.wanted o (yielded ops a.tmps)):YieldsD P ops S row o v a':=by
 unfold YieldsD at *
 rw [he,hw]
 exact hy
theorem YieldsD.wpOp {i:Nat} {o:Oper} {v:Value} {a:Act} (hi:ops[i]? = some o) (hy:YieldsD P ops S row o v a)
  {K:Act→World→Prop} {w:World} (hS:S w) (h:∀ w',w.grownBy w' row→K (a.put o.dst v) w'):wpOp P ops Q i K a w:=by
 unfold Go.wpOp
 simp only [hi]
 rcases hy with ⟨hw,hv⟩ | ⟨hw,rfl⟩
 ·simp only [hw,if_true]
  refine .inl ?_
  unfold Oper.wp
  have hs:=hv w hS
  generalize (execOp a.eval o).run P w = r at *
  cases r with
  | ok n w' =>
   cases n <;> simp only [stepIs,Oper.upon] at hs ⊢
   case value u=>obtain ⟨rfl,hg⟩:=hs; exact h _ hg
   case skip=>obtain ⟨e,hg⟩:=hs; rw [e]; exact h _ hg
   case enter f args=>exact Calls.mono hs fun e w'' ⟨u,he,hu,hg⟩=>by subst he; subst hu; exact h _ hg
  | halt x w'=>cases hs
 ·simp only [hw,Bool.false_eq_true,if_false]
  exact h _ (grown_refl' _ _)
where grown_refl' (w:World) (row:Option Nat):w.grownBy w row:=⟨rfl,rfl,rfl,Nat.le_refl _,fun _ _ _=>rfl⟩
theorem wpOp_putD {j:Nat} {oi oj:Oper} {v:Value} (hj:ops[j]? = some oj) (hap:oi.apart ops oj = true)
  (hsi:∀ cs b,oi.op≠.select cs b) (hsj:∀ cs b,oj.op≠.select cs b)
  (hQ:∀ c (a:Act) d v w,Q (.panic c) (a.put d v) w→Q (.panic c) a w) {K:Act→World→Prop} {a:Act} {w:World}
  (hy:YieldsD P ops S row oi v a) (h:wpOp P ops Q j K (a.put oi.dst v) w) :
  wpOp P ops Q j (fun a' w'=>YieldsD P ops S row oi v a'∧K (a'.put oi.dst v) w') a w:=by
 obtain ⟨h1,h2,h3⟩:=Oper.apart_spec hap
 have keep:∀ (a:Act),YieldsD P ops S row oi v a→∀ u,YieldsD P ops S row oi v (a.put oj.dst u):=fun a hy u =>
  hy.of_same (execOp_put oi hsi a oj.dst u h3) (wanted_put oi a oj.dst u h3)
 have keepD:∀ d,YieldsD P ops S row oi v { a with defers:=d :: a.defers }:=fun d=>hy.of_same rfl rfl
 unfold wpOp at *
 simp only [hj] at *
 rw [wanted_put oj a oi.dst v h1] at h
 split
 ·rename_i hw
  simp only [hw,if_true] at h
  rcases h with h | ⟨hasks,hlets⟩
  case inr=>exact .inr ⟨by unfold Oper.asks at *; rw [execOp_put oj hsj a oi.dst v h1] at hasks; exact hasks,hlets⟩
  refine .inl ?_
  unfold Oper.wp at *
  rw [execOp_put oj hsj a oi.dst v h1] at h
  generalize (execOp a.eval oj).run P w = r at *
  cases r with
  | ok n w' =>
   cases n <;> simp only [Oper.upon] at h ⊢
   case value u=>exact ⟨keep a hy u,by rw [← Act.put_comm a v u h2]; exact h⟩
   case skip=>exact ⟨keep a hy _,by rw [← Act.put_comm a v undef h2]; exact h⟩
   case defer d =>
    refine ⟨keep _ (keepD d) _,?_⟩
    rw [← Act.put_comm _ v undef h2,← Act.put_defers]
    exact h
   case enter f args =>
    refine Calls.mono h fun e w'' he=>?_
    cases e with
    | returned u=>exact ⟨keep a hy u,by rw [← Act.put_comm a v u h2]; exact he⟩
    | panicked c=>exact hQ _ _ _ _ _ he
    | outgrown=>exact he
   case row row args=>exact Rows.mono h fun u w'' he=>⟨keep a hy u,by rw [← Act.put_comm a v u h2]; exact he⟩
  | halt x w' =>
   cases x <;> simp only [Oper.upon] at h ⊢
   case panic u=>exact hQ _ _ _ _ _ h
 ·rename_i hw
  simp only [hw] at h
  exact ⟨keep a hy _,by rw [← Act.put_comm a v undef h2]; exact h⟩
abbrev Boxes:=List (Nat × Tmp × Array Value)
def Fit (n0:Nat) (bs:List (Nat × Array Value)) (w:World) (b:Nat) (zs:Array Value):Prop:=n0≤b∧(∀ p∈bs,p.1≠b)∧HB w b zs
def wpDr (P:Program) (ops:Array Oper) (Q:Exit→Act→World→Prop) (S:World→Prop) (row:Option Nat) (n n0 g:Nat) (bx:Boxes) (L:Array Bool→Act→List (Nat × Array Value)→World→Prop):Nat→Array Bool→Act→List (Nat × Array Value)→World→Prop
 | 0,listed,a,bs,w=>∀ w1,S w1→w.grownBy w1 row→L listed a bs w1
 | f + 1,listed,a,bs,w=>∀ w1,S w1→w.grownBy w1 row→Region.ready .any ops listed≠[] ∧
   ∀ i∈Region.ready .any ops listed,(n≤i→wpOp P ops Q i (wpAny P .any ops Q (f + g) (listed.setIfInBounds i true)) a w1) ∧
    (i < n→(∃ x∈bx,x.1 = i)→∀ x∈bx,x.1 = i→∀ b,Fit n0 bs w1 b x.2.2→wpDr P ops Q S row n n0 g bx L f (listed.setIfInBounds i true) (a.put (some x.2.1) (.pointer (some ⟨b,0,none⟩))) ((b,x.2.2) :: bs) w1) ∧
    (i < n→(¬∃ x∈bx,x.1 = i)→wpOp P ops Q i (fun a' w'=>w1.grownBy w' row∧wpDr P ops Q S row n n0 g bx L f (listed.setIfInBounds i true) a' bs w') a w1)
theorem gt_refl (w:World) (row:Option Nat):w.grownBy w row:=⟨rfl,rfl,rfl,Nat.le_refl _,fun _ _ _=>rfl⟩
theorem gt_trans {a b c:World} {row:Option Nat} (h:a.grownBy b row) (k:b.grownBy c row):a.grownBy c row :=
 ⟨k.os.trans h.os,k.tape.trans h.tape,k.output.trans h.output,Nat.le_trans h.size k.size,fun i hi hn=>(k.block i (Nat.lt_of_lt_of_le hi h.size) hn).trans (h.block i hi hn)⟩
theorem gt_alloc (w:World) (o:Obj) (row:Option Nat):w.grownBy (w.alloc o) row :=
 ⟨rfl,rfl,rfl,by simp,fun i hi hne=>Below.heap_alloc w o i hi⟩
theorem gt_below {a w:World} (h:Below a.heap.size a w) (row:Option Nat):a.grownBy w row:=⟨h.os,h.tape,h.output,h.size,fun i hi _=>h.block i hi⟩
theorem below_gt {a w:World} (h:a.grownBy w none):Below a.heap.size a w:=(Below.refl _ a).grown h (Nat.le_refl _) (fun k e=>by cases e)
theorem HB.gt {w w':World} {b n0:Nat} {cs:Array Value} (h:HB w b cs) (g:w.grownBy w' row) (hb:n0≤b) (hrow:∀ r,row = some r→r < n0):HB w' b cs:=by
 have hl:=h.lt
 obtain ⟨T,h⟩:=h
 exact ⟨T,(g.block b hl (fun e=>by have:=hrow _ e.symm; omega)).trans h⟩
theorem Fit.gt {n0 b:Nat} {bs:List (Nat × Array Value)} {w w':World} {zs:Array Value} (h:Fit n0 bs w b zs) (g:w.grownBy w' row) (hrow:∀ r,row = some r→r < n0):Fit n0 bs w' b zs:=⟨h.1,h.2.1,h.2.2.gt g h.1 hrow⟩
section
variable {n n0 g:Nat} {bx:Boxes} {L:Array Bool→Act→List (Nat × Array Value)→World→Prop}
theorem wpDr_drift:∀ {f:Nat} {listed:Array Bool} {a:Act} {bs:List (Nat × Array Value)} {w w':World},wpDr P ops Q S row n n0 g bx L f listed a bs w→w.grownBy w' row→wpDr P ops Q S row n n0 g bx L f listed a bs w'
 | 0,_,_,_,_,_,h,g=>fun w1 hs h1=>h w1 hs (gt_trans g h1)
 | _ + 1,_,_,_,_,_,h,g=>fun w1 hs h1=>h w1 hs (gt_trans g h1)
end
def Makes (P:Program) (o:Oper) (d:Tmp) (zs:Array Value):Prop :=
 o.dst = some d∧o.guard = none∧o.after = #[]∧∀ ρ w,∃ T,(execOp ρ o).run P w = .ok (.value (.pointer (some ⟨w.heap.size,0,none⟩))) (w.alloc (.cells zs T (0,0)))
theorem wpAny_of_dr {n n0 g:Nat} {bx:Boxes} {L:Array Bool→Act→List (Nat × Array Value)→World→Prop} (hk:∀ w w',S w→w.grownBy w' row→S w') (hn0:∀ w,S w→n0≤w.heap.size) (hrow:∀ r,row = some r→r < n0)
  (hbx:∀ x∈bx,∃ o,ops[x.1]? = some o∧Makes P o x.2.1 x.2.2) (hL:∀ listed a bs w,L listed a bs w→wpAny P .any ops Q g listed a w) :
  ∀ (f:Nat) (listed:Array Bool) (a:Act) (bs:List (Nat × Array Value)) (w:World),S w→(∀ p∈bs,p.1 < w.heap.size)→wpDr P ops Q S row n n0 g bx L f listed a bs w→wpAny P .any ops Q (f + g) listed a w
 | 0,listed,a,bs,w,hs,hlt,h=>by rw [Nat.zero_add]; exact hL _ _ _ _ (h w hs (gt_refl _ _))
 | f + 1,listed,a,bs,w,hs,hlt,h=>by
  rw [show f + 1 + g = (f + g) + 1 by omega]
  have h':=h w hs (gt_refl _ _)
  refine ⟨fun h0=>absurd h0 h'.1,fun i hi=>?_⟩
  rcases Nat.lt_or_ge i n with hin | hin
  rotate_left
  ·exact (h'.2 i hi).1 hin
  by_cases hx:∃ x∈bx,x.1 = i
  ·obtain ⟨x,hxm,rfl⟩:=hx
   obtain ⟨o,ho,hd,hg,haf,hrun⟩:=hbx x hxm
   obtain ⟨T,hrunT⟩:=hrun a.eval w
   unfold wpOp
   simp only [ho]
   have hw:Region.wanted o (yielded ops a.tmps) = true:=by unfold Region.wanted; rw [hg]
   simp only [hw,if_true]
   refine .inl ?_
   unfold Oper.wp
   rw [hrunT]
   simp only [Oper.upon]
   have hs2:S (w.alloc (.cells x.2.2 T (0,0))):=hk _ _ hs (gt_alloc _ _ _)
   have hfit:Fit n0 bs (w.alloc (.cells x.2.2 T (0,0))) w.heap.size x.2.2:=⟨hn0 _ hs,fun p hp e=>by have:=hlt p hp; omega,HB.new _ _ _ rfl⟩
   have H:=((h _ hs2 (gt_alloc _ _ _)).2 x.1 hi).2.1 hin ⟨x,hxm,rfl⟩ x hxm rfl _ hfit
   rw [hd]
   refine wpAny_of_dr hk hn0 hrow hbx hL f _ _ _ _ hs2 (fun p hp=>?_) H
   rcases List.mem_cons.1 hp with rfl | hp
   ·simp
   ·have:=hlt p hp; simp; omega
  ·refine wpOp_mono (fun a' w' ⟨hg,hd⟩=>?_) ((h'.2 i hi).2.2 hin hx)
   exact wpAny_of_dr hk hn0 hrow hbx hL f _ a' bs w' (hk _ _ hs hg) (fun p hp=>Nat.lt_of_lt_of_le (hlt p hp) hg.size) hd
def Region.sinkL (ops:Array Oper) (n:Nat) (lp:List Nat):Bool :=
 (List.range n).all fun i=>lp.contains i || (List.range (n + 1)).any fun j=>decide (i < j) && (!lp.contains j && Region.waitsFor .any ops j i)
def Region.tailB (ops:Array Oper) (n:Nat) (lp:List Nat):Bool:=(decide (n = ops.size) || (decide (n < ops.size) && (Region.sinkL ops n lp && Region.chainB .any ops n))) && lp.all fun i=>decide (i < n)
theorem tail_waits_late {n:Nat} {lp:List Nat} {listed:Array Bool} (hs:Region.sinkL ops n lp = true) (hc:Region.chainB .any ops n = true) (hn:n < ops.size) (inv:HeadInv .any ops n listed) :
  ∀ (d i:Nat),n - i = d→i < n→i ∉ lp→listed.getD i true = false→∀ t,n≤t→t ∉ Region.ready .any ops listed:=by
 intro d
 induction d using Nat.strongRecOn with
 | _ d ih =>
  intro i hd hi hlp hun t ht hr
  obtain ⟨_,ot,hot,hall⟩:=mem_ready.1 hr
  have htlt:t < ops.size:=(Array.getElem?_eq_some_iff.1 hot).1
  by_cases htn:t = n
  ·subst htn
   have h1:=List.all_eq_true.1 hs i (List.mem_range.2 hi)
   simp only [Bool.or_eq_true,List.contains_iff_mem] at h1
   rcases h1 with h1 | h1
   ·exact hlp h1
   obtain ⟨j,hj,hj2⟩:=List.any_eq_true.1 h1
   simp only [Bool.and_eq_true,decide_eq_true_eq,Bool.not_eq_true'] at hj2
   obtain ⟨hij,hjlp,hw⟩:=hj2
   have hjlp':j ∉ lp:=fun h=>by
    have:lp.contains j = true:=List.contains_iff_mem.2 h
    rw [hjlp] at this; cases this
   obtain ⟨oj,hoj,e,he,hb,hon⟩:=Region.waitsFor_spec hw
   have hjle:j≤t:=by have:=List.mem_range.1 hj; omega
   by_cases hjt:j = t
   ·subst hjt
    have:oj = ot:=Option.some.inj (hoj.symm.trans hot)
    subst this
    have h2:=hall e he hb
    rw [hon,getD_both hun] at h2
    cases h2
   ·cases hl:listed.getD j false with
    | true =>
     have h2:=inv.closed j oj hoj hl e he hb
     rw [hon,getD_both hun] at h2
     cases h2
    | false =>
     have hjs:j < listed.size:=by rw [inv.size]; omega
     exact ih (t - j) (by omega) j rfl (by omega) hjlp' (getD_in hjs hl) t (Nat.le_refl _) hr
  ·have h1:=List.all_eq_true.1 hc t (List.mem_range.2 htlt)
   simp only [Bool.or_eq_true,decide_eq_true_eq] at h1
   rcases h1 with h1 | h1
   ·omega
   ·obtain ⟨o',ho',e,he,hb,hon⟩:=Region.waitsFor_spec h1
    have:o' = ot:=Option.some.inj (ho'.symm.trans hot)
    subst this
    have h2:=hall e he hb
    rw [hon,getD_both (inv.tail (t - 1) (by omega) (by omega))] at h2
    cases h2
theorem tailB_spec {n:Nat} {lp:List Nat} (h:Region.tailB ops n lp = true) {listed:Array Bool} (inv:HeadInv .any ops n listed) {i:Nat} (hi:i < n) (hlp:i ∉ lp) (hun:listed.getD i true = false) :
  ∀ t∈Region.ready .any ops listed,t < n:=by
 intro t ht
 rcases Nat.lt_or_ge t n with h1 | h1
 ·exact h1
 ·simp only [Region.tailB,Bool.or_eq_true,Bool.and_eq_true,decide_eq_true_eq] at h
  rcases h.1 with h | ⟨hn,hs,hc⟩
  ·obtain ⟨_,ot,hot,_⟩:=mem_ready.1 ht
   have:=(Array.getElem?_eq_some_iff.1 hot).1
   omega
  ·exact absurd ht (tail_waits_late hs hc hn inv _ i rfl hi hlp hun t h1)
theorem wpDr_first {n n0 g i:Nat} {lp:List Nat} {bx:Boxes} {oi:Oper} {v:Value} {L:Array Bool→Act→List (Nat × Array Value)→World→Prop} (hi:ops[i]? = some oi) (hsel:∀ (j:Nat) (o:Oper) cs b,ops[j]? = some o→o.op≠.select cs b)
  (htl:Region.tailB ops n lp = true) (hin:i < n) (hilp:i ∉ lp) (hibx:¬∃ x∈bx,x.1 = i) (hQ:∀ c (a:Act) d v w,Q (.panic c) (a.put d v) w→Q (.panic c) a w) (hk:∀ w w',S w→w.grownBy w' row→S w') (hrow:∀ r,row = some r→r < n0)
  (hbx:∀ x∈bx,∃ o,ops[x.1]? = some o∧Makes P o x.2.1 x.2.2)
  (hdone:∀ listed a bs w,L listed a bs w→∀ j∈Region.ready .any ops listed,n≤j) :
  ∀ (f:Nat) (listed:Array Bool) (a:Act) (bs:List (Nat × Array Value)) (w:World),HeadInv .any ops n listed →
   (∀ j oj,ops[j]? = some oj→j≠i→listed.getD j true = false→(∀ e∈oj.after,Region.binds .any e = true→e.on≠i)→oi.apart ops oj = true) →
   i∈Region.ready .any ops listed→YieldsD P ops S row oi v a →
   wpDr P ops Q S row n n0 g bx L f (listed.setIfInBounds i true) (a.put oi.dst v) bs w→wpDr P ops Q S row n n0 g bx L (f + 1) listed a bs w:=by
 intro f
 induction f with
 | zero =>
  intro listed a bs w inv _ hr hy H w1 hs1 ht1
  have hun:=(mem_ready.1 hr).1
  refine ⟨fun h=>(by rw [h] at hr; cases hr),fun j hj=>?_⟩
  have hjn:j < n:=tailB_spec htl inv hin hilp hun j hj
  by_cases hji:j = i
  ·subst hji; exact ⟨fun h=>absurd h (by omega),fun _ h=>absurd h hibx,fun _ _=>hy.wpOp hi hs1 fun w' hg=>⟨hg,wpDr_drift H (gt_trans ht1 hg)⟩⟩
  ·have:=hdone _ _ _ _ (H w1 hs1 ht1) j (ready_mono hj hji)
   omega
 | succ f ih =>
  intro listed a bs w inv hfree hr hy H w1 hs1 ht1
  have hun:=(mem_ready.1 hr).1
  refine ⟨fun h=>(by rw [h] at hr; cases hr),fun j hj=>?_⟩
  have hjn:j < n:=tailB_spec htl inv hin hilp hun j hj
  by_cases hji:j = i
  ·subst hji; exact ⟨fun h=>absurd h (by omega),fun _ h=>absurd h hibx,fun _ _=>hy.wpOp hi hs1 fun w' hg=>⟨hg,wpDr_drift H (gt_trans ht1 hg)⟩⟩
  ·obtain ⟨_,hA,hB⟩:=(H w1 hs1 ht1).2 j (ready_mono hj hji)
   obtain ⟨hjun,oj,hoj,hall⟩:=mem_ready.1 hj
   have hnot:∀ e∈oj.after,Region.binds .any e = true→e.on≠i:=fun e he hb heq=>by
    have h1:=hall e he hb
    rw [heq,getD_both hun] at h1
    cases h1
   have hap:=hfree j oj hoj hji hjun hnot
   have hfree':∀ k ok,ops[k]? = some ok→k≠i→(listed.setIfInBounds j true).getD k true = false →
     (∀ e∈ok.after,Region.binds .any e = true→e.on≠i)→oi.apart ops ok = true:=fun k ok hk hki hun hno=>by
    refine hfree k ok hk hki ?_ hno
    by_cases hjk:j = k
    ·subst hjk; exact hjun
    ·rw [getD_set_ne true hjk] at hun; exact hun
   refine ⟨fun h=>absurd h (by omega),fun _ hx x hxm hxj b hfit=>?_,fun _ hx=>?_⟩
   ·have h1:=hA hjn hx x hxm hxj b hfit
    obtain ⟨o,ho,hmk⟩:=hbx x hxm
    rw [hxj] at ho
    obtain rfl:oj = o:=Option.some.inj (hoj.symm.trans ho)
    obtain ⟨a1,a2,a3⟩:=Oper.apart_spec hap
    have hd:=hmk.1
    refine ih (listed.setIfInBounds j true) _ _ w1 (inv.set hj hjn) hfree' (ready_mono hr (Ne.symm hji)) (hy.of_same (execOp_put oi (fun cs b=>hsel i oi cs b hi) a _ _ (fun d e=>a3 d (by rw [hd]; exact e))) (wanted_put oi a _ _ (fun d e=>a3 d (by rw [hd]; exact e)))) ?_
    rw [Array.setIfInBounds_comm _ _ hji,← Act.put_comm a v _ (fun d e e'=>a2 d e (by rw [hd]; exact e'))]
    exact h1
   ·have h2:=wpOp_putD hoj hap (fun cs b=>hsel i oi cs b hi) (fun cs b=>hsel j oj cs b hoj) hQ hy (hB hjn hx)
    refine wpOp_mono (fun a' w' h3=>⟨h3.2.1,ih (listed.setIfInBounds j true) a' bs w' (inv.set hj hjn) hfree' (ready_mono hr (Ne.symm hji)) h3.1 ?_⟩) h2
    rw [Array.setIfInBounds_comm _ _ hji]
    exact h3.2.2
theorem yields_d {o:Oper} {v:Value} {a:Act} (h:Yields P ops o v a):YieldsD P ops S row o v a :=
 h.imp (fun ⟨hw,hv⟩=>⟨hw,fun w _=>by rw [hv w]; exact ⟨rfl,gt_refl _ _⟩⟩) id
theorem wpDr_late {n n0 g i:Nat} {bx:Boxes} {oi:Oper} {v:Value} {L:Array Bool→Act→List (Nat × Array Value)→World→Prop} (hi:ops[i]? = some oi) (hsel:∀ (j:Nat) (o:Oper) cs b,ops[j]? = some o→o.op≠.select cs b)
  (hin:i < n) (hibx:¬∃ x∈bx,x.1 = i) (hQ:∀ c (a:Act) d v w,Q (.panic c) (a.put d v) w→Q (.panic c) a w) (hk:∀ w w',S w→w.grownBy w' row→S w')
  (hbx:∀ x∈bx,∃ o,ops[x.1]? = some o∧Makes P o x.2.1 x.2.2)
  (hdone:∀ listed a bs w,L listed a bs w→∀ j∈Region.ready .any ops listed,n≤j) (hLA:∀ listed a bs w,L listed a bs w→wpAny P .any ops Q g listed a w) :
  ∀ (f:Nat) (listed:Array Bool) (a:Act) (bs:List (Nat × Array Value)) (w:World),HeadInv .any ops n listed →
   (∀ j oj,ops[j]? = some oj→j≠i→listed.getD j true = false→(∀ e∈oj.after,Region.binds .any e = true→e.on≠i)→oi.apart ops oj = true) →
   i∈Region.ready .any ops listed→Yields P ops oi v a →
   wpDr P ops Q S row n n0 g bx L f (listed.setIfInBounds i true) (a.put oi.dst v) bs w→wpDr P ops Q S row n n0 g bx L (f + 1) listed a bs w:=by
 have hQ':∀ c (a:Act) w,Q (.panic c) (a.put oi.dst v) w→Q (.panic c) a w:=fun c a w h=>hQ c a _ _ w h
 intro f
 induction f with
 | zero =>
  intro listed a bs w inv hfree hr hy H w1 hs1 ht1
  have hun:=(mem_ready.1 hr).1
  refine ⟨fun h=>(by rw [h] at hr; cases hr),fun j hj=>?_⟩
  by_cases hji:j = i
  ·subst hji; exact ⟨fun h=>absurd h (by omega),fun _ h=>absurd h hibx,fun _ _=>(yields_d (S:=S) (row:=row) hy).wpOp hi hs1 fun w' hg=>⟨hg,wpDr_drift H (gt_trans ht1 hg)⟩⟩
  have hj2:=ready_mono hj hji
  have hnj:=hdone _ _ _ _ (H w1 hs1 ht1) j hj2
  refine ⟨fun _=>?_,fun h=>absurd h (by omega),fun h=>absurd h (by omega)⟩
  have HA:=hLA _ _ _ _ (H w1 hs1 ht1)
  obtain ⟨hjun,oj,hoj,hall⟩:=mem_ready.1 hj
  have hnot:∀ e∈oj.after,Region.binds .any e = true→e.on≠i:=fun e he hb heq=>by
   have h1:=hall e he hb
   rw [heq,getD_both hun] at h1
   cases h1
  have hfree':∀ k ok,ops[k]? = some ok→k≠i→(listed.setIfInBounds j true).getD k true = false →
    (∀ e∈ok.after,Region.binds .any e = true→e.on≠i)→oi.apart ops ok = true:=fun k ok hk hki hun hno=>by
   refine hfree k ok hk hki ?_ hno
   by_cases hjk:j = k
   ·subst hjk; exact hjun
   ·rw [getD_set_ne true hjk] at hun; exact hun
  cases g with
  | zero=>rw [HA.1] at hj2; cases hj2
  | succ g =>
   have h2:=wpOp_put hoj (hfree j oj hoj hji hjun hnot) (fun cs b=>hsel i oi cs b hi) (fun cs b=>hsel j oj cs b hoj) hQ' hy (HA.2 j hj2)
   rw [Nat.zero_add]
   refine wpOp_mono (fun a' w' h3=>wpAny_first hi hsel hQ' g _ a' w' hfree' (ready_mono hr (Ne.symm hji)) h3.1 ?_) h2
   rw [Array.setIfInBounds_comm _ _ hji]
   exact h3.2
 | succ f ih =>
  intro listed a bs w inv hfree hr hy H w1 hs1 ht1
  have hun:=(mem_ready.1 hr).1
  refine ⟨fun h=>(by rw [h] at hr; cases hr),fun j hj=>?_⟩
  by_cases hji:j = i
  ·subst hji; exact ⟨fun h=>absurd h (by omega),fun _ h=>absurd h hibx,fun _ _=>(yields_d (S:=S) (row:=row) hy).wpOp hi hs1 fun w' hg=>⟨hg,wpDr_drift H (gt_trans ht1 hg)⟩⟩
  obtain ⟨hC,hA,hB⟩:=(H w1 hs1 ht1).2 j (ready_mono hj hji)
  obtain ⟨hjun,oj,hoj,hall⟩:=mem_ready.1 hj
  have hnot:∀ e∈oj.after,Region.binds .any e = true→e.on≠i:=fun e he hb heq=>by
   have h1:=hall e he hb
   rw [heq,getD_both hun] at h1
   cases h1
  have hap:=hfree j oj hoj hji hjun hnot
  have hfree':∀ k ok,ops[k]? = some ok→k≠i→(listed.setIfInBounds j true).getD k true = false →
    (∀ e∈ok.after,Region.binds .any e = true→e.on≠i)→oi.apart ops ok = true:=fun k ok hk hki hun hno=>by
   refine hfree k ok hk hki ?_ hno
   by_cases hjk:j = k
   ·subst hjk; exact hjun
   ·rw [getD_set_ne true hjk] at hun; exact hun
  refine ⟨fun hnj=>?_,fun hjn hx x hxm hxj b hfit=>?_,fun hjn hx=>?_⟩
  ·have h2:=wpOp_put hoj hap (fun cs b=>hsel i oi cs b hi) (fun cs b=>hsel j oj cs b hoj) hQ' hy (hC hnj)
   refine wpOp_mono (fun a' w' h3=>?_) h2
   rw [show f + 1 + g = (f + g) + 1 by omega]
   refine wpAny_first hi hsel hQ' _ _ a' w' hfree' (ready_mono hr (Ne.symm hji)) h3.1 ?_
   rw [Array.setIfInBounds_comm _ _ hji]
   exact h3.2
  ·have h1:=hA hjn hx x hxm hxj b hfit
   obtain ⟨o,ho,hmk⟩:=hbx x hxm
   rw [hxj] at ho
   obtain rfl:oj = o:=Option.some.inj (hoj.symm.trans ho)
   obtain ⟨a1,a2,a3⟩:=Oper.apart_spec hap
   have hd:=hmk.1
   refine ih (listed.setIfInBounds j true) _ _ w1 (inv.set hj hjn) hfree' (ready_mono hr (Ne.symm hji)) (hy.of_same (execOp_put oi (fun cs b=>hsel i oi cs b hi) a _ _ (fun d e=>a3 d (by rw [hd]; exact e))) (wanted_put oi a _ _ (fun d e=>a3 d (by rw [hd]; exact e)))) ?_
   rw [Array.setIfInBounds_comm _ _ hji,← Act.put_comm a v _ (fun d e e'=>a2 d e (by rw [hd]; exact e'))]
   exact h1
  ·have h2:=wpOp_put hoj hap (fun cs b=>hsel i oi cs b hi) (fun cs b=>hsel j oj cs b hoj) hQ' hy (hB hjn hx)
   refine wpOp_mono (fun a' w' h3=>⟨h3.2.1,ih (listed.setIfInBounds j true) a' bs w' (inv.set hj hjn) hfree' (ready_mono hr (Ne.symm hji)) h3.1 ?_⟩) h2
   rw [Array.setIfInBounds_comm _ _ hji]
   exact h3.2.2
def Aft (row:Option Nat) (w:World) (K:Act→World→Prop):Exit→Act→World→Prop
 | .normal,a,w'=>w.grownBy w' row∧K a w'
 | _,_,_=>False
theorem not_letsOut_aft {w:World} {K:Act→World→Prop}:¬LetsOut (Aft row w K):=fun ⟨_,_,h⟩=>h
theorem wpOp_of_aft {i:Nat} {o:Oper} (ho:ops[i]? = some o) (hs:∀ cs b,o.op≠.select cs b) {d:Tmp} {u:Value} (h1:d ∉ o.looksAt ops) (h2:o.dst≠some d) {K:Act→World→Prop} {a:Act} {w w0:World} (h:wpList P ops (Aft row w0 K) [o] a w) :
  wpList P ops (Aft row w0 fun a' w'=>∃ a'',a' = a''.put (some d) u∧K a'' w') [o] (a.put (some d) u) w:=by
 have e1:execOp (a.put (some d) u).eval o = execOp a.eval o:=execOp_put o hs a (some d) u (fun d' e=>by cases e; exact h1)
 have e2:Region.wanted o (yielded ops (a.put (some d) u).tmps) = Region.wanted o (yielded ops a.tmps):=wanted_put o a (some d) u (fun d' e=>by cases e; exact h1)
 have e3:∀ v,(a.put (some d) u).put o.dst v = (a.put o.dst v).put (some d) u:=fun v=>Act.put_comm a u v (fun d' e=>by cases e; exact h2)
 unfold wpList at *
 rw [e2]
 split
 ·rename_i hw
  rw [if_pos hw] at h
  rcases h with h | ⟨_,h⟩
  case inr=>exact absurd h not_letsOut_aft
  refine .inl ?_
  unfold Oper.wp at *
  rw [e1]
  generalize (execOp a.eval o).run P w = r at *
  cases r with
  | ok n w' =>
   cases n <;> simp only [Oper.upon] at h ⊢
   case value v=>exact ⟨h.1,_,e3 v,h.2⟩
   case skip=>exact ⟨h.1,_,e3 _,h.2⟩
   case defer dd=>exact ⟨h.1,_,Act.put_comm (x:=some d) (y:=o.dst) ({ a with defers:=dd :: a.defers }:Act) u undef (fun d' e=>by cases e; exact h2),h.2⟩
   case enter f args =>
    refine Calls.mono h fun e w'' he=>?_
    cases e with
    | returned v=>exact ⟨he.1,_,e3 v,he.2⟩
    | panicked c=>exact he
    | outgrown=>exact absurd he not_letsOut_aft
   case row rr args=>exact Rows.mono h fun v w'' he=>⟨he.1,_,e3 v,he.2⟩
  | halt x w'=>cases x <;> simp only [Oper.upon] at h ⊢ <;> exact h
 ·rename_i hw
  rw [if_neg hw] at h
  exact ⟨h.1,_,e3 _,h.2⟩
theorem wpOp_aft {i:Nat} {o:Oper} (ho:ops[i]? = some o) {K:Act→World→Prop} {a:Act} {w w0:World} (h:wpList P ops (Aft row w0 K) [o] a w):wpOp P ops Q i (fun a' w'=>w0.grownBy w' row∧K a' w') a w:=by
 unfold wpOp
 simp only [ho]
 unfold wpList at h
 split
 ·rename_i hw
  rw [if_pos hw] at h
  rcases h with h | ⟨_,h⟩
  case inr=>exact absurd h not_letsOut_aft
  refine .inl ?_
  unfold Oper.wp at *
  generalize (execOp a.eval o).run P w = r at *
  cases r with
  | ok n w' =>
   cases n <;> simp only [Oper.upon] at h ⊢ <;> first
    | exact h
    | exact Calls.mono h (fun e w'' he=>by cases e <;> first | exact he | exact (he:False).elim | exact absurd he not_letsOut_aft)
    | exact Rows.mono h (fun _ _ he=>he)
  | halt x w'=>cases x <;> simp only [Oper.upon] at h ⊢ <;> first | exact h | exact (h:False).elim
 ·rename_i hw
  rw [if_neg hw] at h
  exact h
def MoreBoxes (bx:Boxes) (listed listed':Array Bool):Prop:=(∀ t,listed.getD t false = true→listed'.getD t false = true)∧(∀ t,listed'.getD t false = true→listed.getD t false = true∨∃ x∈bx,x.1 = t)
theorem wpList_aft_mono {o:Oper} {K K':Act→World→Prop} {a:Act} {w w0:World} (hm:∀ a w',w0.grownBy w' row→K a w'→K' a w') (h:wpList P ops (Aft row w0 K) [o] a w):wpList P ops (Aft row w0 K') [o] a w:=by
 unfold wpList at *
 split
 ·rename_i hw
  rw [if_pos hw] at h
  rcases h with h | ⟨_,h⟩
  case inr=>exact absurd h not_letsOut_aft
  refine .inl ?_
  unfold Oper.wp at *
  generalize (execOp a.eval o).run P w = r at *
  cases r with
  | ok n w' =>
   cases n <;> simp only [Oper.upon] at h ⊢ <;> first
    | exact ⟨h.1,hm _ _ h.1 h.2⟩
    | exact Calls.mono h (fun e w'' he=>by cases e <;> first | exact ⟨he.1,hm _ _ he.1 he.2⟩ | exact (he:False).elim | exact absurd he not_letsOut_aft)
    | exact Rows.mono h (fun _ _ he=>⟨he.1,hm _ _ he.1 he.2⟩)
  | halt x w'=>cases x <;> simp only [Oper.upon] at h ⊢ <;> exact h
 ·rename_i hw
  rw [if_neg hw] at h
  exact ⟨h.1,hm _ _ h.1 h.2⟩
theorem wpDr_call {n n0 g i:Nat} {lp:List Nat} {bx:Boxes} {oi:Oper} {L:Array Bool→Act→List (Nat × Array Value)→World→Prop} (hi:ops[i]? = some oi) (hsel:∀ cs b,oi.op≠.select cs b)
  (htl:Region.tailB ops n lp = true) (hin:i < n) (hilp:i ∉ lp) (hibx:¬∃ x∈bx,x.1 = i) (hk:∀ w w',S w→w.grownBy w' row→S w') (hrow:∀ r,row = some r→r < n0)
  (hbx:∀ x∈bx,x.2.1 ∉ oi.looksAt ops∧oi.dst≠some x.2.1) :
  ∀ (f:Nat) (rem:Boxes) (listed:Array Bool) (a:Act) (bs:List (Nat × Array Value)) (w:World),HeadInv .any ops n listed→i∈Region.ready .any ops listed →
   (∀ x∈bx,listed.getD x.1 true = false→x∈rem)→rem.length≤f →
   (∀ listed',MoreBoxes bx listed listed'→listed'.size = listed.size→∀ k∈Region.ready .any ops listed',k = i∨∃ x∈bx,x.1 = k) →
   (∀ w1,S w1→w.grownBy w1 row→wpList P ops (Aft row w1 fun a' w'=>wpDr P ops Q S row n n0 g bx L f (listed.setIfInBounds i true) a' bs w') [oi] a w1) →
   wpDr P ops Q S row n n0 g bx L (f + 1) listed a bs w:=by
 intro f
 induction f with
 | zero =>
  intro rem listed a bs w inv hr hrem hlen hone H w1 hs1 ht1
  have hun:=(mem_ready.1 hr).1
  refine ⟨fun h=>(by rw [h] at hr; cases hr),fun j hj=>?_⟩
  have hjn:j < n:=tailB_spec htl inv hin hilp hun j hj
  refine ⟨fun h=>absurd h (by omega),fun _ _ y hym hyj b hfit=>?_,fun _ hx=>?_⟩
  ·have h1:=hrem y hym (by rw [hyj]; exact (mem_ready.1 hj).1)
   rw [List.length_eq_zero_iff.1 (Nat.le_zero.1 hlen)] at h1
   cases h1
  ·rcases hone listed ⟨fun _ h=>h,fun _ h=>.inl h⟩ rfl j hj with rfl | h
   ·exact wpOp_aft hi (H w1 hs1 ht1)
   ·exact absurd h hx
 | succ f ih =>
  intro rem listed a bs w inv hr hrem hlen hone H w1 hs1 ht1
  have hun:=(mem_ready.1 hr).1
  refine ⟨fun h=>(by rw [h] at hr; cases hr),fun j hj=>?_⟩
  have hjn:j < n:=tailB_spec htl inv hin hilp hun j hj
  refine ⟨fun h=>absurd h (by omega),fun _ _ y hym hyj b hfit=>?_,fun _ hx=>?_⟩
  ·have hjun:=(mem_ready.1 hj).1
   have hji:j≠i:=fun e=>hibx ⟨y,hym,hyj.trans e⟩
   have hjs:j < listed.size:=by
    rcases Nat.lt_or_ge j listed.size with h | h
    ·exact h
    ·simp [Array.getElem?_eq_none h] at hjun
   have hmore:∀ listed',MoreBoxes bx (listed.setIfInBounds j true) listed'→MoreBoxes bx listed listed':=fun listed' ⟨m1,m2⟩ =>
    ⟨fun t ht=>m1 t (getD_set_true ht),fun t ht=>by
     rcases m2 t ht with h | h
     ·by_cases hjt:j = t
      ·exact .inr ⟨y,hym,hyj.trans hjt⟩
      ·rw [getD_set_ne false hjt] at h; exact .inl h
     ·exact .inr h⟩
   refine ih (rem.filter fun z=>z.1 != j) _ _ _ w1 (inv.set hj hjn) (ready_mono hr (Ne.symm hji)) (fun x hxm hxl=>?_) ?_ (fun listed' hm hsz=>hone listed' (hmore listed' hm) (by rw [hsz]; simp)) ?_
   ·have hne:j≠x.1:=fun e=>by
     subst e; simp [hjs] at hxl
    rw [getD_set_ne true hne] at hxl
    exact List.mem_filter.2 ⟨hrem x hxm hxl,by simpa using fun e=>hne e.symm⟩
   ·have h1:=hrem y hym (by rw [hyj]; exact hjun)
    have:(rem.filter fun z=>z.1 != j).length < rem.length:=by
     rcases Nat.lt_or_ge (rem.filter fun z=>z.1 != j).length rem.length with h | h
     ·exact h
     ·have:=(List.length_filter_eq_length_iff.1 (Nat.le_antisymm (List.length_filter_le _ _) h)) y h1
      simp [hyj] at this
    omega
   ·intro w2 hs2 ht2
    have h1:=wpOp_of_aft (i:=i) (d:=y.2.1) (u:=.pointer (some ⟨b,0,none⟩)) hi hsel (hbx y hym).1 (hbx y hym).2 (H w2 hs2 (gt_trans ht1 ht2))
    refine wpList_aft_mono (fun a' w' hg ⟨a'',e,hd⟩=>?_) h1
    subst e
    have hj2:j∈Region.ready .any ops (listed.setIfInBounds i true):=ready_mono hj hji
    have h2:=((hd w' (hk _ _ hs2 hg) (gt_refl _ _)).2 j hj2).2.1 hjn ⟨y,hym,hyj⟩ y hym hyj b ((hfit.gt ht2 hrow).gt hg hrow)
    rw [Array.setIfInBounds_comm _ _ hji]
    exact h2
  ·rcases hone listed ⟨fun _ h=>h,fun _ h=>.inl h⟩ rfl j hj with rfl | h
   ·exact wpOp_aft hi (H w1 hs1 ht1)
   ·exact absurd h hx
def fa (S:World→Prop) (n0:Nat) (K:Act→World→Prop):Boxes→List (Nat × Array Value)→Act→Prop
 | [],bs,a=>∀ w,S w→(∀ p∈bs,HB w p.1 p.2)→K a w
 | (_,d,zs) :: rem,bs,a=>∀ b,n0≤b→(∀ p∈bs,p.1≠b)→fa S n0 K rem ((b,zs) :: bs) (a.put (some d) (.pointer (some ⟨b,0,none⟩)))
theorem fa_mem {n0:Nat} {K:Act→World→Prop}:∀ {rem:Boxes} {bs bs':List (Nat × Array Value)} {a:Act},(∀ p,p∈bs↔p∈bs')→fa S n0 K rem bs a→fa S n0 K rem bs' a
 | [],bs,bs',a,he,h=>fun w hs hb=>h w hs fun p hp=>hb p ((he p).1 hp)
 | (_,d,zs) :: rem,bs,bs',a,he,h=>fun b hb hne=>fa_mem (fun p=>by simp [he p]) (h b hb fun p hp=>hne p ((he p).1 hp))
theorem fa_swap {n0:Nat} {K:Act→World→Prop} {x y:Nat × Tmp × Array Value} {rem:Boxes} {bs:List (Nat × Array Value)} {a:Act} (hne:x.2.1≠y.2.1) (h:fa S n0 K (x :: y :: rem) bs a):fa S n0 K (y :: x :: rem) bs a:=by
 obtain ⟨i,d,zs⟩:=x
 obtain ⟨j,e,us⟩:=y
 intro b hb hbs c hc hcs
 have h1:=h c hc (fun p hp=>hcs p (List.mem_cons_of_mem _ hp)) b hb (fun p hp=>by
  rcases List.mem_cons.1 hp with rfl | hp
  ·exact fun e=>hcs (b,us) (List.mem_cons_self) e.symm
  ·exact hbs p hp)
 rw [Act.put_comm _ _ _ (fun d' h'=>by cases h'; exact fun h''=>hne (by cases h''; rfl))] at h1
 exact fa_mem (fun p=>by simp only [List.mem_cons]; constructor <;> (rintro (h | h | h) <;> simp [h])) h1
theorem fa_front {n0:Nat} {K:Act→World→Prop} {x:Nat × Tmp × Array Value}:∀ {pre post:Boxes} {bs:List (Nat × Array Value)} {a:Act},(∀ y∈pre,y.2.1≠x.2.1)→fa S n0 K (pre ++ x :: post) bs a→fa S n0 K (x :: (pre ++ post)) bs a
 | [],_,_,_,_,h=>h
 | y :: pre,post,bs,a,hne,h=>by
  refine fa_swap (hne y List.mem_cons_self) ?_
  obtain ⟨j,e,us⟩:=y
  intro b hb hbs
  exact fa_front (fun z hz=>hne z (List.mem_cons_of_mem _ hz)) (h b hb hbs)
theorem map_inj_of_nodup {α β:Type} {f:α→β}:∀ {l:List α},(l.map f).Nodup→∀ {x y:α},x∈l→y∈l→f x = f y→x = y
 | [],_,_,_,h,_,_=>by cases h
 | z :: l,hn,x,y,hx,hy,e=>by
  rw [List.map_cons] at hn
  obtain ⟨h1,h2⟩:=List.nodup_cons.1 hn
  rcases List.mem_cons.1 hx with rfl | hx' <;> rcases List.mem_cons.1 hy with rfl | hy'
  ·rfl
  ·exact absurd (by rw [e]; exact List.mem_map_of_mem hy') h1
  ·exact absurd (by rw [← e]; exact List.mem_map_of_mem hx') h1
  ·exact map_inj_of_nodup h2 hx' hy' e
theorem wpDr_boxes {S':World→Prop} {n n0 g:Nat} {lp:List Nat} {bx:Boxes} {L:Array Bool→Act→List (Nat × Array Value)→World→Prop} {K:Act→World→Prop} (htl:Region.tailB ops n lp = true) (hblp:∀ x∈bx,x.1 ∉ lp) (hrow:∀ r,row = some r→r < n0)
  (hbd:(bx.map (·.2.1)).Nodup) (hbi:(bx.map (·.1)).Nodup) (hbo:∀ x∈bx,x.1 < n∧∃ o,ops[x.1]? = some o∧o.after = #[])
  (hL:∀ listed a bs w,HeadInv .any ops n listed→(∀ i,i < n→listed.getD i true = true)→K a w→L listed a bs w) :
  ∀ (k:Nat) (rem:Boxes) (listed:Array Bool) (a:Act) (bs:List (Nat × Array Value)) (w:World),rem.length = k→HeadInv .any ops n listed→rem.Sublist bx →
   (∀ x∈rem,listed.getD x.1 true = false)→(∀ i,i < n→listed.getD i true = false→∃ x∈rem,x.1 = i) →
   (∀ p∈bs,n0≤p.1∧HB w p.1 p.2)→(∀ w1,S w1→w.grownBy w1 row→S' w1)→fa S' n0 K rem bs a→wpDr P ops Q S row n n0 g bx L k listed a bs w:=by
 intro k
 induction k with
 | zero =>
  intro rem listed a bs w hlen inv hsub hrem hall hbs hS' h w1 hs1 ht1
  obtain rfl:rem = []:=List.length_eq_zero_iff.1 hlen
  refine hL _ _ _ _ inv (fun i hi=>?_) (h w1 (hS' w1 hs1 ht1) fun p hp=>(hbs p hp).2.gt ht1 (hbs p hp).1 hrow)
  cases e:listed.getD i true with
  | true=>rfl
  | false=>obtain ⟨x,hx,_⟩:=hall i hi e; cases hx
 | succ k ih =>
  intro rem listed a bs w hlen inv hsub hrem hall hbs hS' h w1 hs1 ht1
  have hready:∀ x∈rem,x.1∈Region.ready .any ops listed:=fun x hx=>by
   obtain ⟨_,o,ho,h0⟩:=hbo x (hsub.subset hx)
   refine mem_ready.2 ⟨hrem x hx,o,ho,fun e he=>?_⟩
   rw [h0] at he; simp at he
  have hne:∃ x0,x0∈rem:=by
   cases rem with
   | nil=>simp at hlen
   | cons x0 _=>exact ⟨x0,List.mem_cons_self⟩
  obtain ⟨x0,hx0⟩:=hne
  refine ⟨fun e=>(by have:=hready x0 hx0; rw [e] at this; cases this),fun i hi=>?_⟩
  have hun:=(mem_ready.1 hi).1
  have hin:i < n:=tailB_spec htl inv (hbo x0 (hsub.subset hx0)).1 (hblp x0 (hsub.subset hx0)) (hrem x0 hx0) i hi
  obtain ⟨x,hx,rfl⟩:=hall i hin hun
  refine ⟨fun h=>absurd h (by omega),fun _ _ y hym hyj b hfit=>?_,fun _ hno=>absurd ⟨x,hsub.subset hx,rfl⟩ hno⟩
  have hyx:y = x:=by
   exact map_inj_of_nodup hbi hym (hsub.subset hx) hyj
  subst hyx
  obtain ⟨pre,post,hpp⟩:=List.append_of_mem hx
  have hnd:=(hsub.map (·.2.1)).nodup hbd
  have hni:=(hsub.map (·.1)).nodup hbi
  have hfr:fa S' n0 K (y :: (pre ++ post)) bs a:=by
   refine fa_front (fun z hz=>?_) (by rw [← hpp]; exact h)
   rw [hpp] at hnd
   simp only [List.map_append,List.map_cons] at hnd
   exact (List.nodup_append.1 hnd).2.2 _ (List.mem_map_of_mem hz) _ List.mem_cons_self
  have hyne:∀ z∈pre ++ post,z.1≠y.1:=fun z hz=>by
   rw [hpp] at hni
   simp only [List.map_append,List.map_cons] at hni
   have h1:=List.nodup_append.1 hni
   rcases List.mem_append.1 hz with hz | hz
   ·exact h1.2.2 _ (List.mem_map_of_mem hz) _ List.mem_cons_self
   ·exact fun e=>(List.nodup_cons.1 h1.2.1).1 (by rw [← e]; exact List.mem_map_of_mem hz)
  have hperm:∀ z,z∈pre ++ post→z∈rem:=fun z hz=>by
   rw [hpp]
   rcases List.mem_append.1 hz with hz | hz
   ·exact List.mem_append_left _ hz
   ·exact List.mem_append_right _ (List.mem_cons_of_mem _ hz)
  refine ih (pre ++ post) _ _ _ _ (by have:=congrArg List.length hpp; simp at this hlen ⊢; omega) (inv.set hi hin) (((hpp ▸ (List.sublist_cons_self y post).append_left pre:(pre ++ post).Sublist rem)).trans hsub) (fun z hz=>?_) (fun j hj hjl=>?_) (fun p hp=>?_) (fun w2 hs2 ht2=>hS' w2 hs2 (gt_trans ht1 ht2)) ?_
  ·rw [getD_set_ne true (Ne.symm (hyne z hz))]; exact hrem z (hperm z hz)
  ·have hjne:y.1≠j:=fun e=>by
    subst e
    have hlt:y.1 < listed.size:=by
     rcases Nat.lt_or_ge y.1 listed.size with h | h
     ·exact h
     ·simp [Array.getElem?_eq_none h] at hun
    simp [hlt] at hjl
   rw [getD_set_ne true hjne] at hjl
   obtain ⟨z,hz,rfl⟩:=hall j hj hjl
   rw [hpp] at hz
   rcases List.mem_append.1 hz with hz | hz
   ·exact ⟨z,List.mem_append_left _ hz,rfl⟩
   ·rcases List.mem_cons.1 hz with rfl | hz
    ·exact absurd rfl hjne
    ·exact ⟨z,List.mem_append_right _ hz,rfl⟩
  ·rcases List.mem_cons.1 hp with rfl | hp
   ·exact ⟨hfit.1,hfit.2.2⟩
   ·exact ⟨(hbs p hp).1,(hbs p hp).2.gt ht1 (hbs p hp).1 hrow⟩
  ·exact hfr _ hfit.1 hfit.2.1
def dqL (P:Program) (ops:Array Oper) (S:World→Prop) (row:Option Nat) (K:Act→World→Prop):List (Nat × Nat)→Act→World→Prop
 | [],a,w=>K a w
 | (i,0) :: l,a,w=>∃ o v,ops[i]? = some o∧YieldsD P ops S row o v a∧dqL P ops S row K l (a.put o.dst v) w
 | (i,1) :: l,a,w=>∃ o,ops[i]? = some o∧∀ w1,S w1→w.grownBy w1 row→wpList P ops (Aft row w1 fun a' w'=>dqL P ops S row K l a' w') [o] a w1
 | (i,_ + 2) :: l,a,w=>∃ o v,ops[i]? = some o∧Yields P ops o v a∧dqL P ops S row K l (a.put o.dst v) w
def Region.full:Boxes→Array Bool→Array Bool
 | [],listed=>listed
 | x :: bx,listed=>(Region.full bx listed).setIfInBounds x.1 true
def Region.dqB (ops:Array Oper) (n:Nat) (lp:List Nat) (bx:Boxes):List (Nat × Nat)→Array Bool→Bool
 | [],_=>true
 | (i,k) :: l,listed=>decide (i < n) && (lp.contains i == decide (2≤k) && (!(bx.map (·.1)).contains i && ((Region.ready .any ops listed).contains i && ((if k≠1 then Region.free .any ops listed i else
   ((Region.ready .any ops (Region.full bx listed)).all fun t=>t == i || (bx.map (·.1)).contains t) && (match ops[i]? with | some o=>bx.all fun x => !(o.looksAt ops).contains x.2.1 && o.dst != some x.2.1 | none=>false)) &&
   Region.dqB ops n lp bx l (listed.setIfInBounds i true)))))
def Region.dqSet:List (Nat × Nat)→Array Bool→Array Bool
 | [],listed=>listed
 | (i,_) :: l,listed=>Region.dqSet l (listed.setIfInBounds i true)
theorem full_spec {bx:Boxes} {listed:Array Bool}:∀ t,((Region.full bx listed).getD t false = true→listed.getD t false = true∨∃ x∈bx,x.1 = t)∧(listed.getD t false = true→(Region.full bx listed).getD t false = true)∧((∃ x∈bx,x.1 = t)→t < listed.size→(Region.full bx listed).getD t false = true)∧(Region.full bx listed).size = listed.size:=by
 induction bx with
 | nil=>intro t; exact ⟨fun h=>.inl h,id,(fun ⟨x,hx,_⟩=>by cases hx),rfl⟩
 | cons y bx ih =>
  intro t
  obtain ⟨h1,h2,h3,h4⟩:=ih t
  refine ⟨fun h=>?_,fun h=>getD_set_true (h2 h),fun ⟨x,hx,e⟩ hlt=>?_,by simp [Region.full,h4]⟩
  ·by_cases hyt:y.1 = t
   ·exact .inr ⟨y,List.mem_cons_self,hyt⟩
   ·rw [Region.full,getD_set_ne false hyt] at h
    rcases h1 h with h | ⟨x,hx,e⟩
    ·exact .inl h
    ·exact .inr ⟨x,List.mem_cons_of_mem _ hx,e⟩
  ·by_cases hyt:y.1 = t
   ·subst hyt; simp [Region.full,h4,hlt]
   ·rcases List.mem_cons.1 hx with rfl | hx
    ·exact absurd e hyt
    ·exact getD_set_true (h3 ⟨x,hx,e⟩ hlt)
theorem dq_one {bx:Boxes} {listed:Array Bool} {i:Nat} (h:((Region.ready .any ops (Region.full bx listed)).all fun t=>t == i || (bx.map (·.1)).contains t) = true) :
  ∀ listed',MoreBoxes bx listed listed'→listed'.size = listed.size→∀ k∈Region.ready .any ops listed',k = i∨∃ x∈bx,x.1 = k:=by
 intro listed' ⟨m1,m2⟩ hsz k hk
 by_cases hb:∃ x∈bx,x.1 = k
 ·exact .inr hb
 ·obtain ⟨hkl,o,ho,hall⟩:=mem_ready.1 hk
  have hks:k < listed'.size:=by
   rcases Nat.lt_or_ge k listed'.size with h | h
   ·exact h
   ·simp [Array.getElem?_eq_none h] at hkl
  obtain ⟨f1,f2,f3,f4⟩:=full_spec (bx:=bx) (listed:=listed) k
  have hkf:(Region.full bx listed).getD k true = false:=by
   refine getD_in (by rw [f4,← hsz]; exact hks) ?_
   cases e:(Region.full bx listed).getD k false with
   | false=>rfl
   | true =>
    rcases f1 e with h | h
    ·have:=m1 k h
     rw [getD_both hkl] at this; cases this
    ·exact absurd h hb
  have hr:k∈Region.ready .any ops (Region.full bx listed):=mem_ready.2 ⟨hkf,o,ho,fun e he hbnd=>by
   have h1:=hall e he hbnd
   obtain ⟨_,g2,g3,_⟩:=full_spec (bx:=bx) (listed:=listed) e.on
   rcases m2 _ h1 with h | h
   ·exact g2 h
   ·refine g3 h ?_
    have:e.on < listed'.size:=by
     rcases Nat.lt_or_ge e.on listed'.size with h | h
     ·exact h
     ·simp [Array.getElem?_eq_none h] at h1
    omega⟩
  have:=List.all_eq_true.1 h k hr
  simp only [Bool.or_eq_true,beq_iff_eq,List.contains_iff_mem] at this
  rcases this with h | h
  ·exact .inl h
  ·obtain ⟨x,hx,e⟩:=List.mem_map.1 h
   exact .inr ⟨x,hx,e⟩
theorem wpDr_sched {n n0 g:Nat} {lp:List Nat} {bx:Boxes} {L:Array Bool→Act→List (Nat × Array Value)→World→Prop} {K:Act→World→Prop} (hsel:Region.noSelect ops = true) (htl:Region.tailB ops n lp = true) (hblp:∀ x∈bx,x.1 ∉ lp) (hQ:∀ c (a:Act) d v w,Q (.panic c) (a.put d v) w→Q (.panic c) a w)
  (hk:∀ w w',S w→w.grownBy w' row→S w') (hrow:∀ r,row = some r→r < n0)
  (hbd:(bx.map (·.2.1)).Nodup) (hbi:(bx.map (·.1)).Nodup) (hbo:∀ x∈bx,x.1 < n∧∃ o,ops[x.1]? = some o∧Makes P o x.2.1 x.2.2)
  (hdone:∀ listed a bs w,L listed a bs w→∀ j∈Region.ready .any ops listed,n≤j) (hLA:∀ listed a bs w,L listed a bs w→wpAny P .any ops Q g listed a w)
  (hL:∀ listed a bs w,HeadInv .any ops n listed→(∀ i,i < n→listed.getD i true = true)→K a w→L listed a bs w) :
  ∀ (sch:List (Nat × Nat)) (listed:Array Bool) (a:Act) (w:World),HeadInv .any ops n listed→Region.dqB ops n lp bx sch listed = true →
   ((∀ x∈bx,(Region.dqSet sch listed).getD x.1 true = false)∧(∀ i,i < n→(Region.dqSet sch listed).getD i true = false→∃ x∈bx,x.1 = i)) →
   dqL P ops S row (fun a w=>fa (fun w1=>S w1∧w.grownBy w1 row) n0 K bx [] a) sch a w→wpDr P ops Q S row n n0 g bx L (sch.length + bx.length) listed a [] w
 | [],listed,a,w,inv,hB,hall,h=>by
  rw [List.length_nil,Nat.zero_add]
  refine wpDr_boxes htl hblp hrow hbd hbi (fun x hx=>⟨(hbo x hx).1,?_⟩) hL bx.length bx listed a [] w rfl inv (List.Sublist.refl _) hall.1 hall.2 (by simp) (fun w1 hs1 ht1=>⟨hs1,ht1⟩) h
  obtain ⟨_,o,ho,hm⟩:=hbo x hx
  exact ⟨o,ho,hm.2.2.1⟩
 | (i,k) :: l,listed,a,w,inv,hB,hall,h=>by
  simp only [Region.dqB,Bool.and_eq_true,decide_eq_true_eq,Bool.not_eq_true',beq_iff_eq] at hB
  obtain ⟨hin,hlpk,hnb,hr,hf,hB⟩:=hB
  have hr':i∈Region.ready .any ops listed:=by simpa using hr
  have hnb':¬∃ x∈bx,x.1 = i:=fun ⟨x,hx,e⟩=>by
   have:(bx.map (·.1)).contains i = true:=by rw [List.contains_iff_mem]; exact e ▸ List.mem_map_of_mem hx
   rw [hnb] at this; cases this
  have hnlp:k < 2→i ∉ lp:=fun hk2 h=>by
   have h1:lp.contains i = true:=List.contains_iff_mem.2 h
   rw [h1] at hlpk
   have:=of_decide_eq_true hlpk.symm
   omega
  rw [List.length_cons,show l.length + 1 + bx.length = (l.length + bx.length) + 1 by omega]
  match k,h,hf,hnlp with
  | 0,h,hf,hnlp =>
   obtain ⟨o,v,ho,hy,h⟩:=h
   exact wpDr_first ho (Region.noSelect_spec hsel) htl hin (hnlp (by decide)) hnb' hQ hk hrow (fun x hx=>(hbo x hx).2) hdone _ listed a [] w inv (Region.free_spec ho (by simpa using hf)) hr' hy
    (wpDr_sched hsel htl hblp hQ hk hrow hbd hbi hbo hdone hLA hL l _ _ w (inv.set hr' hin) hB hall h)
  | 1,h,hf,hnlp =>
   obtain ⟨o,ho,h⟩:=h
   simp only [ne_eq,not_true_eq_false,if_false,Bool.and_eq_true,ho] at hf
   obtain ⟨hone,hap⟩:=hf
   refine wpDr_call ho (fun cs b=>Region.noSelect_spec hsel i o cs b ho) htl hin (hnlp (by decide)) hnb' hk hrow (fun x hx=>?_) (l.length + bx.length) bx listed a [] w inv hr' (fun x hx _=>hx) (by omega) (dq_one hone) (fun w1 hs1 ht1=>?_)
   ·have:=List.all_eq_true.1 hap x hx
    simp only [Bool.and_eq_true,Bool.not_eq_true',bne_iff_ne,ne_eq] at this
    refine ⟨fun hc=>?_,this.2⟩
    have h2:(o.looksAt ops).contains x.2.1 = true:=by rw [List.contains_iff_mem]; exact hc
    rw [this.1] at h2; cases h2
   ·refine wpList_aft_mono (fun a' w' hg hd=>?_) (h w1 hs1 ht1)
    exact wpDr_sched hsel htl hblp hQ hk hrow hbd hbi hbo hdone hLA hL l _ _ w' (inv.set hr' hin) hB hall hd
  | k + 2,h,hf,hnlp =>
   obtain ⟨o,v,ho,hy,h⟩:=h
   exact wpDr_late ho (Region.noSelect_spec hsel) hin hnb' hQ hk (fun x hx=>(hbo x hx).2) hdone hLA _ listed a [] w inv (Region.free_spec ho (by simpa using hf)) hr' hy
    (wpDr_sched hsel htl hblp hQ hk hrow hbd hbi hbo hdone hLA hL l _ _ w (inv.set hr' hin) hB hall h)
def Region.dqOk (ops:Array Oper) (n:Nat) (lp:List Nat) (sch:List (Nat × Nat)) (bx:Boxes):Bool :=
 Region.noSelect ops && (Region.tailB ops n lp && ((bx.all fun x => !lp.contains x.1) && (decide (n≤ops.size) && (Region.dqB ops n lp bx sch (Array.replicate ops.size false) && (decide (sch.length + bx.length = n) &&
  (decide ((bx.map (·.2.1)).Nodup) && (decide ((bx.map (·.1)).Nodup) && ((bx.all fun x=>decide (x.1 < n)) && (Region.seqB .any ops (ops.size - n) n (Array.replicate n true ++ Array.replicate (ops.size - n) false) &&
  ((bx.all fun x => !(Region.dqSet sch (Array.replicate ops.size false)).getD x.1 true) &&
  (List.range n).all fun i=>(Region.dqSet sch (Array.replicate ops.size false)).getD i true || (bx.map (·.1)).contains i))))))))))
theorem wp_region_dq {id:Nat} {a:Act} {w:World} {l:List Oper} {n0:Nat} (n:Nat) (lp:List Nat) (sch:List (Nat × Nat)) (bx:Boxes) (hm:P.follows .mixedOrders = true) (hB:Region.dqOk l.toArray n lp sch bx = true)
  (hQ:∀ c (a:Act) d v w,Q (.panic c) (a.put d v) w→Q (.panic c) a w) (hS:S w.drew) (hk:∀ w w',S w→w.grownBy w' row→S w') (hn0:∀ w,S w→n0≤w.heap.size) (hrow:∀ r,row = some r→r < n0)
  (hmk:∀ x∈bx,∃ o,l[x.1]? = some o∧Makes P o x.2.1 x.2.2)
  (h:dqL P l.toArray S row (fun a w=>fa (fun w1=>S w1∧w.grownBy w1 row) n0 (fun a w=>wpList P l.toArray Q (l.drop n) a w) bx [] a) sch a w.drew):(Code.region id l.toArray true).wp P Q a w:=by
 simp only [Region.dqOk,Bool.and_eq_true,decide_eq_true_eq] at hB
 obtain ⟨hsel,htl,hblp,hnl,hdq,hlen,hbd,hbi,hbn,hseq,hb1,hb2⟩:=hB
 have hnl':n≤l.length:=by simpa using hnl
 have inv0:HeadInv .any l.toArray n (Array.replicate l.toArray.size false) :=
  ⟨by simp,fun j oj _ hl=>(by rw [getD_replicate_false] at hl; cases hl),fun t _ ht=>getD_in (by simpa using ht) (getD_replicate_false _ _)⟩
 have hcanon:∀ listed:Array Bool,HeadInv .any l.toArray n listed→(∀ i,i < n→listed.getD i true = true)→listed = Array.replicate n true ++ Array.replicate (l.toArray.size - n) false:=fun listed inv hl=>by
  refine Array.ext (by rw [inv.size]; simp; omega) fun i h1 h2=>?_
  rw [Array.getElem_append]
  split
  ·rename_i h3
   have:=hl i (by simpa using h3)
   simp [h1] at this
   simp [this]
  ·rename_i h3
   have:=inv.tail i (by simpa using h3) (by rw [← inv.size]; exact h1)
   simp [h1] at this
   simp [this]
 have hbo:∀ x∈bx,x.1 < n∧∃ o,l.toArray[x.1]? = some o∧Makes P o x.2.1 x.2.2:=fun x hx=>by
  obtain ⟨o,ho,hmo⟩:=hmk x hx
  exact ⟨by simpa using List.all_eq_true.1 hbn x hx,o,by simpa using ho,hmo⟩
 refine wp_region_any hm ?_
 have hblp':∀ x∈bx,x.1 ∉ lp:=fun x hx hl=>by
  have h1:=List.all_eq_true.1 hblp x hx
  have h2:lp.contains x.1 = true:=List.contains_iff_mem.2 hl
  rw [h2] at h1; cases h1
 have hLA:∀ (listed:Array Bool) (a:Act) (bs:List (Nat × Array Value)) (w:World),(Region.seqB .any l.toArray (l.toArray.size - n) n listed = true∧wpList P l.toArray Q (l.drop n) a w)→wpAny P .any l.toArray Q (l.toArray.size - n) listed a w:=fun listed a bs w hL=>by
  have:=wpAny_of_seq (md:=.any) (Q':=Q) (l.drop n) n listed a w (fun j=>by simp [List.getElem?_drop]) (by rw [show (l.drop n).length = l.toArray.size - n by simp]; exact hL.1) hL.2
  rwa [show (l.drop n).length = l.toArray.size - n by simp] at this
 have H:=wpDr_sched (P:=P) (g:=l.toArray.size - n) (Q:=Q) (S:=S) (row:=row) (n:=n) (n0:=n0) (bx:=bx) (K:=fun a w=>wpList P l.toArray Q (l.drop n) a w) (L:=fun listed a bs w=>Region.seqB .any l.toArray (l.toArray.size - n) n listed = true∧wpList P l.toArray Q (l.drop n) a w)
  hsel htl hblp' hQ hk hrow hbd hbi hbo (fun listed a bs w hL=>seqB_ready hL.1) hLA (fun listed a bs w inv hl hK=>⟨by rw [hcanon listed inv hl]; exact hseq,hK⟩) sch _ a w.drew inv0 hdq
  ⟨fun x hx=>by simpa using List.all_eq_true.1 hb1 x hx,fun i hi hl=>by
   have:=List.all_eq_true.1 hb2 i (List.mem_range.2 hi)
   simp only [Bool.or_eq_true,List.contains_iff_mem] at this
   rcases this with h | h
   ·rw [hl] at h; cases h
   ·obtain ⟨x,hx,e⟩:=List.mem_map.1 h
    exact ⟨x,hx,e⟩⟩ h
 rw [hlen] at H
 have A:=wpAny_of_dr (g:=l.toArray.size - n) hk hn0 hrow (fun x hx=>(hbo x hx).2) hLA n _ a [] w.drew hS (by simp) H
 rw [show n + (l.toArray.size - n) = l.toArray.size by simp; omega] at A
 exact A
theorem dq_pure {K:Act→World→Prop} {i:Nat} {o:Oper} {l:List (Nat × Nat)} {a:Act} {w:World} {v:Value} (hi:ops[i]? = some o) (hw:Region.wanted o (yielded ops a.tmps) = true) (hv:∀ w,S w→(execOp a.eval o).run P w = .ok (.value v) w) (h:dqL P ops S row K l (a.put o.dst v) w):dqL P ops S row K ((i,0) :: l) a w :=
 ⟨o,v,hi,.inl ⟨hw,fun w hs=>by rw [hv w hs]; exact ⟨rfl,gt_refl _ _⟩⟩,h⟩
theorem dq_ask {K:Act→World→Prop} {i:Nat} {o:Oper} {l:List (Nat × Nat)} {a:Act} {w:World} {f:FuncId} {args:Array Value} {R:Value→World→Prop} (hi:ops[i]? = some o) (hw:Region.wanted o (yielded ops a.tmps) = true) (hv:∀ w,(execOp a.eval o).run P w = .ok (.enter f args) w)
  (hc:∀ w1,S w1→w.grownBy w1 row→Calls P f args w1 fun e w'=>∃ v,e = .returned v∧R v w'∧w1.grownBy w' row) (h:∀ v w',S w'→w.grownBy w' row→R v w'→dqL P ops S row K l (a.put o.dst v) w') (hk:∀ w w',S w→w.grownBy w' row→S w'):dqL P ops S row K ((i,1) :: l) a w :=
 ⟨o,hi,fun w1 hs1 ht1=>by
  unfold wpList
  rw [if_pos hw]
  refine .inl ?_
  unfold Oper.wp
  rw [hv w1]
  simp only [Oper.upon]
  refine Calls.mono (hc w1 hs1 ht1) fun e w' ⟨v,he,hr,hg⟩=>?_
  subst he
  exact ⟨hg,h v w' (hk _ _ hs1 hg) (gt_trans ht1 hg) hr⟩⟩
theorem dq_late {K:Act→World→Prop} {i:Nat} {o:Oper} {l:List (Nat × Nat)} {a:Act} {w:World} {v:Value} (hi:ops[i]? = some o) (hw:Region.wanted o (yielded ops a.tmps) = true) (hv:∀ w,(execOp a.eval o).run P w = .ok (.value v) w) (h:dqL P ops S row K l (a.put o.dst v) w):dqL P ops S row K ((i,2) :: l) a w :=
 ⟨o,v,hi,.inl ⟨hw,hv⟩,h⟩
theorem dq_nil {K:Act→World→Prop} {a:Act} {w:World} (h:K a w):dqL P ops S row K [] a w:=h
end
theorem ret_w {z z':Value} {x x':Bool} (h:z = z') (h2:x = x'):Value.tuple #[z,.bool x] = Value.tuple #[z',.bool x']:=by rw [h,h2]
end Go.Proofs.YtncmmbacoknefaaGreat

/- Sx: A symbolic run: what is known of slots and of boxes as plain data, and a condition of correctness that is reckoned from a small code; sound for the model's weakest preconditions. -/
namespace Go.Proofs.YtncmmbacoknefaaGreat
open Go Go.RowKit
set_option linter.unusedVariables false
set_option linter.unusedSimpArgs false
namespace Sx
inductive SV where
 | v (x:Value)
 | p (k off:Nat)
def SV.val (A:Nat→Nat):SV→Value
 | .v x=>x
 | .p k off=>.pointer (some ⟨A k,off,none⟩)
def SV.nm:SV→Nat
 | .v _=>0
 | .p k _=>k + 1
def gt {α:Type}:List (Nat × α)→Nat→Option α
 | [],_=>none
 | (k,v) :: l,j=>if k = j then some v else gt l j
def pt {α:Type}:List (Nat × α)→Nat→α→List (Nat × α)
 | [],j,v=>[(j,v)]
 | (k,u) :: l,j,v=>if k = j then (j,v) :: l else (k,u) :: pt l j v
theorem gt_pt {α:Type} (j:Nat) (v:α) (i:Nat):∀ l:List (Nat × α),gt (pt l j v) i = if j = i then some v else gt l i
 | []=>rfl
 | (k,u) :: l=>by
  unfold pt
  by_cases h:k = j
  ·subst h
   rw [if_pos rfl]
   unfold gt
   by_cases h2:k = i
   ·simp [h2]
   ·simp [h2]
  ·rw [if_neg h]
   unfold gt
   rw [gt_pt j v i l]
   by_cases h2:k = i
   ·subst h2
    simp [Ne.symm h]
   ·simp [h2]
def kpE {α:Type} (l:List (Nat × α)):List Nat→List (Nat × α)
 | []=>[]
 | t :: ts=>kpA t (gt l t) (kpE l ts)
where kpA (t:Nat):Option α→List (Nat × α)→List (Nat × α)
 | some v,r=>(t,v) :: r
 | none,r=>r
theorem gt_kpE {α:Type} {l:List (Nat × α)} {i:Nat} {v:α}:∀ {ts:List Nat},gt (kpE l ts) i = some v→gt l i = some v
 | [],h=>by cases h
 | t :: ts,h=>by
  unfold kpE at h
  cases ht:gt l t with
  | none=>rw [ht] at h; exact gt_kpE h
  | some u =>
   rw [ht] at h
   unfold kpE.kpA at h
   unfold gt at h
   by_cases e:t = i
   ·subst e
    rw [if_pos rfl] at h
    rw [ht,h]
   ·rw [if_neg e] at h
    exact gt_kpE h
def nms:List (Nat × SV)→List Nat
 | []=>[]
 | (_,.v _) :: l=>nms l
 | (_,.p k _) :: l=>k :: nms l
def elb (k:Nat):List Nat→Bool
 | []=>false
 | j :: l=>if j = k then true else elb k l
def kpH (ns:List Nat):List (Nat × List Value)→List (Nat × List Value)
 | []=>[]
 | (k,cs) :: l=>if elb k ns then (k,cs) :: kpH ns l else kpH ns l
theorem gt_kpH {ns:List Nat} {k:Nat} {cs:List Value}:∀ {l:List (Nat × List Value)},gt (kpH ns l) k = some cs→gt l k = some cs
 | [],h=>by cases h
 | (j,ds) :: l,h=>by
  unfold kpH at h
  by_cases e:j = k
  ·subst e
   by_cases hj:elb j ns = true
   ·rw [if_pos hj] at h
    unfold gt at h ⊢
    rw [if_pos rfl] at h ⊢
    exact h
   ·rw [if_neg hj] at h
    have no:∀ l:List (Nat × List Value),gt (kpH ns l) j = none:=fun l=>by
     induction l with
     | nil=>rfl
     | cons x l ih =>
      obtain ⟨i,es⟩:=x
      unfold kpH
      by_cases hi:elb i ns = true
      ·rw [if_pos hi]
       unfold gt
       rw [if_neg (fun e=>by subst e; exact hj hi)]
       exact ih
      ·rw [if_neg hi]; exact ih
    rw [no] at h; cases h
  ·by_cases hj:elb j ns = true
   ·rw [if_pos hj] at h
    unfold gt at h ⊢
    rw [if_neg e] at h ⊢
    exact gt_kpH h
   ·rw [if_neg hj] at h
    unfold gt
    rw [if_neg e]
    exact gt_kpH h
structure Ext where
 bs:List Nat
 ok:World→Prop
def ext0:Ext:=⟨[],fun _=>True⟩
structure St where
 n:Nat
 E:List (Nat × SV)
 H:List (Nat × List Value)
 T:Ext
structure Cx where
 P:Program
 w0:World
 N:Nat
 fr:Option (Ext × List Nat)
abbrev cx (P:Program) (w0:World) (N:Nat):Cx:=⟨P,w0,N,none⟩
def St.put (S:St) (d:Option Nat) (x:SV):St :=
 match d with
 | some t=>⟨S.n,pt S.E t x,S.H,S.T⟩
 | none=>S
def St.ev (S:St):Operand→Option SV
 | .tmp t=>gt S.E t
 | .const v=>some (.v v)
 | .global g=>some (.v (.pointer (some ⟨g,0,none⟩)))
 | .func f=>some (.v (.func (.func f) #[] #[]))
def St.keep (S:St):Option (List Nat)→St
 | some ts=>keepB S.n (kpE S.E ts) S.H S.T
 | none=>S
where keepB (n:Nat) (E:List (Nat × SV)) (H:List (Nat × List Value)) (T:Ext):St:=⟨n,E,kpH (nms E) H,T⟩
def Stab (C:Cx) (X:Ext):Prop:=∀ W W':World,W'.os = W.os→W'.tape = W.tape→W'.output = W.output→W.heap.size≤W'.heap.size →
 (∀ i,i < W.heap.size→(i∈X.bs∨i < C.w0.heap.size)→W'.heap[i]? = W.heap[i]?)→X.ok W→X.ok W'
theorem stab0 (C:Cx):Stab C ext0:=fun _ _ _ _ _ _ _ _=>trivial
structure HpOk (C:Cx) (A:Nat→Nat) (S:St) (W:World):Prop where
 bl:Below C.w0.heap.size C.w0 W
 hb:∀ k cs,gt S.H k = some cs→HB W (A k) cs.toArray
 ge:∀ k cs,gt S.H k = some cs→C.w0.heap.size≤A k
 kn:∀ k cs,gt S.H k = some cs→k < S.n
 inj:∀ k k' cs cs',gt S.H k = some cs→gt S.H k' = some cs'→A k = A k'→k = k'
 tk:S.T.ok W
 ts:Stab C S.T
 tn:∀ k cs,gt S.H k = some cs→A k ∉ S.T.bs
 tb:∀ b∈S.T.bs,C.w0.heap.size≤b∧b < W.heap.size
structure SlOk (C:Cx) (A:Nat→Nat) (S:St) (a:Act):Prop where
 df:a.defers = []
 sz:a.tmps.size = C.N
 sl:∀ t x,gt S.E t = some x→a.eval (.tmp t) = x.val A
 nm:∀ t x,gt S.E t = some x→x.nm≤S.n
def Ok (C:Cx) (A:Nat→Nat) (S:St) (a:Act) (W:World):Prop:=SlOk C A S a∧HpOk C A S W
theorem SlOk.ev {C:Cx} {A:Nat→Nat} {S:St} {a:Act} (h:SlOk C A S a) {x:Operand} {v:SV} (e:S.ev x = some v):a.eval x = v.val A:=by
 cases x with
 | tmp t=>exact h.sl t v e
 | const u=>cases e; rfl
 | global g=>cases e; rfl
 | func f=>cases e; rfl
theorem SlOk.evn {C:Cx} {A:Nat→Nat} {S:St} {a:Act} (h:SlOk C A S a) {x:Operand} {v:SV} (e:S.ev x = some v):v.nm≤S.n:=by
 cases x with
 | tmp t=>exact h.nm t v e
 | const u=>cases e; exact Nat.zero_le _
 | global g=>cases e; exact Nat.zero_le _
 | func f=>cases e; exact Nat.zero_le _
theorem eval_put {a:Act} {d:Nat} {v:Value} (hd:d < a.tmps.size) (t:Nat):(a.put (some d) v).eval (.tmp t) = if d = t then v else a.eval (.tmp t):=by
 show (a.tmps.setIfInBounds d v).getD t undef = if d = t then v else a.tmps.getD t undef
 by_cases h:d = t
 ·subst h
  simp [hd]
 ·simp [h]
theorem SlOk.put {C:Cx} {A:Nat→Nat} {S:St} {a:Act} (h:SlOk C A S a) {d:Option Nat} {x:SV} (hx:x.nm≤S.n) (hd:∀ t,d = some t→t < C.N):SlOk C A (S.put d x) (a.put d (x.val A)):=by
 cases d with
 | none=>exact h
 | some d =>
  refine ⟨h.df,?_,fun t y hy=>?_,fun t y hy=>?_⟩
  ·show (a.tmps.setIfInBounds d _).size = _
   rw [Array.size_setIfInBounds]; exact h.sz
  ·rw [eval_put (by rw [h.sz]; exact hd d rfl)]
   have hy':gt (pt S.E d x) t = some y:=hy
   rw [gt_pt] at hy'
   by_cases e:d = t
   ·rw [if_pos e] at hy' ⊢
    cases hy'; rfl
   ·rw [if_neg e] at hy' ⊢
    exact h.sl t y hy'
  ·have hy':gt (pt S.E d x) t = some y:=hy
   show y.nm≤S.n
   rw [gt_pt] at hy'
   by_cases e:d = t
   ·rw [if_pos e] at hy'
    cases hy'; exact hx
   ·rw [if_neg e] at hy'
    exact h.nm t y hy'
theorem HpOk.put {C:Cx} {A:Nat→Nat} {S:St} {W:World} (h:HpOk C A S W) (d:Option Nat) (x:SV):HpOk C A (S.put d x) W:=by
 cases d <;> exact ⟨h.bl,h.hb,h.ge,h.kn,h.inj,h.tk,h.ts,h.tn,h.tb⟩
theorem SlOk.keep {C:Cx} {A:Nat→Nat} {S:St} {a:Act} (h:SlOk C A S a) (ts:Option (List Nat)):SlOk C A (S.keep ts) a:=by
 cases ts with
 | none=>exact h
 | some ts=>exact ⟨h.df,h.sz,fun t x hx=>h.sl t x (gt_kpE hx),fun t x hx=>h.nm t x (gt_kpE hx)⟩
theorem HpOk.keep {C:Cx} {A:Nat→Nat} {S:St} {W:World} (h:HpOk C A S W) (ts:Option (List Nat)):HpOk C A (S.keep ts) W:=by
 cases ts with
 | none=>exact h
 | some ts=>exact ⟨h.bl,fun k cs e=>h.hb k cs (gt_kpH e),fun k cs e=>h.ge k cs (gt_kpH e),fun k cs e=>h.kn k cs (gt_kpH e),fun k k' cs cs' e e'=>h.inj k k' cs cs' (gt_kpH e) (gt_kpH e'),h.tk,h.ts,fun k cs e=>h.tn k cs (gt_kpH e),h.tb⟩
theorem HpOk.grow {C:Cx} {A:Nat→Nat} {S:St} {W W':World} (h:HpOk C A S W) (g:W.grownBy W' none):HpOk C A S W' :=
 ⟨below_more h.bl (below_gt g),fun k cs hk=>(h.hb k cs hk).below (below_gt g),h.ge,h.kn,h.inj,h.ts W W' g.os g.tape g.output g.size (fun i hi _=>g.block i hi (by simp)) h.tk,h.ts,h.tn,fun b hb=>⟨(h.tb b hb).1,Nat.lt_of_lt_of_le (h.tb b hb).2 g.size⟩⟩
theorem HpOk.drew {C:Cx} {A:Nat→Nat} {S:St} {W:World} (h:HpOk C A S W):HpOk C A S W.drew :=
 ⟨h.bl.drew,fun k cs hk=>(h.hb k cs hk).drew,h.ge,h.kn,h.inj,h.ts W W.drew rfl rfl rfl (Nat.le_refl _) (fun _ _ _=>rfl) h.tk,h.ts,h.tn,h.tb⟩
def St.new (S:St) (d:Option Nat) (zs:List Value):St:=St.put ⟨S.n + 1,S.E,(S.n,zs) :: S.H,S.T⟩ d (.p S.n 0)
def upA (A:Nat→Nat) (n b:Nat):Nat→Nat:=fun i=>if i = n then b else A i
theorem val_up {A:Nat→Nat} {n b:Nat} {x:SV} (h:x.nm≤n):x.val (upA A n b) = x.val A:=by
 cases x with
 | v _=>rfl
 | p k off =>
  have hk:k≠n:=by have:k + 1≤n:=h; omega
  show Value.pointer (some ⟨if k = n then b else A k,off,none⟩) = _
  rw [if_neg hk]; rfl
theorem Ok.new {C:Cx} {A:Nat→Nat} {S:St} {a:Act} {W W':World} {b:Nat} {zs:List Value} {d:Option Nat} (h:Ok C A S a W) (hd:∀ t,d = some t→t < C.N)
  (hb:HB W' b zs.toArray) (hn:C.w0.heap.size≤b) (hne:∀ k cs,gt S.H k = some cs→A k≠b) (hbt:b ∉ S.T.bs) (hbl:Below W.heap.size W W') :
  Ok C (upA A S.n b) (S.new d zs) (a.put d (.pointer (some ⟨b,0,none⟩))) W':=by
 obtain ⟨h1,h2⟩:=h
 have hup:upA A S.n b S.n = b:=by unfold upA; rw [if_pos rfl]
 have hlt:∀ k,k < S.n→upA A S.n b k = A k:=fun k hk=>by unfold upA; rw [if_neg (by omega)]
 have hcs:∀ k cs,gt ((S.n,zs) :: S.H) k = some cs→(k = S.n∧cs = zs)∨(k < S.n∧gt S.H k = some cs):=fun k cs hk=>by
  unfold gt at hk
  by_cases e:S.n = k
  ·rw [if_pos e] at hk; cases hk; exact .inl ⟨e.symm,rfl⟩
  ·rw [if_neg e] at hk; exact .inr ⟨h2.kn k cs hk,hk⟩
 have base:SlOk C (upA A S.n b) ⟨S.n + 1,S.E,(S.n,zs) :: S.H,S.T⟩ a :=
  ⟨h1.df,h1.sz,fun t x hx=>by rw [h1.sl t x hx,val_up (h1.nm t x hx)],fun t x hx=>Nat.le_succ_of_le (h1.nm t x hx)⟩
 refine ⟨?_,?_⟩
 ·have:=base.put (d:=d) (x:=.p S.n 0) (Nat.le_refl _) hd
  rw [show (SV.p S.n 0).val (upA A S.n b) = .pointer (some ⟨b,0,none⟩) by show Value.pointer (some ⟨upA A S.n b S.n,0,none⟩) = _; rw [hup]] at this
  exact this
 ·refine HpOk.put (S:=⟨S.n + 1,S.E,(S.n,zs) :: S.H,S.T⟩) ⟨below_more h2.bl hbl,fun k cs hk=>?_,fun k cs hk=>?_,fun k cs hk=>?_,fun k k' cs cs' hk hk' e=>?_,h2.ts W W' hbl.os hbl.tape hbl.output hbl.size (fun i hi _=>hbl.block i hi) h2.tk,h2.ts,fun k cs hk=>?_,fun b hb=>⟨(h2.tb b hb).1,Nat.lt_of_lt_of_le (h2.tb b hb).2 hbl.size⟩⟩ _ _
  rotate_right
  ·rcases hcs k cs hk with ⟨rfl,rfl⟩ | ⟨hl,hk⟩
   ·rw [hup]; exact hbt
   ·rw [hlt k hl]; exact h2.tn k cs hk
  ·rcases hcs k cs hk with ⟨rfl,rfl⟩ | ⟨hl,hk⟩
   ·rw [hup]; exact hb
   ·rw [hlt k hl]; exact (h2.hb k cs hk).below hbl
  ·rcases hcs k cs hk with ⟨rfl,rfl⟩ | ⟨hl,hk⟩
   ·rw [hup]; exact hn
   ·rw [hlt k hl]; exact h2.ge k cs hk
  ·rcases hcs k cs hk with ⟨rfl,rfl⟩ | ⟨hl,hk⟩
   ·exact Nat.lt_succ_self _
   ·exact Nat.lt_succ_of_lt hl
  ·rcases hcs k cs hk with ⟨rfl,rfl⟩ | ⟨hl,hk2⟩ <;> rcases hcs k' cs' hk' with ⟨rfl,rfl⟩ | ⟨hl',hk2'⟩
   ·rfl
   ·rw [hup,hlt k' hl'] at e
    exact absurd e.symm (hne k' cs' hk2')
   ·rw [hup,hlt k hl] at e
    exact absurd e (hne k cs hk2)
   ·rw [hlt k hl,hlt k' hl'] at e
    exact h2.inj k k' cs cs' hk2 hk2' e
theorem HpOk.set {C:Cx} {A:Nat→Nat} {S:St} {W:World} {k o:Nat} {cs:List Value} {v:Value} (h:HpOk C A S W) (hk:gt S.H k = some cs) :
  HpOk C A ⟨S.n,S.E,pt S.H k (cs.set o v),S.T⟩ (W.setCell ⟨A k,o,none⟩ v):=by
 have hcs:∀ j ds,gt (pt S.H k (cs.set o v)) j = some ds→(j = k∧ds = cs.set o v)∨(j≠k∧gt S.H j = some ds):=fun j ds hj=>by
  rw [gt_pt] at hj
  by_cases e:k = j
  ·rw [if_pos e] at hj; cases hj; exact .inl ⟨e.symm,rfl⟩
  ·rw [if_neg e] at hj; exact .inr ⟨fun e'=>e e'.symm,hj⟩
 refine ⟨h.bl.setCell (h.ge k cs hk) v,fun j ds hj=>?_,fun j ds hj=>?_,fun j ds hj=>?_,fun i j ds ds' hi hj e=>?_,?_,h.ts,fun j ds hj=>?_,fun b hb=>⟨(h.tb b hb).1,by rw [World.size_setCell]; exact (h.tb b hb).2⟩⟩
 rotate_right 2
 ·refine h.ts W _ rfl rfl rfl (by rw [World.size_setCell]; exact Nat.le_refl _) (fun i hi hor=>?_) h.tk
  refine Below.heap_setCell W _ v i (fun e=>?_)
  have e':i = A k:=e
  rcases hor with hor | hor
  ·exact h.tn k cs hk (e' ▸ hor)
  ·have:=h.ge k cs hk; omega
 ·rcases hcs j ds hj with ⟨rfl,rfl⟩ | ⟨hne,hj⟩
  ·exact h.tn j cs hk
  ·exact h.tn j ds hj
 ·rcases hcs j ds hj with ⟨rfl,rfl⟩ | ⟨hne,hj⟩
  ·exact (h.hb j cs hk).set (by simp)
  ·exact (h.hb j ds hj).setne (fun e=>hne (h.inj j k ds cs hj hk e))
 ·rcases hcs j ds hj with ⟨rfl,rfl⟩ | ⟨hne,hj⟩
  ·exact h.ge j cs hk
  ·exact h.ge j ds hj
 ·rcases hcs j ds hj with ⟨rfl,rfl⟩ | ⟨hne,hj⟩
  ·exact h.kn j cs hk
  ·exact h.kn j ds hj
 ·have hi':∃ es,gt S.H i = some es:=by rcases hcs i ds hi with ⟨rfl,rfl⟩ | ⟨_,hi⟩; exact ⟨cs,hk⟩; exact ⟨ds,hi⟩
  have hj':∃ es,gt S.H j = some es:=by rcases hcs j ds' hj with ⟨rfl,rfl⟩ | ⟨_,hj⟩; exact ⟨cs,hk⟩; exact ⟨ds',hj⟩
  obtain ⟨e1,h1⟩:=hi'
  obtain ⟨e2,h2⟩:=hj'
  exact h.inj i j e1 e2 h1 h2 e
end Sx
end Go.Proofs.YtncmmbacoknefaaGreat

/- SxO: A symbolic run: small operations, what they leave, and that the model's operations do that. -/
namespace Go.Proofs.YtncmmbacoknefaaGreat
open Go Go.RowKit
set_option linter.unusedVariables false
set_option linter.unusedSimpArgs false
namespace Sx
inductive GK where
 | bi (b:Builtin) (ts:List TypeId) (ty:TypeId) (cs:List Bool)
 | sl (t:TypeId) (lo hi mx:Bool)
 | mks (t:TypeId)
 | bsl (t:TypeId) (n:Nat) (ix:List Nat)
 | s2a (t:TypeId)
 | cvt (t u:TypeId)
 | al (t:TypeId)
 | fv
inductive M where
 | mv (x:Operand)
 | pick (c a b:Operand)
 | new (zs:List Value)
 | box (g:Bool) (m:Nat) (x:Operand)
 | ld (g:Bool) (m:Nat) (x:Operand)
 | st (g:Bool) (m:Nat) (x y:Operand)
 | fa (off:Nat) (x:Operand)
 | ia (len sz:Nat) (x i:Operand)
 | is (sz:Nat) (x i:Operand)
 | fd (g:Bool) (m off:Nat) (x:Operand)
 | ix (len:Nat) (g:Bool) (m:Nat) (x i:Operand)
 | bin (op:BinOp) (x y:Operand)
 | bq (ng:Bool) (x y:Operand)
 | eqg (ng:Bool) (t:TypeId) (x y:Operand)
 | un (op:UnOp) (x:Operand)
 | cv (k:IntKind) (x:Operand)
 | ex (x:Operand) (i:Nat)
 | len (str:Bool) (x:Operand)
 | mm (mx:Bool) (x y:Operand)
 | call (b:Bool) (f:FuncId) (args:List Operand)
 | trap
 | bd (zs:List Value) (ps:List (Nat × Nat × Operand))
 | gen (b:Bool) (k:GK) (args:List Operand)
 | nc (x:Operand)
abbrev G:=Option Nat × Option (Nat × Bool) × M
def szOf (P:Program) (t:TypeId):Option Nat:=(P.info? t).map (·.size)
def agOf (P:Program) (t:TypeId):Option Bool:=match P.underlying t with | some (.struct _)=>some true | some (.array _ _)=>some true | some _=>some false | none=>none
def gmOf (P:Program) (t:TypeId):Option (Bool × Nat):=match agOf P t,szOf P t with
 | some true,some m=>some (true,m)
 | some false,some 1=>some (false,1)
 | _,_=>none
theorem gmOf_spec {P:Program} {t:TypeId} {g:Bool} {m:Nat} (h:gmOf P t = some (g,m)):agOf P t = some g∧szOf P t = some m∧(g = false→m = 1):=by
 unfold gmOf at h
 cases hg:agOf P t with
 | none=>rw [hg] at h; cases h
 | some g' =>
  rw [hg] at h
  cases hm:szOf P t with
  | none=>rw [hm] at h; cases g' <;> cases h
  | some m' =>
   rw [hm] at h
   cases g' with
   | true=>cases h; exact ⟨rfl,rfl,fun e=>by cases e⟩
   | false =>
    rcases m' with _ | _ | m'
    ·cases h
    ·cases h; exact ⟨rfl,rfl,fun _=>rfl⟩
    ·cases h
def plOf (P:Program):List Field→Option (List (Nat × Nat))
 | []=>some []
 | f :: l=>match szOf P f.type,plOf P l with
  | some m,some r=>some ((f.offset,m) :: r)
  | _,_=>none
def ptsOf (place:Nat→Option (Nat × Nat)):List (Nat × Operand)→Option (List (Nat × Nat × Operand))
 | []=>some []
 | (i,x) :: l=>match place i,ptsOf place l with
  | some (o,m),some r=>some ((o,m,x) :: r)
  | _,_=>none
def compBd (P:Program) (t:TypeId) (parts:List (Nat × Operand)):Option M :=
 match P.info? t with
 | some i=>match i.zero with
  | some z=>match P.underlying t with
   | some (.struct fs)=>match plOf P fs.toList with
    | some pl=>match ptsOf (pl[·]?) parts with
     | some ps=>some (.bd z.cells.toList ps)
     | none=>none
    | none=>none
   | some (.array _ e)=>match szOf P e with
    | some m=>match ptsOf (fun i=>some (i * m,m)) parts with
     | some ps=>some (.bd z.cells.toList ps)
     | none=>none
    | none=>none
   | _=>none
  | none=>none
 | none=>none
def pubT (P:Program) (t:TypeId):Bool:=match P.underlying t with
 | some (.struct fs)=>fs.toList.any fun f=>match P.underlying f.type with | some (.slice _)=>true | _=>false
 | _=>false
def compOp (P:Program) (b:Bool):Op→Option M
 | .move x=>some (.mv x)
 | .assign x=>some (.mv x)
 | .pick c x y=>some (.pick c x y)
 | .nilCheck x=>some (.nc x)
 | .alloc t=>if pubT P t = true then none else match P.info? t with
  | some i=>match i.zero with
   | some z=>some (.new z.cells.toList)
   | none=>none
  | none=>none
 | .box t x=>match gmOf P t with
  | some (g,m)=>some (.box g m x)
  | none=>none
 | .load t x=>match gmOf P t with
  | some (g,m)=>some (.ld g m x)
  | none=>none
 | .store t x y=>match gmOf P t with
  | some (g,m)=>some (.st g m x y)
  | none=>none
 | .fieldAddr t x f=>match P.underlying t with
  | some (.struct fs)=>match fs[f]? with
   | some fl=>match szOf P fl.type with
    | some (m + 1)=>some (.fa fl.offset x)
    | _=>none
   | none=>none
  | _=>none
 | .indexAddr t x i=>match P.underlying t with
  | some (.array len e)=>match szOf P e with | some sz=>if 1 < len then some (.ia len sz x i) else none | none=>none
  | some (.slice e)=>match szOf P e with | some sz=>some (.is sz x i) | none=>none
  | _=>none
 | .build t parts=>compBd P t parts.toList
 | .field t x f=>match P.underlying t with
  | some (.struct fs)=>match fs[f]? with
   | some fl=>match gmOf P fl.type with
    | some (g,m)=>some (.fd g m fl.offset x)
    | none=>none
   | none=>none
  | _=>none
 | .index t x i=>match P.underlying t with
  | some (.array len e)=>match gmOf P e with
   | some (g,sz)=>some (.ix len g sz x i)
   | none=>none
  | _=>none
 | .binOp .eql t x y _=>match P.underlying t with
  | some .bool=>some (.bq false x y)
  | some (.int _)=>some (.bin .eql x y)
  | some _=>some (.eqg false t x y)
  | none=>none
 | .binOp .neq t x y _=>match P.underlying t with
  | some .bool=>some (.bq true x y)
  | some (.int _)=>some (.bin .neq x y)
  | some _=>some (.eqg true t x y)
  | none=>none
 | .binOp op _ x y _=>some (.bin op x y)
 | .unOp op _ x=>some (.un op x)
 | .convert s d x=>match P.underlying s,P.underlying d with
  | some (.int _),some (.int k)=>some (.cv k x)
  | _,_=>none
 | .extract x i=>some (.ex x i)
 | .call ⟨.value (.func f),args,_⟩=>some (.call b f args.toList)
 | .call ⟨.builtin .len,args,ts⟩=>match args.toList,ts[0]? with
  | [x],some t=>match P.underlying t with
   | some (.slice _)=>some (.len false x)
   | some .string=>some (.len true x)
   | _=>none
  | _,_=>none
 | .call ⟨.builtin .min,args,_⟩=>match args.toList with | [x,y]=>some (.mm false x y) | _=>none
 | .call ⟨.builtin .max,args,_⟩=>match args.toList with | [x,y]=>some (.mm true x y) | _=>none
 | _=>none
def isC:Operand→Bool
 | .const _=>true
 | _=>false
def compGen (b:Bool) (o:Oper):Option M :=
 match o.op with
 | .call ⟨.builtin bb,args,ts⟩=>some (.gen b (.bi bb ts.toList o.type (args.toList.map isC)) args.toList)
 | .call ⟨.value x,args,_⟩=>some (.gen b .fv (x :: args.toList))
 | .slice t x lo hi mx=>some (.gen b (.sl t lo.isSome hi.isSome mx.isSome) (x :: (lo.toList ++ (hi.toList ++ mx.toList))))
 | .makeSlice t l c=>some (.gen b (.mks t) [l,c])
 | .buildSlice t n parts=>some (.gen b (.bsl t n (parts.toList.map (·.1))) (parts.toList.map (·.2)))
 | .sliceToArrayPointer t x=>some (.gen b (.s2a t) [x])
 | .convert t u x=>some (.gen b (.cvt t u) [x])
 | .alloc t=>some (.gen b (.al t) [])
 | _=>none
def one? : Bool→List Value→Option Value × List Value
 | true,v :: l=>(some v,l)
 | _,l=>(none,l)
def genRun:GK→List Value→Sem Next
 | .bi b ts ty cs,vs=>builtin b ts.toArray ty cs.toArray vs.toArray
 | .sl t lo hi mx,x :: vs=>do pure (Next.value (← Instr.sliceAt t x (one? lo vs).1 (one? hi (one? lo vs).2).1 (one? mx (one? hi (one? lo vs).2).2).1))
 | .mks t,[l,c]=>do pure (Next.value (← Instr.makeSlice t l c))
 | .bsl t n ix,vs=>do pure (Next.value (← Instr.buildSlice t n (ix.zip vs).toArray))
 | .s2a t,[x]=>do pure (Next.value (← Instr.arrayAt t x))
 | .cvt t u,[x]=>do pure (Next.value (← convert t u x))
 | .al t,[]=>do pure (Next.value (← Instr.alloc t true (.tuple #[])))
 | .fv,f :: vs=>do let d ← Deferred.ofValue f vs.toArray; invoke d.target d.args
 | _,_=>stuck ""
theorem gen_run {b b':Bool} {o:Oper} {k:GK} {l:List Operand} (h:compGen b o = some (.gen b' k l)) (ρ:Operand→Value):b' = b∧execOp ρ o = genRun k (l.map ρ):=by
 unfold compGen at h
 split at h
 ·rename_i bb args ts ho
  cases h
  refine ⟨rfl,?_⟩
  unfold execOp
  rw [ho]
  show (do let d ← resolve ρ ⟨.builtin bb,args,ts⟩ o.type; invoke d.target d.args) = builtin bb ts.toList.toArray o.type (args.toList.map isC).toArray (args.toList.map ρ).toArray
  have e1:ts.toList.toArray = ts:=by simp
  have e2:(args.toList.map ρ).toArray = args.map ρ:=by cases args; simp
  have e3:(args.toList.map isC).toArray = args.map (fun | .const _=>true | _=>false):=by
   cases args with | mk l=>(simp [isC]; try (intro x _; cases x <;> rfl))
  rw [e1,e2,e3]
  rfl
 ·rename_i x args ts ho
  cases h
  refine ⟨rfl,?_⟩
  unfold execOp
  rw [ho]
  show (do let d ← Deferred.ofValue (ρ x) (args.map ρ); invoke d.target d.args) = (do let d ← Deferred.ofValue (ρ x) (args.toList.map ρ).toArray; invoke d.target d.args)
  have e2:(args.toList.map ρ).toArray = args.map ρ:=by cases args; simp
  rw [e2]
 ·rename_i t x lo hi mx ho
  cases h
  refine ⟨rfl,?_⟩
  unfold execOp
  rw [ho]
  cases lo <;> cases hi <;> cases mx <;> rfl
 ·rename_i t p c ho
  cases h
  refine ⟨rfl,?_⟩
  unfold execOp
  rw [ho]
  rfl
 ·rename_i t n parts ho
  cases h
  refine ⟨rfl,?_⟩
  unfold execOp
  rw [ho]
  show (do pure (Next.value (← Instr.buildSlice t n (parts.map fun (i,x)=>(i,ρ x))))) = (do pure (Next.value (← Instr.buildSlice t n ((parts.toList.map (·.1)).zip ((parts.toList.map (·.2)).map ρ)).toArray)))
  have e:((parts.toList.map (·.1)).zip ((parts.toList.map (·.2)).map ρ)).toArray = parts.map fun (x:Nat × Operand)=>(x.1,ρ x.2):=by
   clear ho
   cases parts with | mk l =>
   simp only [List.map_toArray]
   congr 1
   induction l with
   | nil=>rfl
   | cons y l ih=>simpa using ih
  rw [e]
 ·rename_i t x ho
  cases h
  refine ⟨rfl,?_⟩
  unfold execOp
  rw [ho]
  rfl
 ·rename_i t u x ho
  cases h
  refine ⟨rfl,?_⟩
  unfold execOp
  rw [ho]
  rfl
 ·rename_i t ho
  cases h
  refine ⟨rfl,?_⟩
  unfold execOp
  rw [ho]
  rfl
 ·cases h
def sub:List Value→Nat→Nat→Option (List Value)
 | _,0,0=>some []
 | [],_,_=>none
 | v :: l,0,m + 1=>subc v (sub l 0 m)
 | _ :: l,o + 1,m=>sub l o m
where subc (v:Value):Option (List Value)→Option (List Value)
 | some l=>some (v :: l)
 | none=>none
theorem sub_get:∀ {cs:List Value} {o m:Nat} {l:List Value},sub cs o m = some l→l.length = m∧∀ j,j < m→l[j]? = cs[o + j]?
 | cs,0,0,l,h=>by
  have:l = []:=by cases cs <;> (unfold sub at h; cases h; rfl)
  subst this
  exact ⟨rfl,fun j hj=>absurd hj (Nat.not_lt_zero _)⟩
 | [],0,m + 1,l,h=>by unfold sub at h; cases h
 | [],o + 1,m,l,h=>by unfold sub at h; cases h
 | v :: cs,0,m + 1,l,h=>by
  unfold sub at h
  cases hs:sub cs 0 m with
  | none=>rw [hs] at h; cases h
  | some l' =>
   rw [hs] at h
   cases h
   obtain ⟨h1,h2⟩:=sub_get hs
   refine ⟨by simp [h1],fun j hj=>?_⟩
   rcases j with _ | j
   ·simp
   ·have:=h2 j (by omega)
    simp only [List.getElem?_cons_succ,Nat.zero_add] at this ⊢
    exact this
 | v :: cs,o + 1,m,l,h=>by
  unfold sub at h
  obtain ⟨h1,h2⟩:=sub_get h
  refine ⟨h1,fun j hj=>?_⟩
  rw [h2 j hj,show o + 1 + j = (o + j) + 1 by omega,List.getElem?_cons_succ]
def mk:Bool→List Value→Value
 | true,l=>.agg l.toArray
 | false,[v]=>v
 | false,_=>undef
def one:Value→Bool
 | .agg _=>false
 | .tuple _=>false
 | _=>true
def all1:List Value→Bool
 | []=>true
 | v :: l=>one v && all1 l
def cellsO:Bool→Option SV→Option (List Value)
 | true,some (.v (.agg cs))=>some cs.toList
 | false,some (.v x)=>if one x then some [x] else none
 | _,_=>none
def binV (op:BinOp) (k:IntKind) (x y:Int):Option (Prop × Value) :=
 match op with
 | .add=>some (True,.int k (k.wrap (x + y)))
 | .sub=>some (True,.int k (k.wrap (x - y)))
 | .mul=>some (True,.int k (k.wrap (x * y)))
 | .quo=>some (y≠0,.int k (k.wrap (x.tdiv y)))
 | .rem=>some (y≠0,.int k (x.tmod y))
 | .and=>some (True,.int k (k.wrap (BitVec.ofInt k.bits x &&& BitVec.ofInt k.bits y).toNat))
 | .or=>some (True,.int k (k.wrap (BitVec.ofInt k.bits x ||| BitVec.ofInt k.bits y).toNat))
 | .xor=>some (True,.int k (k.wrap (BitVec.ofInt k.bits x ^^^ BitVec.ofInt k.bits y).toNat))
 | .eql=>some (True,.bool (x == y))
 | .neq=>some (True,.bool (x != y))
 | .lss=>some (True,.bool (decide (x < y)))
 | .leq=>some (True,.bool (decide (x≤y)))
 | .gtr=>some (True,.bool (decide (y < x)))
 | .geq=>some (True,.bool (decide (y≤x)))
 | _=>none
def shV (op:BinOp) (k:IntKind) (x y:Int):Option (Prop × Value) :=
 match op with
 | .shl=>some (¬ y < 0,.int k (k.wrap (x * 2 ^ (min y.toNat k.bits))))
 | .shr=>some (¬ y < 0,.int k (x.fdiv (2 ^ (min y.toNat k.bits))))
 | _=>none
def binS (op:BinOp):Option SV→Option SV→Option (Prop × Value)
 | some (.v (.int k x)),some (.v (.int k' y))=>match op with
  | .shl=>shV .shl k x y
  | .shr=>shV .shr k x y
  | op=>if k = k' then binV op k x y else none
 | some (.v (.string x)),some (.v (.string y))=>match op with
  | .add=>some (¬ ((x.size + y.size:Nat):Int) > IntKind.i64.max,.string (x ++ y))
  | .eql=>some (True,.bool (x.toList == y.toList))
  | _=>none
 | _,_=>none
def bqS (ng:Bool):Option SV→Option SV→Option (Prop × Value)
 | some (.v (.bool x)),some (.v (.bool y))=>match ng with
  | false=>some (True,.bool (x == y))
  | true=>some (True,.bool (!(x == y)))
 | _,_=>none
def unS (op:UnOp):Option SV→Option (Prop × Value)
 | some (.v (.bool x))=>match op with | .not=>some (True,.bool (!x)) | _=>none
 | some (.v (.int k x))=>match op with | .neg=>some (True,.int k (k.wrap (0 - x))) | _=>none
 | _=>none
def cvS (k:IntKind):Option SV→Option (Prop × Value)
 | some (.v (.int _ n))=>some (True,.int k (k.wrap n))
 | _=>none
def nth:List Value→Nat→Option Value
 | [],_=>none
 | v :: _,0=>some v
 | _ :: l,i + 1=>nth l i
theorem nth_eq:∀ (l:List Value) (i:Nat),nth l i = l[i]?
 | [],i=>by simp [nth]
 | v :: l,0=>by simp [nth]
 | v :: l,i + 1=>by simp [nth,nth_eq l i]
def tr:Option Value→Option (Prop × Value)
 | some v=>some (True,v)
 | none=>none
def exS (i:Nat):Option SV→Option (Prop × Value)
 | some (.v (.tuple vs))=>tr (nth vs.toList i)
 | _=>none
def lenS:Bool→Option SV→Option (Prop × Value)
 | false,some (.v (.slice _ l _))=>some (True,.int .i64 l)
 | true,some (.v (.string s))=>some (True,.int .i64 s.size)
 | _,_=>none
def mmS (mx:Bool):Option SV→Option SV→Option (Prop × Value)
 | some (.v (.int k x)),some (.v (.int _ y))=>match mx with
  | false=>some (True,.int k (if y < x then y else x))
  | true=>some (True,.int k (if x < y then y else x))
 | _,_=>none
def fdS (g:Bool) (m off:Nat):Option SV→Option (Prop × Value)
 | some (.v (.agg cs))=>tr ((sub cs.toList off m).map (mk g))
 | _=>none
def ixC (len:Nat) (i:Int):Option (List Value)→Bool→Option (Prop × Value)
 | some l,g=>some (0≤i∧i < len,mk g l)
 | none,_=>none
def ixS (len:Nat) (g:Bool) (m:Nat):Option SV→Option SV→Option (Prop × Value)
 | some (.v (.agg cs)),some (.v (.int _ i))=>ixC len i (sub cs.toList (i.toNat * m) m) g
 | _,_=>none
def val1:Option (Prop × Value)→Option (Prop × SV)
 | some (c,v)=>some (c,.v v)
 | none=>none
def sv1:Option SV→Option (Prop × SV)
 | some x=>some (True,x)
 | none=>none
def pickS (a b:Option SV):Option SV→Option (Prop × SV)
 | some (.v (.bool true))=>sv1 a
 | some (.v (.bool false))=>sv1 b
 | _=>none
def faS (off:Nat):Option SV→Option (Prop × SV)
 | some (.p k o)=>some (True,.p k (o + off))
 | some (.v (.pointer (some ⟨b,o,none⟩)))=>some (True,.v (.pointer (some ⟨b,o + off,none⟩)))
 | _=>none
def ncS:Option SV→Option (Prop × SV)
 | some (.p k o)=>some (True,.p k o)
 | some (.v (.pointer (some a)))=>some (True,.v (.pointer (some a)))
 | _=>none
def iaS (len sz:Nat):Option SV→Option SV→Option (Prop × SV)
 | some (.p k o),some (.v (.int _ i))=>some (0≤i∧i < len,.p k (o + i.toNat * sz))
 | _,_=>none
def isS (sz:Nat):Option SV→Option SV→Option (Prop × SV)
 | some (.v (.slice (some ⟨b,o,none⟩) l _)),some (.v (.int _ i))=>some (0≤i∧i < l,.v (.pointer (some ⟨b,o + i.toNat * sz,none⟩)))
 | _,_=>none
def ovc (v:Value):Option (List Value)→Option (List Value)
 | some l=>some (v :: l)
 | none=>none
def ovrO:List Value→Nat→List Value→Option (List Value)
 | cs,0,[]=>some cs
 | c :: cs,0,v :: vs=>ovc v (ovrO cs 0 vs)
 | c :: cs,o + 1,vs=>ovc c (ovrO cs o vs)
 | [],_,_=>none
def lenB:List Value→Nat→Bool
 | [],0=>true
 | _ :: l,m + 1=>lenB l m
 | _,_=>false
theorem ovrO_nil:∀ {cs:List Value} {o:Nat} {cs':List Value},ovrO cs o [] = some cs'→cs' = cs
 | cs,0,cs',h=>by cases cs <;> (unfold ovrO at h; cases h; rfl)
 | [],o + 1,cs',h=>by unfold ovrO at h; cases h
 | c :: cs,o + 1,cs',h=>by
  unfold ovrO at h
  cases hr:ovrO cs o [] with
  | none=>rw [hr] at h; cases h
  | some r=>rw [hr] at h; cases h; rw [ovrO_nil hr]
theorem ovrO_cons:∀ {cs:List Value} {o:Nat} {v:Value} {vs cs':List Value},ovrO cs o (v :: vs) = some cs'→o < cs.length∧ovrO (cs.set o v) (o + 1) vs = some cs'
 | [],o,v,vs,cs',h=>by cases o <;> (unfold ovrO at h; cases h)
 | c :: cs,0,v,vs,cs',h=>by
  unfold ovrO at h
  refine ⟨Nat.zero_lt_succ _,?_⟩
  cases hr:ovrO cs 0 vs with
  | none=>rw [hr] at h; cases h
  | some r =>
   rw [hr] at h; cases h
   show ovrO (v :: cs) (0 + 1) vs = _
   unfold ovrO
   rw [hr]; rfl
 | c :: cs,o + 1,v,vs,cs',h=>by
  unfold ovrO at h
  cases hr:ovrO cs o (v :: vs) with
  | none=>rw [hr] at h; cases h
  | some r =>
   rw [hr] at h; cases h
   obtain ⟨h1,h2⟩:=ovrO_cons hr
   refine ⟨Nat.succ_lt_succ h1,?_⟩
   show ovrO (c :: cs.set o v) ((o + 1) + 1) vs = _
   unfold ovrO
   rw [h2]; rfl
theorem lenB_eq:∀ {l:List Value} {m:Nat},lenB l m = true→l.length = m
 | [],0,_=>rfl
 | [],m + 1,h=>by cases h
 | v :: l,0,h=>by cases h
 | v :: l,m + 1,h=>by rw [List.length_cons,lenB_eq (l:=l) (m:=m) h]
def cellsV:Option SV→Option (List Value)
 | some (.v x)=>some x.cells.toList
 | _=>none
def bd2 (r:Bool) (o:Nat) (cs vs:List Value) (K:List Value→Option (List Value)):Option (List Value) :=
 match r,ovrO cs o vs with
 | true,some cs'=>K cs'
 | _,_=>none
def bd1 (m o:Nat) (cs:List Value) (K:List Value→Option (List Value)):Option (List Value)→Option (List Value)
 | some vs=>bd2 (lenB vs m) o cs vs K
 | none=>none
def bdS (S:St):List (Nat × Nat × Operand)→List Value→Option (List Value)
 | [],cs=>some cs
 | (o,m,x) :: r,cs=>bd1 m o cs (bdS S r) (cellsV (S.ev x))
def bdR:Option (List Value)→Option (Prop × Value)
 | some cs=>some (True,.agg cs.toArray)
 | none=>none
def pv (S:St):M→Option (Prop × SV)
 | .mv x=>sv1 (S.ev x)
 | .pick c a b=>pickS (S.ev a) (S.ev b) (S.ev c)
 | .fa off x=>faS off (S.ev x)
 | .nc x=>ncS (S.ev x)
 | .ia len sz x i=>iaS len sz (S.ev x) (S.ev i)
 | .is sz x i=>isS sz (S.ev x) (S.ev i)
 | .fd g m off x=>val1 (fdS g m off (S.ev x))
 | .ix len g m x i=>val1 (ixS len g m (S.ev x) (S.ev i))
 | .bin op x y=>val1 (binS op (S.ev x) (S.ev y))
 | .bq ng x y=>val1 (bqS ng (S.ev x) (S.ev y))
 | .un op x=>val1 (unS op (S.ev x))
 | .cv k x=>val1 (cvS k (S.ev x))
 | .ex x i=>val1 (exS i (S.ev x))
 | .len b x=>val1 (lenS b (S.ev x))
 | .mm mx x y=>val1 (mmS mx (S.ev x) (S.ev y))
 | .bd zs ps=>val1 (bdR (bdS S ps zs))
 | _=>none
theorem run_bind_ok {α β:Type} {P:Program} {s:Sem α} {f:α→Sem β} {W W':World} {v:α} (h:s.run P W = .ok v W'):(s >>= f).run P W = (f v).run P W':=by
 simp [go_sem,h]
theorem run_agOf {P:Program} {t:TypeId} {g:Bool} (h:agOf P t = some g) (W:World):(isAgg t).run P W = .ok g W:=by
 unfold agOf at h
 unfold isAgg underlying
 cases hu:P.underlying t with
 | none=>rw [hu] at h; cases h
 | some d=>rw [hu] at h; cases d <;> cases h <;> simp [go_sem,hu]
theorem run_szOf {P:Program} {t:TypeId} {m:Nat} (h:szOf P t = some m) (W:World):(sizeOf t).run P W = .ok m W:=by
 unfold szOf at h
 unfold sizeOf typeInfo
 cases hu:P.info? t with
 | none=>rw [hu] at h; cases h
 | some i=>rw [hu] at h; cases h; simp [go_sem,hu]
theorem run_part {P:Program} {t:TypeId} {g:Bool} {m off:Nat} {cs:Array Value} {l:List Value} (hgm:gmOf P t = some (g,m)) (h:sub cs.toList off m = some l) (W:World) :
  (part t cs off).run P W = .ok (mk g l) W:=by
 obtain ⟨h1,h2⟩:=sub_get h
 obtain ⟨hg,hm,hg1⟩:=gmOf_spec hgm
 unfold part
 rw [run_bind_ok (run_agOf hg W)]
 cases g with
 | true =>
  simp only [if_true]
  rw [run_bind_ok (run_szOf hm W)]
  show Result.ok (Value.agg _) W = Result.ok (mk true l) W
  unfold mk
  congr 2
  refine Array.ext_getElem? fun i=>?_
  rw [Array.getElem?_extract]
  by_cases hi:i < m
  ·have:=h2 i hi
   have e:l.toArray[i]? = l[i]? := List.getElem?_toArray
   have e2:cs.toList[off + i]? = cs[off + i]? := Array.getElem?_toList
   rw [e,this,e2]
   by_cases hc:off + i < cs.size
   ·rw [if_pos (by omega)]
   ·rw [if_neg (by omega),Array.getElem?_eq_none (by omega)]
  ·have e:l.toArray[i]? = l[i]? := List.getElem?_toArray
   rw [if_neg (by omega),e,List.getElem?_eq_none (by omega)]
 | false =>
  have hm1:=hg1 rfl
  subst hm1
  have h0:=h2 0 (by omega)
  simp only [Bool.false_eq_true,if_false,Nat.add_zero] at h0 ⊢
  rcases l with _ | ⟨v,l⟩
  ·simp at h1
  ·have:l = []:=by simpa using h1
   subst this
   have h3:cs[off]? = some v:=by simpa using h0.symm
   rw [h3]
   rfl
end Sx
end Go.Proofs.YtncmmbacoknefaaGreat

/- SxR: A symbolic run: the model's operations without memory leave what is reckoned. -/
namespace Go.Proofs.YtncmmbacoknefaaGreat
open Go Go.RowKit
set_option linter.unusedVariables false
set_option linter.unusedSimpArgs false
namespace Sx
theorem run_v {P:Program} {s:Sem Value} {v:Value} {W W':World} (h:s.run P W = .ok v W'):((do pure (Next.value (← s))):Sem Next).run P W = .ok (.value v) W':=run_bind_ok h
theorem run_u {P:Program} {s:Sem Unit} {W W':World} (h:s.run P W = .ok () W'):((do s; pure Next.skip):Sem Next).run P W = .ok .skip W':=run_bind_ok h
theorem run_under {P:Program} {t:TypeId} {d:TypeDesc} (h:P.underlying t = some d) (W:World):(underlying t).run P W = .ok d W:=by
 unfold underlying
 simp [go_sem,h]
theorem guard_int (op:BinOp) (t:TypeId) (xo yo:Operand) (k k':IntKind) (x y:Int) (P:Program) (W:World):(eqGuard op t xo yo (.int k x) (.int k' y)).run P W = .ok () W:=by
 unfold eqGuard
 cases op <;> rfl
theorem guard_bool (op:BinOp) (t:TypeId) (xo yo:Operand) (x y:Bool) (P:Program) (W:World):(eqGuard op t xo yo (.bool x) (.bool y)).run P W = .ok () W:=by
 unfold eqGuard
 cases op <;> rfl
theorem run_binV {op:BinOp} {k:IntKind} {x y:Int} {c:Prop} {v:Value} (h:binV op k x y = some (c,v)) (hc:c) (t:TypeId) (P:Program) (W:World) (hsh:op≠.shl∧op≠.shr):(binOp op t (.int k x) (.int k y)).run P W = .ok v W:=by
 unfold binV at h
 cases op
 case shl=>exact absurd rfl hsh.1
 case shr=>exact absurd rfl hsh.2
 case andNot=>cases h
 case quo =>
  cases h
  have e:(binOp .quo t (.int k x) (.int k y)) = Op.intDiv .quo k x y:=by unfold binOp; simp
  rw [e]
  unfold Op.intDiv
  rw [if_neg hc]; rfl
 case rem =>
  cases h
  have e:(binOp .rem t (.int k x) (.int k y)) = Op.intDiv .rem k x y:=by unfold binOp; simp
  rw [e]
  unfold Op.intDiv
  rw [if_neg hc]; rfl
 all_goals
  cases h
  unfold binOp
  simp [Op.intArith,Op.intBits,Op.intCmp,go_sem]
theorem run_shV {op:BinOp} {k k':IntKind} {x y:Int} {c:Prop} {v:Value} (h:shV op k x y = some (c,v)) (hc:c) (t:TypeId) (P:Program) (W:World):(binOp op t (.int k x) (.int k' y)).run P W = .ok v W:=by
 unfold shV at h
 cases op
 case shl =>
  cases h
  have e:(binOp .shl t (.int k x) (.int k' y)) = Op.shift .shl k x k' y:=by unfold binOp; rfl
  rw [e]
  unfold Op.shift
  rw [if_neg hc]; rfl
 case shr =>
  cases h
  have e:(binOp .shr t (.int k x) (.int k' y)) = Op.shift .shr k x k' y:=by unfold binOp; rfl
  rw [e]
  unfold Op.shift
  rw [if_neg hc]; rfl
 all_goals cases h
theorem run_binS {op:BinOp} {a b:Option SV} {c:Prop} {v:Value} (h:binS op a b = some (c,v)) (hc:c) (t:TypeId) (xo yo:Operand) (P:Program) (W:World) (A:Nat→Nat) :
  ∃ x y,a = some (.v x)∧b = some (.v y)∧((do eqGuard op t xo yo x y; binOp op t x y):Sem Value).run P W = .ok v W:=by
 unfold binS at h
 split at h
 ·rename_i k x k' y
  refine ⟨_,_,rfl,rfl,?_⟩
  rw [run_bind_ok (guard_int op t xo yo k k' x y P W)]
  split at h
  ·exact run_shV h hc t P W
  ·exact run_shV h hc t P W
  ·rename_i op h1 h2
   split at h
   ·rename_i e
    subst e
    exact run_binV h hc t P W ⟨fun e=>h1 e,fun e=>h2 e⟩
   ·cases h
 ·rename_i x y
  refine ⟨_,_,rfl,rfl,?_⟩
  split at h
  ·cases h
   have g:(eqGuard .add t xo yo (.string x) (.string y)).run P W = .ok () W:=by unfold eqGuard; rfl
   have e:binOp .add t (.string x) (.string y) = Op.stringOp .add x y:=by unfold binOp; rfl
   rw [run_bind_ok g,e]
   unfold Op.stringOp
   dsimp only
   rw [if_neg hc]; rfl
  ·cases h
   have g:(eqGuard .eql t xo yo (.string x) (.string y)).run P W = .ok () W:=by unfold eqGuard; rfl
   have e:binOp .eql t (.string x) (.string y) = Op.stringOp .eql x y:=by unfold binOp; rfl
   rw [run_bind_ok g,e]
   rfl
  ·cases h
 ·cases h
theorem run_bqS {ng:Bool} {a b:Option SV} {c:Prop} {v:Value} (h:bqS ng a b = some (c,v)) (t:TypeId) (xo yo:Operand) (P:Program) (W:World) (hu:P.underlying t = some .bool) :
  ∃ x y,a = some (.v x)∧b = some (.v y)∧((do eqGuard (if ng then .neq else .eql) t xo yo x y; binOp (if ng then .neq else .eql) t x y):Sem Value).run P W = .ok v W:=by
 unfold bqS at h
 split at h
 ·rename_i x y
  refine ⟨_,_,rfl,rfl,?_⟩
  rw [run_bind_ok (guard_bool _ t xo yo x y P W)]
  have e:(Op.equal t (.bool x) (.bool y)).run P W = .ok (x == y) W:=by
   unfold Op.equal Op.maxDepth
   show (Op.equalIn (9999 + 1) t _ _).run P W = _
   unfold Op.equalIn
   rw [run_bind_ok (run_under hu W)]
   rfl
  cases ng with
  | false =>
   cases h
   unfold binOp
   exact run_bind_ok e
  | true =>
   cases h
   unfold binOp
   exact run_bind_ok e
 ·cases h
variable {C:Cx} {A:Nat→Nat} {S:St} {a:Act}
def Lands (C:Cx) (A:Nat→Nat) (S:St) (a:Act) (o:Oper) (x:SV):Prop:=x.nm≤S.n∧∀ W,(execOp a.eval o).run C.P W = .ok (.value (x.val A)) W
theorem lands_v {o:Oper} {s:Sem Value} {v:Value} (he:execOp a.eval o = (do pure (Next.value (← s)))) (h:∀ W,s.run C.P W = .ok v W):Lands C A S a o (.v v) :=
 ⟨Nat.zero_le _,fun W=>by rw [he]; exact run_v (h W)⟩
theorem val1_some {r:Option (Prop × Value)} {c:Prop} {x:SV} (h:val1 r = some (c,x)):∃ v,r = some (c,v)∧x = .v v:=by
 unfold val1 at h
 split at h
 ·cases h; exact ⟨_,rfl,rfl⟩
 ·cases h
theorem sv1_some {r:Option SV} {c:Prop} {x:SV} (h:sv1 r = some (c,x)):r = some x:=by
 unfold sv1 at h
 split at h
 ·cases h; rfl
 ·cases h
theorem tr_some {r:Option Value} {c:Prop} {v:Value} (h:tr r = some (c,v)):r = some v:=by
 unfold tr at h
 split at h
 ·cases h; rfl
 ·cases h
theorem lands_mv (hs:SlOk C A S a) {o:Oper} {x:Operand} {y:SV} (ho:o.op = .move x∨o.op = .assign x) (h:S.ev x = some y):Lands C A S a o y:=by
 refine ⟨hs.evn h,fun W=>?_⟩
 unfold execOp
 rcases ho with ho | ho <;> rw [ho] <;> (show Result.ok (Next.value (a.eval x)) W = _; rw [hs.ev h])
theorem lands_pick (hs:SlOk C A S a) {o:Oper} {c p q:Operand} {b:Bool} {y:SV} (ho:o.op = .pick c p q) (hc:S.ev c = some (.v (.bool b))) (h:S.ev (if b then p else q) = some y):Lands C A S a o y:=by
 refine ⟨hs.evn h,fun W=>?_⟩
 have e1:=hs.ev hc
 unfold execOp
 rw [ho]
 show Sem.run C.P (do pure (Next.value (if ← asBool (a.eval c) then a.eval p else a.eval q))) W = _
 rw [e1]
 rw [← hs.ev h]
 cases b <;> rfl
theorem lands_bin (hs:SlOk C A S a) {o:Oper} {op:BinOp} {t yt:TypeId} {x y:Operand} {c:Prop} {v:Value} (ho:o.op = .binOp op t x y yt) (h:binS op (S.ev x) (S.ev y) = some (c,v)) (hc:c):Lands C A S a o (.v v):=by
 refine lands_v (s:=do eqGuard op t x y (a.eval x) (a.eval y); binOp op t (a.eval x) (a.eval y)) (by unfold execOp; rw [ho]) fun W=>?_
 obtain ⟨p,q,h1,h2,h3⟩:=run_binS h hc t x y C.P W A
 rw [hs.ev h1,hs.ev h2]
 exact h3
theorem lands_bq (hs:SlOk C A S a) {o:Oper} {ng:Bool} {t yt:TypeId} {x y:Operand} {c:Prop} {v:Value} (ho:o.op = .binOp (if ng then .neq else .eql) t x y yt) (hu:C.P.underlying t = some .bool) (h:bqS ng (S.ev x) (S.ev y) = some (c,v)):Lands C A S a o (.v v):=by
 refine lands_v (s:=do eqGuard (if ng then .neq else .eql) t x y (a.eval x) (a.eval y); binOp (if ng then .neq else .eql) t (a.eval x) (a.eval y)) (by unfold execOp; rw [ho]) fun W=>?_
 obtain ⟨p,q,h1,h2,h3⟩:=run_bqS h t x y C.P W hu
 rw [hs.ev h1,hs.ev h2]
 exact h3
theorem lands_un (hs:SlOk C A S a) {o:Oper} {op:UnOp} {t:TypeId} {x:Operand} {c:Prop} {v:Value} (ho:o.op = .unOp op t x) (h:unS op (S.ev x) = some (c,v)):Lands C A S a o (.v v):=by
 refine lands_v (s:=Op.unary op (a.eval x)) (by unfold execOp; rw [ho]) fun W=>?_
 unfold unS at h
 split at h
 ·rename_i b hb
  rw [hs.ev hb]
  split at h
  ·cases h; rfl
  ·cases h
 ·rename_i k n hb
  rw [hs.ev hb]
  split at h
  ·cases h; rfl
  ·cases h
 ·cases h
theorem lands_cv (hs:SlOk C A S a) {o:Oper} {s d:TypeId} {x:Operand} {k j:IntKind} {c:Prop} {v:Value} (ho:o.op = .convert s d x) (h1:C.P.underlying s = some (.int j)) (h2:C.P.underlying d = some (.int k)) (h:cvS k (S.ev x) = some (c,v)):Lands C A S a o (.v v):=by
 refine lands_v (s:=convert s d (a.eval x)) (by unfold execOp; rw [ho]) fun W=>?_
 unfold cvS at h
 split at h
 ·rename_i k' n hb
  cases h
  rw [hs.ev hb]
  unfold convert
  rw [run_bind_ok (run_under h1 W),run_bind_ok (run_under h2 W)]
  rfl
 ·cases h
theorem lands_ex (hs:SlOk C A S a) {o:Oper} {x:Operand} {i:Nat} {c:Prop} {v:Value} (ho:o.op = .extract x i) (h:exS i (S.ev x) = some (c,v)):Lands C A S a o (.v v):=by
 refine lands_v (s:=Instr.extract (a.eval x) i) (by unfold execOp; rw [ho]) fun W=>?_
 unfold exS at h
 split at h
 ·rename_i vs hb
  have h1:=tr_some h
  rw [nth_eq] at h1
  rw [hs.ev hb]
  show (Instr.extract (.tuple vs) i).run C.P W = _
  unfold Instr.extract
  have h2:vs[i]? = some v:=by rw [← Array.getElem?_toList]; exact h1
  simp only [h2]
  rfl
 ·cases h
theorem lands_nc (hs:SlOk C A S a) {o:Oper} {x:Operand} {c:Prop} {y:SV} (ho:o.op = .nilCheck x) (h:ncS (S.ev x) = some (c,y)):Lands C A S a o y:=by
 unfold ncS at h
 split at h
 ·rename_i k o' hb
  cases h
  refine ⟨show k + 1≤S.n from hs.evn hb,fun W=>?_⟩
  have e:=hs.ev hb
  unfold execOp
  rw [ho]
  simp only [e]
  rfl
 ·rename_i q hb
  cases h
  refine ⟨Nat.zero_le _,fun W=>?_⟩
  have e:=hs.ev hb
  unfold execOp
  rw [ho]
  simp only [e]
  rfl
 ·cases h
theorem lands_fa (hs:SlOk C A S a) {o:Oper} {x:Operand} {t:TypeId} {f m:Nat} {fs:Array Field} {fl:Field} {c:Prop} {y:SV} (ho:o.op = .fieldAddr t x f) (hu:C.P.underlying t = some (.struct fs)) (hf:fs[f]? = some fl) (hm:szOf C.P fl.type = some (m + 1))
  (h:faS fl.offset (S.ev x) = some (c,y)):Lands C A S a o y:=by
 have key:∀ (b k:Nat) W,(Instr.fieldAt t (.pointer (some ⟨b,k,none⟩)) f).run C.P W = .ok (.pointer (some ⟨b,k + fl.offset,none⟩)) W:=fun b k W=>by
  unfold Instr.fieldAt
  rw [run_bind_ok (run_under hu W)]
  simp only [hf]
  show Sem.run C.P (do pure (Value.pointer (some (← fieldPlace ⟨b,k,none⟩ fl)))) W = _
  have h1:(fieldPlace ⟨b,k,none⟩ fl).run C.P W = .ok ⟨b,k + fl.offset,none⟩ W:=by
   unfold fieldPlace
   rw [run_bind_ok (run_szOf hm W),if_neg (by omega),Addr.add_lit]
   rfl
  rw [run_bind_ok h1]
  rfl
 unfold faS at h
 split at h
 ·rename_i k o' hb
  cases h
  refine ⟨show k + 1≤S.n from hs.evn hb,fun W=>?_⟩
  have e:=hs.ev hb
  unfold execOp
  rw [ho]
  refine run_v ?_
  rw [e]
  exact key _ _ W
 ·rename_i b o' hb
  cases h
  refine ⟨Nat.zero_le _,fun W=>?_⟩
  have e:=hs.ev hb
  unfold execOp
  rw [ho]
  refine run_v ?_
  rw [e]
  exact key _ _ W
 ·cases h
theorem lands_ia (hs:SlOk C A S a) {o:Oper} {x i:Operand} {t e:TypeId} {len sz:Nat} {c:Prop} {y:SV} (ho:o.op = .indexAddr t x i) (hu:C.P.underlying t = some (.array len e)) (hm:szOf C.P e = some sz) (hl:1 < len)
  (h:iaS len sz (S.ev x) (S.ev i) = some (c,y)) (hc:c):Lands C A S a o y:=by
 unfold iaS at h
 split at h
 ·rename_i k o' kk n hb hi
  cases h
  refine ⟨show k + 1≤S.n from hs.evn hb,fun W=>?_⟩
  have e1:=hs.ev hb
  have e2:=hs.ev hi
  unfold execOp
  rw [ho]
  refine run_v ?_
  rw [e1,e2]
  show (Instr.indexAt t (.pointer (some ⟨A k,o',none⟩)) (.int kk n)).run C.P W = .ok (.pointer (some ⟨A k,o' + n.toNat * sz,none⟩)) W
  unfold Instr.indexAt
  simp [go_sem,run_under hu,run_szOf hm,hu,hc,asIntOf,Instr.sureAddr]
 ·cases h
theorem lands_is (hs:SlOk C A S a) {o:Oper} {x i:Operand} {t e:TypeId} {sz:Nat} {c:Prop} {y:SV} (ho:o.op = .indexAddr t x i) (hu:C.P.underlying t = some (.slice e)) (hm:szOf C.P e = some sz)
  (h:isS sz (S.ev x) (S.ev i) = some (c,y)) (hc:c):Lands C A S a o y:=by
 unfold isS at h
 split at h
 ·rename_i b o' l _ kk n hb hi
  cases h
  refine ⟨Nat.zero_le _,fun W=>?_⟩
  have e1:=hs.ev hb
  have e2:=hs.ev hi
  unfold execOp
  rw [ho]
  refine run_v ?_
  rw [e1,e2]
  show (Instr.indexAt t (.slice (some ⟨b,o',none⟩) l _) (.int kk n)).run C.P W = .ok (.pointer (some ⟨b,o' + n.toNat * sz,none⟩)) W
  unfold Instr.indexAt
  simp [go_sem,run_under hu,run_szOf hm,hu,hc,asIntOf,Instr.sureAddr]
 ·cases h
theorem lands_fd (hs:SlOk C A S a) {o:Oper} {x:Operand} {t:TypeId} {f m:Nat} {g:Bool} {fs:Array Field} {fl:Field} {c:Prop} {v:Value} (ho:o.op = .field t x f) (hu:C.P.underlying t = some (.struct fs)) (hf:fs[f]? = some fl) (hm:gmOf C.P fl.type = some (g,m))
  (h:fdS g m fl.offset (S.ev x) = some (c,v)):Lands C A S a o (.v v):=by
 refine lands_v (s:=Instr.field t (a.eval x) f) (by unfold execOp; rw [ho]) fun W=>?_
 unfold fdS at h
 split at h
 ·rename_i cs hb
  have h1:=tr_some h
  rw [hs.ev hb]
  show (Instr.field t (.agg cs) f).run C.P W = _
  unfold Instr.field
  rw [run_bind_ok (run_under hu W)]
  simp only [hf]
  cases hl:sub cs.toList fl.offset m with
  | none=>rw [hl] at h1; cases h1
  | some l =>
   rw [hl] at h1
   cases h1
   exact (run_bind_ok (s:=asAgg (.agg cs)) (v:=cs) rfl).trans (run_part hm hl W)
 ·cases h
theorem lands_ix (hs:SlOk C A S a) {o:Oper} {x i:Operand} {t e:TypeId} {len m:Nat} {g:Bool} {c:Prop} {v:Value} (ho:o.op = .index t x i) (hu:C.P.underlying t = some (.array len e)) (hm:gmOf C.P e = some (g,m))
  (h:ixS len g m (S.ev x) (S.ev i) = some (c,v)) (hc:c):Lands C A S a o (.v v):=by
 refine lands_v (s:=Instr.index t (a.eval x) (a.eval i)) (by unfold execOp; rw [ho]) fun W=>?_
 unfold ixS at h
 split at h
 ·rename_i cs kk n hb hi
  unfold ixC at h
  split at h
  ·rename_i l _ hl
   cases h
   rw [hs.ev hb,hs.ev hi]
   show (Instr.index t (.agg cs) (.int kk n)).run C.P W = _
   unfold Instr.index
   rw [run_bind_ok (s:=asIntOf (.int kk n)) (v:=(kk,n)) rfl]
   simp only
   rw [run_bind_ok (run_under hu W)]
   simp only [hc,and_self,if_true]
   rw [run_bind_ok (run_szOf (gmOf_spec hm).2.1 W)]
   exact run_part hm hl W
  ·cases h
 ·cases h
theorem run_resolve_builtin (ρ:Operand→Value) (b:Builtin) (ags:Array Operand) (ts:Array TypeId) (ty:TypeId) (P:Program):∃ cs,∀ W,(resolve ρ ⟨.builtin b,ags,ts⟩ ty).run P W = .ok { target:=.builtin b ts ty cs,args:=ags.map ρ } W:=⟨_,fun _=>rfl⟩
theorem lands_len (hs:SlOk C A S a) {o:Oper} {x:Operand} {ts:Array TypeId} {ags:Array Operand} {t:TypeId} {b:Bool} {c:Prop} {v:Value} (ho:o.op = .call ⟨.builtin .len,ags,ts⟩) (ha:ags.toList = [x]) (ht:ts[0]? = some t)
  (hu:if b then C.P.underlying t = some .string else ∃ e,C.P.underlying t = some (.slice e)) (h:lenS b (S.ev x) = some (c,v)):Lands C A S a o (.v v):=by
 have e:ags = #[x]:=by
  cases ags with | mk l=>simp only at ha; subst ha; rfl
 subst e
 refine ⟨Nat.zero_le _,fun W=>?_⟩
 have key:∀ y,a.eval x = y→(Builtin.len_ ts o.type #[y]).run C.P W = .ok v W→(execOp a.eval o).run C.P W = .ok (.value v) W:=fun y hy hl=>by
  unfold execOp
  rw [ho]
  obtain ⟨cs,hr⟩:=run_resolve_builtin a.eval .len #[x] ts o.type C.P
  refine (run_bind_ok (hr W)).trans ?_
  have hm:(#[x]:Array Operand).map a.eval = #[y]:=by rw [← hy]; simp
  simp only [hm]
  exact run_v hl
 unfold lenS at h
 split at h
 ·rename_i p l k hb
  cases h
  obtain ⟨e,hu⟩:=hu
  refine key _ (hs.ev hb) ?_
  unfold Builtin.len_
  simp only [ht]
  show Sem.run C.P (underlying t >>= _) W = _
  rw [run_bind_ok (run_under hu W)]
  rfl
 ·rename_i s hb
  cases h
  refine key _ (hs.ev hb) ?_
  unfold Builtin.len_
  simp only [ht]
  show Sem.run C.P (underlying t >>= _) W = _
  rw [run_bind_ok (run_under hu W)]
  rfl
 ·cases h
theorem lands_mm (hs:SlOk C A S a) {o:Oper} {x y:Operand} {ts:Array TypeId} {ags:Array Operand} {mx:Bool} {c:Prop} {v:Value} (ho:o.op = .call ⟨.builtin (if mx then .max else .min),ags,ts⟩) (ha:ags.toList = [x,y])
  (h:mmS mx (S.ev x) (S.ev y) = some (c,v)):Lands C A S a o (.v v):=by
 have e:ags = #[x,y]:=by
  cases ags with | mk l=>simp only at ha; subst ha; rfl
 subst e
 refine ⟨Nat.zero_le _,fun W=>?_⟩
 unfold execOp
 rw [ho]
 obtain ⟨cs,hr⟩:=run_resolve_builtin a.eval (if mx then .max else .min) #[x,y] ts o.type C.P
 refine (run_bind_ok (hr W)).trans ?_
 unfold mmS at h
 split at h
 ·rename_i k n k' n' hb hb'
  have hm:(#[x,y]:Array Operand).map a.eval = #[.int k n,.int k' n']:=by
   have e1:=hs.ev hb
   have e2:=hs.ev hb'
   simp only [List.map_toArray,List.map_cons,List.map_nil,e1,e2]
   rfl
  simp only [hm]
  cases mx <;> cases h
  ·exact run_v (s:=Builtin.min_ ts o.type #[.int k n,.int k' n']) rfl
  ·exact run_v (s:=Builtin.max_ ts o.type #[.int k n,.int k' n']) rfl
 ·cases h
theorem fold_ovr (off:Nat):∀ (l:List Value) (j:Nat) (cs cs':List Value),ovrO cs (off + j) l = some cs'→(l.zipIdx j).foldl (fun (cs:Array Value) (x:Value × Nat)=>cs.setIfInBounds (off + x.2) x.1) cs.toArray = cs'.toArray
 | [],j,cs,cs',h=>by rw [ovrO_nil h]; rfl
 | v :: l,j,cs,cs',h=>by
  obtain ⟨h1,h2⟩:=ovrO_cons h
  rw [List.zipIdx_cons,List.foldl_cons]
  show List.foldl _ (cs.toArray.setIfInBounds (off + j) v) _ = _
  rw [List.setIfInBounds_toArray]
  exact fold_ovr off l (j + 1) _ cs' h2
theorem ovrO_le:∀ {cs:List Value} {o:Nat} {vs cs':List Value},ovrO cs o vs = some cs'→o + vs.length≤cs.length
 | cs,0,[],_,_=>Nat.zero_le _
 | [],0,v :: vs,_,h=>by unfold ovrO at h; cases h
 | [],o + 1,vs,_,h=>by unfold ovrO at h; cases h
 | c :: cs,0,v :: vs,cs',h=>by
  unfold ovrO at h
  cases hr:ovrO cs 0 vs with
  | none=>rw [hr] at h; cases h
  | some r =>
   have:=ovrO_le hr
   simp only [List.length_cons] at this ⊢
   omega
 | c :: cs,o + 1,vs,cs',h=>by
  unfold ovrO at h
  cases hr:ovrO cs o vs with
  | none=>rw [hr] at h; cases h
  | some r =>
   have:=ovrO_le hr
   simp only [List.length_cons] at this ⊢
   omega
theorem fill_eq (hs:SlOk C A S a) {place:Nat→Option (Nat × Nat)}:∀ {parts:List (Nat × Operand)} {ps:List (Nat × Nat × Operand)} {cs cs':List Value},ptsOf place parts = some ps→bdS S ps cs = some cs' →
  Instr.fill place cs.toArray (parts.map fun x=>(x.1,a.eval x.2)) = some cs'.toArray
 | [],ps,cs,cs',h,h2=>by cases h; cases h2; rfl
 | (i,x) :: parts,ps,cs,cs',h,h2=>by
  unfold ptsOf at h
  split at h
  ·rename_i o m r hp hr
   cases h
   have h3:bd1 m o cs (bdS S r) (cellsV (S.ev x)) = some cs':=h2
   unfold cellsV at h3
   split at h3
   ·rename_i v hv
    have h4:bd2 (lenB v.cells.toList m) o cs v.cells.toList (bdS S r) = some cs':=h3
    unfold bd2 at h4
    split at h4
    ·rename_i cs2 hl hov
     have hsz:=lenB_eq hl
     have hle:=ovrO_le hov
     have he:a.eval x = v:=hs.ev hv
     rw [List.map_cons]
     show Instr.fill place cs.toArray ((i,a.eval x) :: _) = _
     unfold Instr.fill
     rw [hp,he]
     simp only
     rw [if_neg (by
      have e1:v.cells.size = m:=by simpa using hsz
      have e2:o + v.cells.size≤cs.length:=by simpa using hle
      simp only [List.size_toArray,e1,ne_eq,not_true_eq_false,decide_false,Bool.false_or,decide_eq_true_eq]
      omega)]
     have hf:v.cells.zipIdx.foldl (fun cs (x:Value × Nat)=>cs.setIfInBounds (o + x.2) x.1) cs.toArray = cs2.toArray:=by
      rw [← Array.foldl_toList,Array.toList_zipIdx]
      exact fold_ovr o v.cells.toList 0 cs cs2 hov
     have hf2:Instr.fill place (v.cells.zipIdx.foldl (fun cs (x:Value × Nat)=>cs.setIfInBounds (o + x.2) x.1) cs.toArray) (parts.map fun x=>(x.1,a.eval x.2)) = some cs'.toArray:=by
      rw [hf]
      exact fill_eq hs hr h4
     exact hf2
    ·cases h4
   ·cases h3
  ·cases h
theorem plOf_run {P:Program} {W:World}:∀ {fs:List Field} {pl:List (Nat × Nat)},plOf P fs = some pl→(fs.mapM fun (f:Field)=>(do pure (f.offset,← sizeOf f.type):Sem (Nat × Nat))).run P W = .ok pl W
 | [],pl,h=>by cases h; rfl
 | f :: fs,pl,h=>by
  unfold plOf at h
  split at h
  ·rename_i m r h1 h2
   cases h
   have e:Sem.run P (do pure (f.offset,← sizeOf f.type):Sem (Nat × Nat)) W = .ok (f.offset,m) W:=by rw [run_bind_ok (run_szOf h1 W)]; rfl
   rw [List.mapM_cons,run_bind_ok e,run_bind_ok (plOf_run h2)]
   rfl
  ·cases h
theorem lands_bd (hs:SlOk C A S a) {o:Oper} {t:TypeId} {parts:Array (Nat × Operand)} {zs:List Value} {ps:List (Nat × Nat × Operand)} {c:Prop} {v:Value} (ho:o.op = .build t parts) (hc:compBd C.P t parts.toList = some (.bd zs ps)) (h:bdR (bdS S ps zs) = some (c,v)):Lands C A S a o (.v v):=by
 refine lands_v (s:=Instr.build t (parts.map fun (i,x)=>(i,a.eval x))) (by unfold execOp; rw [ho]) fun W=>?_
 cases hb:bdS S ps zs with
 | none=>rw [hb] at h; cases h
 | some cs =>
  rw [hb] at h
  cases h
  have hparts:(parts.map fun (x:Nat × Operand)=>(x.1,a.eval x.2)).toList = parts.toList.map fun x=>(x.1,a.eval x.2):=by simp
  unfold compBd at hc
  split at hc
  ·rename_i i hi
   split at hc
   ·rename_i z hz
    have hzero:(zeroValue t).run C.P W = .ok z W:=by
     unfold zeroValue typeInfo
     simp [go_sem,hi,hz]
    split at hc
    ·rename_i fs hu
     split at hc
     ·rename_i pl hpl
      split at hc
      ·rename_i ps' hps
       cases hc
       unfold Instr.build
       rw [run_bind_ok hzero,run_bind_ok (run_under hu W)]
       have hm:(fs.mapM fun (f:Field)=>(do pure (f.offset,← sizeOf f.type):Sem (Nat × Nat))).run C.P W = .ok pl.toArray W:=by
        rw [Array.mapM_eq_mapM_toList]
        show Sem.run C.P (_ >>= _) W = _
        rw [run_bind_ok (plOf_run hpl)]
        rfl
       simp only
       rw [run_bind_ok hm]
       have hfl:=fill_eq hs (place:=fun i=>pl.toArray[i]?) (by
        have:(fun i=>pl.toArray[i]?) = (fun i=>pl[i]?):=funext fun i=>List.getElem?_toArray
        rw [this]; exact hps) hb
       have e:z.cells.toList.toArray = z.cells:=by simp
       rw [e] at hfl
       simp only [hparts,hfl]
       rfl
      ·cases hc
     ·cases hc
    ·rename_i len el hu
     split at hc
     ·rename_i m hm
      split at hc
      ·rename_i ps' hps
       cases hc
       unfold Instr.build
       rw [run_bind_ok hzero,run_bind_ok (run_under hu W)]
       simp only
       rw [run_bind_ok (run_szOf hm W)]
       have hfl:=fill_eq hs hps hb
       have e:z.cells.toList.toArray = z.cells:=by simp
       rw [e] at hfl
       simp only [hparts,hfl]
       rfl
      ·cases hc
     ·cases hc
    ·cases hc
   ·cases hc
  ·cases hc
end Sx
end Go.Proofs.YtncmmbacoknefaaGreat

/- SxP: A symbolic run: the condition of correctness of a list of operations, and that it is sound, one after the other. -/
namespace Go.Proofs.YtncmmbacoknefaaGreat
open Go Go.RowKit
set_option linter.unusedVariables false
set_option linter.unusedSimpArgs false
namespace Sx
structure Gives (P:Program) (f:FuncId) (l:List Value) (W:World) (R:Value→Prop):Prop where
 out:stepIs P (fun u w'=>R u∧W.grownBy w' none) ((callFunc f l.toArray).run P W)
def evc:Option SV→Option (List Value)→Option (List Value)
 | some (.v x),some l=>some (x :: l)
 | _,_=>none
def evs (S:St):List Operand→Option (List Value)
 | []=>some []
 | x :: l=>evc (S.ev x) (evs S l)
def Cx.kn (C:Cx) (S:St):St:=match C.fr with
 | none=>S
 | some (F,_)=>⟨S.n,S.E,S.H,F⟩
def Cx.mv (C:Cx) (S:St):List Nat:=match C.fr with
 | none=>S.T.bs
 | some (_,r)=>r
theorem kn_none {C:Cx} (h:C.fr = none) (S:St):C.kn S = S:=by unfold Cx.kn; rw [h]
theorem mv_none {C:Cx} (h:C.fr = none) (S:St):C.mv S = S.T.bs:=by unfold Cx.mv; rw [h]
theorem kn_H (C:Cx) (S:St):(C.kn S).H = S.H:=by
 unfold Cx.kn
 cases C.fr with
 | none=>rfl
 | some x=>cases x; rfl
def knownV (C:Cx) (f:FuncId) (l:List Value) (d:Option Nat) (K:St→Prop) (S:St):Prop :=
 ∃ v,(∀ A W,HpOk C A (C.kn S) W→Gives C.P f l W (· = v))∧K (S.put d (.v v))
def Moves (bs:List Nat) (W W':World):Prop :=
 W'.os = W.os∧W'.tape = W.tape∧W'.output = W.output∧W.heap.size≤W'.heap.size∧∀ i,i < W.heap.size→i ∉ bs→W'.heap[i]? = W.heap[i]?
def Left (C:Cx) (S:St) (W:World) (v:Value) (X:Ext) (u:Value) (W':World):Prop :=
 u = v∧Moves (C.mv S) W W'∧X.ok W'∧Stab C X∧∀ b∈X.bs,(b∈S.T.bs∨W.heap.size≤b)∧b < W'.heap.size
structure GivesT (C:Cx) (S:St) (f:FuncId) (l:List Value) (W:World) (ι:Type) (v:ι→Value) (X:ι→Ext):Prop where
 out:stepIs C.P (fun u W'=>∃ i,Left C S W (v i) (X i) u W') ((callFunc f l.toArray).run C.P W)
def asks (C:Cx) (f:FuncId) (l:List Value) (d:Option Nat) (K:St→Prop) (S:St):Prop :=
 ∃ (ι:Type) (v:ι→Value) (X:ι→Ext),(∀ A W,HpOk C A S W→GivesT C S f l W ι v X)∧∀ i,K (St.put ⟨S.n,S.E,S.H,X i⟩ d (.v (v i)))
def genK (C:Cx) (k:GK) (l:List Value) (d:Option Nat) (K:St→Prop) (S:St):Prop :=
 ∃ v,(∀ W,(genRun k l).run C.P W = .ok (.value v) W)∧K (S.put d (.v v))
structure GivesG (C:Cx) (S:St) (k:GK) (l:List Value) (W:World) (ι:Type) (v:ι→Value) (X:ι→Ext):Prop where
 out:stepIs C.P (fun u W'=>∃ i,Left C S W (v i) (X i) u W') ((genRun k l).run C.P W)
def genA (C:Cx) (k:GK) (l:List Value) (d:Option Nat) (K:St→Prop) (S:St):Prop :=
 ∃ (ι:Type) (v:ι→Value) (X:ι→Ext),(∀ A W,HpOk C A S W→GivesG C S k l W ι v X)∧∀ i,K (St.put ⟨S.n,S.E,S.H,X i⟩ d (.v (v i)))
def genX (C:Cx) (b:Bool) (k:GK) (l:Option (List Value)) (d:Option Nat) (K:St→Prop) (S:St):Prop :=
 match b,l with
 | true,some l=>genK C k l d K S
 | false,some l=>genA C k l d K S
 | _,none=>False
def stP (C:Cx) (p:Addr) (v:Value) (K:St→Prop) (S:St):Prop :=
 ∃ X:Ext,(∀ A W,HpOk C A S W→p.block∈S.T.bs∧(∃ x,W.cell? p = some x)∧W.frozen? p = false∧X.ok (W.setCell p v))∧Stab C X∧(∀ b∈X.bs,b∈S.T.bs)∧one v = true∧K ⟨S.n,S.E,S.H,X⟩
abbrev callX (C:Cx) (b:Bool) (f:FuncId) (l:Option (List Value)) (d:Option Nat) (K:St→Prop) (S:St):Prop :=
 match b,l with
 | true,some l=>knownV C f l d K S
 | false,some l=>asks C f l d K S
 | _,none=>False
def ldP (C:Cx) (g:Bool) (m:Nat) (p:Addr) (d:Option Nat) (K:St→Prop) (S:St):Prop :=
 ∃ cs:List Value,cs.length = m∧(∀ A W,HpOk C A (C.kn S) W→∀ j v,cs[j]? = some v→W.cell? (p.add j) = some v)∧K (S.put d (.v (mk g cs)))
def ldS (g:Bool) (l:Option (List Value)) (d:Option Nat) (K:St→Prop) (S:St):Prop :=
 match l with
 | some l=>K (S.put d (.v (mk g l)))
 | none=>False
def ldH (g:Bool) (m o:Nat) (cs:Option (List Value)) (d:Option Nat) (K:St→Prop) (S:St):Prop :=
 match cs with
 | some cs=>ldS g (sub cs o m) d K S
 | none=>False
def ldX (C:Cx) (g:Bool) (m:Nat) (x:Option SV) (d:Option Nat) (K:St→Prop) (S:St):Prop :=
 match x with
 | some (.p k o)=>ldH g m o (gt S.H k) d K S
 | some (.v (.pointer (some p)))=>ldP C g m p d K S
 | _=>False
def stF (ok:Bool) (k:Nat) (r:Option (List Value)) (K:St→Prop) (S:St):Prop :=
 match ok,r with
 | true,some cs=>K ⟨S.n,S.E,pt S.H k cs,S.T⟩
 | _,_=>False
def stH (m k o:Nat) (cs vs:Option (List Value)) (K:St→Prop) (S:St):Prop :=
 match cs,vs with
 | some cs,some vs=>stF (lenB vs m && all1 vs) k (ovrO cs o vs) K S
 | _,_=>False
def stL (C:Cx) (p:Addr) (vs:List Value) (K:St→Prop) (S:St):Prop :=
 ∃ X:Ext,(∀ A W,HpOk C A S W→p.block∈S.T.bs∧∃ W',(storeCells p vs 0).run C.P W = .ok () W'∧Moves [p.block] W W'∧X.ok W')∧Stab C X∧(∀ b∈X.bs,b∈S.T.bs)∧K ⟨S.n,S.E,S.H,X⟩
def stX (C:Cx) (m:Nat) (x:Option SV) (vs:Option (List Value)) (K:St→Prop) (S:St):Prop :=
 match x with
 | some (.p k o)=>stH m k o (gt S.H k) vs K S
 | some (.v (.pointer (some p)))=>match m,vs with
  | 1,some [v]=>stP C p v K S
  | m + 2,some vs=>lenB vs (m + 2) = true∧stL C p vs K S
  | _,_=>False
 | _=>False
def eqC (C:Cx) (ng:Bool) (t:TypeId) (x y:Operand) (p q:Value) (d:Option Nat) (K:St→Prop) (S:St):Prop :=
 ∃ b,(∀ W,((do eqGuard (if ng then .neq else .eql) t x y p q; binOp (if ng then .neq else .eql) t p q):Sem Value).run C.P W = .ok (.bool b) W)∧K (S.put d (.v (.bool b)))
def eqX (C:Cx) (ng:Bool) (t:TypeId) (x y:Operand) (p q:Option SV) (d:Option Nat) (K:St→Prop) (S:St):Prop :=
 match p,q with
 | some (.v p),some (.v q)=>eqC C ng t x y p q d K S
 | _,_=>False
def boxX (cs:Option (List Value)) (d:Option Nat) (K:St→Prop) (S:St):Prop :=
 match cs with
 | some cs=>K (S.new d cs)
 | none=>False
def pX (r:Option (Prop × SV)) (d:Option Nat) (K:St→Prop) (S:St):Prop :=
 match r with
 | some (c,x)=>c∧K (S.put d x)
 | none=>False
def run1 (C:Cx) (m:M) (d:Option Nat) (K:St→Prop) (S:St):Prop :=
 match m with
 | .new zs=>K (S.new d zs)
 | .box g _ x=>boxX (cellsO g (S.ev x)) d K S
 | .ld g m x=>ldX C g m (S.ev x) d K S
 | .st g m x y=>stX C m (S.ev x) (cellsO g (S.ev y)) K S
 | .gen b k l=>genX C b k (evs S l) d K S
 | .call b f l=>callX C b f (evs S l) d K S
 | .eqg ng t x y=>eqX C ng t x y (S.ev x) (S.ev y) d K S
 | m=>pX (pv S m) d K S
def gdT (t w:Bool) (C:Cx) (m:M) (d:Option Nat) (K:St→Prop) (S:St):Prop :=
 if t = w then run1 C m d K S else K (S.put d (.v undef))
def gdS (x:Option SV) (w:Bool) (C:Cx) (m:M) (d:Option Nat) (K:St→Prop) (S:St):Prop :=
 match x with
 | some (.v (.bool t))=>gdT t w C m d K S
 | some (.v (.tuple _))=>K (S.put d (.v undef))
 | _=>False
def gdX (g:Option (Nat × Bool)) (C:Cx) (m:M) (d:Option Nat) (K:St→Prop) (S:St):Prop :=
 match g with
 | none=>run1 C m d K S
 | some (t,w)=>gdS (gt S.E t) w C m d K S
def ops (C:Cx):List G→(St→Prop)→St→Prop
 | [],p,S=>p S
 | (d,g,m) :: r,p,S=>gdX g C m d (ops C r p) S
theorem HpOk.left {C:Cx} {A:Nat→Nat} {S:St} {W W':World} {v u:Value} {X:Ext} (h:HpOk C A S W) (l:Left C S W v X u W') (hmv:∀ b∈C.mv S,C.w0.heap.size≤b∧∀ k cs,gt S.H k = some cs→A k≠b):HpOk C A ⟨S.n,S.E,S.H,X⟩ W':=by
 obtain ⟨-,⟨m1,m2,m3,m4,m5⟩,h2,h3,h4⟩:=l
 refine ⟨⟨m1.trans h.bl.os,m2.trans h.bl.tape,m3.trans h.bl.output,Nat.le_trans h.bl.size m4,fun i hi=>(m5 i (Nat.lt_of_lt_of_le hi h.bl.size) fun hb=>by have:=(hmv i hb).1; omega).trans (h.bl.block i hi)⟩,
  fun k cs e=>?_,h.ge,h.kn,h.inj,h2,h3,fun k cs e hb=>?_,fun b hb=>?_⟩
 ·have hB:=h.hb k cs e
  have hlt:=hB.lt
  obtain ⟨T,hT⟩:=hB
  exact ⟨T,(m5 _ hlt (fun hb=>(hmv _ hb).2 k cs e rfl)).trans hT⟩
 ·rcases (h4 _ hb).1 with hh | hh
  ·exact h.tn k cs e hh
  ·have:=(h.hb k cs e).lt; omega
 ·refine ⟨?_,(h4 b hb).2⟩
  rcases (h4 b hb).1 with hh | hh
  ·exact (h.tb b hh).1
  ·exact Nat.le_trans h.bl.size hh
theorem mv_ok {C:Cx} {A:Nat→Nat} {S:St} {W:World} (hC:C.fr = none) (h:HpOk C A S W):∀ b∈C.mv S,C.w0.heap.size≤b∧∀ k cs,gt S.H k = some cs→A k≠b:=fun b hb=>by
 rw [mv_none hC] at hb
 exact ⟨(h.tb b hb).1,fun k cs e e'=>h.tn k cs e (e' ▸ hb)⟩
variable {C:Cx} {A:Nat→Nat} {S:St} {a:Act} {W:World}
theorem stepIs_upon {P:Program} {R:Value→World→Prop} {r:Result Next} {o:Oper} {a:Act} {next:Act→World→Prop} {Q:Exit→Act→World→Prop} (h:stepIs P R r) (hn:∀ v w',R v w'→next (a.put o.dst v) w'):o.upon P a next Q r:=by
 cases r with
 | ok n w' =>
  cases n <;> simp only [stepIs,Oper.upon] at h ⊢
  case value u=>exact hn _ _ h
  case skip=>exact hn _ _ h
  case enter f l=>exact Calls.mono h fun e w'' ⟨u,he,hu⟩=>by subst he; exact hn _ _ hu
 | halt x w'=>cases h
theorem stepIs_mono {P:Program} {R R':Value→World→Prop} {r:Result Next} (h:stepIs P R r) (hm:∀ v w',R v w'→R' v w'):stepIs P R' r:=by
 cases r with
 | ok n w' =>
  cases n <;> simp only [stepIs] at h ⊢
  case value u=>exact hm _ _ h
  case skip=>exact hm _ _ h
  case enter f l=>exact Calls.mono h fun e w'' ⟨u,he,hu⟩=>⟨u,he,hm _ _ hu⟩
 | halt x w'=>cases h
theorem pv_lands (hs:SlOk C A S a) {b:Bool} {o:Oper} {m:M} (hc:compOp C.P b o.op = some m) {c:Prop} {x:SV} (h:pv S m = some (c,x)) (hcc:c):Lands C A S a o x:=by
 cases ho:o.op <;> rw [ho] at hc
 case move y=>cases hc; exact lands_mv hs (.inl ho) (sv1_some h)
 case assign y=>cases hc; exact lands_mv hs (.inr ho) (sv1_some h)
 case pick p q r =>
  cases hc
  replace h:pickS (S.ev q) (S.ev r) (S.ev p) = some (c,x):=h
  unfold pickS at h
  split at h
  ·rename_i e; exact lands_pick hs ho e (sv1_some h)
  ·rename_i e; exact lands_pick hs ho e (sv1_some h)
  ·cases h
 case binOp op t y z yt =>
  cases op
  case eql =>
   unfold compOp at hc
   simp only at hc
   split at hc
   ·rename_i hu
    cases hc
    obtain ⟨v,h1,rfl⟩:=val1_some h
    exact lands_bq hs (ng:=false) ho hu h1
   ·cases hc
    obtain ⟨v,h1,rfl⟩:=val1_some h
    exact lands_bin hs ho h1 hcc
   ·cases hc; cases h
   ·cases hc
  case neq =>
   unfold compOp at hc
   simp only at hc
   split at hc
   ·rename_i hu
    cases hc
    obtain ⟨v,h1,rfl⟩:=val1_some h
    exact lands_bq hs (ng:=true) ho hu h1
   ·cases hc
    obtain ⟨v,h1,rfl⟩:=val1_some h
    exact lands_bin hs ho h1 hcc
   ·cases hc; cases h
   ·cases hc
  all_goals
   cases hc
   obtain ⟨v,h1,rfl⟩:=val1_some h
   exact lands_bin hs ho h1 hcc
 case unOp op t y =>
  cases hc
  obtain ⟨v,h1,rfl⟩:=val1_some h
  exact lands_un hs ho h1
 case convert s d y =>
  unfold compOp at hc
  simp only at hc
  split at hc
  ·rename_i h1 h2
   cases hc
   obtain ⟨v,h3,rfl⟩:=val1_some h
   exact lands_cv hs ho h1 h2 h3
  ·cases hc
 case build t parts =>
  have hc':compBd C.P t parts.toList = some m:=hc
  have hm:∃ zs ps,m = .bd zs ps:=by
   have hc2:=hc'
   unfold compBd at hc2
   repeat' (split at hc2)
   all_goals first | (cases hc2; exact ⟨_,_,rfl⟩) | cases hc2
  obtain ⟨zs,ps,rfl⟩:=hm
  obtain ⟨v,h1,rfl⟩:=val1_some h
  exact lands_bd hs ho hc' h1
 case extract y i =>
  cases hc
  obtain ⟨v,h1,rfl⟩:=val1_some h
  exact lands_ex hs ho h1
 case fieldAddr t y f =>
  unfold compOp at hc
  simp only at hc
  split at hc
  ·rename_i fs hu
   split at hc
   ·rename_i fl hf
    split at hc
    ·rename_i mm hm
     cases hc
     have e:c = True:=by
      have h':faS fl.offset (S.ev y) = some (c,x):=h
      unfold faS at h'
      split at h' <;> first | (cases h'; rfl) | cases h'
     exact lands_fa hs ho hu hf hm h
    ·cases hc
   ·cases hc
  ·cases hc
 case nilCheck y =>
  cases hc
  have h':ncS (S.ev y) = some (c,x):=h
  exact lands_nc hs ho h'
 case indexAddr t y i =>
  unfold compOp at hc
  simp only at hc
  split at hc
  ·rename_i len e hu
   split at hc
   ·rename_i sz hm
    split at hc
    ·rename_i hl
     cases hc
     exact lands_ia hs ho hu hm hl h hcc
    ·cases hc
   ·cases hc
  ·rename_i e hu
   split at hc
   ·rename_i sz hm
    cases hc
    exact lands_is hs ho hu hm h hcc
   ·cases hc
  ·cases hc
 case field t y f =>
  unfold compOp at hc
  simp only at hc
  split at hc
  ·rename_i fs hu
   split at hc
   ·rename_i fl hf
    split at hc
    ·rename_i g m hm
     cases hc
     obtain ⟨v,h1,rfl⟩:=val1_some h
     exact lands_fd hs ho hu hf hm h1
    ·cases hc
   ·cases hc
  ·cases hc
 case index t y i =>
  unfold compOp at hc
  simp only at hc
  split at hc
  ·rename_i len e hu
   split at hc
   ·rename_i g m hm
    cases hc
    obtain ⟨v,h1,rfl⟩:=val1_some h
    exact lands_ix hs ho hu hm h1 hcc
   ·cases hc
  ·cases hc
 case call cl =>
  obtain ⟨ce,ags,ts⟩:=cl
  unfold compOp at hc
  split at hc <;> first | (cases hc; done) | skip
  all_goals (rename_i heq; cases heq)
  ·cases hc; cases h
  ·split at hc
   ·rename_i y t ha ht
    split at hc
    ·rename_i hu
     cases hc
     obtain ⟨v,h1,rfl⟩:=val1_some h
     exact lands_len hs (b:=false) ho ha ht ⟨_,hu⟩ h1
    ·rename_i hu
     cases hc
     obtain ⟨v,h1,rfl⟩:=val1_some h
     exact lands_len hs (b:=true) ho ha ht hu h1
    ·cases hc
   ·cases hc
  ·split at hc
   ·rename_i y z ha
    cases hc
    obtain ⟨v,h1,rfl⟩:=val1_some h
    exact lands_mm hs (mx:=false) ho ha h1
   ·cases hc
  ·split at hc
   ·rename_i y z ha
    cases hc
    obtain ⟨v,h1,rfl⟩:=val1_some h
    exact lands_mm hs (mx:=true) ho ha h1
   ·cases hc
 case alloc t =>
  unfold compOp at hc
  simp only at hc
  split at hc
  ·cases hc
  split at hc
  ·split at hc
   ·cases hc; cases h
   ·cases hc
  ·cases hc
 all_goals (unfold compOp at hc; first | (cases hc; done) | (simp only at hc; repeat' (split at hc); all_goals first | (cases hc; done) | (cases hc; cases h)))
end Sx
end Go.Proofs.YtncmmbacoknefaaGreat

/- SxQ: A symbolic run: operations that read and write memory, and calls. -/
namespace Go.Proofs.YtncmmbacoknefaaGreat
open Go Go.RowKit
set_option linter.unusedVariables false
set_option linter.unusedSimpArgs false
namespace Sx
variable {C:Cx} {A:Nat→Nat} {S:St} {a:Act} {W:World}
theorem run_ld {P:Program} {t:TypeId} {g:Bool} {m:Nat} {p:Addr} {cs:List Value} {W:World} (hgm:gmOf P t = some (g,m)) (hl:cs.length = m) (h:∀ j v,cs[j]? = some v→W.cell? (p.add j) = some v) :
  (Instr.loadAt t (.pointer (some p))).run P W = .ok (mk g cs) W:=by
 obtain ⟨hg,hm,h1⟩:=gmOf_spec hgm
 show Sem.run P (loadVar t p) W = _
 unfold loadVar
 rw [run_bind_ok (run_agOf hg W)]
 cases g with
 | true =>
  simp only [if_true]
  rw [run_bind_ok (run_szOf hm W)]
  subst hl
  rw [run_bind_ok (run_loadCells_list W p cs h)]
  rfl
 | false =>
  have h2:=h1 rfl
  subst h2
  rcases cs with _ | ⟨v,cs⟩
  ·simp at hl
  ·have e:cs = []:=by simpa using hl
   subst e
   have h3:=h 0 v (by simp)
   rw [Addr.add_zero'] at h3
   simp only [Bool.false_eq_true,if_false]
   show Sem.run P (load p) W = _
   simp [go_sem,h3,mk]
theorem cell_of {W:World} {b:Nat} {cs:List Value} {o m:Nat} {l:List Value} (h:HB W b cs.toArray) (hs:sub cs o m = some l):∀ j v,l[j]? = some v→W.cell? ((⟨b,o,none⟩:Addr).add j) = some v:=fun j v hv=>by
 obtain ⟨h1,h2⟩:=sub_get hs
 have hj:j < m:=by
  rcases Nat.lt_or_ge j l.length with h | h
  ·omega
  ·rw [List.getElem?_eq_none h] at hv; cases hv
 rw [Addr.add_lit,(Bx.of h).2.1,List.getElem?_toArray,← h2 j hj,hv]
def head:M→Bool
 | .new _=>false
 | .box _ _ _=>false
 | .st _ _ _ _=>false
 | .call b _ _=>b
 | .gen b _ _=>b
 | _=>true
def late:M→Bool
 | .new _=>false
 | .box _ _ _=>false
 | .st _ _ _ _=>false
 | .call _ _ _=>false
 | .ld _ _ _=>false
 | .eqg _ _ _ _=>false
 | .gen _ _ _=>false
 | _=>true
theorem run1_pv {m:M} {d:Option Nat} {K:St→Prop} (hm:late m = true) (h:run1 C m d K S):∃ c x,pv S m = some (c,x)∧c∧K (S.put d x):=by
 have key:∀ r,pX r d K S→∃ c x,r = some (c,x)∧c∧K (S.put d x):=fun r h=>by
  unfold pX at h
  split at h
  ·exact ⟨_,_,rfl,h.1,h.2⟩
  ·exact h.elim
 cases m <;> first | (cases hm; done) | exact key _ h
theorem evs_map {l:List Operand} {vs:List Value} (hs:SlOk C A S a) (h:evs S l = some vs):l.map a.eval = vs:=by
 induction l generalizing vs with
 | nil=>cases h; rfl
 | cons x l ih =>
  unfold evs at h
  cases hx:S.ev x with
  | none=>rw [hx] at h; cases h
  | some y =>
   cases y with
   | p k o=>rw [hx] at h; cases h
   | v y =>
    cases hl:evs S l with
    | none=>rw [hx,hl] at h; cases h
    | some us =>
     rw [hx,hl] at h
     cases h
     rw [List.map_cons,ih hl,hs.ev hx]
     rfl
theorem exec_call {ρ:Operand→Value} {o:Oper} {f:FuncId} {ags:Array Operand} {ts:Array TypeId} (ho:o.op = .call ⟨.value (.func f),ags,ts⟩) (hf:ρ (.func f) = .func (.func f) #[] #[]):execOp ρ o = callFunc f (ags.map ρ):=by
 unfold execOp
 rw [ho]
 show (do let d ← resolve ρ ⟨.value (.func f),ags,ts⟩ o.type; invoke d.target d.args) = _
 show (do let d ← Deferred.ofValue (ρ (.func f)) (ags.map ρ); invoke d.target d.args) = _
 rw [hf]
 show callFunc f ((#[] ++ ags.map ρ) ++ #[]) = _
 rw [Array.empty_append,Array.append_empty]
theorem evs_arr {ags:Array Operand} {vs:List Value} (hs:SlOk C A S a) (h:evs S ags.toList = some vs):ags.map a.eval = vs.toArray:=by
 have:=evs_map hs h
 cases ags with | mk l=>rw [← this,List.map_toArray]
theorem run1_head {b:Bool} {o:Oper} {m:M} {d:Option Nat} {K:St→Prop} (hs:SlOk C A S a) (hc:compOp C.P b o.op = some m) (hm:head m = true) (h:run1 C m d K S) :
  ∃ x,x.nm≤S.n∧K (S.put d x)∧(∀ A' a',SlOk C A' S a'→∀ W,HpOk C A' (C.kn S) W→stepIs C.P (fun u w'=>u = x.val A'∧W.grownBy w' none) ((execOp a'.eval o).run C.P W)) ∧
   (late m = true→∀ A' a',SlOk C A' S a'→∀ W,(execOp a'.eval o).run C.P W = .ok (.value (x.val A')) W):=by
 by_cases hl:late m = true
 ·obtain ⟨c,x,h1,h2,h3⟩:=run1_pv hl h
  refine ⟨x,(pv_lands hs hc h1 h2).1,h3,fun A' a' hs' W _=>?_,fun _ A' a' hs' W=>(pv_lands hs' hc h1 h2).2 W⟩
  rw [(pv_lands hs' hc h1 h2).2 W]
  exact ⟨rfl,gt_refl _ _⟩
 cases m with
 | new _=>cases hm
 | box _ _ _=>cases hm
 | st _ _ _ _=>cases hm
 | call b' f l =>
  have hb:b' = true:=hm
  subst hb
  have h':callX C true f (evs S l) d K S:=h
  unfold callX at h'
  cases he:evs S l with
  | none=>rw [he] at h'; exact h'.elim
  | some vs =>
   rw [he] at h'
   obtain ⟨v,h1,h2⟩:=h'
   refine ⟨.v v,Nat.zero_le _,h2,fun A' a' hs' W hw=>?_,fun e=>(hl e).elim⟩
   have ho:∃ ags ts,o.op = .call ⟨.value (.func f),ags,ts⟩∧ags.toList = l:=by
    cases hoo:o.op <;> rw [hoo] at hc
    case call cl =>
     obtain ⟨ce,ags,ts⟩:=cl
     unfold compOp at hc
     split at hc <;> first | (cases hc; done) | skip
     all_goals (rename_i heq; cases heq)
     ·cases hc; exact ⟨_,_,rfl,rfl⟩
     all_goals (repeat' (split at hc)); all_goals (cases hc)
    case binOp op t y z yt =>
     cases op <;> unfold compOp at hc <;> (simp only at hc; repeat' (split at hc)) <;> cases hc
    all_goals (unfold compOp at hc; (try unfold compBd at hc); (try simp only at hc); (repeat' (split at hc)); all_goals (cases hc))
   obtain ⟨ags,ts,ho,hal⟩:=ho
   rw [exec_call ho (hs'.ev (x:=.func f) (v:=.v _) rfl),evs_arr hs' (by rw [hal]; exact he)]
   exact (h1 A' W hw).out
 | ld g m x =>
  have h':ldX C g m (S.ev x) d K S:=h
  have ho:∃ t,o.op = .load t x∧gmOf C.P t = some (g,m):=by
   cases hoo:o.op <;> rw [hoo] at hc
   case load t y =>
    unfold compOp at hc
    simp only at hc
    split at hc
    ·rename_i g' m' hgm
     cases hc
     exact ⟨t,rfl,hgm⟩
    ·cases hc
   case binOp op t y z yt =>
    cases op <;> unfold compOp at hc <;> (simp only at hc; repeat' (split at hc)) <;> cases hc
   case call cl =>
    obtain ⟨ce,ags,ts⟩:=cl
    unfold compOp at hc
    split at hc <;> first | (cases hc; done) | skip
    all_goals (rename_i heq; cases heq)
    all_goals (repeat' (split at hc)); all_goals (cases hc)
   all_goals (unfold compOp at hc; (try unfold compBd at hc); (try simp only at hc); (repeat' (split at hc)); all_goals (cases hc))
  obtain ⟨t,ho,hgm⟩:=ho
  have hex:∀ (a':Act) p W cs,a'.eval x = .pointer (some p)→cs.length = m→(∀ j v,cs[j]? = some v→W.cell? (p.add j) = some v)→(execOp a'.eval o).run C.P W = .ok (.value (mk g cs)) W:=fun a' p W cs he hlen hcell=>by
   unfold execOp
   rw [ho]
   simp only [he]
   exact run_v (run_ld hgm hlen hcell)
  unfold ldX at h'
  split at h'
  ·rename_i k o' hb
   unfold ldH at h'
   split at h'
   ·rename_i cs hcs
    unfold ldS at h'
    split at h'
    ·rename_i l hsub
     refine ⟨.v (mk g l),Nat.zero_le _,h',fun A' a' hs' W hw=>?_,fun e=>(hl e).elim⟩
     rw [hex a' ⟨A' k,o',none⟩ W l (hs'.ev hb) (sub_get hsub).1 (cell_of (hw.hb k cs (by rw [kn_H]; exact hcs)) hsub)]
     exact ⟨rfl,gt_refl _ _⟩
    ·exact h'.elim
   ·exact h'.elim
  ·rename_i p hb
   obtain ⟨cs,h1,h2,h3⟩:=h'
   refine ⟨.v (mk g cs),Nat.zero_le _,h3,fun A' a' hs' W hw=>?_,fun e=>(hl e).elim⟩
   rw [hex a' p W cs (hs'.ev hb) h1 (h2 A' W hw)]
   exact ⟨rfl,gt_refl _ _⟩
  ·exact h'.elim
 | eqg ng t x y =>
  have h':eqX C ng t x y (S.ev x) (S.ev y) d K S:=h
  have ho:∃ yt,o.op = .binOp (if ng then .neq else .eql) t x y yt:=by
   cases hoo:o.op <;> rw [hoo] at hc
   case binOp op t y z yt =>
    cases op <;> unfold compOp at hc <;> (simp only at hc; repeat' (split at hc)) <;> first | (cases hc; done) | (cases hc; exact ⟨_,rfl⟩)
   case call cl =>
    obtain ⟨ce,ags,ts⟩:=cl
    unfold compOp at hc
    split at hc <;> first | (cases hc; done) | skip
    all_goals (rename_i heq; cases heq)
    all_goals (repeat' (split at hc)); all_goals (cases hc)
   all_goals (unfold compOp at hc; (try unfold compBd at hc); (try simp only at hc); (repeat' (split at hc)); all_goals (cases hc))
  obtain ⟨yt,ho⟩:=ho
  unfold eqX at h'
  split at h'
  ·rename_i p q hp hq
   obtain ⟨r,h1,h2⟩:=h'
   refine ⟨.v (.bool r),Nat.zero_le _,h2,fun A' a' hs' W hw=>?_,fun e=>(hl e).elim⟩
   have e:(execOp a'.eval o).run C.P W = .ok (.value (.bool r)) W:=by
    have e1:=hs'.ev hp
    have e2:=hs'.ev hq
    unfold execOp
    rw [ho]
    refine run_v ?_
    rw [e1,e2]
    exact h1 W
   rw [e]
   exact ⟨rfl,gt_refl _ _⟩
  ·exact h'.elim
 | gen b' k l =>
  exfalso
  cases hoo:o.op <;> rw [hoo] at hc
  case binOp op t y z yt =>
   cases op <;> unfold compOp at hc <;> (simp only at hc; repeat' (split at hc)) <;> cases hc
  case call cl =>
   obtain ⟨ce,ags,ts⟩:=cl
   unfold compOp at hc
   split at hc <;> first | (cases hc; done) | skip
   all_goals (rename_i heq; cases heq)
   all_goals (repeat' (split at hc)); all_goals (cases hc)
  all_goals (unfold compOp at hc; (try unfold compBd at hc); (try simp only at hc); (repeat' (split at hc)); all_goals (cases hc))
 | _=>exact absurd rfl hl
theorem run1_headG {b:Bool} {o:Oper} {k:GK} {l:List Operand} {b':Bool} {d:Option Nat} {K:St→Prop} (hs:SlOk C A S a) (hc:compGen b o = some (.gen b' k l)) (hm:head (.gen b' k l) = true) (h:run1 C (.gen b' k l) d K S) :
  ∃ x,x.nm≤S.n∧K (S.put d x)∧∀ A' a',SlOk C A' S a'→∀ W,(execOp a'.eval o).run C.P W = .ok (.value (x.val A')) W:=by
 obtain ⟨e1,-⟩:=gen_run hc a.eval
 have hb:b' = true:=hm
 subst hb
 have h':genX C true k (evs S l) d K S:=h
 unfold genX at h'
 cases he:evs S l with
 | none=>rw [he] at h'; exact h'.elim
 | some vs =>
  rw [he] at h'
  obtain ⟨v,h1,h2⟩:=h'
  refine ⟨.v v,Nat.zero_le _,h2,fun A' a' hs' W=>?_⟩
  rw [(gen_run hc a'.eval).2,evs_map hs' he]
  exact h1 W
end Sx
end Go.Proofs.YtncmmbacoknefaaGreat

/- SxW: A symbolic run: lists of operations in order are sound. -/
namespace Go.Proofs.YtncmmbacoknefaaGreat
open Go Go.RowKit
set_option linter.unusedVariables false
set_option linter.unusedSimpArgs false
namespace Sx
variable {C:Cx} {A:Nat→Nat} {S:St} {a:Act} {W:World}
theorem HpOk.ext {S':St} (h:HpOk C A S W) (hn:S.n = S'.n) (hH:∀ k,gt S'.H k = gt S.H k) (hT:S'.T = S.T):HpOk C A S' W :=
 ⟨h.bl,fun k cs e=>h.hb k cs (by rw [← hH k]; exact e),fun k cs e=>h.ge k cs (by rw [← hH k]; exact e),fun k cs e=>hn ▸ h.kn k cs (by rw [← hH k]; exact e),
  fun k k' cs cs' e e'=>h.inj k k' cs cs' (by rw [← hH k]; exact e) (by rw [← hH k']; exact e'),by rw [hT]; exact h.tk,by rw [hT]; exact h.ts,fun k cs e=>(by rw [hT]; exact h.tn k cs (by rw [← hH k]; exact e)),by rw [hT]; exact h.tb⟩
theorem run_store1 {P:Program} {p:Addr} {v x:Value} (hv:one v = true) (hc:W.cell? p = some x) (hf:W.frozen? p = false):(store p v).run P W = .ok () (W.setCell p v):=by
 cases v <;> first | (cases hv; done) | simp [go_sem,store,Sem.run,hc,hf]
theorem run_storeCells {P:Program} {b o0 k:Nat}:∀ {vs cs cs':List Value} {i:Nat} {S:St} {W:World},HpOk C A S W→gt S.H k = some cs→b = A k→ovrO cs (o0 + i) vs = some cs'→all1 vs = true →
  ∃ W',(storeCells ⟨b,o0,none⟩ vs i).run P W = .ok () W'∧HpOk C A ⟨S.n,S.E,pt S.H k cs',S.T⟩ W'
 | [],cs,cs',i,S,W,h,hk,hb,ho,h1=>by
  refine ⟨W,by unfold storeCells; rfl,h.ext rfl (fun j=>?_) rfl⟩
  show gt (pt S.H k cs') j = _
  rw [gt_pt]
  by_cases e:k = j
  ·subst e; rw [if_pos rfl,hk,ovrO_nil ho]
  ·rw [if_neg e]
 | v :: vs,cs,cs',i,S,W,h,hk,hb,ho,h1=>by
  subst hb
  unfold all1 at h1
  rw [Bool.and_eq_true] at h1
  obtain ⟨o1,o2⟩:=ovrO_cons ho
  have hB:=Bx.of (h.hb k cs hk)
  have hc:W.cell? ⟨A k,o0 + i,none⟩ = some cs[o0 + i]:=by
   rw [hB.2.1,List.getElem?_toArray,List.getElem?_eq_getElem o1]
  have hs:=h.set (o:=o0 + i) (v:=v) hk
  have hk2:gt (pt S.H k (cs.set (o0 + i) v)) k = some (cs.set (o0 + i) v):=by rw [gt_pt,if_pos rfl]
  obtain ⟨W',e,hp⟩:=run_storeCells (P:=P) (b:=A k) (o0:=o0) (k:=k) (i:=i + 1) hs hk2 rfl o2 h1.2
  refine ⟨W',?_,?_⟩
  ·unfold storeCells
   rw [Addr.add_lit]
   exact (run_bind_ok (run_store1 h1.1 hc (hB.2.2.1 _))).trans e
  ·refine hp.ext rfl (fun j=>?_) rfl
   show gt (pt S.H k cs') j = gt (pt (pt S.H k (cs.set (o0 + i) v)) k cs') j
   rw [gt_pt,gt_pt,gt_pt]
   by_cases e:k = j
   ·rw [if_pos e,if_pos e]
   ·rw [if_neg e,if_neg e,if_neg e]
theorem cellsO_some {g:Bool} {x:Option SV} {cs:List Value} (h:cellsO g x = some cs):∃ v,x = some (.v v)∧v.cells.toList = cs:=by
 unfold cellsO at h
 split at h
 ·cases h; exact ⟨_,rfl,rfl⟩
 ·rename_i v
  split at h
  ·rename_i h1
   cases h
   refine ⟨_,rfl,?_⟩
   cases v <;> first | (cases h1; done) | rfl
  ·cases h
 ·cases h
theorem new_ok (hok:Ok C A S a W) {d:Option Nat} (hd:∀ t,d = some t→t < C.N) (cs:Array Value) (t:TypeId):Ok C (upA A S.n W.heap.size) (S.new d cs.toList) (a.put d (.pointer (some ⟨W.heap.size,0,none⟩))) (W.alloc (.cells cs t (0,0))) :=
 hok.new hd (HB.new W _ t rfl) hok.2.bl.size (fun k ds hk e=>by have:=(hok.2.hb k ds hk).lt; omega) (fun hb=>by have:=(hok.2.tb _ hb).2; omega) ((Below.refl _ _).alloc (Nat.le_refl _) _)
def OkN (C:Cx) (A:Nat→Nat) (S:St) (A':Nat→Nat) (S':St) (a:Act) (W:World):Prop:=Ok C A' S' a W∧S.n≤S'.n∧∀ k,k < S.n→A' k = A k
theorem put_n {S:St} {d:Option Nat} {x:SV}:(S.put d x).n = S.n:=by cases d <;> rfl
theorem okn_put {S0:St} {d:Option Nat} {x:SV} {a:Act} (h:Ok C A (S0.put d x) a W):OkN C A S0 A (S0.put d x) a W:=⟨h,by rw [put_n]; exact Nat.le_refl _,fun _ _=>rfl⟩
theorem okn_new {d:Option Nat} {zs:List Value} {b:Nat} {a:Act} (h:Ok C (upA A S.n b) (S.new d zs) a W):OkN C A S (upA A S.n b) (S.new d zs) a W :=
 ⟨h,by unfold St.new; rw [put_n]; exact Nat.le_succ _,fun k hk=>by unfold upA; rw [if_neg (by omega)]⟩
theorem run1_stepA {b:Bool} {o:Oper} {m:M} {K:St→Prop} (hC:C.fr = none) (hok:Ok C A S a W) (hc:compOp C.P b o.op = some m) (hd:∀ t,o.dst = some t→t < C.N) (hst:∀ g m' x y,m = .st g m' x y→o.dst = none) (h:run1 C m o.dst K S) :
  stepIs C.P (fun u W'=>∃ A' S',OkN C A S A' S' (a.put o.dst u) W'∧K S') ((execOp a.eval o).run C.P W):=by
 by_cases hm:head m = true
 ·obtain ⟨x,h1,h2,h3,-⟩:=run1_head hok.1 hc hm h
  refine stepIs_mono (h3 A a hok.1 W (by rw [kn_none hC]; exact hok.2)) fun u W' ⟨hu,hg⟩=>?_
  subst hu
  exact ⟨A,_,okn_put ⟨hok.1.put h1 hd,(hok.2.grow hg).put _ _⟩,h2⟩
 cases m with
 | new zs =>
  have ho:∃ t i z,o.op = .alloc t∧C.P.info? t = some i∧i.zero = some z∧zs = z.cells.toList:=by
   cases hoo:o.op <;> rw [hoo] at hc
   case alloc t =>
    unfold compOp at hc
    simp only at hc
    split at hc
    ·cases hc
    split at hc
    ·rename_i i hi
     split at hc
     ·rename_i z hz
      cases hc
      exact ⟨t,i,z,rfl,hi,hz,rfl⟩
     ·cases hc
    ·cases hc
   case binOp op t y z yt =>
    cases op <;> unfold compOp at hc <;> (simp only at hc; repeat' (split at hc)) <;> cases hc
   case call cl =>
    obtain ⟨ce,ags,ts⟩:=cl
    unfold compOp at hc
    split at hc <;> first | (cases hc; done) | skip
    all_goals (rename_i heq; cases heq)
    all_goals (repeat' (split at hc)); all_goals (cases hc)
   all_goals (unfold compOp at hc; (try unfold compBd at hc); (try simp only at hc); (repeat' (split at hc)); all_goals (cases hc))
  obtain ⟨t,i,z,ho,hi,hz,rfl⟩:=ho
  have e:(execOp a.eval o).run C.P W = .ok (.value (.pointer (some ⟨W.heap.size,0,none⟩))) (W.alloc (.cells z.cells t (0,0))):=by
   unfold execOp
   rw [ho]
   refine run_v ?_
   unfold Instr.alloc
   have h1:(zeroValue t).run C.P W = .ok z W:=by
    unfold zeroValue typeInfo
    simp [go_sem,hi,hz]
   rw [run_bind_ok h1]
   rfl
  rw [e]
  exact ⟨_,_,okn_new (new_ok hok hd z.cells t),h⟩
 | box g m' x =>
  have ho:∃ t,o.op = .box t x:=by
   cases hoo:o.op <;> rw [hoo] at hc
   case box t y =>
    unfold compOp at hc
    simp only at hc
    split at hc
    ·cases hc; exact ⟨t,rfl⟩
    ·cases hc
   case binOp op t y z yt =>
    cases op <;> unfold compOp at hc <;> (simp only at hc; repeat' (split at hc)) <;> cases hc
   case call cl =>
    obtain ⟨ce,ags,ts⟩:=cl
    unfold compOp at hc
    split at hc <;> first | (cases hc; done) | skip
    all_goals (rename_i heq; cases heq)
    all_goals (repeat' (split at hc)); all_goals (cases hc)
   all_goals (unfold compOp at hc; (try unfold compBd at hc); (try simp only at hc); (repeat' (split at hc)); all_goals (cases hc))
  obtain ⟨t,ho⟩:=ho
  have h':boxX (cellsO g (S.ev x)) o.dst K S:=h
  unfold boxX at h'
  split at h'
  ·rename_i cs hcs
   obtain ⟨v,hv,rfl⟩:=cellsO_some hcs
   have e:(execOp a.eval o).run C.P W = .ok (.value (.pointer (some ⟨W.heap.size,0,none⟩))) (W.alloc (.cells v.cells t (0,0))):=by
    have e1:=hok.1.ev hv
    unfold execOp
    rw [ho]
    refine run_v ?_
    rw [e1]
    rfl
   rw [e]
   exact ⟨_,_,okn_new (new_ok hok hd v.cells t),h'⟩
  ·exact h'.elim
 | st g m' x y =>
  have hdn:=hst g m' x y rfl
  have ho:∃ t,o.op = .store t x y∧gmOf C.P t = some (g,m'):=by
   cases hoo:o.op <;> rw [hoo] at hc
   case store t y z =>
    unfold compOp at hc
    simp only at hc
    split at hc
    ·rename_i g'' m'' hgm
     cases hc; exact ⟨t,rfl,hgm⟩
    ·cases hc
   case binOp op t y z yt =>
    cases op <;> unfold compOp at hc <;> (simp only at hc; repeat' (split at hc)) <;> cases hc
   case call cl =>
    obtain ⟨ce,ags,ts⟩:=cl
    unfold compOp at hc
    split at hc <;> first | (cases hc; done) | skip
    all_goals (rename_i heq; cases heq)
    all_goals (repeat' (split at hc)); all_goals (cases hc)
   all_goals (unfold compOp at hc; (try unfold compBd at hc); (try simp only at hc); (repeat' (split at hc)); all_goals (cases hc))
  obtain ⟨t,ho,hgm⟩:=ho
  have h':stX C m' (S.ev x) (cellsO g (S.ev y)) K S:=h
  unfold stX at h'
  split at h'
  ·rename_i k o' hx
   unfold stH at h'
   split at h'
   ·rename_i cs vs hcs hvs
    unfold stF at h'
    split at h'
    ·rename_i cs' hl hov
     rw [Bool.and_eq_true] at hl
     obtain ⟨v,hv,rfl⟩:=cellsO_some hvs
     obtain ⟨W',e,hp⟩:=run_storeCells (P:=C.P) (b:=A k) (o0:=o') (k:=k) (i:=0) hok.2 hcs rfl hov hl.2
     have e2:(execOp a.eval o).run C.P W = .ok .skip W':=by
      have e1:=hok.1.ev hx
      have e3:=hok.1.ev hv
      unfold execOp
      rw [ho]
      refine run_u ?_
      rw [e1,e3]
      show Sem.run C.P (storeVar t ⟨A k,o',none⟩ v) W = _
      unfold storeVar
      rw [run_bind_ok (run_szOf (gmOf_spec hgm).2.1 W)]
      have hsz:v.cells.size = m':=by rw [← lenB_eq hl.1]; simp
      simp only [hsz,ne_eq,not_true_eq_false,if_false]
      exact e
     rw [e2]
     refine ⟨A,⟨S.n,S.E,pt S.H k cs',S.T⟩,⟨⟨?_,hp⟩,Nat.le_refl _,fun _ _=>rfl⟩,h'⟩
     rw [hdn]
     exact ⟨hok.1.df,hok.1.sz,hok.1.sl,hok.1.nm⟩
    ·exact h'.elim
   ·exact h'.elim
  ·rename_i p hx
   split at h'
   ·rename_i v hvs
    obtain ⟨X,h1,h2,h3,h4,h5⟩:=h'
    obtain ⟨u,hu,huc⟩:=cellsO_some hvs
    obtain ⟨q1,⟨q,q2⟩,q3,q4⟩:=h1 A W hok.2
    have e2:(execOp a.eval o).run C.P W = .ok .skip (W.setCell p v):=by
     have e1:=hok.1.ev hx
     have e3:=hok.1.ev hu
     unfold execOp
     rw [ho]
     refine run_u ?_
     rw [e1,e3]
     show Sem.run C.P (storeVar t p u) W = _
     unfold storeVar
     rw [run_bind_ok (run_szOf (gmOf_spec hgm).2.1 W)]
     have hsz:u.cells.size = 1:=by
      have:=congrArg List.length huc
      simpa using this
     simp only [hsz,ne_eq,not_true_eq_false,if_false]
     rw [huc]
     unfold storeCells
     rw [Addr.add_zero']
     exact run_bind_ok (run_store1 h4 q2 q3)
    rw [e2]
    refine ⟨A,⟨S.n,S.E,S.H,X⟩,⟨⟨?_,?_⟩,Nat.le_refl _,fun _ _=>rfl⟩,h5⟩
    ·rw [hdn]
     exact ⟨hok.1.df,hok.1.sz,hok.1.sl,hok.1.nm⟩
    ·refine HpOk.left hok.2 (v:=undef) (u:=undef) (hmv:=mv_ok hC hok.2) ⟨rfl,⟨rfl,rfl,rfl,by rw [World.size_setCell]; exact Nat.le_refl _,fun i hi hb=>Below.heap_setCell W p v i fun e=>hb (by rw [mv_none hC,e]; exact q1)⟩,q4,h2,fun b hb=>⟨.inl (h3 b hb),by rw [World.size_setCell]; exact (hok.2.tb b (h3 b hb)).2⟩⟩
   ·rename_i mm vs' hvs
    obtain ⟨hl,X,h1,h2,h3,h5⟩:=h'
    obtain ⟨u,hu,huc⟩:=cellsO_some hvs
    obtain ⟨q1,W',e,hmv,q4⟩:=h1 A W hok.2
    have e2:(execOp a.eval o).run C.P W = .ok .skip W':=by
     have e1:=hok.1.ev hx
     have e3:=hok.1.ev hu
     unfold execOp
     rw [ho]
     refine run_u ?_
     rw [e1,e3]
     show Sem.run C.P (storeVar t p u) W = _
     unfold storeVar
     rw [run_bind_ok (run_szOf (gmOf_spec hgm).2.1 W)]
     have hsz:u.cells.size = mm + 2:=by
      have:=congrArg List.length huc
      rw [lenB_eq hl] at this
      simpa using this
     simp only [hsz,ne_eq,not_true_eq_false,if_false]
     rw [huc]
     exact e
    rw [e2]
    refine ⟨A,⟨S.n,S.E,S.H,X⟩,⟨⟨?_,?_⟩,Nat.le_refl _,fun _ _=>rfl⟩,h5⟩
    ·rw [hdn]
     exact ⟨hok.1.df,hok.1.sz,hok.1.sl,hok.1.nm⟩
    ·obtain ⟨m1,m2,m3,m4,m5⟩:=hmv
     refine HpOk.left hok.2 (v:=undef) (u:=undef) (hmv:=mv_ok hC hok.2) ⟨rfl,⟨m1,m2,m3,m4,fun i hi hb=>m5 i hi fun e=>hb (by rw [mv_none hC,List.mem_singleton.1 e]; exact q1)⟩,q4,h2,fun b hb=>⟨.inl (h3 b hb),Nat.lt_of_lt_of_le (hok.2.tb b (h3 b hb)).2 m4⟩⟩
   ·exact h'.elim
  ·exact h'.elim
 | call b' f l =>
  have hb:b' = false:=by cases b' with | false=>rfl | true=>exact absurd rfl hm
  subst hb
  have ho:∃ ags ts,o.op = .call ⟨.value (.func f),ags,ts⟩∧ags.toList = l:=by
   cases hoo:o.op <;> rw [hoo] at hc
   case call cl =>
    obtain ⟨ce,ags,ts⟩:=cl
    unfold compOp at hc
    split at hc <;> first | (cases hc; done) | skip
    all_goals (rename_i heq; cases heq)
    ·cases hc; exact ⟨_,_,rfl,rfl⟩
    all_goals (repeat' (split at hc)); all_goals (cases hc)
   case binOp op t y z yt =>
    cases op <;> unfold compOp at hc <;> (simp only at hc; repeat' (split at hc)) <;> cases hc
   all_goals (unfold compOp at hc; (try unfold compBd at hc); (try simp only at hc); (repeat' (split at hc)); all_goals (cases hc))
  obtain ⟨ags,ts,ho,hal⟩:=ho
  have h':callX C false f (evs S l) o.dst K S:=h
  unfold callX at h'
  cases he:evs S l with
  | none=>rw [he] at h'; exact h'.elim
  | some vs =>
   rw [he] at h'
   obtain ⟨ι,v,X,h1,h2⟩:=h'
   rw [exec_call ho (hok.1.ev (x:=.func f) (v:=.v _) rfl),evs_arr hok.1 (by rw [hal]; exact he)]
   refine stepIs_mono (h1 A W hok.2).out fun u W' ⟨i,hl⟩=>?_
   have hu:=hl.1
   subst hu
   have hs2:SlOk C A ⟨S.n,S.E,S.H,X i⟩ a:=⟨hok.1.df,hok.1.sz,hok.1.sl,hok.1.nm⟩
   exact ⟨A,_,okn_put (S0:=⟨S.n,S.E,S.H,X i⟩) ⟨hs2.put (x:=.v (v i)) (Nat.zero_le _) hd,(hok.2.left hl (mv_ok hC hok.2)).put _ _⟩,h2 i⟩
 | gen b' k l =>
  exfalso
  cases hoo:o.op <;> rw [hoo] at hc
  case binOp op t y z yt =>
   cases op <;> unfold compOp at hc <;> (simp only at hc; repeat' (split at hc)) <;> cases hc
  case call cl =>
   obtain ⟨ce,ags,ts⟩:=cl
   unfold compOp at hc
   split at hc <;> first | (cases hc; done) | skip
   all_goals (rename_i heq; cases heq)
   all_goals (repeat' (split at hc)); all_goals (cases hc)
  all_goals (unfold compOp at hc; (try unfold compBd at hc); (try simp only at hc); (repeat' (split at hc)); all_goals (cases hc))
 | _=>exact absurd rfl hm
theorem run1_stepGA {b b':Bool} {o:Oper} {k:GK} {l:List Operand} {K:St→Prop} (hC:C.fr = none) (hok:Ok C A S a W) (hc:compGen b o = some (.gen b' k l)) (hd:∀ t,o.dst = some t→t < C.N) (h:run1 C (.gen b' k l) o.dst K S) :
  stepIs C.P (fun u W'=>∃ A' S',OkN C A S A' S' (a.put o.dst u) W'∧K S') ((execOp a.eval o).run C.P W):=by
 cases b' with
 | true =>
  obtain ⟨x,x1,x2,x3⟩:=run1_headG hok.1 hc rfl h
  rw [x3 A a hok.1 W]
  exact ⟨A,_,okn_put ⟨hok.1.put x1 hd,hok.2.put _ _⟩,x2⟩
 | false =>
  have h':genX C false k (evs S l) o.dst K S:=h
  unfold genX at h'
  cases he:evs S l with
  | none=>rw [he] at h'; exact h'.elim
  | some vs =>
   rw [he] at h'
   obtain ⟨ι,v,X,h1,h2⟩:=h'
   rw [(gen_run hc a.eval).2,evs_map hok.1 he]
   refine stepIs_mono (h1 A W hok.2).out fun u W' ⟨i,hl⟩=>?_
   have hu:=hl.1
   subst hu
   have hs2:SlOk C A ⟨S.n,S.E,S.H,X i⟩ a:=⟨hok.1.df,hok.1.sz,hok.1.sl,hok.1.nm⟩
   exact ⟨A,_,okn_put (S0:=⟨S.n,S.E,S.H,X i⟩) ⟨hs2.put (x:=.v (v i)) (Nat.zero_le _) hd,(hok.2.left hl (mv_ok hC hok.2)).put _ _⟩,h2 i⟩
theorem run1_step {b:Bool} {o:Oper} {m:M} {K:St→Prop} (hC:C.fr = none) (hok:Ok C A S a W) (hc:compOp C.P b o.op = some m) (hd:∀ t,o.dst = some t→t < C.N) (hst:∀ g m' x y,m = .st g m' x y→o.dst = none) (h:run1 C m o.dst K S) :
  stepIs C.P (fun u W'=>∃ A' S',Ok C A' S' (a.put o.dst u) W'∧K S') ((execOp a.eval o).run C.P W) :=
 stepIs_mono (run1_stepA hC hok hc hd hst h) fun u W' ⟨A',S',h1,h2⟩=>⟨A',S',h1.1,h2⟩
theorem run1_stepG {b b':Bool} {o:Oper} {k:GK} {l:List Operand} {K:St→Prop} (hC:C.fr = none) (hok:Ok C A S a W) (hc:compGen b o = some (.gen b' k l)) (hd:∀ t,o.dst = some t→t < C.N) (h:run1 C (.gen b' k l) o.dst K S) :
  stepIs C.P (fun u W'=>∃ A' S',Ok C A' S' (a.put o.dst u) W'∧K S') ((execOp a.eval o).run C.P W) :=
 stepIs_mono (run1_stepGA hC hok hc hd h) fun u W' ⟨A',S',h1,h2⟩=>⟨A',S',h1.1,h2⟩
def compGd (ops:Array Oper):Option (Nat × Bool)→Option (Option (Nat × Bool))
 | none=>some none
 | some (j,w)=>match (ops[j]?).bind (·.dst) with
  | some t=>some (some (t,w))
  | none=>none
def dstOk (N:Nat) (m:M) (d:Option Nat):Bool :=
 (match d with | some t=>decide (t < N) | none=>true) && (match m with | .st _ _ _ _=>d.isNone | _=>true)
def compG (P:Program) (b:Bool) (ops:Array Oper) (N:Nat) (o:Oper):Option G :=
 match compOp P b o.op,compGen b o,compGd ops o.guard with
 | some m,_,some g=>if dstOk N m o.dst then some (o.dst,g,m) else none
 | none,some m,some g=>if dstOk N m o.dst then some (o.dst,g,m) else none
 | none,none,some g=>if dstOk N .trap o.dst then some (o.dst,g,.trap) else none
 | _,_,none=>none
theorem dstOk_spec {N:Nat} {m:M} {d:Option Nat} (h3:dstOk N m d = true):(∀ t,d = some t→t < N)∧(∀ g' m' x y,m = .st g' m' x y→d = none):=by
 unfold dstOk at h3
 rw [Bool.and_eq_true] at h3
 refine ⟨fun t e=>?_,fun g' m'' x y e=>?_⟩
 ·have:=h3.1
  rw [e] at this
  simpa using this
 ·have:=h3.2
  subst e
  simpa using this
theorem compG_spec {P:Program} {b:Bool} {ops:Array Oper} {N:Nat} {o:Oper} {d:Option Nat} {g:Option (Nat × Bool)} {m:M} (h:compG P b ops N o = some (d,g,m)) :
  o.dst = d∧(compOp P b o.op = some m∨m = .trap∨compGen b o = some m)∧compGd ops o.guard = some g∧(∀ t,d = some t→t < N)∧(∀ g' m' x y,m = .st g' m' x y→d = none):=by
 unfold compG at h
 split at h
 ·rename_i m' _ g' h1 h2
  split at h
  ·rename_i h3
   cases h
   exact ⟨rfl,.inl h1,h2,(dstOk_spec h3).1,(dstOk_spec h3).2⟩
  ·cases h
 ·rename_i m' g' h1 h0 h2
  split at h
  ·rename_i h3
   cases h
   exact ⟨rfl,.inr (.inr h0),h2,(dstOk_spec h3).1,(dstOk_spec h3).2⟩
  ·cases h
 ·rename_i g' h1 h0 h2
  split at h
  ·rename_i h3
   cases h
   exact ⟨rfl,.inr (.inl rfl),h2,(dstOk_spec h3).1,(dstOk_spec h3).2⟩
  ·cases h
 ·cases h
theorem compGen_gen {b:Bool} {o:Oper} {m:M} (h:compGen b o = some m):∃ k l,m = .gen b k l:=by
 unfold compGen at h
 split at h <;> first | (cases h; exact ⟨_,_,rfl⟩) | cases h
theorem run1_trap {d:Option Nat} {K:St→Prop} (h:run1 C .trap d K S):False:=h
def compL (P:Program) (ops:Array Oper) (N:Nat):List Oper→Option (List G)
 | []=>some []
 | o :: l=>match compG P false ops N o,compL P ops N l with
  | some g,some r=>some (g :: r)
  | _,_=>none
theorem yielded_of {ops:Array Oper} {j t:Nat} {w b:Bool} (hs:SlOk C A S a) (hj:(ops[j]?).bind (·.dst) = some t) (ht:gt S.E t = some (.v (.bool b))):yielded ops a.tmps j = some b:=by
 unfold yielded
 rw [hj]
 have h:=hs.sl t _ ht
 have h2:a.tmps.getD t undef = .bool b:=h
 cases hx:a.tmps[t]? with
 | none=>simp [hx,undef] at h2
 | some x =>
  have:x = .bool b:=by simpa [hx] using h2
  subst this
  simp [hx]
theorem yielded_tup {ops:Array Oper} {j t:Nat} {vs:Array Value} (hs:SlOk C A S a) (hj:(ops[j]?).bind (·.dst) = some t) (ht:gt S.E t = some (.v (.tuple vs))):yielded ops a.tmps j = none:=by
 unfold yielded
 rw [hj]
 have h:=hs.sl t _ ht
 have h2:a.tmps.getD t undef = .tuple vs:=h
 cases hx:a.tmps[t]? with
 | none=>simp [hx]
 | some x =>
  have:x = .tuple vs:=by simpa [hx] using h2
  subst this
  simp [hx]
theorem gdS_spec {ops:Array Oper} {j t:Nat} {w:Bool} {m:M} {d:Option Nat} {K:St→Prop} (hs:SlOk C A S a) (hj:(ops[j]?).bind (·.dst) = some t) (h:gdS (gt S.E t) w C m d K S) :
  (yielded ops a.tmps j = some w∧run1 C m d K S)∨(yielded ops a.tmps j≠some w∧K (S.put d (.v undef))):=by
 unfold gdS at h
 split at h
 ·rename_i b hb
  have hy:=yielded_of (w:=w) hs hj hb
  unfold gdT at h
  by_cases hbw:b = w
  ·rw [if_pos hbw] at h
   exact .inl ⟨by rw [hy,hbw],h⟩
  ·rw [if_neg hbw] at h
   exact .inr ⟨by rw [hy]; simpa using hbw,h⟩
 ·rename_i vs hb
  exact .inr ⟨by rw [yielded_tup hs hj hb]; simp,h⟩
 ·exact h.elim
theorem ops_sound {ops:Array Oper} {Q:Exit→Act→World→Prop} {p:St→Prop} (hC:C.fr = none) (hp:∀ A S a W,Ok C A S a W→p S→Q .normal a W) :
  ∀ {l:List Oper} {gl:List G} {A:Nat→Nat} {S:St} {a:Act} {W:World},compL C.P ops C.N l = some gl→Sx.ops C gl p S→Ok C A S a W→wpList C.P ops Q l a W
 | [],gl,A,S,a,W,hc,h,hok=>by
  cases hc
  exact wpList_nil (hp A S a W hok h)
 | o :: l,gl,A,S,a,W,hc,h,hok=>by
  unfold compL at hc
  split at hc
  ·rename_i g r h1 h2
   cases hc
   obtain ⟨d,gd,m⟩:=g
   obtain ⟨e1,e2,e3,e4,e5⟩:=compG_spec h1
   subst e1
   have step:Region.wanted o (yielded ops a.tmps) = true→run1 C m o.dst (Sx.ops C r p) S→wpList C.P ops Q (o :: l) a W:=fun hw h=>by
    rcases e2 with e2 | e2 | e2
    rotate_left
    ·subst e2; exact (run1_trap h).elim
    ·obtain ⟨k,l',rfl⟩:=compGen_gen e2
     unfold wpList
     rw [if_pos hw]
     refine .inl ?_
     unfold Oper.wp
     exact stepIs_upon (run1_stepG hC hok e2 e4 h) fun v W' ⟨A',S',hok',hK⟩=>ops_sound hC hp h2 hK hok'
    unfold wpList
    rw [if_pos hw]
    refine .inl ?_
    unfold Oper.wp
    exact stepIs_upon (run1_step hC hok e2 e4 e5 h) fun v W' ⟨A',S',hok',hK⟩=>ops_sound hC hp h2 hK hok'
   have h':gdX gd C m o.dst (Sx.ops C r p) S:=h
   unfold gdX at h'
   split at h'
   ·refine step ?_ h'
    unfold compGd at e3
    split at e3
    ·rename_i hg; unfold Region.wanted; rw [hg]
    ·split at e3 <;> cases e3
   ·rename_i t w
    unfold compGd at e3
    split at e3
    ·cases e3
    ·rename_i j w' hg
     split at e3
     ·rename_i t' hj
      cases e3
      rcases gdS_spec hok.1 hj h' with ⟨hy,h'⟩ | ⟨hy,h'⟩
      ·exact step (by unfold Region.wanted; rw [hg]; simp [hy]) h'
      · have hno:Region.wanted o (yielded ops a.tmps) = false:=by unfold Region.wanted; rw [hg]; simpa using hy
        unfold wpList
        rw [if_neg (by rw [hno]; decide)]
        exact ops_sound hC hp h2 h' ⟨hok.1.put (x:=.v undef) (Nat.zero_le _) e4,hok.2.put _ _⟩
     ·cases e3
  ·cases hc
end Sx
end Go.Proofs.YtncmmbacoknefaaGreat

/- DriftM: As the drift law, but a call that is awaited alone may change the blocks 'rows'. -/
namespace Go.Proofs.YtncmmbacoknefaaGreat
open Go Go.RowKit
set_option linter.unusedVariables false
set_option linter.unusedSimpArgs false
namespace Dm
def Mvs (bs:List Nat) (W W':World):Prop :=
 W'.os = W.os∧W'.tape = W.tape∧W'.output = W.output∧W.heap.size≤W'.heap.size∧∀ i,i < W.heap.size→i ∉ bs→W'.heap[i]? = W.heap[i]?
theorem mv_gt {bs:List Nat} {W W':World} (g:W.grownBy W' none):Mvs bs W W':=⟨g.os,g.tape,g.output,g.size,fun i hi _=>g.block i hi (by simp)⟩
theorem Mvs.size {bs:List Nat} {W W':World} (g:Mvs bs W W'):W.heap.size≤W'.heap.size:=g.2.2.2.1
theorem _root_.Go.Proofs.YtncmmbacoknefaaGreat.HB.mv {bs:List Nat} {w w':World} {b n0:Nat} {cs:Array Value} (h:HB w b cs) (g:Mvs bs w w') (hb:n0≤b) (hrow:∀ r∈bs,r < n0):HB w' b cs:=by
 have hl:=h.lt
 obtain ⟨T,h⟩:=h
 exact ⟨T,(g.2.2.2.2 b hl (fun e=>by have:=hrow _ e; omega)).trans h⟩
theorem _root_.Go.Proofs.YtncmmbacoknefaaGreat.Fit.mv {rows:List Nat} {n0 b:Nat} {bs:List (Nat × Array Value)} {w w':World} {zs:Array Value} (h:Fit n0 bs w b zs) (g:Mvs rows w w') (hrow:∀ r∈rows,r < n0):Fit n0 bs w' b zs:=⟨h.1,h.2.1,h.2.2.mv g h.1 hrow⟩
section
variable {P:Program} {ops:Array Oper} {Q:Exit→Act→World→Prop} {S:World→Prop} {rows:List Nat}
def wpDr (P:Program) (ops:Array Oper) (Q:Exit→Act→World→Prop) (S:World→Prop) (rows:List Nat) (n n0 g:Nat) (bx:Boxes) (L:Array Bool→Act→List (Nat × Array Value)→World→Prop):Nat→Array Bool→Act→List (Nat × Array Value)→World→Prop
 | 0,listed,a,bs,w=>∀ w1,S w1→w.grownBy w1 none→L listed a bs w1
 | f + 1,listed,a,bs,w=>∀ w1,S w1→w.grownBy w1 none→Region.ready .any ops listed≠[] ∧
   ∀ i∈Region.ready .any ops listed,(n≤i→wpOp P ops Q i (wpAny P .any ops Q (f + g) (listed.setIfInBounds i true)) a w1) ∧
    (i < n→(∃ x∈bx,x.1 = i)→∀ x∈bx,x.1 = i→∀ b,Fit n0 bs w1 b x.2.2→wpDr P ops Q S rows n n0 g bx L f (listed.setIfInBounds i true) (a.put (some x.2.1) (.pointer (some ⟨b,0,none⟩))) ((b,x.2.2) :: bs) w1) ∧
    (i < n→(¬∃ x∈bx,x.1 = i)→wpOp P ops Q i (fun a' w'=>Mvs rows w1 w'∧wpDr P ops Q S rows n n0 g bx L f (listed.setIfInBounds i true) a' bs w') a w1)
theorem wpDr_drift {n n0 g:Nat} {bx:Boxes} {L:Array Bool→Act→List (Nat × Array Value)→World→Prop}:∀ {f:Nat} {listed:Array Bool} {a:Act} {bs:List (Nat × Array Value)} {w w':World},wpDr P ops Q S rows n n0 g bx L f listed a bs w→w.grownBy w' none→wpDr P ops Q S rows n n0 g bx L f listed a bs w'
 | 0,_,_,_,_,_,h,g=>fun w1 hs h1=>h w1 hs (gt_trans g h1)
 | _ + 1,_,_,_,_,_,h,g=>fun w1 hs h1=>h w1 hs (gt_trans g h1)
theorem wpAny_of_dr {n n0 g:Nat} {bx:Boxes} {L:Array Bool→Act→List (Nat × Array Value)→World→Prop} (hk:∀ w w',S w→Mvs rows w w'→S w') (hn0:∀ w,S w→n0≤w.heap.size) (hrow:∀ r∈rows,r < n0)
  (hbx:∀ x∈bx,∃ o,ops[x.1]? = some o∧Makes P o x.2.1 x.2.2) (hL:∀ listed a bs w,L listed a bs w→wpAny P .any ops Q g listed a w) :
  ∀ (f:Nat) (listed:Array Bool) (a:Act) (bs:List (Nat × Array Value)) (w:World),S w→(∀ p∈bs,p.1 < w.heap.size)→wpDr P ops Q S rows n n0 g bx L f listed a bs w→wpAny P .any ops Q (f + g) listed a w
 | 0,listed,a,bs,w,hs,hlt,h=>by rw [Nat.zero_add]; exact hL _ _ _ _ (h w hs (gt_refl _ _))
 | f + 1,listed,a,bs,w,hs,hlt,h=>by
  rw [show f + 1 + g = (f + g) + 1 by omega]
  have h':=h w hs (gt_refl _ _)
  refine ⟨fun h0=>absurd h0 h'.1,fun i hi=>?_⟩
  rcases Nat.lt_or_ge i n with hin | hin
  rotate_left
  ·exact (h'.2 i hi).1 hin
  by_cases hx:∃ x∈bx,x.1 = i
  ·obtain ⟨x,hxm,rfl⟩:=hx
   obtain ⟨o,ho,hd,hg,haf,hrun⟩:=hbx x hxm
   obtain ⟨T,hrunT⟩:=hrun a.eval w
   unfold wpOp
   simp only [ho]
   have hw:Region.wanted o (yielded ops a.tmps) = true:=by unfold Region.wanted; rw [hg]
   simp only [hw,if_true]
   refine .inl ?_
   unfold Oper.wp
   rw [hrunT]
   simp only [Oper.upon]
   have hs2:S (w.alloc (.cells x.2.2 T (0,0))):=hk _ _ hs (mv_gt (gt_alloc _ _ _))
   have hfit:Fit n0 bs (w.alloc (.cells x.2.2 T (0,0))) w.heap.size x.2.2:=⟨hn0 _ hs,fun p hp e=>by have:=hlt p hp; omega,HB.new _ _ _ rfl⟩
   have H:=((h _ hs2 (gt_alloc _ _ _)).2 x.1 hi).2.1 hin ⟨x,hxm,rfl⟩ x hxm rfl _ hfit
   rw [hd]
   refine wpAny_of_dr hk hn0 hrow hbx hL f _ _ _ _ hs2 (fun p hp=>?_) H
   rcases List.mem_cons.1 hp with rfl | hp
   ·simp
   ·have:=hlt p hp; simp; omega
  ·refine wpOp_mono (fun a' w' ⟨hg,hd⟩=>?_) ((h'.2 i hi).2.2 hin hx)
   exact wpAny_of_dr hk hn0 hrow hbx hL f _ a' bs w' (hk _ _ hs hg) (fun p hp=>Nat.lt_of_lt_of_le (hlt p hp) hg.size) hd
theorem wpDr_first {n n0 g i:Nat} {lp:List Nat} {bx:Boxes} {oi:Oper} {v:Value} {L:Array Bool→Act→List (Nat × Array Value)→World→Prop} (hi:ops[i]? = some oi) (hsel:∀ (j:Nat) (o:Oper) cs b,ops[j]? = some o→o.op≠.select cs b)
  (htl:Region.tailB ops n lp = true) (hin:i < n) (hilp:i ∉ lp) (hibx:¬∃ x∈bx,x.1 = i) (hQ:∀ c (a:Act) d v w,Q (.panic c) (a.put d v) w→Q (.panic c) a w) (hk:∀ w w',S w→Mvs rows w w'→S w') (hrow:∀ r∈rows,r < n0)
  (hbx:∀ x∈bx,∃ o,ops[x.1]? = some o∧Makes P o x.2.1 x.2.2)
  (hdone:∀ listed a bs w,L listed a bs w→∀ j∈Region.ready .any ops listed,n≤j) :
  ∀ (f:Nat) (listed:Array Bool) (a:Act) (bs:List (Nat × Array Value)) (w:World),HeadInv .any ops n listed →
   (∀ j oj,ops[j]? = some oj→j≠i→listed.getD j true = false→(∀ e∈oj.after,Region.binds .any e = true→e.on≠i)→oi.apart ops oj = true) →
   i∈Region.ready .any ops listed→YieldsD P ops S none oi v a →
   wpDr P ops Q S rows n n0 g bx L f (listed.setIfInBounds i true) (a.put oi.dst v) bs w→wpDr P ops Q S rows n n0 g bx L (f + 1) listed a bs w:=by
 intro f
 induction f with
 | zero =>
  intro listed a bs w inv _ hr hy H w1 hs1 ht1
  have hun:=(mem_ready.1 hr).1
  refine ⟨fun h=>(by rw [h] at hr; cases hr),fun j hj=>?_⟩
  have hjn:j < n:=tailB_spec htl inv hin hilp hun j hj
  by_cases hji:j = i
  ·subst hji; exact ⟨fun h=>absurd h (by omega),fun _ h=>absurd h hibx,fun _ _=>hy.wpOp hi hs1 fun w' hg=>⟨mv_gt hg,wpDr_drift H (gt_trans ht1 hg)⟩⟩
  ·have:=hdone _ _ _ _ (H w1 hs1 ht1) j (ready_mono hj hji)
   omega
 | succ f ih =>
  intro listed a bs w inv hfree hr hy H w1 hs1 ht1
  have hun:=(mem_ready.1 hr).1
  refine ⟨fun h=>(by rw [h] at hr; cases hr),fun j hj=>?_⟩
  have hjn:j < n:=tailB_spec htl inv hin hilp hun j hj
  by_cases hji:j = i
  ·subst hji; exact ⟨fun h=>absurd h (by omega),fun _ h=>absurd h hibx,fun _ _=>hy.wpOp hi hs1 fun w' hg=>⟨mv_gt hg,wpDr_drift H (gt_trans ht1 hg)⟩⟩
  ·obtain ⟨_,hA,hB⟩:=(H w1 hs1 ht1).2 j (ready_mono hj hji)
   obtain ⟨hjun,oj,hoj,hall⟩:=mem_ready.1 hj
   have hnot:∀ e∈oj.after,Region.binds .any e = true→e.on≠i:=fun e he hb heq=>by
    have h1:=hall e he hb
    rw [heq,getD_both hun] at h1
    cases h1
   have hap:=hfree j oj hoj hji hjun hnot
   have hfree':∀ k ok,ops[k]? = some ok→k≠i→(listed.setIfInBounds j true).getD k true = false →
     (∀ e∈ok.after,Region.binds .any e = true→e.on≠i)→oi.apart ops ok = true:=fun k ok hk hki hun hno=>by
    refine hfree k ok hk hki ?_ hno
    by_cases hjk:j = k
    ·subst hjk; exact hjun
    ·rw [getD_set_ne true hjk] at hun; exact hun
   refine ⟨fun h=>absurd h (by omega),fun _ hx x hxm hxj b hfit=>?_,fun _ hx=>?_⟩
   ·have h1:=hA hjn hx x hxm hxj b hfit
    obtain ⟨o,ho,hmk⟩:=hbx x hxm
    rw [hxj] at ho
    obtain rfl:oj = o:=Option.some.inj (hoj.symm.trans ho)
    obtain ⟨a1,a2,a3⟩:=Oper.apart_spec hap
    have hd:=hmk.1
    refine ih (listed.setIfInBounds j true) _ _ w1 (inv.set hj hjn) hfree' (ready_mono hr (Ne.symm hji)) (hy.of_same (execOp_put oi (fun cs b=>hsel i oi cs b hi) a _ _ (fun d e=>a3 d (by rw [hd]; exact e))) (wanted_put oi a _ _ (fun d e=>a3 d (by rw [hd]; exact e)))) ?_
    rw [Array.setIfInBounds_comm _ _ hji,← Act.put_comm a v _ (fun d e e'=>a2 d e (by rw [hd]; exact e'))]
    exact h1
   ·have h2:=wpOp_putD hoj hap (fun cs b=>hsel i oi cs b hi) (fun cs b=>hsel j oj cs b hoj) hQ hy (hB hjn hx)
    refine wpOp_mono (fun a' w' h3=>⟨h3.2.1,ih (listed.setIfInBounds j true) a' bs w' (inv.set hj hjn) hfree' (ready_mono hr (Ne.symm hji)) h3.1 ?_⟩) h2
    rw [Array.setIfInBounds_comm _ _ hji]
    exact h3.2.2
theorem wpDr_late {n n0 g i:Nat} {bx:Boxes} {oi:Oper} {v:Value} {L:Array Bool→Act→List (Nat × Array Value)→World→Prop} (hi:ops[i]? = some oi) (hsel:∀ (j:Nat) (o:Oper) cs b,ops[j]? = some o→o.op≠.select cs b)
  (hin:i < n) (hibx:¬∃ x∈bx,x.1 = i) (hQ:∀ c (a:Act) d v w,Q (.panic c) (a.put d v) w→Q (.panic c) a w) (hk:∀ w w',S w→Mvs rows w w'→S w')
  (hbx:∀ x∈bx,∃ o,ops[x.1]? = some o∧Makes P o x.2.1 x.2.2)
  (hdone:∀ listed a bs w,L listed a bs w→∀ j∈Region.ready .any ops listed,n≤j) (hLA:∀ listed a bs w,L listed a bs w→wpAny P .any ops Q g listed a w) :
  ∀ (f:Nat) (listed:Array Bool) (a:Act) (bs:List (Nat × Array Value)) (w:World),HeadInv .any ops n listed →
   (∀ j oj,ops[j]? = some oj→j≠i→listed.getD j true = false→(∀ e∈oj.after,Region.binds .any e = true→e.on≠i)→oi.apart ops oj = true) →
   i∈Region.ready .any ops listed→Yields P ops oi v a →
   wpDr P ops Q S rows n n0 g bx L f (listed.setIfInBounds i true) (a.put oi.dst v) bs w→wpDr P ops Q S rows n n0 g bx L (f + 1) listed a bs w:=by
 have hQ':∀ c (a:Act) w,Q (.panic c) (a.put oi.dst v) w→Q (.panic c) a w:=fun c a w h=>hQ c a _ _ w h
 intro f
 induction f with
 | zero =>
  intro listed a bs w inv hfree hr hy H w1 hs1 ht1
  have hun:=(mem_ready.1 hr).1
  refine ⟨fun h=>(by rw [h] at hr; cases hr),fun j hj=>?_⟩
  by_cases hji:j = i
  ·subst hji; exact ⟨fun h=>absurd h (by omega),fun _ h=>absurd h hibx,fun _ _=>(yields_d (S:=S) (row:=none) hy).wpOp hi hs1 fun w' hg=>⟨mv_gt hg,wpDr_drift H (gt_trans ht1 hg)⟩⟩
  have hj2:=ready_mono hj hji
  have hnj:=hdone _ _ _ _ (H w1 hs1 ht1) j hj2
  refine ⟨fun _=>?_,fun h=>absurd h (by omega),fun h=>absurd h (by omega)⟩
  have HA:=hLA _ _ _ _ (H w1 hs1 ht1)
  obtain ⟨hjun,oj,hoj,hall⟩:=mem_ready.1 hj
  have hnot:∀ e∈oj.after,Region.binds .any e = true→e.on≠i:=fun e he hb heq=>by
   have h1:=hall e he hb
   rw [heq,getD_both hun] at h1
   cases h1
  have hfree':∀ k ok,ops[k]? = some ok→k≠i→(listed.setIfInBounds j true).getD k true = false →
    (∀ e∈ok.after,Region.binds .any e = true→e.on≠i)→oi.apart ops ok = true:=fun k ok hk hki hun hno=>by
   refine hfree k ok hk hki ?_ hno
   by_cases hjk:j = k
   ·subst hjk; exact hjun
   ·rw [getD_set_ne true hjk] at hun; exact hun
  cases g with
  | zero=>rw [HA.1] at hj2; cases hj2
  | succ g =>
   have h2:=wpOp_put hoj (hfree j oj hoj hji hjun hnot) (fun cs b=>hsel i oi cs b hi) (fun cs b=>hsel j oj cs b hoj) hQ' hy (HA.2 j hj2)
   rw [Nat.zero_add]
   refine wpOp_mono (fun a' w' h3=>wpAny_first hi hsel hQ' g _ a' w' hfree' (ready_mono hr (Ne.symm hji)) h3.1 ?_) h2
   rw [Array.setIfInBounds_comm _ _ hji]
   exact h3.2
 | succ f ih =>
  intro listed a bs w inv hfree hr hy H w1 hs1 ht1
  have hun:=(mem_ready.1 hr).1
  refine ⟨fun h=>(by rw [h] at hr; cases hr),fun j hj=>?_⟩
  by_cases hji:j = i
  ·subst hji; exact ⟨fun h=>absurd h (by omega),fun _ h=>absurd h hibx,fun _ _=>(yields_d (S:=S) (row:=none) hy).wpOp hi hs1 fun w' hg=>⟨mv_gt hg,wpDr_drift H (gt_trans ht1 hg)⟩⟩
  obtain ⟨hC,hA,hB⟩:=(H w1 hs1 ht1).2 j (ready_mono hj hji)
  obtain ⟨hjun,oj,hoj,hall⟩:=mem_ready.1 hj
  have hnot:∀ e∈oj.after,Region.binds .any e = true→e.on≠i:=fun e he hb heq=>by
   have h1:=hall e he hb
   rw [heq,getD_both hun] at h1
   cases h1
  have hap:=hfree j oj hoj hji hjun hnot
  have hfree':∀ k ok,ops[k]? = some ok→k≠i→(listed.setIfInBounds j true).getD k true = false →
    (∀ e∈ok.after,Region.binds .any e = true→e.on≠i)→oi.apart ops ok = true:=fun k ok hk hki hun hno=>by
   refine hfree k ok hk hki ?_ hno
   by_cases hjk:j = k
   ·subst hjk; exact hjun
   ·rw [getD_set_ne true hjk] at hun; exact hun
  refine ⟨fun hnj=>?_,fun hjn hx x hxm hxj b hfit=>?_,fun hjn hx=>?_⟩
  ·have h2:=wpOp_put hoj hap (fun cs b=>hsel i oi cs b hi) (fun cs b=>hsel j oj cs b hoj) hQ' hy (hC hnj)
   refine wpOp_mono (fun a' w' h3=>?_) h2
   rw [show f + 1 + g = (f + g) + 1 by omega]
   refine wpAny_first hi hsel hQ' _ _ a' w' hfree' (ready_mono hr (Ne.symm hji)) h3.1 ?_
   rw [Array.setIfInBounds_comm _ _ hji]
   exact h3.2
  ·have h1:=hA hjn hx x hxm hxj b hfit
   obtain ⟨o,ho,hmk⟩:=hbx x hxm
   rw [hxj] at ho
   obtain rfl:oj = o:=Option.some.inj (hoj.symm.trans ho)
   obtain ⟨a1,a2,a3⟩:=Oper.apart_spec hap
   have hd:=hmk.1
   refine ih (listed.setIfInBounds j true) _ _ w1 (inv.set hj hjn) hfree' (ready_mono hr (Ne.symm hji)) (hy.of_same (execOp_put oi (fun cs b=>hsel i oi cs b hi) a _ _ (fun d e=>a3 d (by rw [hd]; exact e))) (wanted_put oi a _ _ (fun d e=>a3 d (by rw [hd]; exact e)))) ?_
   rw [Array.setIfInBounds_comm _ _ hji,← Act.put_comm a v _ (fun d e e'=>a2 d e (by rw [hd]; exact e'))]
   exact h1
  ·have h2:=wpOp_put hoj hap (fun cs b=>hsel i oi cs b hi) (fun cs b=>hsel j oj cs b hoj) hQ' hy (hB hjn hx)
   refine wpOp_mono (fun a' w' h3=>⟨h3.2.1,ih (listed.setIfInBounds j true) a' bs w' (inv.set hj hjn) hfree' (ready_mono hr (Ne.symm hji)) h3.1 ?_⟩) h2
   rw [Array.setIfInBounds_comm _ _ hji]
   exact h3.2.2
def Aft (rows:List Nat) (w:World) (K:Act→World→Prop):Exit→Act→World→Prop
 | .normal,a,w'=>Mvs rows w w'∧K a w'
 | _,_,_=>False
theorem not_letsOut_aft {w:World} {K:Act→World→Prop}:¬LetsOut (Aft rows w K):=fun ⟨_,_,h⟩=>h
theorem wpOp_of_aft {i:Nat} {o:Oper} (ho:ops[i]? = some o) (hs:∀ cs b,o.op≠.select cs b) {d:Tmp} {u:Value} (h1:d ∉ o.looksAt ops) (h2:o.dst≠some d) {K:Act→World→Prop} {a:Act} {w w0:World} (h:wpList P ops (Aft rows w0 K) [o] a w) :
  wpList P ops (Aft rows w0 fun a' w'=>∃ a'',a' = a''.put (some d) u∧K a'' w') [o] (a.put (some d) u) w:=by
 have e1:execOp (a.put (some d) u).eval o = execOp a.eval o:=execOp_put o hs a (some d) u (fun d' e=>by cases e; exact h1)
 have e2:Region.wanted o (yielded ops (a.put (some d) u).tmps) = Region.wanted o (yielded ops a.tmps):=wanted_put o a (some d) u (fun d' e=>by cases e; exact h1)
 have e3:∀ v,(a.put (some d) u).put o.dst v = (a.put o.dst v).put (some d) u:=fun v=>Act.put_comm a u v (fun d' e=>by cases e; exact h2)
 unfold wpList at *
 rw [e2]
 split
 ·rename_i hw
  rw [if_pos hw] at h
  rcases h with h | ⟨_,h⟩
  case inr=>exact absurd h not_letsOut_aft
  refine .inl ?_
  unfold Oper.wp at *
  rw [e1]
  generalize (execOp a.eval o).run P w = r at *
  cases r with
  | ok n w' =>
   cases n <;> simp only [Oper.upon] at h ⊢
   case value v=>exact ⟨h.1,_,e3 v,h.2⟩
   case skip=>exact ⟨h.1,_,e3 _,h.2⟩
   case defer dd=>exact ⟨h.1,_,Act.put_comm (x:=some d) (y:=o.dst) ({ a with defers:=dd :: a.defers }:Act) u undef (fun d' e=>by cases e; exact h2),h.2⟩
   case enter f args =>
    refine Calls.mono h fun e w'' he=>?_
    cases e with
    | returned v=>exact ⟨he.1,_,e3 v,he.2⟩
    | panicked c=>exact he
    | outgrown=>exact absurd he not_letsOut_aft
   case row rr args=>exact Rows.mono h fun v w'' he=>⟨he.1,_,e3 v,he.2⟩
  | halt x w'=>cases x <;> simp only [Oper.upon] at h ⊢ <;> exact h
 ·rename_i hw
  rw [if_neg hw] at h
  exact ⟨h.1,_,e3 _,h.2⟩
theorem wpOp_aft {i:Nat} {o:Oper} (ho:ops[i]? = some o) {K:Act→World→Prop} {a:Act} {w w0:World} (h:wpList P ops (Aft rows w0 K) [o] a w):wpOp P ops Q i (fun a' w'=>Mvs rows w0 w'∧K a' w') a w:=by
 unfold wpOp
 simp only [ho]
 unfold wpList at h
 split
 ·rename_i hw
  rw [if_pos hw] at h
  rcases h with h | ⟨_,h⟩
  case inr=>exact absurd h not_letsOut_aft
  refine .inl ?_
  unfold Oper.wp at *
  generalize (execOp a.eval o).run P w = r at *
  cases r with
  | ok n w' =>
   cases n <;> simp only [Oper.upon] at h ⊢ <;> first
    | exact h
    | exact Calls.mono h (fun e w'' he=>by cases e <;> first | exact he | exact (he:False).elim | exact absurd he not_letsOut_aft)
    | exact Rows.mono h (fun _ _ he=>he)
  | halt x w'=>cases x <;> simp only [Oper.upon] at h ⊢ <;> first | exact h | exact (h:False).elim
 ·rename_i hw
  rw [if_neg hw] at h
  exact h
theorem wpList_aft_mono {o:Oper} {K K':Act→World→Prop} {a:Act} {w w0:World} (hm:∀ a w',Mvs rows w0 w'→K a w'→K' a w') (h:wpList P ops (Aft rows w0 K) [o] a w):wpList P ops (Aft rows w0 K') [o] a w:=by
 unfold wpList at *
 split
 ·rename_i hw
  rw [if_pos hw] at h
  rcases h with h | ⟨_,h⟩
  case inr=>exact absurd h not_letsOut_aft
  refine .inl ?_
  unfold Oper.wp at *
  generalize (execOp a.eval o).run P w = r at *
  cases r with
  | ok n w' =>
   cases n <;> simp only [Oper.upon] at h ⊢ <;> first
    | exact ⟨h.1,hm _ _ h.1 h.2⟩
    | exact Calls.mono h (fun e w'' he=>by cases e <;> first | exact ⟨he.1,hm _ _ he.1 he.2⟩ | exact (he:False).elim | exact absurd he not_letsOut_aft)
    | exact Rows.mono h (fun _ _ he=>⟨he.1,hm _ _ he.1 he.2⟩)
  | halt x w'=>cases x <;> simp only [Oper.upon] at h ⊢ <;> exact h
 ·rename_i hw
  rw [if_neg hw] at h
  exact ⟨h.1,hm _ _ h.1 h.2⟩
theorem wpDr_call {n n0 g i:Nat} {lp:List Nat} {bx:Boxes} {oi:Oper} {L:Array Bool→Act→List (Nat × Array Value)→World→Prop} (hi:ops[i]? = some oi) (hsel:∀ cs b,oi.op≠.select cs b)
  (htl:Region.tailB ops n lp = true) (hin:i < n) (hilp:i ∉ lp) (hibx:¬∃ x∈bx,x.1 = i) (hk:∀ w w',S w→Mvs rows w w'→S w') (hrow:∀ r∈rows,r < n0)
  (hbx:∀ x∈bx,x.2.1 ∉ oi.looksAt ops∧oi.dst≠some x.2.1) :
  ∀ (f:Nat) (rem:Boxes) (listed:Array Bool) (a:Act) (bs:List (Nat × Array Value)) (w:World),HeadInv .any ops n listed→i∈Region.ready .any ops listed →
   (∀ x∈bx,listed.getD x.1 true = false→x∈rem)→rem.length≤f →
   (∀ listed',MoreBoxes bx listed listed'→listed'.size = listed.size→∀ k∈Region.ready .any ops listed',k = i∨∃ x∈bx,x.1 = k) →
   (∀ w1,S w1→w.grownBy w1 none→wpList P ops (Aft rows w1 fun a' w'=>wpDr P ops Q S rows n n0 g bx L f (listed.setIfInBounds i true) a' bs w') [oi] a w1) →
   wpDr P ops Q S rows n n0 g bx L (f + 1) listed a bs w:=by
 intro f
 induction f with
 | zero =>
  intro rem listed a bs w inv hr hrem hlen hone H w1 hs1 ht1
  have hun:=(mem_ready.1 hr).1
  refine ⟨fun h=>(by rw [h] at hr; cases hr),fun j hj=>?_⟩
  have hjn:j < n:=tailB_spec htl inv hin hilp hun j hj
  refine ⟨fun h=>absurd h (by omega),fun _ _ y hym hyj b hfit=>?_,fun _ hx=>?_⟩
  ·have h1:=hrem y hym (by rw [hyj]; exact (mem_ready.1 hj).1)
   rw [List.length_eq_zero_iff.1 (Nat.le_zero.1 hlen)] at h1
   cases h1
  ·rcases hone listed ⟨fun _ h=>h,fun _ h=>.inl h⟩ rfl j hj with rfl | h
   ·exact wpOp_aft hi (H w1 hs1 ht1)
   ·exact absurd h hx
 | succ f ih =>
  intro rem listed a bs w inv hr hrem hlen hone H w1 hs1 ht1
  have hun:=(mem_ready.1 hr).1
  refine ⟨fun h=>(by rw [h] at hr; cases hr),fun j hj=>?_⟩
  have hjn:j < n:=tailB_spec htl inv hin hilp hun j hj
  refine ⟨fun h=>absurd h (by omega),fun _ _ y hym hyj b hfit=>?_,fun _ hx=>?_⟩
  ·have hjun:=(mem_ready.1 hj).1
   have hji:j≠i:=fun e=>hibx ⟨y,hym,hyj.trans e⟩
   have hjs:j < listed.size:=by
    rcases Nat.lt_or_ge j listed.size with h | h
    ·exact h
    ·simp [Array.getElem?_eq_none h] at hjun
   have hmore:∀ listed',MoreBoxes bx (listed.setIfInBounds j true) listed'→MoreBoxes bx listed listed':=fun listed' ⟨m1,m2⟩ =>
    ⟨fun t ht=>m1 t (getD_set_true ht),fun t ht=>by
     rcases m2 t ht with h | h
     ·by_cases hjt:j = t
      ·exact .inr ⟨y,hym,hyj.trans hjt⟩
      ·rw [getD_set_ne false hjt] at h; exact .inl h
     ·exact .inr h⟩
   refine ih (rem.filter fun z=>z.1 != j) _ _ _ w1 (inv.set hj hjn) (ready_mono hr (Ne.symm hji)) (fun x hxm hxl=>?_) ?_ (fun listed' hm hsz=>hone listed' (hmore listed' hm) (by rw [hsz]; simp)) ?_
   ·have hne:j≠x.1:=fun e=>by
     subst e; simp [hjs] at hxl
    rw [getD_set_ne true hne] at hxl
    exact List.mem_filter.2 ⟨hrem x hxm hxl,by simpa using fun e=>hne e.symm⟩
   ·have h1:=hrem y hym (by rw [hyj]; exact hjun)
    have:(rem.filter fun z=>z.1 != j).length < rem.length:=by
     rcases Nat.lt_or_ge (rem.filter fun z=>z.1 != j).length rem.length with h | h
     ·exact h
     ·have:=(List.length_filter_eq_length_iff.1 (Nat.le_antisymm (List.length_filter_le _ _) h)) y h1
      simp [hyj] at this
    omega
   ·intro w2 hs2 ht2
    have h1:=wpOp_of_aft (i:=i) (d:=y.2.1) (u:=.pointer (some ⟨b,0,none⟩)) hi hsel (hbx y hym).1 (hbx y hym).2 (H w2 hs2 (gt_trans ht1 ht2))
    refine wpList_aft_mono (fun a' w' hg ⟨a'',e,hd⟩=>?_) h1
    subst e
    have hj2:j∈Region.ready .any ops (listed.setIfInBounds i true):=ready_mono hj hji
    have h2:=((hd w' (hk _ _ hs2 hg) (gt_refl _ _)).2 j hj2).2.1 hjn ⟨y,hym,hyj⟩ y hym hyj b ((hfit.gt ht2 (fun _ e=>by cases e)).mv hg hrow)
    rw [Array.setIfInBounds_comm _ _ hji]
    exact h2
  ·rcases hone listed ⟨fun _ h=>h,fun _ h=>.inl h⟩ rfl j hj with rfl | h
   ·exact wpOp_aft hi (H w1 hs1 ht1)
   ·exact absurd h hx
theorem wpDr_boxes {S':World→Prop} {n n0 g:Nat} {lp:List Nat} {bx:Boxes} {L:Array Bool→Act→List (Nat × Array Value)→World→Prop} {K:Act→World→Prop} (htl:Region.tailB ops n lp = true) (hblp:∀ x∈bx,x.1 ∉ lp) (hrow:∀ r∈rows,r < n0)
  (hbd:(bx.map (·.2.1)).Nodup) (hbi:(bx.map (·.1)).Nodup) (hbo:∀ x∈bx,x.1 < n∧∃ o,ops[x.1]? = some o∧o.after = #[])
  (hL:∀ listed a bs w,HeadInv .any ops n listed→(∀ i,i < n→listed.getD i true = true)→K a w→L listed a bs w) :
  ∀ (k:Nat) (rem:Boxes) (listed:Array Bool) (a:Act) (bs:List (Nat × Array Value)) (w:World),rem.length = k→HeadInv .any ops n listed→rem.Sublist bx →
   (∀ x∈rem,listed.getD x.1 true = false)→(∀ i,i < n→listed.getD i true = false→∃ x∈rem,x.1 = i) →
   (∀ p∈bs,n0≤p.1∧HB w p.1 p.2)→(∀ w1,S w1→w.grownBy w1 none→S' w1)→fa S' n0 K rem bs a→wpDr P ops Q S rows n n0 g bx L k listed a bs w:=by
 intro k
 induction k with
 | zero =>
  intro rem listed a bs w hlen inv hsub hrem hall hbs hS' h w1 hs1 ht1
  obtain rfl:rem = []:=List.length_eq_zero_iff.1 hlen
  refine hL _ _ _ _ inv (fun i hi=>?_) (h w1 (hS' w1 hs1 ht1) fun p hp=>(hbs p hp).2.gt ht1 (hbs p hp).1 (fun _ e=>by cases e))
  cases e:listed.getD i true with
  | true=>rfl
  | false=>obtain ⟨x,hx,_⟩:=hall i hi e; cases hx
 | succ k ih =>
  intro rem listed a bs w hlen inv hsub hrem hall hbs hS' h w1 hs1 ht1
  have hready:∀ x∈rem,x.1∈Region.ready .any ops listed:=fun x hx=>by
   obtain ⟨_,o,ho,h0⟩:=hbo x (hsub.subset hx)
   refine mem_ready.2 ⟨hrem x hx,o,ho,fun e he=>?_⟩
   rw [h0] at he; simp at he
  have hne:∃ x0,x0∈rem:=by
   cases rem with
   | nil=>simp at hlen
   | cons x0 _=>exact ⟨x0,List.mem_cons_self⟩
  obtain ⟨x0,hx0⟩:=hne
  refine ⟨fun e=>(by have:=hready x0 hx0; rw [e] at this; cases this),fun i hi=>?_⟩
  have hun:=(mem_ready.1 hi).1
  have hin:i < n:=tailB_spec htl inv (hbo x0 (hsub.subset hx0)).1 (hblp x0 (hsub.subset hx0)) (hrem x0 hx0) i hi
  obtain ⟨x,hx,rfl⟩:=hall i hin hun
  refine ⟨fun h=>absurd h (by omega),fun _ _ y hym hyj b hfit=>?_,fun _ hno=>absurd ⟨x,hsub.subset hx,rfl⟩ hno⟩
  have hyx:y = x:=by
   exact map_inj_of_nodup hbi hym (hsub.subset hx) hyj
  subst hyx
  obtain ⟨pre,post,hpp⟩:=List.append_of_mem hx
  have hnd:=(hsub.map (·.2.1)).nodup hbd
  have hni:=(hsub.map (·.1)).nodup hbi
  have hfr:fa S' n0 K (y :: (pre ++ post)) bs a:=by
   refine fa_front (fun z hz=>?_) (by rw [← hpp]; exact h)
   rw [hpp] at hnd
   simp only [List.map_append,List.map_cons] at hnd
   exact (List.nodup_append.1 hnd).2.2 _ (List.mem_map_of_mem hz) _ List.mem_cons_self
  have hyne:∀ z∈pre ++ post,z.1≠y.1:=fun z hz=>by
   rw [hpp] at hni
   simp only [List.map_append,List.map_cons] at hni
   have h1:=List.nodup_append.1 hni
   rcases List.mem_append.1 hz with hz | hz
   ·exact h1.2.2 _ (List.mem_map_of_mem hz) _ List.mem_cons_self
   ·exact fun e=>(List.nodup_cons.1 h1.2.1).1 (by rw [← e]; exact List.mem_map_of_mem hz)
  have hperm:∀ z,z∈pre ++ post→z∈rem:=fun z hz=>by
   rw [hpp]
   rcases List.mem_append.1 hz with hz | hz
   ·exact List.mem_append_left _ hz
   ·exact List.mem_append_right _ (List.mem_cons_of_mem _ hz)
  refine ih (pre ++ post) _ _ _ _ (by have:=congrArg List.length hpp; simp at this hlen ⊢; omega) (inv.set hi hin) (((hpp ▸ (List.sublist_cons_self y post).append_left pre:(pre ++ post).Sublist rem)).trans hsub) (fun z hz=>?_) (fun j hj hjl=>?_) (fun p hp=>?_) (fun w2 hs2 ht2=>hS' w2 hs2 (gt_trans ht1 ht2)) ?_
  ·rw [getD_set_ne true (Ne.symm (hyne z hz))]; exact hrem z (hperm z hz)
  ·have hjne:y.1≠j:=fun e=>by
    subst e
    have hlt:y.1 < listed.size:=by
     rcases Nat.lt_or_ge y.1 listed.size with h | h
     ·exact h
     ·simp [Array.getElem?_eq_none h] at hun
    simp [hlt] at hjl
   rw [getD_set_ne true hjne] at hjl
   obtain ⟨z,hz,rfl⟩:=hall j hj hjl
   rw [hpp] at hz
   rcases List.mem_append.1 hz with hz | hz
   ·exact ⟨z,List.mem_append_left _ hz,rfl⟩
   ·rcases List.mem_cons.1 hz with rfl | hz
    ·exact absurd rfl hjne
    ·exact ⟨z,List.mem_append_right _ hz,rfl⟩
  ·rcases List.mem_cons.1 hp with rfl | hp
   ·exact ⟨hfit.1,hfit.2.2⟩
   ·exact ⟨(hbs p hp).1,(hbs p hp).2.gt ht1 (hbs p hp).1 (fun _ e=>by cases e)⟩
  ·exact hfr _ hfit.1 hfit.2.1
def dqL (P:Program) (ops:Array Oper) (S:World→Prop) (rows:List Nat) (K:Act→World→Prop):List (Nat × Nat)→Act→World→Prop
 | [],a,w=>K a w
 | (i,0) :: l,a,w=>∃ o v,ops[i]? = some o∧YieldsD P ops S none o v a∧dqL P ops S rows K l (a.put o.dst v) w
 | (i,1) :: l,a,w=>∃ o,ops[i]? = some o∧∀ w1,S w1→w.grownBy w1 none→wpList P ops (Aft rows w1 fun a' w'=>dqL P ops S rows K l a' w') [o] a w1
 | (i,_ + 2) :: l,a,w=>∃ o v,ops[i]? = some o∧Yields P ops o v a∧dqL P ops S rows K l (a.put o.dst v) w
theorem wpDr_sched {n n0 g:Nat} {lp:List Nat} {bx:Boxes} {L:Array Bool→Act→List (Nat × Array Value)→World→Prop} {K:Act→World→Prop} (hsel:Region.noSelect ops = true) (htl:Region.tailB ops n lp = true) (hblp:∀ x∈bx,x.1 ∉ lp) (hQ:∀ c (a:Act) d v w,Q (.panic c) (a.put d v) w→Q (.panic c) a w)
  (hk:∀ w w',S w→Mvs rows w w'→S w') (hrow:∀ r∈rows,r < n0)
  (hbd:(bx.map (·.2.1)).Nodup) (hbi:(bx.map (·.1)).Nodup) (hbo:∀ x∈bx,x.1 < n∧∃ o,ops[x.1]? = some o∧Makes P o x.2.1 x.2.2)
  (hdone:∀ listed a bs w,L listed a bs w→∀ j∈Region.ready .any ops listed,n≤j) (hLA:∀ listed a bs w,L listed a bs w→wpAny P .any ops Q g listed a w)
  (hL:∀ listed a bs w,HeadInv .any ops n listed→(∀ i,i < n→listed.getD i true = true)→K a w→L listed a bs w) :
  ∀ (sch:List (Nat × Nat)) (listed:Array Bool) (a:Act) (w:World),HeadInv .any ops n listed→Region.dqB ops n lp bx sch listed = true →
   ((∀ x∈bx,(Region.dqSet sch listed).getD x.1 true = false)∧(∀ i,i < n→(Region.dqSet sch listed).getD i true = false→∃ x∈bx,x.1 = i)) →
   dqL P ops S rows (fun a w=>fa (fun w1=>S w1∧w.grownBy w1 none) n0 K bx [] a) sch a w→wpDr P ops Q S rows n n0 g bx L (sch.length + bx.length) listed a [] w
 | [],listed,a,w,inv,hB,hall,h=>by
  rw [List.length_nil,Nat.zero_add]
  refine wpDr_boxes htl hblp hrow hbd hbi (fun x hx=>⟨(hbo x hx).1,?_⟩) hL bx.length bx listed a [] w rfl inv (List.Sublist.refl _) hall.1 hall.2 (by simp) (fun w1 hs1 ht1=>⟨hs1,ht1⟩) h
  obtain ⟨_,o,ho,hm⟩:=hbo x hx
  exact ⟨o,ho,hm.2.2.1⟩
 | (i,k) :: l,listed,a,w,inv,hB,hall,h=>by
  simp only [Region.dqB,Bool.and_eq_true,decide_eq_true_eq,Bool.not_eq_true',beq_iff_eq] at hB
  obtain ⟨hin,hlpk,hnb,hr,hf,hB⟩:=hB
  have hr':i∈Region.ready .any ops listed:=by simpa using hr
  have hnb':¬∃ x∈bx,x.1 = i:=fun ⟨x,hx,e⟩=>by
   have:(bx.map (·.1)).contains i = true:=by rw [List.contains_iff_mem]; exact e ▸ List.mem_map_of_mem hx
   rw [hnb] at this; cases this
  have hnlp:k < 2→i ∉ lp:=fun hk2 h=>by
   have h1:lp.contains i = true:=List.contains_iff_mem.2 h
   rw [h1] at hlpk
   have:=of_decide_eq_true hlpk.symm
   omega
  rw [List.length_cons,show l.length + 1 + bx.length = (l.length + bx.length) + 1 by omega]
  match k,h,hf,hnlp with
  | 0,h,hf,hnlp =>
   obtain ⟨o,v,ho,hy,h⟩:=h
   exact wpDr_first ho (Region.noSelect_spec hsel) htl hin (hnlp (by decide)) hnb' hQ hk hrow (fun x hx=>(hbo x hx).2) hdone _ listed a [] w inv (Region.free_spec ho (by simpa using hf)) hr' hy
    (wpDr_sched hsel htl hblp hQ hk hrow hbd hbi hbo hdone hLA hL l _ _ w (inv.set hr' hin) hB hall h)
  | 1,h,hf,hnlp =>
   obtain ⟨o,ho,h⟩:=h
   simp only [ne_eq,not_true_eq_false,if_false,Bool.and_eq_true,ho] at hf
   obtain ⟨hone,hap⟩:=hf
   refine wpDr_call ho (fun cs b=>Region.noSelect_spec hsel i o cs b ho) htl hin (hnlp (by decide)) hnb' hk hrow (fun x hx=>?_) (l.length + bx.length) bx listed a [] w inv hr' (fun x hx _=>hx) (by omega) (dq_one hone) (fun w1 hs1 ht1=>?_)
   ·have:=List.all_eq_true.1 hap x hx
    simp only [Bool.and_eq_true,Bool.not_eq_true',bne_iff_ne,ne_eq] at this
    refine ⟨fun hc=>?_,this.2⟩
    have h2:(o.looksAt ops).contains x.2.1 = true:=by rw [List.contains_iff_mem]; exact hc
    rw [this.1] at h2; cases h2
   ·refine wpList_aft_mono (fun a' w' hg hd=>?_) (h w1 hs1 ht1)
    exact wpDr_sched hsel htl hblp hQ hk hrow hbd hbi hbo hdone hLA hL l _ _ w' (inv.set hr' hin) hB hall hd
  | k + 2,h,hf,hnlp =>
   obtain ⟨o,v,ho,hy,h⟩:=h
   exact wpDr_late ho (Region.noSelect_spec hsel) hin hnb' hQ hk (fun x hx=>(hbo x hx).2) hdone hLA _ listed a [] w inv (Region.free_spec ho (by simpa using hf)) hr' hy
    (wpDr_sched hsel htl hblp hQ hk hrow hbd hbi hbo hdone hLA hL l _ _ w (inv.set hr' hin) hB hall h)
theorem wp_region_dq {id:Nat} {a:Act} {w:World} {l:List Oper} {n0:Nat} (n:Nat) (lp:List Nat) (sch:List (Nat × Nat)) (bx:Boxes) (hm:P.follows .mixedOrders = true) (hB:Region.dqOk l.toArray n lp sch bx = true)
  (hQ:∀ c (a:Act) d v w,Q (.panic c) (a.put d v) w→Q (.panic c) a w) (hS:S w.drew) (hk:∀ w w',S w→Mvs rows w w'→S w') (hn0:∀ w,S w→n0≤w.heap.size) (hrow:∀ r∈rows,r < n0)
  (hmk:∀ x∈bx,∃ o,l[x.1]? = some o∧Makes P o x.2.1 x.2.2)
  (h:dqL P l.toArray S rows (fun a w=>fa (fun w1=>S w1∧w.grownBy w1 none) n0 (fun a w=>wpList P l.toArray Q (l.drop n) a w) bx [] a) sch a w.drew):(Code.region id l.toArray true).wp P Q a w:=by
 simp only [Region.dqOk,Bool.and_eq_true,decide_eq_true_eq] at hB
 obtain ⟨hsel,htl,hblp,hnl,hdq,hlen,hbd,hbi,hbn,hseq,hb1,hb2⟩:=hB
 have hnl':n≤l.length:=by simpa using hnl
 have inv0:HeadInv .any l.toArray n (Array.replicate l.toArray.size false) :=
  ⟨by simp,fun j oj _ hl=>(by rw [getD_replicate_false] at hl; cases hl),fun t _ ht=>getD_in (by simpa using ht) (getD_replicate_false _ _)⟩
 have hcanon:∀ listed:Array Bool,HeadInv .any l.toArray n listed→(∀ i,i < n→listed.getD i true = true)→listed = Array.replicate n true ++ Array.replicate (l.toArray.size - n) false:=fun listed inv hl=>by
  refine Array.ext (by rw [inv.size]; simp; omega) fun i h1 h2=>?_
  rw [Array.getElem_append]
  split
  ·rename_i h3
   have:=hl i (by simpa using h3)
   simp [h1] at this
   simp [this]
  ·rename_i h3
   have:=inv.tail i (by simpa using h3) (by rw [← inv.size]; exact h1)
   simp [h1] at this
   simp [this]
 have hbo:∀ x∈bx,x.1 < n∧∃ o,l.toArray[x.1]? = some o∧Makes P o x.2.1 x.2.2:=fun x hx=>by
  obtain ⟨o,ho,hmo⟩:=hmk x hx
  exact ⟨by simpa using List.all_eq_true.1 hbn x hx,o,by simpa using ho,hmo⟩
 refine wp_region_any hm ?_
 have hblp':∀ x∈bx,x.1 ∉ lp:=fun x hx hl=>by
  have h1:=List.all_eq_true.1 hblp x hx
  have h2:lp.contains x.1 = true:=List.contains_iff_mem.2 hl
  rw [h2] at h1; cases h1
 have hLA:∀ (listed:Array Bool) (a:Act) (bs:List (Nat × Array Value)) (w:World),(Region.seqB .any l.toArray (l.toArray.size - n) n listed = true∧wpList P l.toArray Q (l.drop n) a w)→wpAny P .any l.toArray Q (l.toArray.size - n) listed a w:=fun listed a bs w hL=>by
  have:=wpAny_of_seq (md:=.any) (Q':=Q) (l.drop n) n listed a w (fun j=>by simp [List.getElem?_drop]) (by rw [show (l.drop n).length = l.toArray.size - n by simp]; exact hL.1) hL.2
  rwa [show (l.drop n).length = l.toArray.size - n by simp] at this
 have H:=wpDr_sched (P:=P) (g:=l.toArray.size - n) (Q:=Q) (S:=S) (rows:=rows) (n:=n) (n0:=n0) (bx:=bx) (K:=fun a w=>wpList P l.toArray Q (l.drop n) a w) (L:=fun listed a bs w=>Region.seqB .any l.toArray (l.toArray.size - n) n listed = true∧wpList P l.toArray Q (l.drop n) a w)
  hsel htl hblp' hQ hk hrow hbd hbi hbo (fun listed a bs w hL=>seqB_ready hL.1) hLA (fun listed a bs w inv hl hK=>⟨by rw [hcanon listed inv hl]; exact hseq,hK⟩) sch _ a w.drew inv0 hdq
  ⟨fun x hx=>by simpa using List.all_eq_true.1 hb1 x hx,fun i hi hl=>by
   have:=List.all_eq_true.1 hb2 i (List.mem_range.2 hi)
   simp only [Bool.or_eq_true,List.contains_iff_mem] at this
   rcases this with h | h
   ·rw [hl] at h; cases h
   ·obtain ⟨x,hx,e⟩:=List.mem_map.1 h
    exact ⟨x,hx,e⟩⟩ h
 rw [hlen] at H
 have A:=wpAny_of_dr (g:=l.toArray.size - n) hk hn0 hrow (fun x hx=>(hbo x hx).2) hLA n _ a [] w.drew hS (by simp) H
 rw [show n + (l.toArray.size - n) = l.toArray.size by simp; omega] at A
 exact A
end
end Dm
end Go.Proofs.YtncmmbacoknefaaGreat

/- SxD: A symbolic run: regions that draw their order. -/
namespace Go.Proofs.YtncmmbacoknefaaGreat
open Go Go.RowKit
set_option linter.unusedVariables false
set_option linter.unusedSimpArgs false
namespace Sx
variable {C:Cx} {A:Nat→Nat} {S:St} {a:Act} {W:World}
def compI (P:Program) (ops:Array Oper) (N:Nat):List (Nat × Nat)→Option (List G)
 | []=>some []
 | (i,k) :: l=>match ops[i]? with
  | some o=>match compG P true ops N o,compI P ops N l with
   | some (d,g,m),some r=>if (k == 0 && head m) || (k == 2 && late m) then some ((d,g,m) :: r) else none
   | _,_=>none
  | none=>none
theorem late_head {m:M} (h:late m = true):head m = true:=by cases m <;> first | rfl | cases h
theorem heads_sound {ops:Array Oper} {S0:St} {n0:Nat} {K:Act→World→Prop} {p:St→Prop} (hC:C.fr = none) (hp:∀ S a,SlOk C A S a→S.H = S0.H→S.n = S0.n→S.T = S0.T→p S→∀ w,K a w) :
  ∀ {sch:List (Nat × Nat)} {gl:List G} {S:St} {a:Act},compI C.P ops C.N sch = some gl→Sx.ops C gl p S→SlOk C A S a→S.H = S0.H→S.n = S0.n→S.T = S0.T→∀ w,dqL C.P ops (fun W=>HpOk C A S0 W∧n0≤W.heap.size) none K sch a w
 | [],gl,S,a,hc,h,hs,hH,hn,hT,w=>by
  cases hc
  exact hp S a hs hH hn hT h w
 | (i,k) :: l,gl,S,a,hc,h,hs,hH,hn,hT,w=>by
  unfold compI at hc
  split at hc
  ·rename_i o ho
   split at hc
   ·rename_i d g m r h1 h2
    split at hc
    ·rename_i hk
     cases hc
     obtain ⟨e1,e2,e3,e4,e5⟩:=compG_spec h1
     subst e1
     have hext:∀ W,HpOk C A S0 W→HpOk C A S W:=fun W hw=>hw.ext hn.symm (fun k=>by rw [hH]) hT
     have step:∀ (yes:Region.wanted o (yielded ops a.tmps) = true),run1 C m o.dst (Sx.ops C r p) S→dqL C.P ops (fun W=>HpOk C A S0 W∧n0≤W.heap.size) none K ((i,k) :: l) a w:=fun hw h=>by
      rcases e2 with e2 | e2 | e2
      rotate_left
      ·subst e2; exact (run1_trap h).elim
      ·obtain ⟨kk,l',rfl⟩:=compGen_gen e2
       obtain ⟨x,x1,x2,x3⟩:=run1_headG hs e2 rfl h
       have next:dqL C.P ops (fun W=>HpOk C A S0 W∧n0≤W.heap.size) none K l (a.put o.dst (x.val A)) w:=by
        refine heads_sound hC hp h2 x2 (hs.put x1 e4) ?_ ?_ ?_ w
        ·rw [← hH]; cases o.dst <;> rfl
        ·rw [← hn]; cases o.dst <;> rfl
        ·rw [← hT]; cases o.dst <;> rfl
       rw [Bool.or_eq_true,Bool.and_eq_true,Bool.and_eq_true] at hk
       rcases hk with ⟨hk,-⟩ | ⟨hk,hl⟩
       ·have:k = 0:=by simpa using hk
        subst this
        exact ⟨o,x.val A,ho,.inl ⟨hw,fun W hW=>by rw [x3 A a hs W]; exact ⟨rfl,gt_refl _ _⟩⟩,next⟩
       ·cases hl
      have hm:head m = true:=by
       rw [Bool.or_eq_true,Bool.and_eq_true,Bool.and_eq_true] at hk
       rcases hk with hk | hk
       ·exact hk.2
       ·exact late_head hk.2
      obtain ⟨x,x1,x2,x3,x4⟩:=run1_head hs e2 hm h
      have next:dqL C.P ops (fun W=>HpOk C A S0 W∧n0≤W.heap.size) none K l (a.put o.dst (x.val A)) w:=by
       refine heads_sound hC hp h2 x2 (hs.put x1 e4) ?_ ?_ ?_ w
       ·rw [← hH]; cases o.dst <;> rfl
       ·rw [← hn]; cases o.dst <;> rfl
       ·rw [← hT]; cases o.dst <;> rfl
      rw [Bool.or_eq_true,Bool.and_eq_true,Bool.and_eq_true] at hk
      rcases hk with ⟨hk,-⟩ | ⟨hk,hl⟩
      ·have:k = 0:=by simpa using hk
       subst this
       exact ⟨o,x.val A,ho,.inl ⟨hw,fun W hW=>x3 A a hs W (by rw [kn_none hC]; exact hext W hW.1)⟩,next⟩
      ·have:k = 2:=by simpa using hk
       subst this
       exact ⟨o,x.val A,ho,.inl ⟨hw,x4 hl A a hs⟩,next⟩
     have h':gdX g C m o.dst (Sx.ops C r p) S:=h
     unfold gdX at h'
     split at h'
     ·refine step ?_ h'
      unfold compGd at e3
      split at e3
      ·rename_i hg; unfold Region.wanted; rw [hg]
      ·split at e3 <;> cases e3
     ·rename_i t wt
      unfold compGd at e3
      split at e3
      ·cases e3
      ·rename_i j w' hg
       split at e3
       ·rename_i t' hj
        cases e3
        rcases gdS_spec hs hj h' with ⟨hy,h'⟩ | ⟨hy,h'⟩
        ·exact step (by unfold Region.wanted; rw [hg]; simp [hy]) h'
        · have hno:Region.wanted o (yielded ops a.tmps) = false:=by unfold Region.wanted; rw [hg]; simpa using hy
          have next:dqL C.P ops (fun W=>HpOk C A S0 W∧n0≤W.heap.size) none K l (a.put o.dst undef) w:=by
           refine heads_sound hC hp h2 h' (hs.put (x:=.v undef) (Nat.zero_le _) e4) ?_ ?_ ?_ w
           ·rw [← hH]; cases o.dst <;> rfl
           ·rw [← hn]; cases o.dst <;> rfl
           ·rw [← hT]; cases o.dst <;> rfl
          rw [Bool.or_eq_true,Bool.and_eq_true,Bool.and_eq_true] at hk
          rcases hk with ⟨hk,-⟩ | ⟨hk,-⟩
          ·have:k = 0:=by simpa using hk
           subst this
           exact ⟨o,undef,ho,.inr ⟨hno,rfl⟩,next⟩
          ·have:k = 2:=by simpa using hk
           subst this
           exact ⟨o,undef,ho,.inr ⟨hno,rfl⟩,next⟩
       ·cases e3
    ·cases hc
   ·cases hc
  ·cases hc
def boxG:Boxes→List G→List G
 | [],tl=>tl
 | (_,d,zs) :: r,tl=>(some d,none,.new zs.toList) :: boxG r tl
def compB1 (P:Program) (N i:Nat) (o:Oper):Option (Nat × Tmp × Array Value) :=
 match o.op,o.dst,o.guard,o.after.size with
 | .alloc t,some d,none,0=>match P.info? t with
  | some inf=>match inf.zero with
   | some z=>if d < N then some (i,d,z.cells) else none
   | none=>none
  | none=>none
 | _,_,_,_=>none
def compB (P:Program) (ops:Array Oper) (N:Nat):List Nat→Option Boxes
 | []=>some []
 | i :: l=>match ops[i]? with
  | some o=>match compB1 P N i o,compB P ops N l with
   | some b,some r=>some (b :: r)
   | _,_=>none
  | none=>none
theorem compB1_spec {P:Program} {N i:Nat} {o:Oper} {b:Nat × Tmp × Array Value} (h:compB1 P N i o = some b):b.1 = i∧b.2.1 < N∧Makes P o b.2.1 b.2.2:=by
 unfold compB1 at h
 split at h
 ·rename_i t d ho hd hg ha
  split at h
  ·rename_i inf hi
   split at h
   ·rename_i z hz
    split at h
    ·rename_i hN
     cases h
     refine ⟨rfl,hN,hd,hg,Array.eq_empty_of_size_eq_zero ha,fun ρ w=>⟨t,?_⟩⟩
     unfold execOp
     rw [ho]
     refine run_v ?_
     unfold Instr.alloc
     have h1:(zeroValue t).run P w = .ok z w:=by
      unfold zeroValue typeInfo
      simp [go_sem,hi,hz]
     rw [run_bind_ok h1]
     rfl
    ·cases h
   ·cases h
  ·cases h
 ·cases h
theorem compB_spec {P:Program} {ops:Array Oper} {N:Nat}:∀ {l:List Nat} {bx:Boxes},compB P ops N l = some bx→∀ x∈bx,x.2.1 < N∧∃ o,ops[x.1]? = some o∧Makes P o x.2.1 x.2.2
 | [],bx,h,x,hx=>by cases h; cases hx
 | i :: l,bx,h,x,hx=>by
  unfold compB at h
  split at h
  ·rename_i o ho
   split at h
   ·rename_i b r h1 h2
    cases h
    rcases List.mem_cons.1 hx with rfl | hx
    ·obtain ⟨e1,e2,e3⟩:=compB1_spec h1
     exact ⟨e2,o,by rw [e1]; exact ho,e3⟩
    ·exact compB_spec h2 x hx
   ·cases h
  ·cases h
theorem fa_sound {SW:World→Prop} {n0:Nat} {K:Act→World→Prop} {p:St→Prop} {tl:List G} (hp:∀ A S a w,Ok C A S a w→Sx.ops C tl p S→K a w) (hw0:C.w0.heap.size≤n0) :
  ∀ {bx:Boxes} {bs:List (Nat × Array Value)} {A:Nat→Nat} {S:St} {a:Act},(∀ w,SW w→(∀ q∈bs,HB w q.1 q.2)→Ok C A S a w)→(∀ k cs,gt S.H k = some cs→A k < n0∨∃ q∈bs,q.1 = A k)→(bx≠[]→∀ b∈S.T.bs,b < n0)→(∀ x∈bx,x.2.1 < C.N) →
   Sx.ops C (boxG bx tl) p S→fa SW n0 K bx bs a
 | [],bs,A,S,a,inv,hb,ht,hd,h=>fun w hw hbs=>hp A S a w (inv w hw hbs) h
 | (i,d,zs) :: r,bs,A,S,a,inv,hb,ht,hd,h=>fun b hn hne=>by
  have h':Sx.ops C (boxG r tl) p (S.new (some d) zs.toList):=h
  refine fa_sound hp hw0 (A:=upA A S.n b) (S:=S.new (some d) zs.toList) (fun w hw hbs=>?_) (fun k cs hk=>?_) (fun _=>ht (by simp)) (fun x hx=>hd x (List.mem_cons_of_mem _ hx)) h'
  ·have hok:=inv w hw fun q hq=>hbs q (List.mem_cons_of_mem _ hq)
   refine hok.new (fun t e=>by cases e; exact hd _ List.mem_cons_self) (by have:=hbs (b,zs) List.mem_cons_self; simpa using this) (Nat.le_trans hw0 hn) (fun k cs hk e=>?_) (fun hbb=>by have:=ht (by simp) b hbb; omega) (Below.refl _ _)
   rcases hb k cs hk with hl | ⟨q,hq,e2⟩
   ·omega
   ·exact hne q hq (e2.trans e)
  ·have hk':gt ((S.n,zs.toList) :: S.H) k = some cs:=hk
   unfold gt at hk'
   by_cases e:S.n = k
   ·right
    exact ⟨(b,zs),List.mem_cons_self,by unfold upA; rw [if_pos e.symm]⟩
   ·rw [if_neg e] at hk'
    have hu:upA A S.n b k = A k:=by unfold upA; rw [if_neg (Ne.symm e)]
    rw [hu]
    rcases hb k cs hk' with hl | ⟨q,hq,e2⟩
    ·exact .inl hl
    ·exact .inr ⟨q,List.mem_cons_of_mem _ hq,e2⟩
def compD (P:Program) (l:List Oper) (N n:Nat) (lp:List Nat) (sch:List (Nat × Nat)) (bi:List Nat):Option (List G × List G) :=
 match compI P l.toArray N sch,compB P l.toArray N bi,compL P l.toArray N (l.drop n) with
 | some hs,some bx,some tl=>if Region.dqOk l.toArray n lp sch bx && P.follows .mixedOrders then some (hs,boxG bx tl) else none
 | _,_,_=>none
theorem dreg_sound {id n:Nat} {l:List Oper} {lp bi:List Nat} {sch:List (Nat × Nat)} {hs tl:List G} {p:St→Prop} {Q:Exit→Act→World→Prop} (hC:C.fr = none) (hc:compD C.P l C.N n lp sch bi = some (hs,tl)) (h:Sx.ops C hs (Sx.ops C tl p) S) (hok:Ok C A S a W)
  (hp:∀ A S a W,Ok C A S a W→p S→Q .normal a W) (hQ:∀ c (a:Act) d v w,Q (.panic c) (a.put d v) w→Q (.panic c) a w):(Code.region id l.toArray true).wp C.P Q a W:=by
 unfold compD at hc
 split at hc
 ·rename_i hs' bx tl' h1 h2 h3
  split at hc
  ·rename_i h4
   cases hc
   rw [Bool.and_eq_true] at h4
   have hspec:=compB_spec h2
   refine wp_region_dq (row:=none) (S:=fun w=>HpOk C A S w∧W.heap.size≤w.heap.size) (n0:=W.heap.size) n lp sch bx h4.2 h4.1 hQ ⟨hok.2.drew,Nat.le_refl _⟩ (fun w w' ⟨hw,hn⟩ g=>⟨hw.grow g,Nat.le_trans hn g.size⟩) (fun w hw=>hw.2) (fun r e=>by cases e)
    (fun x hx=>by
     obtain ⟨_,o,ho,hm⟩:=hspec x hx
     exact ⟨o,by simpa using ho,hm⟩) ?_
   refine heads_sound (S0:=S) hC (fun S' a' hs2 hH hn hT hp' w=>?_) h1 h hok.1 rfl rfl rfl _
   refine fa_sound (SW:=_) (C:=C) (tl:=tl') (p:=p) (fun A S a w hok' h'=>ops_sound hC hp h3 h' hok') hok.2.bl.size (A:=A) (S:=S') (fun w1 hw _=>⟨hs2,hw.1.1.ext hn.symm (fun k=>by rw [hH]) hT⟩) (fun k cs hk=>.inl ?_) (fun _ b hb=>(hok.2.tb b (hT ▸ hb)).2) (fun x hx=>(hspec x hx).1) hp'
   rw [hH] at hk
   exact (hok.2.hb k cs hk).lt
  ·cases hc
 ·cases hc
def awaited:M→Bool
 | .call false _ _=>true
 | .gen false _ _=>true
 | _=>false
def compH (P:Program) (ops:Array Oper) (N:Nat):List (Nat × Nat)→Option (List G)
 | []=>some []
 | (i,k) :: l=>match ops[i]? with
  | some o=>match compG P (k != 1) ops N o,compH P ops N l with
   | some (d,g,m),some r=>if ((k == 0 && head m) || (k == 2 && late m)) || (k == 1 && awaited m) then some ((d,g,m) :: r) else none
   | _,_=>none
  | none=>none
theorem HpOk.fr {C':Cx} (h0:C'.w0 = C.w0) (h:HpOk C A S W):HpOk C' A S W :=
 ⟨h0 ▸ h.bl,h.hb,fun k cs e=>h0 ▸ h.ge k cs e,h.kn,h.inj,h.tk,fun W W' a b c d e f=>h.ts W W' a b c d (fun i hi ho=>e i hi (by rw [h0]; exact ho)) f,h.tn,fun b hb=>h0 ▸ h.tb b hb⟩
theorem SlOk.fr {C':Cx} (h0:C'.N = C.N) (h:SlOk C A S a):SlOk C' A S a:=⟨h.df,h.sz.trans h0.symm,h.sl,h.nm⟩
theorem headsC_sound {ops:Array Oper} {S0:St} {F:Ext} {rows:List Nat} {n0:Nat} {K:Act→World→Prop} {p:St→Prop} (hC:C.fr = some (F,rows))
  (hp:∀ S a w,SlOk C A S a→HpOk C A S w→S.H = S0.H→S.n = S0.n→p S→K a w) (hrow:∀ b∈rows,C.w0.heap.size≤b∧∀ k cs,gt S0.H k = some cs→A k≠b) :
  ∀ {sch:List (Nat × Nat)} {gl:List G} {S:St} {a:Act},compH C.P ops C.N sch = some gl→Sx.ops C gl p S→SlOk C A S a→S.H = S0.H→S.n = S0.n→∀ w,HpOk C A S w →
   Dm.dqL C.P ops (fun W=>HpOk C A ⟨S0.n,S0.E,S0.H,F⟩ W∧n0≤W.heap.size) rows K sch a w
 | [],gl,S,a,hc,h,hs,hH,hn,w,hw=>by
  cases hc
  exact hp S a w hs hw hH hn h
 | (i,k) :: l,gl,S,a,hc,h,hs,hH,hn,w,hw=>by
  unfold compH at hc
  split at hc
  ·rename_i o ho
   split at hc
   ·rename_i d g m r h1 h2
    split at hc
    ·rename_i hk
     cases hc
     obtain ⟨e1,e2,e3,e4,e5⟩:=compG_spec h1
     subst e1
     have hkn:C.kn S = ⟨S.n,S.E,S.H,F⟩:=by unfold Cx.kn; rw [hC]
     have hmv:C.mv S = rows:=by unfold Cx.mv; rw [hC]
     have hext:∀ W,HpOk C A ⟨S0.n,S0.E,S0.H,F⟩ W→HpOk C A (C.kn S) W:=fun W hw=>by
      rw [hkn]; exact hw.ext (S':=⟨S.n,S.E,S.H,F⟩) hn.symm (fun k=>by rw [hH]) rfl
     have putH:∀ x:SV,(S.put o.dst x).H = S0.H:=fun x=>by rw [← hH]; cases o.dst <;> rfl
     have putn:∀ x:SV,(S.put o.dst x).n = S0.n:=fun x=>by rw [← hn]; cases o.dst <;> rfl
     rw [Bool.or_eq_true] at hk
     rcases hk with hk | hk
     ·have hk1:k≠1:=fun e=>by subst e; simp at hk
      have hkb:(k != 1) = true:=by simpa using hk1
      rw [hkb] at h1 e2
      have step:∀ (yes:Region.wanted o (yielded ops a.tmps) = true),run1 C m o.dst (Sx.ops C r p) S→Dm.dqL C.P ops (fun W=>HpOk C A ⟨S0.n,S0.E,S0.H,F⟩ W∧n0≤W.heap.size) rows K ((i,k) :: l) a w:=fun hwt h=>by
       rcases e2 with e2 | e2 | e2
       rotate_left
       ·subst e2; exact (run1_trap h).elim
       ·obtain ⟨kk,l',rfl⟩:=compGen_gen e2
        obtain ⟨x,x1,x2,x3⟩:=run1_headG hs e2 rfl h
        have next:=headsC_sound hC hp hrow (n0:=n0) h2 x2 (hs.put x1 e4) (putH x) (putn x) w (hw.put o.dst x)
        rw [Bool.or_eq_true,Bool.and_eq_true,Bool.and_eq_true] at hk
        rcases hk with ⟨hk,-⟩ | ⟨hk,hl⟩
        ·have:k = 0:=by simpa using hk
         subst this
         exact ⟨o,x.val A,ho,.inl ⟨hwt,fun W hW=>by rw [x3 A a hs W]; exact ⟨rfl,gt_refl _ _⟩⟩,next⟩
        ·cases hl
       have hm:head m = true:=by
        rw [Bool.or_eq_true,Bool.and_eq_true,Bool.and_eq_true] at hk
        rcases hk with hk | hk
        ·exact hk.2
        ·exact late_head hk.2
       obtain ⟨x,x1,x2,x3,x4⟩:=run1_head hs e2 hm h
       have next:=headsC_sound hC hp hrow (n0:=n0) h2 x2 (hs.put x1 e4) (putH x) (putn x) w (hw.put o.dst x)
       rw [Bool.or_eq_true,Bool.and_eq_true,Bool.and_eq_true] at hk
       rcases hk with ⟨hk,-⟩ | ⟨hk,hl⟩
       ·have:k = 0:=by simpa using hk
        subst this
        exact ⟨o,x.val A,ho,.inl ⟨hwt,fun W hW=>x3 A a hs W (hext W hW.1)⟩,next⟩
       ·have:k = 2:=by simpa using hk
        subst this
        exact ⟨o,x.val A,ho,.inl ⟨hwt,x4 hl A a hs⟩,next⟩
      have h':gdX g C m o.dst (Sx.ops C r p) S:=h
      unfold gdX at h'
      split at h'
      ·refine step ?_ h'
       unfold compGd at e3
       split at e3
       ·rename_i hg; unfold Region.wanted; rw [hg]
       ·split at e3 <;> cases e3
      ·rename_i t wt
       unfold compGd at e3
       split at e3
       ·cases e3
       ·rename_i j w' hg
        split at e3
        ·rename_i t' hj
         cases e3
         rcases gdS_spec hs hj h' with ⟨hy,h'⟩ | ⟨hy,h'⟩
         ·exact step (by unfold Region.wanted; rw [hg]; simp [hy]) h'
         · have hno:Region.wanted o (yielded ops a.tmps) = false:=by unfold Region.wanted; rw [hg]; simpa using hy
           have next:=headsC_sound hC hp hrow (n0:=n0) h2 h' (hs.put (x:=.v undef) (Nat.zero_le _) e4) (putH _) (putn _) w (hw.put o.dst _)
           rw [Bool.or_eq_true,Bool.and_eq_true,Bool.and_eq_true] at hk
           rcases hk with ⟨hk,-⟩ | ⟨hk,-⟩
           ·have:k = 0:=by simpa using hk
            subst this
            exact ⟨o,undef,ho,.inr ⟨hno,rfl⟩,next⟩
           ·have:k = 2:=by simpa using hk
            subst this
            exact ⟨o,undef,ho,.inr ⟨hno,rfl⟩,next⟩
        ·cases e3
     ·rw [Bool.and_eq_true] at hk
      obtain ⟨hk,ha⟩:=hk
      have:k = 1:=by simpa using hk
      subst this
      refine ⟨o,ho,fun w1 hw1 hg1=>?_⟩
      have hw':HpOk C A S w1:=hw.grow hg1
      have hmv':∀ b∈C.mv S,C.w0.heap.size≤b∧∀ k cs,gt S.H k = some cs→A k≠b:=by rw [hmv,hH]; exact hrow
      have after:∀ {ι:Type} {v:ι→Value} {X:ι→Ext} {q:Result Next},stepIs C.P (fun u W'=>∃ i,Left C S w1 (v i) (X i) u W') q→(∀ i,Sx.ops C r p (St.put ⟨S.n,S.E,S.H,X i⟩ o.dst (.v (v i)))) →
        stepIs C.P (fun u W'=>Dm.Mvs rows w1 W'∧Dm.dqL C.P ops (fun W=>HpOk C A ⟨S0.n,S0.E,S0.H,F⟩ W∧n0≤W.heap.size) rows K l (a.put o.dst u) W') q:=by
       intro ι v X q h3 h4
       refine stepIs_mono h3 fun u W' ⟨i,hl⟩=>?_
       have hu:=hl.1
       subst hu
       refine ⟨by have:=hl.2.1; rw [hmv] at this; exact this,?_⟩
       have hs2:SlOk C A ⟨S.n,S.E,S.H,X i⟩ a:=⟨hs.df,hs.sz,hs.sl,hs.nm⟩
       exact headsC_sound hC hp hrow (n0:=n0) h2 (h4 i) (hs2.put (x:=.v _) (Nat.zero_le _) e4) (by rw [← hH]; cases o.dst <;> rfl) (by rw [← hn]; cases o.dst <;> rfl) W' ((hw'.left hl hmv').put _ _)
      have step:∀ (yes:Region.wanted o (yielded ops a.tmps) = true),run1 C m o.dst (Sx.ops C r p) S→wpList C.P ops (Dm.Aft rows w1 fun a' w'=>Dm.dqL C.P ops (fun W=>HpOk C A ⟨S0.n,S0.E,S0.H,F⟩ W∧n0≤W.heap.size) rows K l a' w') [o] a w1:=fun hwt h=>by
       unfold wpList
       rw [if_pos hwt]
       refine .inl ?_
       unfold Oper.wp
       cases m with
       | call b' f l1 =>
        have hb:b' = false:=by cases b' with | false=>rfl | true=>cases ha
        subst hb
        have hcc:compOp C.P false o.op = some (.call false f l1):=by
         rcases e2 with e2 | e2 | e2
         ·exact e2
         ·cases e2
         ·obtain ⟨_,_,e⟩:=compGen_gen e2; cases e
        have ho:∃ ags ts,o.op = .call ⟨.value (.func f),ags,ts⟩∧ags.toList = l1:=by
         cases hoo:o.op <;> rw [hoo] at hcc
         case call cl =>
          obtain ⟨ce,ags,ts⟩:=cl
          unfold compOp at hcc
          split at hcc <;> first | (cases hcc; done) | skip
          all_goals (rename_i heq; cases heq)
          ·cases hcc; exact ⟨_,_,rfl,rfl⟩
          all_goals (repeat' (split at hcc)); all_goals (cases hcc)
         case binOp op t y z yt =>
          cases op <;> unfold compOp at hcc <;> (simp only at hcc; repeat' (split at hcc)) <;> cases hcc
         all_goals (unfold compOp at hcc; (try unfold compBd at hcc); (try simp only at hcc); (repeat' (split at hcc)); all_goals (cases hcc))
        obtain ⟨ags,ts,ho,hal⟩:=ho
        have h':callX C false f (evs S l1) o.dst (Sx.ops C r p) S:=h
        unfold callX at h'
        cases he:evs S l1 with
        | none=>rw [he] at h'; exact h'.elim
        | some vs =>
         rw [he] at h'
         obtain ⟨ι,v,X,h3,h4⟩:=h'
         rw [exec_call ho (hs.ev (x:=.func f) (v:=.v _) rfl),evs_arr hs (by rw [hal]; exact he)]
         exact stepIs_upon (after (h3 A w1 hw').out h4) fun v w' hh=>wpList_nil hh
       | gen b' q l1 =>
        have hb:b' = false:=by cases b' with | false=>rfl | true=>cases ha
        subst hb
        have hcc:compGen false o = some (.gen false q l1):=by
         rcases e2 with e2 | e2 | e2
         ·exfalso
          cases hoo:o.op <;> rw [hoo] at e2
          case binOp op t y z yt =>
           cases op <;> unfold compOp at e2 <;> (simp only at e2; repeat' (split at e2)) <;> cases e2
          case call cl =>
           obtain ⟨ce,ags,ts⟩:=cl
           unfold compOp at e2
           split at e2 <;> first | (cases e2; done) | skip
           all_goals (rename_i heq; cases heq)
           all_goals (repeat' (split at e2)); all_goals (cases e2)
          all_goals (unfold compOp at e2; (try unfold compBd at e2); (try simp only at e2); (repeat' (split at e2)); all_goals (cases e2))
         ·cases e2
         ·exact e2
        have h':genX C false q (evs S l1) o.dst (Sx.ops C r p) S:=h
        unfold genX at h'
        cases he:evs S l1 with
        | none=>rw [he] at h'; exact h'.elim
        | some vs =>
         rw [he] at h'
         obtain ⟨ι,v,X,h3,h4⟩:=h'
         rw [(gen_run hcc a.eval).2,evs_map hs he]
         exact stepIs_upon (after (h3 A w1 hw').out h4) fun v w' hh=>wpList_nil hh
       | _=>cases ha
      have h':gdX g C m o.dst (Sx.ops C r p) S:=h
      unfold gdX at h'
      split at h'
      ·refine step ?_ h'
       unfold compGd at e3
       split at e3
       ·rename_i hg; unfold Region.wanted; rw [hg]
       ·split at e3 <;> cases e3
      ·rename_i t wt
       unfold compGd at e3
       split at e3
       ·cases e3
       ·rename_i j w' hg
        split at e3
        ·rename_i t' hj
         cases e3
         rcases gdS_spec hs hj h' with ⟨hy,h'⟩ | ⟨hy,h'⟩
         ·exact step (by unfold Region.wanted; rw [hg]; simp [hy]) h'
         · have hno:Region.wanted o (yielded ops a.tmps) = false:=by unfold Region.wanted; rw [hg]; simpa using hy
           unfold wpList
           rw [if_neg (by rw [hno]; decide)]
           refine wpList_nil ⟨Dm.mv_gt (gt_refl _ _),?_⟩
           exact headsC_sound hC hp hrow (n0:=n0) h2 h' (hs.put (x:=.v undef) (Nat.zero_le _) e4) (putH _) (putn _) w1 (hw'.put o.dst _)
        ·cases e3
    ·cases hc
   ·cases hc
  ·cases hc
def chk (nb:Bool) (bs:List Nat) (p:St→Prop) (S:St):Prop :=
 match nb with
 | true=>(∀ b∈S.T.bs,b∈bs)∧p S
 | false=>p S
abbrev Cx.dr (C:Cx) (m:Bool) (T:Ext):Cx :=
 match m with
 | true=>⟨C.P,C.w0,C.N,some (T,[])⟩
 | false=>⟨C.P,C.w0,C.N,some (ext0,T.bs)⟩
def FrOk (C:Cx) (T F:Ext) (rows:List Nat):Prop:=(∀ b∈rows,b∈T.bs)∧(∀ W,T.ok W→F.ok W)∧Stab C F∧∀ b∈F.bs,b∈T.bs∧b ∉ rows
abbrev Cx.fo (C:Cx) (F:Ext) (rows:List Nat):Cx:=⟨C.P,C.w0,C.N,some (F,rows)⟩
def cregX (C:Cx) (m nb:Bool) (hs tl:List G) (p:St→Prop) (S:St):Prop :=
 match m with
 | true=>Sx.ops (C.fo S.T []) hs (chk nb S.T.bs (Sx.ops C tl p)) S
 | false=>∃ F rows,FrOk C S.T F rows∧Sx.ops (C.fo F rows) hs (chk nb S.T.bs (Sx.ops C tl p)) S
theorem cregF {C:Cx} {nb:Bool} {hs tl:List G} {p:St→Prop} {S:St} (h:Sx.ops (C.dr false S.T) hs (chk nb S.T.bs (Sx.ops C tl p)) S):cregX C false nb hs tl p S :=
 ⟨ext0,S.T.bs,⟨fun _ h=>h,fun _ _=>trivial,stab0 C,fun b hb=>(by cases hb)⟩,h⟩
theorem cregX_fr {C:Cx} {m nb:Bool} {hs tl:List G} {p:St→Prop} {S:St} (ts:Stab C S.T) (h:cregX C m nb hs tl p S):∃ F rows,FrOk C S.T F rows∧Sx.ops (C.fo F rows) hs (chk nb S.T.bs (Sx.ops C tl p)) S:=by
 cases m with
 | true=>exact ⟨S.T,[],⟨fun b hb=>(by cases hb),fun _ h=>h,ts,fun b hb=>⟨hb,fun h=>(by cases h)⟩⟩,h⟩
 | false=>exact h
def compCr (P:Program) (l:List Oper) (N n:Nat) (lp:List Nat) (sch:List (Nat × Nat)) (bi:List Nat):Option (Bool × List G × List G) :=
 match compH P l.toArray N sch,compB P l.toArray N bi,compL P l.toArray N (l.drop n) with
 | some hs,some bx,some tl=>if Region.dqOk l.toArray n lp sch bx && P.follows .mixedOrders then some (!bx.isEmpty,hs,boxG bx tl) else none
 | _,_,_=>none
theorem creg_sound {id n:Nat} {l:List Oper} {lp bi:List Nat} {sch:List (Nat × Nat)} {m nb:Bool} {hs tl:List G} {p:St→Prop} {Q:Exit→Act→World→Prop} (hC:C.fr = none) (hc:compCr C.P l C.N n lp sch bi = some (nb,hs,tl)) (h:cregX C m nb hs tl p S) (hok:Ok C A S a W)
  (hp:∀ A S a W,Ok C A S a W→p S→Q .normal a W) (hQ:∀ c (a:Act) d v w,Q (.panic c) (a.put d v) w→Q (.panic c) a w):(Code.region id l.toArray true).wp C.P Q a W:=by
 unfold compCr at hc
 split at hc
 ·rename_i hs' bx tl' h1 h2 h3
  split at hc
  ·rename_i h4
   cases hc
   rw [Bool.and_eq_true] at h4
   have hspec:=compB_spec h2
   obtain ⟨F,rows,⟨q1,q2,q3,q4⟩,h'⟩:=cregX_fr hok.2.ts h
   have hfr:(C.fo F rows).fr = some (F,rows):=rfl
   have hP:(C.fo F rows).P = C.P:=rfl
   have hw0:(C.fo F rows).w0 = C.w0:=rfl
   have hN:(C.fo F rows).N = C.N:=rfl
   have hrow:∀ b∈rows,(C.w0.heap.size≤b∧∀ k cs,gt S.H k = some cs→A k≠b)∧b < W.heap.size:=fun b hb=>⟨⟨(hok.2.tb b (q1 b hb)).1,fun k cs e e'=>hok.2.tn k cs e (e' ▸ q1 b hb)⟩,(hok.2.tb b (q1 b hb)).2⟩
   have hF1:HpOk C A ⟨S.n,S.E,S.H,F⟩ W:=⟨hok.2.bl,hok.2.hb,hok.2.ge,hok.2.kn,hok.2.inj,q2 W hok.2.tk,q3,fun k cs e hb=>hok.2.tn k cs e (q4 _ hb).1,fun b hb=>hok.2.tb b (q4 b hb).1⟩
   have hF2:∀ w w',HpOk C A ⟨S.n,S.E,S.H,F⟩ w→Dm.Mvs rows w w'→HpOk C A ⟨S.n,S.E,S.H,F⟩ w':=fun w w' hw ⟨m1,m2,m3,m4,m5⟩=>by
    refine ⟨⟨m1.trans hw.bl.os,m2.trans hw.bl.tape,m3.trans hw.bl.output,Nat.le_trans hw.bl.size m4,fun i hi=>(m5 i (Nat.lt_of_lt_of_le hi hw.bl.size) fun hb=>by have:=(hrow i hb).1.1; omega).trans (hw.bl.block i hi)⟩,
     fun k cs e=>?_,hw.ge,hw.kn,hw.inj,q3 w w' m1 m2 m3 m4 (fun i hi hor=>m5 i hi fun hr=>?_) hw.tk,q3,hw.tn,fun b hb=>⟨(hw.tb b hb).1,Nat.lt_of_lt_of_le (hw.tb b hb).2 m4⟩⟩
    ·have hB:=hw.hb k cs e
     have hlt:=hB.lt
     obtain ⟨T,hT⟩:=hB
     exact ⟨T,(m5 _ hlt fun hb=>(hrow _ hb).1.2 k cs e rfl).trans hT⟩
    ·rcases hor with hor | hor
     ·exact (q4 i hor).2 hr
     ·have:=(hrow i hr).1.1
      omega
   have h':Sx.ops (C.fo F rows) hs (chk (!bx.isEmpty) S.T.bs (Sx.ops C (boxG bx tl') p)) S:=h'
   have hdq:=headsC_sound (C:=C.fo F rows) (A:=A) (S0:=S) (n0:=W.heap.size) (ops:=l.toArray) (K:=fun a w=>fa (fun w1=>(HpOk (C.fo F rows) A ⟨S.n,S.E,S.H,F⟩ w1∧W.heap.size≤w1.heap.size)∧w.grownBy w1 none) W.heap.size (fun a w=>wpList C.P l.toArray Q (l.drop n) a w) bx [] a)
    hfr (fun S' a' w hs2 hw2 hH hn hp'=>?_) (fun b hb=>⟨hw0 ▸ (hrow b hb).1.1,(hrow b hb).1.2⟩) (by rw [hP,hN]; exact h1) h' (hok.1.fr hN) rfl rfl W.drew (hok.2.drew.fr hw0)
   rotate_left
   ·refine fa_sound (SW:=fun w1=>(HpOk (C.fo F rows) A ⟨S.n,S.E,S.H,F⟩ w1∧W.heap.size≤w1.heap.size)∧w.grownBy w1 none) (C:=C) (tl:=tl') (p:=p) (fun A S a w hok' h'=>ops_sound hC hp h3 h' hok') hok.2.bl.size (A:=A) (S:=S') (fun w1 hw _=>⟨hs2.fr hN.symm,(hw2.grow hw.2).fr hw0.symm⟩) (fun k cs hk=>.inl ?_) (fun hb b hbb=>?_) (fun x hx=>(hspec x hx).1) ?_
    ·rw [hH] at hk
     exact (hok.2.hb k cs hk).lt
    ·have hne:(!bx.isEmpty) = true:=by cases bx with | nil=>exact absurd rfl hb | cons _ _=>rfl
     rw [hne] at hp'
     exact (hok.2.tb b (hp'.1 b hbb)).2
    ·cases hne:(!bx.isEmpty) <;> rw [hne] at hp'
     ·exact hp'
     ·exact hp'.2
   rw [hP] at hdq
   refine Dm.wp_region_dq (rows:=rows) (S:=fun w=>HpOk (C.fo F rows) A ⟨S.n,S.E,S.H,F⟩ w∧W.heap.size≤w.heap.size) (n0:=W.heap.size) n lp sch bx h4.2 h4.1 hQ ⟨hF1.drew.fr hw0,Nat.le_refl _⟩ (fun w w' ⟨hw,hn⟩ g=>⟨(hF2 w w' (hw.fr hw0.symm) g).fr hw0,Nat.le_trans hn g.size⟩) (fun w hw=>hw.2) (fun r hr=>(hrow r hr).2)
    (fun x hx=>by
     obtain ⟨_,o,ho,hm⟩:=hspec x hx
     exact ⟨o,by simpa using ho,hm⟩) hdq
  ·cases hc
 ·cases hc
end Sx
end Go.Proofs.YtncmmbacoknefaaGreat

/- SxE: A symbolic run: regions that draw their order and hold loads, stores and new boxes only: every order is tried. -/
namespace Go.Proofs.YtncmmbacoknefaaGreat
open Go Go.RowKit
set_option linter.unusedVariables false
set_option linter.unusedSimpArgs false
namespace Sx
variable {C:Cx} {A:Nat→Nat} {S:St} {a:Act} {W:World}
def allGo (ops:Array Oper):Nat→Array Bool→List Nat→List (List Nat)
 | 0,_,acc=>[acc.reverse]
 | f + 1,listed,acc =>
  match (List.range ops.size).filter (fun i => !listed.getD i true && ((ops[i]?).map (·.after.all fun e => !Go.Region.binds .any e || listed.getD e.on false)).getD false) with
  | []=>[acc.reverse]
  | rs=>rs.flatMap fun i=>allGo ops f (listed.setIfInBounds i true) (i :: acc)
theorem go_mem (ops:Array Oper):∀ (f t:Nat) (listed:Array Bool) (acc:List Nat),Go.Region.linearise.go .any ops f t listed acc∈allGo ops f listed acc
 | 0,_,_,acc=>by unfold Go.Region.linearise.go allGo; exact List.mem_singleton.2 rfl
 | f + 1,t,listed,acc=>by
  unfold Go.Region.linearise.go allGo
  simp only
  generalize (List.range ops.size).filter _ = rs
  cases rs with
  | nil =>
   have e:([]:List Nat)[t % ([]:List Nat).length]? = none:=by simp
   rw [e]
   exact List.mem_singleton.2 rfl
  | cons r rs =>
   have hl:t % (r :: rs).length < (r :: rs).length:=Nat.mod_lt _ (Nat.zero_lt_succ _)
   rw [List.getElem?_eq_getElem hl]
   exact List.mem_flatMap.2 ⟨_,List.getElem_mem hl,go_mem ops f _ _ _⟩
def allLin (ops:Array Oper):List (List Nat):=allGo ops ops.size (Array.replicate ops.size false) []
theorem schedule_mem (ops:Array Oper) (t:Nat):Go.Region.schedule true ops t∈allLin ops:=by
 unfold Go.Region.schedule
 rw [if_pos (by simp)]
 exact go_mem ops _ _ _ _
def posn (t:Nat):List Nat→Option Nat
 | []=>none
 | u :: l=>if u = t then some 0 else pos1 (posn t l)
where pos1:Option Nat→Option Nat
 | some j=>some (j + 1)
 | none=>none
theorem posn_lt {t:Nat}:∀ {l:List Nat} {j:Nat},posn t l = some j→j < l.length
 | [],j,h=>by cases h
 | u :: l,j,h=>by
  unfold posn at h
  by_cases e:u = t
  ·rw [if_pos e] at h; cases h; exact Nat.zero_lt_succ _
  ·rw [if_neg e] at h
   cases hp:posn t l with
   | none=>rw [hp] at h; cases h
   | some i =>
    rw [hp] at h; cases h
    exact Nat.succ_lt_succ (posn_lt hp)
def exNew (free:Bool) (q:Nat) (t:Nat) (zs:List Value) (S:St):Option St :=
 match free with
 | true=>some ⟨S.n,pt S.E t (.p q 0),(q,zs) :: S.H,S.T⟩
 | false=>none
def isN {α:Type}:Option α→Bool
 | none=>true
 | some _=>false
def exNewP (base:Nat) (j:Option Nat) (t:Nat) (zs:List Value) (S:St):Option St :=
 match j with
 | some j=>exNew (!elb (base + j) (nms S.E) && isN (gt S.H (base + j))) (base + j) t zs S
 | none=>none
def exV (d:Option Nat) (S:St):Option SV→Option St
 | some v=>some (S.put d v)
 | none=>none
def exC (d:Option Nat) (S:St):Option (Prop × SV)→Option St
 | some (_,v)=>some (S.put d v)
 | none=>none
def exL1 (g:Bool) (d:Option Nat) (S:St):Option (List Value)→Option St
 | some l=>some (S.put d (.v (mk g l)))
 | none=>none
def exL2 (g:Bool) (m o:Nat) (d:Option Nat) (S:St):Option (List Value)→Option St
 | some cs=>exL1 g d S (Sx.sub cs o m)
 | none=>none
def exL (g:Bool) (m:Nat) (d:Option Nat) (S:St):Option SV→Option St
 | some (.p k o)=>exL2 g m o d S (gt S.H k)
 | _=>none
def exS3 (k:Nat) (S:St):Bool→Option (List Value)→Option St
 | true,some cs=>some ⟨S.n,S.E,pt S.H k cs,S.T⟩
 | _,_=>none
def exS2 (m k o:Nat) (S:St):Option (List Value)→Option (List Value)→Option St
 | some cs,some vs=>exS3 k S (lenB vs m && all1 vs) (ovrO cs o vs)
 | _,_=>none
def exS1 (m:Nat) (S:St) (vs:Option (List Value)):Option SV→Option St
 | some (.p k o)=>exS2 m k o S (gt S.H k) vs
 | _=>none
def ex1 (als:List Nat) (base:Nat) (d:Option Nat) (S:St):M→Option St
 | .mv x=>exV d S (S.ev x)
 | .fa o x=>exC d S (faS o (S.ev x))
 | .ld g m x=>exL g m d S (S.ev x)
 | .st g m x y=>exS1 m S (cellsO g (S.ev y)) (S.ev x)
 | .new zs=>match d with
  | some t=>exNewP base (posn t als) t zs S
  | none=>none
 | _=>none
def exs (als:List Nat) (base:Nat):List G→St→Option St
 | [],S=>some S
 | (d,none,m) :: r,S=>(ex1 als base d S m).bind (exs als base r)
 | (_,some _,_) :: _,_=>none
theorem Ok.newAt {W W':World} {b q:Nat} {zs:List Value} {t:Nat} (h:Ok C A S a W) (hq:q < S.n) (hE:elb q (nms S.E) = false) (hH:gt S.H q = none) (hd:t < C.N)
  (hb:HB W' b zs.toArray) (hn:C.w0.heap.size≤b) (hne:∀ k cs,gt S.H k = some cs→A k≠b) (hbt:b ∉ S.T.bs) (hbl:Below W.heap.size W W') :
  Ok C (upA A q b) ⟨S.n,pt S.E t (.p q 0),(q,zs) :: S.H,S.T⟩ (a.put (some t) (.pointer (some ⟨b,0,none⟩))) W':=by
 obtain ⟨h1,h2⟩:=h
 have hup:upA A q b q = b:=by unfold upA; rw [if_pos rfl]
 have hlt:∀ k,k≠q→upA A q b k = A k:=fun k hk=>by unfold upA; rw [if_neg hk]
 have hval:∀ {E:List (Nat × SV)} {u:Nat} {x:SV},elb q (nms E) = false→gt E u = some x→x.val (upA A q b) = x.val A:=fun {E u x} he hx=>by
  cases x with
  | v _=>rfl
  | p k o =>
   have:k≠q:=by
    intro e
    subst e
    induction E with
    | nil=>cases hx
    | cons y E ih =>
     obtain ⟨i,y⟩:=y
     unfold gt at hx
     by_cases e:i = u
     ·rw [if_pos e] at hx
      cases hx
      unfold nms elb at he
      rw [if_pos rfl] at he
      cases he
     ·rw [if_neg e] at hx
      refine ih hx ?_
      cases y with
      | v _=>exact he
      | p k' o' =>
       unfold nms elb at he
       by_cases e2:k' = k
       ·rw [if_pos e2] at he; cases he
       ·rw [if_neg e2] at he; exact he
   show Value.pointer (some ⟨upA A q b k,o,none⟩) = Value.pointer (some ⟨A k,o,none⟩)
   rw [hlt k this]
 have base:SlOk C (upA A q b) ⟨S.n,S.E,(q,zs) :: S.H,S.T⟩ a :=
  ⟨h1.df,h1.sz,fun u x hx=>by rw [h1.sl u x hx,hval hE hx],fun u x hx=>h1.nm u x hx⟩
 have hcs:∀ k cs,gt ((q,zs) :: S.H) k = some cs→(k = q∧cs = zs)∨(k≠q∧gt S.H k = some cs):=fun k cs hk=>by
  unfold gt at hk
  by_cases e:q = k
  ·rw [if_pos e] at hk; cases hk; exact .inl ⟨e.symm,rfl⟩
  ·rw [if_neg e] at hk; exact .inr ⟨Ne.symm e,hk⟩
 refine ⟨?_,⟨below_more h2.bl hbl,fun k cs hk=>?_,fun k cs hk=>?_,fun k cs hk=>?_,fun k k' cs cs' hk hk' e=>?_,h2.ts W W' hbl.os hbl.tape hbl.output hbl.size (fun i hi _=>hbl.block i hi) h2.tk,h2.ts,fun k cs hk=>?_,fun b hb=>⟨(h2.tb b hb).1,Nat.lt_of_lt_of_le (h2.tb b hb).2 hbl.size⟩⟩⟩
 rotate_right
 ·rcases hcs k cs hk with ⟨rfl,rfl⟩ | ⟨hl,hk⟩
  ·rw [hup]; exact hbt
  ·rw [hlt k hl]; exact h2.tn k cs hk
 ·have:=base.put (d:=some t) (x:=.p q 0) hq (fun u e=>by cases e; exact hd)
  rw [show (SV.p q 0).val (upA A q b) = .pointer (some ⟨b,0,none⟩) by show Value.pointer (some ⟨upA A q b q,0,none⟩) = _; rw [hup]] at this
  exact this
 ·rcases hcs k cs hk with ⟨rfl,rfl⟩ | ⟨hl,hk⟩
  ·rw [hup]; exact hb
  ·rw [hlt k hl]; exact (h2.hb k cs hk).below hbl
 ·rcases hcs k cs hk with ⟨rfl,rfl⟩ | ⟨hl,hk⟩
  ·rw [hup]; exact hn
  ·rw [hlt k hl]; exact h2.ge k cs hk
 ·rcases hcs k cs hk with ⟨rfl,rfl⟩ | ⟨hl,hk⟩
  ·exact hq
  ·exact h2.kn k cs hk
 ·rcases hcs k cs hk with ⟨rfl,rfl⟩ | ⟨hl,hk2⟩ <;> rcases hcs k' cs' hk' with ⟨rfl,rfl⟩ | ⟨hl',hk2'⟩
  ·rfl
  ·rw [hup,hlt k' hl'] at e
   exact absurd e.symm (hne k' cs' hk2')
  ·rw [hup,hlt k hl] at e
   exact absurd e (hne k cs hk2)
  ·rw [hlt k hl,hlt k' hl'] at e
   exact h2.inj k k' cs cs' hk2 hk2' e
theorem isN_eq {α:Type} {x:Option α} (h:isN x = true):x = none:=by cases x; rfl; cases h
theorem ex1_step {o:Oper} {m:M} {als:List Nat} {base:Nat} {T:St} (hC:C.fr = none) (hok:Ok C A S a W) (hc:compOp C.P false o.op = some m∨m = .trap∨compGen false o = some m) (hd:∀ t,o.dst = some t→t < C.N) (hst:∀ g m' x y,m = .st g m' x y→o.dst = none)
  (hb:base + als.length≤S.n) (h:ex1 als base o.dst S m = some T):stepIs C.P (fun u W'=>∃ A',Ok C A' T (a.put o.dst u) W') ((execOp a.eval o).run C.P W):=by
 rcases hc with hc | hc | hc
 rotate_left
 ·subst hc; cases h
 ·obtain ⟨k,l',rfl⟩:=compGen_gen hc
  cases h
 have via:run1 C m o.dst (· = T) S→stepIs C.P (fun u W'=>∃ A',Ok C A' T (a.put o.dst u) W') ((execOp a.eval o).run C.P W):=fun hr =>
  stepIs_mono (run1_step hC hok hc hd hst hr) fun u W' ⟨A',S',hok',e⟩=>⟨A',e ▸ hok'⟩
 cases m with
 | mv x =>
  refine via ?_
  have h':exV o.dst S (S.ev x) = some T:=h
  show pX (sv1 (S.ev x)) o.dst (· = T) S
  cases hx:S.ev x with
  | none=>rw [hx] at h'; cases h'
  | some v=>rw [hx] at h'; cases h'; exact ⟨True.intro,rfl⟩
 | fa f x =>
  refine via ?_
  have h':exC o.dst S (faS f (S.ev x)) = some T:=h
  show pX (faS f (S.ev x)) o.dst (· = T) S
  unfold faS at h' ⊢
  split at h' <;> first | (cases h'; exact ⟨True.intro,rfl⟩) | cases h'
 | ld g k x =>
  refine via ?_
  have h':exL g k o.dst S (S.ev x) = some T:=h
  show ldX C g k (S.ev x) o.dst (· = T) S
  unfold exL at h'
  split at h'
  ·rename_i q i hx
   rw [hx]
   show ldH g k i (gt S.H q) o.dst (· = T) S
   cases hq:gt S.H q with
   | none=>rw [hq] at h'; cases h'
   | some cs =>
    rw [hq] at h'
    show ldS g (Sx.sub cs i k) o.dst (· = T) S
    have h2:exL1 g o.dst S (Sx.sub cs i k) = some T:=h'
    cases hs:Sx.sub cs i k with
    | none=>rw [hs] at h2; cases h2
    | some l=>rw [hs] at h2; cases h2; rfl
  ·cases h'
 | st g k x y =>
  refine via ?_
  have h':exS1 k S (cellsO g (S.ev y)) (S.ev x) = some T:=h
  show stX C k (S.ev x) (cellsO g (S.ev y)) (· = T) S
  unfold exS1 at h'
  split at h'
  ·rename_i q i hx
   rw [hx]
   show stH k q i (gt S.H q) (cellsO g (S.ev y)) (· = T) S
   cases hq:gt S.H q with
   | none=>rw [hq] at h'; cases h'
   | some cs =>
    rw [hq] at h'
    cases hy:cellsO g (S.ev y) with
    | none=>rw [hy] at h'; cases h'
    | some vs =>
     rw [hy] at h'
     have h2:exS3 q S (lenB vs k && all1 vs) (ovrO cs i vs) = some T:=h'
     show stF (lenB vs k && all1 vs) q (ovrO cs i vs) (· = T) S
     unfold exS3 at h2
     split at h2
     ·rename_i cs' hl hov
      cases h2
      rw [hl,hov]
      rfl
     ·cases h2
  ·cases h'
 | new zs =>
  have ho:∃ t i z,o.op = .alloc t∧C.P.info? t = some i∧i.zero = some z∧zs = z.cells.toList:=by
   cases hoo:o.op <;> rw [hoo] at hc
   case alloc t =>
    unfold compOp at hc
    simp only at hc
    split at hc
    ·cases hc
    split at hc
    ·rename_i i hi
     split at hc
     ·rename_i z hz
      cases hc
      exact ⟨t,i,z,rfl,hi,hz,rfl⟩
     ·cases hc
    ·cases hc
   case binOp op t y z yt =>
    cases op <;> unfold compOp at hc <;> (simp only at hc; repeat' (split at hc)) <;> cases hc
   case call cl =>
    obtain ⟨ce,ags,ts⟩:=cl
    unfold compOp at hc
    split at hc <;> first | (cases hc; done) | skip
    all_goals (rename_i heq; cases heq)
    all_goals (repeat' (split at hc)); all_goals (cases hc)
   all_goals (unfold compOp at hc; (try unfold compBd at hc); (try simp only at hc); (repeat' (split at hc)); all_goals (cases hc))
  obtain ⟨ty,i,z,ho,hi,hz,rfl⟩:=ho
  have e:(execOp a.eval o).run C.P W = .ok (.value (.pointer (some ⟨W.heap.size,0,none⟩))) (W.alloc (.cells z.cells ty (0,0))):=by
   unfold execOp
   rw [ho]
   refine run_v ?_
   unfold Instr.alloc
   have h1:(zeroValue ty).run C.P W = .ok z W:=by
    unfold zeroValue typeInfo
    simp [go_sem,hi,hz]
   rw [run_bind_ok h1]
   rfl
  cases hdd:o.dst with
  | none=>rw [hdd] at h; cases h
  | some t =>
   rw [hdd] at h
   have h':exNewP base (posn t als) t z.cells.toList S = some T:=h
   cases hp:posn t als with
   | none=>rw [hp] at h'; cases h'
   | some j =>
    rw [hp] at h'
    have hj:=posn_lt hp
    have h2:exNew (!elb (base + j) (nms S.E) && isN (gt S.H (base + j))) (base + j) t z.cells.toList S = some T:=h'
    unfold exNew at h2
    split at h2
    ·rename_i hf
     cases h2
     rw [Bool.and_eq_true] at hf
     rw [e]
     refine ⟨_,hok.newAt (by omega) (by simpa using hf.1) (isN_eq hf.2) (hd t hdd) (HB.new W _ ty rfl) hok.2.bl.size (fun k ds hk e=>?_) (fun hb=>by have:=(hok.2.tb _ hb).2; omega) ((Below.refl _ _).alloc (Nat.le_refl _) _)⟩
     have:=(hok.2.hb k ds hk).lt; omega
    ·cases h2
 | _=>cases h
def compA1 (P:Program) (ops:Array Oper) (N:Nat):List Nat→Option (List G)
 | []=>some []
 | i :: l=>match ops[i]? with
  | some o=>match compG P false ops N o,compA1 P ops N l with
   | some g,some r=>some (g :: r)
   | _,_=>none
  | none=>none
def compAs (P:Program) (ops:Array Oper) (N:Nat):List (List Nat)→Option (List (List G))
 | []=>some []
 | l :: ls=>match compA1 P ops N l,compAs P ops N ls with
  | some g,some r=>some (g :: r)
  | _,_=>none
def compA (P:Program) (l:List Oper) (N:Nat):Option (List (List G)):=if P.follows .mixedOrders then compAs P l.toArray N (allLin l.toArray) else none
theorem compAs_mem {P:Program} {ops:Array Oper} {N:Nat}:∀ {ls:List (List Nat)} {gs:List (List G)},compAs P ops N ls = some gs→∀ l∈ls,∃ g∈gs,compA1 P ops N l = some g
 | [],gs,h,l,hl=>by cases hl
 | k :: ls,gs,h,l,hl=>by
  unfold compAs at h
  split at h
  ·rename_i g r h1 h2
   cases h
   rcases List.mem_cons.1 hl with rfl | hl
   ·exact ⟨g,List.mem_cons_self,h1⟩
   ·obtain ⟨g',hg,e⟩:=compAs_mem h2 l hl
    exact ⟨g',List.mem_cons_of_mem _ hg,e⟩
  ·cases h
theorem exs_sound {ops:Array Oper} {als:List Nat} {base:Nat} {Q:Exit→Act→World→Prop} {T:St} (hC:C.fr = none) (hp:∀ A a W,Ok C A T a W→Q .normal a W) :
  ∀ {is:List Nat} {gl:List G} {A:Nat→Nat} {S:St} {a:Act} {W:World},compA1 C.P ops C.N is = some gl→exs als base gl S = some T→base + als.length≤S.n→Ok C A S a W→wpOps C.P ops Q is a W
 | [],gl,A,S,a,W,hc,h,hb,hok=>by
  cases hc
  cases h
  exact hp A a W hok
 | i :: is,gl,A,S,a,W,hc,h,hb,hok=>by
  unfold compA1 at hc
  split at hc
  ·rename_i o ho
   split at hc
   ·rename_i g r h1 h2
    cases hc
    obtain ⟨d,gd,m⟩:=g
    obtain ⟨e1,e2,e3,e4,e5⟩:=compG_spec h1
    subst e1
    cases gd with
    | some g=>cases h
    | none =>
     have h':(ex1 als base o.dst S m).bind (exs als base r) = some T:=h
     cases hx:ex1 als base o.dst S m with
     | none=>rw [hx] at h'; cases h'
     | some U =>
      rw [hx] at h'
      have h3:exs als base r U = some T:=h'
      have hU:U.n = S.n:=by
       clear h3 h' h
       unfold ex1 at hx
       split at hx
       ·unfold exV at hx; split at hx <;> first | (cases hx; cases o.dst <;> rfl) | cases hx
       ·unfold exC at hx; split at hx <;> first | (cases hx; cases o.dst <;> rfl) | cases hx
       ·unfold exL at hx; split at hx
        ·unfold exL2 at hx; split at hx
         ·unfold exL1 at hx; split at hx <;> first | (cases hx; cases o.dst <;> rfl) | cases hx
         ·cases hx
        ·cases hx
       ·unfold exS1 at hx; split at hx
        ·unfold exS2 at hx; split at hx
         ·unfold exS3 at hx; split at hx <;> first | (cases hx; rfl) | cases hx
         ·cases hx
        ·cases hx
       ·split at hx
        ·unfold exNewP at hx; split at hx
         ·unfold exNew at hx; split at hx <;> first | (cases hx; rfl) | cases hx
         ·cases hx
        ·cases hx
       ·cases hx
      have hg:o.guard = none:=by
       unfold compGd at e3
       split at e3
       ·rename_i hg; exact hg
       ·split at e3 <;> cases e3
      have hw:Region.wanted o (yielded ops a.tmps) = true:=by unfold Region.wanted; rw [hg]
      unfold wpOps
      simp only [ho]
      rw [if_pos hw]
      refine .inl ?_
      unfold Oper.wp
      exact stepIs_upon (ex1_step hC hok e2 e4 e5 hb hx) fun v W' ⟨A',hok'⟩=>exs_sound hC hp h2 h3 (by rw [hU]; exact hb) hok'
   ·cases hc
  ·cases hc
end Sx
end Go.Proofs.YtncmmbacoknefaaGreat

/- SxH: A symbolic run: regions that draw their order, where loads that lean on boxes alone are taken first and the rest comes in one order. -/
namespace Go.Proofs.YtncmmbacoknefaaGreat
open Go Go.RowKit
set_option linter.unusedVariables false
set_option linter.unusedSimpArgs false
namespace Sx
variable {C:Cx} {A:Nat→Nat} {S:St} {a:Act} {W:World}
def holdH (n:Nat) (H:List (Nat × List Value)):List (Nat × List Value)→Prop
 | []=>True
 | (k,cs) :: r=>(gt H k = some cs∧k < n)∧holdH n H r
theorem holdH_spec {n:Nat} {H:List (Nat × List Value)}:∀ {l:List (Nat × List Value)},holdH n H l→∀ k cs,gt l k = some cs→gt H k = some cs∧k < n
 | [],_,k,cs,h=>by cases h
 | (u,y) :: r,hs,k,cs,h=>by
  obtain ⟨h1,h2⟩:=hs
  unfold gt at h
  by_cases e:u = k
  ·subst e
   rw [if_pos rfl] at h
   cases h
   exact h1
  ·rw [if_neg e] at h
   exact holdH_spec h2 k cs h
def preM:M→Bool
 | .ld _ _ _=>true
 | m=>late m
inductive GT where
 | fin
 | no
 | br (d:Option Nat) (g:Option (Nat × Bool)) (m:M) (sub next:GT)
def treeH (C:Cx) (n:Nat) (H:List (Nat × List Value)):GT→(St→Prop)→St→Prop
 | .fin,p,S=>p S
 | .no,_,_=>True
 | .br d g m sub next,p,S=>gdX g C m d (fun T=>holdH n T.H H∧treeH C n H sub p T) S∧treeH C n H next p S
def hregL (C:Cx) (hs:List G) (tl:GT) (p:St→Prop) (H:List (Nat × List Value)) (S:St):Prop :=
 Sx.ops C hs (fun T=>treeH C S.n H tl p ⟨S.n,T.E,S.H,S.T⟩) ⟨S.n,S.E,H,ext0⟩
def hregX (C:Cx) (hs:List G) (tl:GT) (ks:List Nat) (p:St→Prop) (S:St):Prop:=hregL C hs tl p (kpH (nms (kpE S.E ks)) S.H) S
def compPre (P:Program) (ops:Array Oper) (N:Nat):List Nat→Option (List G)
 | []=>some []
 | i :: l=>match ops[i]? with
  | some o=>match compG P true ops N o,compPre P ops N l with
   | some (d,g,m),some r=>if preM m then some ((d,g,m) :: r) else none
   | _,_=>none
  | none=>none
def preOk (ops:Array Oper):List Nat→Array Bool→Bool
 | [],_=>true
 | i :: r,listed=>Region.free .any ops listed i && ((Region.ready .any ops listed).contains i && preOk ops r (listed.setIfInBounds i true))
def lst:List Nat→Array Bool→Array Bool
 | [],listed=>listed
 | i :: r,listed=>lst r (listed.setIfInBounds i true)
def compAlts (P:Program) (ops:Array Oper) (N:Nat) (rc:Nat→Option GT):List Nat→Option GT
 | []=>some .no
 | i :: r=>match ops[i]? with
  | some o=>match compG P false ops N o,rc i,compAlts P ops N rc r with
   | some (d,g,m),some s,some nx=>some (.br d g m s nx)
   | _,_,_=>none
  | none=>none
def compGT (P:Program) (ops:Array Oper) (N:Nat):Nat→Array Bool→Option GT
 | 0,listed=>if Region.ready .any ops listed == [] then some .fin else none
 | f + 1,listed=>match Region.ready .any ops listed with
  | []=>some .fin
  | i :: r=>compAlts P ops N (fun i=>compGT P ops N f (listed.setIfInBounds i true)) (i :: r)
def compHr (P:Program) (l:List Oper) (N:Nat) (pre:List Nat):Option (List G × GT) :=
 match compPre P l.toArray N pre,compGT P l.toArray N (l.length - pre.length) (lst pre (Array.replicate l.toArray.size false)) with
 | some hs,some tl=>if P.follows .mixedOrders && (Region.noSelect l.toArray && (decide (pre.length≤l.length) && preOk l.toArray pre (Array.replicate l.toArray.size false))) then some (hs,tl) else none
 | _,_=>none
abbrev leanW (C:Cx) (A:Nat→Nat) (S:St):World→Prop:=fun W=>HpOk C A ⟨S.n,S.E,S.H,ext0⟩ W
theorem lean_of (h:HpOk C A S W):leanW C A S W :=
 ⟨h.bl,h.hb,h.ge,h.kn,h.inj,trivial,stab0 C,fun _ _ _ hb=>(by cases hb),fun _ hb=>by cases hb⟩
theorem lean_keep {A':Nat→Nat} {S':St} (h:HpOk C A' S' W) (hA:∀ k,k < S.n→A' k = A k) (hH:holdH S.n S'.H S.H):leanW C A S W:=by
 have q:=fun k cs hk=>holdH_spec hH k cs hk
 refine ⟨h.bl,fun k cs hk=>?_,fun k cs hk=>?_,fun k cs hk=>(q k cs hk).2,fun k k' cs cs' hk hk' e=>?_,trivial,stab0 C,fun _ _ _ hb=>(by cases hb),fun _ hb=>by cases hb⟩
 ·obtain ⟨q1,q2⟩:=q k cs hk
  rw [← hA k q2]
  exact h.hb k cs q1
 ·obtain ⟨q1,q2⟩:=q k cs hk
  rw [← hA k q2]
  exact h.ge k cs q1
 ·obtain ⟨q1,q2⟩:=q k cs hk
  obtain ⟨q3,q4⟩:=q k' cs' hk'
  rw [← hA k q2,← hA k' q4] at e
  exact h.inj k k' cs cs' q1 q3 e
theorem put_H' {S:St} {d:Option Nat} {x:SV}:(S.put d x).H = S.H:=by cases d <;> rfl
theorem put_T' {S:St} {d:Option Nat} {x:SV}:(S.put d x).T = S.T:=by cases d <;> rfl
theorem SlOk.like {S T:St} (h:SlOk C A S a) (hn:S.n = T.n) (hE:S.E = T.E):SlOk C A T a :=
 ⟨h.df,h.sz,fun t x hx=>h.sl t x (by rw [hE]; exact hx),fun t x hx=>by rw [← hn]; exact h.nm t x (by rw [hE]; exact hx)⟩
theorem pre_yields {b:Bool} {o:Oper} {m:M} {d:Option Nat} {K:St→Prop} (hC:C.fr = none) (hs:SlOk C A S a) (hc:compOp C.P b o.op = some m) (hm:preM m = true) (h:run1 C m d K S) :
  ∃ x,x.nm≤S.n∧K (S.put d x)∧∀ W,HpOk C A S W→(execOp a.eval o).run C.P W = .ok (.value (x.val A)) W:=by
 by_cases hl:late m = true
 ·obtain ⟨c,x,h1,h2,h3⟩:=run1_pv hl h
  exact ⟨x,(pv_lands hs hc h1 h2).1,h3,fun W _=>(pv_lands hs hc h1 h2).2 W⟩
 cases m with
 | ld g m x =>
  have h':ldX C g m (S.ev x) d K S:=h
  have ho:∃ t,o.op = .load t x∧gmOf C.P t = some (g,m):=by
   cases hoo:o.op <;> rw [hoo] at hc
   case load t y =>
    unfold compOp at hc
    simp only at hc
    split at hc
    ·rename_i g' m' hgm
     cases hc
     exact ⟨t,rfl,hgm⟩
    ·cases hc
   case binOp op t y z yt =>
    cases op <;> unfold compOp at hc <;> (simp only at hc; repeat' (split at hc)) <;> cases hc
   case call cl =>
    obtain ⟨ce,ags,ts⟩:=cl
    unfold compOp at hc
    split at hc <;> first | (cases hc; done) | skip
    all_goals (rename_i heq; cases heq)
    all_goals (repeat' (split at hc)); all_goals (cases hc)
   all_goals (unfold compOp at hc; (try unfold compBd at hc); (try simp only at hc); (repeat' (split at hc)); all_goals (cases hc))
  obtain ⟨t,ho,hgm⟩:=ho
  have hex:∀ p W cs,a.eval x = .pointer (some p)→cs.length = m→(∀ j v,cs[j]? = some v→W.cell? (p.add j) = some v)→(execOp a.eval o).run C.P W = .ok (.value (mk g cs)) W:=fun p W cs he hlen hcell=>by
   unfold execOp
   rw [ho]
   simp only [he]
   exact run_v (run_ld hgm hlen hcell)
  unfold ldX at h'
  split at h'
  ·rename_i k o' hb
   unfold ldH at h'
   split at h'
   ·rename_i cs hcs
    unfold ldS at h'
    split at h'
    ·rename_i l hsub
     exact ⟨.v (mk g l),Nat.zero_le _,h',fun W hw=>hex ⟨A k,o',none⟩ W l (hs.ev hb) (sub_get hsub).1 (cell_of (hw.hb k cs hcs) hsub)⟩
    ·exact h'.elim
   ·exact h'.elim
  ·rename_i p hb
   obtain ⟨cs,h1,h2,h3⟩:=h'
   exact ⟨.v (mk g cs),Nat.zero_le _,h3,fun W hw=>hex p W cs (hs.ev hb) h1 (h2 A W (by rw [kn_none hC]; exact hw))⟩
  ·exact h'.elim
 | _=>exact absurd hm hl
theorem pre_sound {ops:Array Oper} {Q:Exit→Act→World→Prop} {S0:St} {p:St→Prop} {fuel:Nat} (hC:C.fr = none) (hsel:Region.noSelect ops = true) (hQ:∀ c (a:Act) d v w,Q (.panic c) (a.put d v) w→Q (.panic c) a w) (hT0:S0.T = ext0) :
  ∀ {pre:List Nat} {gl:List G} {S:St} {a:Act} {listed:Array Bool} {W:World},compPre C.P ops C.N pre = some gl→preOk ops pre listed = true→Sx.ops C gl p S→SlOk C A S a→S.n = S0.n→S.H = S0.H→S.T = ext0→leanW C A S0 W →
   (∀ S' a',SlOk C A S' a'→S'.n = S0.n→p S'→wpAnyH C.P .any ops Q (leanW C A S0) fuel (lst pre listed) a' W)→wpAnyH C.P .any ops Q (leanW C A S0) (pre.length + fuel) listed a W
 | [],gl,S,a,listed,W,hc,hp,h,hs,hn,hH,hT,hW,hk=>by
  cases hc
  rw [List.length_nil,Nat.zero_add]
  exact hk S a hs hn h
 | i :: l,gl,S,a,listed,W,hc,hp,h,hs,hn,hH,hT,hW,hk=>by
  unfold compPre at hc
  split at hc
  ·rename_i o ho
   split at hc
   ·rename_i d g m r h1 h2
    split at hc
    ·rename_i hm
     cases hc
     obtain ⟨e1,e2,e3,e4,e5⟩:=compG_spec h1
     subst e1
     unfold preOk at hp
     rw [Bool.and_eq_true,Bool.and_eq_true] at hp
     obtain ⟨p1,p2,p3⟩:=hp
     have hl:(i :: l).length + fuel = (l.length + fuel) + 1:=by rw [List.length_cons]; omega
     have hext:∀ W,leanW C A S0 W→HpOk C A S W:=fun W hw=>HpOk.ext (S:=⟨S0.n,S0.E,S0.H,ext0⟩) hw hn.symm (fun k=>by rw [hH]) hT
     have next:∀ x:SV,x.nm≤S.n→Sx.ops C r p (S.put o.dst x)→YieldsIf C.P ops (leanW C A S0) o (x.val A) a→wpAnyH C.P .any ops Q (leanW C A S0) ((i :: l).length + fuel) listed a W:=fun x hx hk2 hy=>by
      rw [hl]
      refine wpAnyH_take ho hsel p1 p2 (fun c a w h=>hQ c a _ _ w h) hy hW ?_
      exact pre_sound hC hsel hQ hT0 h2 p3 hk2 (hs.put hx e4) (by rw [put_n]; exact hn) (by rw [put_H']; exact hH) (by rw [put_T']; exact hT) hW hk
     have step:Region.wanted o (yielded ops a.tmps) = true→run1 C m o.dst (Sx.ops C r p) S→wpAnyH C.P .any ops Q (leanW C A S0) ((i :: l).length + fuel) listed a W:=fun hw h=>by
      rcases e2 with e2 | e2 | e2
      rotate_left
      ·subst e2; exact (run1_trap h).elim
      ·obtain ⟨kk,l',rfl⟩:=compGen_gen e2
       cases hm
      obtain ⟨x,x1,x2,x3⟩:=pre_yields hC hs e2 hm h
      exact next x x1 x2 (.inl ⟨hw,fun W hW=>x3 W (hext W hW)⟩)
     have h':gdX g C m o.dst (Sx.ops C r p) S:=h
     unfold gdX at h'
     split at h'
     ·refine step ?_ h'
      unfold compGd at e3
      split at e3
      ·rename_i hg; unfold Region.wanted; rw [hg]
      ·split at e3 <;> cases e3
     ·rename_i t wt
      unfold compGd at e3
      split at e3
      ·cases e3
      ·rename_i j w' hg
       split at e3
       ·rename_i t' hj
        cases e3
        rcases gdS_spec hs hj h' with ⟨hy,h'⟩ | ⟨hy,h'⟩
        ·exact step (by unfold Region.wanted; rw [hg]; simp [hy]) h'
        ·have hno:Region.wanted o (yielded ops a.tmps) = false:=by unfold Region.wanted; rw [hg]; simpa using hy
         exact next (.v undef) (Nat.zero_le _) h' (.inr ⟨hno,rfl⟩)
       ·cases e3
    ·cases hc
   ·cases hc
  ·cases hc
theorem alts_mem {ops:Array Oper} {rc:Nat→Option GT} {n:Nat} {H:List (Nat × List Value)} {p:St→Prop}:∀ {rs:List Nat} {t:GT},compAlts C.P ops C.N rc rs = some t→treeH C n H t p S→∀ i∈rs,∃ o d g m s,ops[i]? = some o∧compG C.P false ops C.N o = some (d,g,m)∧rc i = some s∧gdX g C m d (fun T=>holdH n T.H H∧treeH C n H s p T) S
 | [],t,hc,h,i,hi=>by cases hi
 | j :: r,t,hc,h,i,hi=>by
  unfold compAlts at hc
  split at hc
  ·rename_i o ho
   split at hc
   ·rename_i d g m s nx h1 h2 h3
    cases hc
    obtain ⟨h4,h5⟩:=h
    rcases List.mem_cons.1 hi with rfl | hi
    ·exact ⟨o,d,g,m,s,ho,h1,h2,h4⟩
    ·exact alts_mem h3 h5 i hi
   ·cases hc
  ·cases hc
theorem tree_sound {ops:Array Oper} {Q:Exit→Act→World→Prop} {A0:Nat→Nat} {S0:St} {p:St→Prop} (hC:C.fr = none) (hp:∀ A S a W,Ok C A S a W→p S→Q .normal a W) :
  ∀ {f:Nat} {t:GT} {A:Nat→Nat} {S:St} {a:Act} {listed:Array Bool} {W:World},compGT C.P ops C.N f listed = some t→treeH C S0.n S0.H t p S→Ok C A S a W→S0.n≤S.n→(∀ k,k < S0.n→A k = A0 k) →
   wpAnyH C.P .any ops Q (leanW C A0 S0) f listed a W
 | 0,t,A,S,a,listed,W,hc,h,hok,hn,hA=>by
  unfold compGT at hc
  split at hc
  ·rename_i hr
   cases hc
   exact wpAnyH_done (by simpa using hr) (hp A S a W hok h) _
  ·cases hc
 | f + 1,t,A,S,a,listed,W,hc,h,hok,hn,hA=>by
  unfold compGT at hc
  split at hc
  ·rename_i hr
   cases hc
   exact wpAnyH_done hr (hp A S a W hok h) _
  ·rename_i i0 r0 hr
   refine wpAnyH_all hr (by simp) fun i hi=>?_
   obtain ⟨o,d,gd,m,s,ho,h1,h2,h4⟩:=alts_mem hc h i hi
   obtain ⟨e1,e2,e3,e4,e5⟩:=compG_spec h1
   subst e1
   have fin:∀ {A' S' a' W'},OkN C A S A' S' a' W'→(holdH S0.n S'.H S0.H∧treeH C S0.n S0.H s p S')→leanW C A0 S0 W'∧wpAnyH C.P .any ops Q (leanW C A0 S0) f (listed.setIfInBounds i true) a' W':=fun {A' S' a' W'} hok' hk=>by
    obtain ⟨o1,o2,o3⟩:=hok'
    have hA':∀ k,k < S0.n→A' k = A0 k:=fun k hk=>(o3 k (by omega)).trans (hA k hk)
    exact ⟨lean_keep o1.2 hA' hk.1,tree_sound hC hp h2 hk.2 o1 (by omega) hA'⟩
   have step:Region.wanted o (yielded ops a.tmps) = true→run1 C m o.dst (fun T=>holdH S0.n T.H S0.H∧treeH C S0.n S0.H s p T) S→wpOp C.P ops Q i (fun a' W'=>leanW C A0 S0 W'∧wpAnyH C.P .any ops Q (leanW C A0 S0) f (listed.setIfInBounds i true) a' W') a W:=fun hw h=>by
    rcases e2 with e2 | e2 | e2
    rotate_left
    ·subst e2; exact (run1_trap h).elim
    ·obtain ⟨k,l',rfl⟩:=compGen_gen e2
     unfold wpOp
     simp only [ho]
     rw [if_pos hw]
     refine .inl ?_
     unfold Oper.wp
     exact stepIs_upon (run1_stepGA hC hok e2 e4 h) fun v W' ⟨A',S',hok',hK⟩=>fin hok' hK
    unfold wpOp
    simp only [ho]
    rw [if_pos hw]
    refine .inl ?_
    unfold Oper.wp
    exact stepIs_upon (run1_stepA hC hok e2 e4 e5 h) fun v W' ⟨A',S',hok',hK⟩=>fin hok' hK
   have h':gdX gd C m o.dst (fun T=>holdH S0.n T.H S0.H∧treeH C S0.n S0.H s p T) S:=h4
   unfold gdX at h'
   split at h'
   ·refine step ?_ h'
    unfold compGd at e3
    split at e3
    ·rename_i hg; unfold Region.wanted; rw [hg]
    ·split at e3 <;> cases e3
   ·rename_i t w
    unfold compGd at e3
    split at e3
    ·cases e3
    ·rename_i j' w' hg
     split at e3
     ·rename_i t' hj'
      cases e3
      rcases gdS_spec hok.1 hj' h' with ⟨hy,h'⟩ | ⟨hy,h'⟩
      ·exact step (by unfold Region.wanted; rw [hg]; simp [hy]) h'
      ·have hno:Region.wanted o (yielded ops a.tmps) = false:=by unfold Region.wanted; rw [hg]; simpa using hy
       unfold wpOp
       simp only [ho]
       rw [if_neg (by rw [hno]; decide)]
       exact fin (okn_put (x:=.v undef) ⟨hok.1.put (x:=.v undef) (Nat.zero_le _) e4,hok.2.put _ _⟩) h'
     ·cases e3
theorem hreg_any {l:List Oper} {pre ks:List Nat} {hs:List G} {tl:GT} {p:St→Prop} {Q:Exit→Act→World→Prop} (hC:C.fr = none) (hc:compHr C.P l C.N pre = some (hs,tl)) (h:hregX C hs tl ks p S) (hok:Ok C A S a W)
  (hp:∀ A S a W,Ok C A S a W→p S→Q .normal a W) (hQ:∀ c (a:Act) d v w,Q (.panic c) (a.put d v) w→Q (.panic c) a w):C.P.follows .mixedOrders = true∧wpAny C.P .any l.toArray Q l.toArray.size (Array.replicate l.toArray.size false) a { W with drawn:=W.drawn + 1 }:=by
 unfold compHr at hc
 split at hc
 ·rename_i hs' tl' h1 h2
  split at hc
  ·rename_i hb
   cases hc
   simp only [Bool.and_eq_true,decide_eq_true_eq] at hb
   obtain ⟨hm,hsel,hlen,hpre⟩:=hb
   obtain ⟨H,hH⟩:∃ H,H = kpH (nms (kpE S.E ks)) S.H:=⟨_,rfl⟩
   have hHs:∀ {k cs},gt H k = some cs→gt S.H k = some cs:=fun {k cs} e=>gt_kpH (by rw [hH] at e; exact e)
   have h:hregL C hs tl p H S:=by rw [hH]; exact h
   refine ⟨hm,wpAny_of_held (S:=leanW C A ⟨S.n,S.E,H,S.T⟩) _ _ _ _ ?_⟩
   have hok':Ok C A S a W.drew:=⟨hok.1,hok.2.drew⟩
   have hl1:HpOk C A ⟨S.n,S.E,H,S.T⟩ W.drew:=⟨hok'.2.bl,fun k cs e=>hok'.2.hb k cs (hHs e),fun k cs e=>hok'.2.ge k cs (hHs e),fun k cs e=>hok'.2.kn k cs (hHs e),fun k k' cs cs' e e'=>hok'.2.inj k k' cs cs' (hHs e) (hHs e'),hok'.2.tk,hok'.2.ts,fun k cs e=>hok'.2.tn k cs (hHs e),hok'.2.tb⟩
   have hl0:leanW C A ⟨S.n,S.E,H,S.T⟩ W.drew:=lean_of hl1
   have key:=pre_sound (S0:=⟨S.n,S.E,H,ext0⟩) (p:=fun T=>treeH C S.n H tl p ⟨S.n,T.E,S.H,S.T⟩) (fuel:=l.length - pre.length) hC hsel hQ rfl h1 hpre h (hok'.1.like rfl rfl) rfl rfl rfl hl0 fun S' a' hs' hn hk=>by
    have hok2:Ok C A ⟨S.n,S'.E,S.H,S.T⟩ a' W.drew:=⟨hs'.like hn rfl,hok'.2.ext rfl (fun _=>rfl) rfl⟩
    exact tree_sound (S0:=⟨S.n,S.E,H,ext0⟩) hC hp h2 hk hok2 (Nat.le_refl _) fun _ _=>rfl
   have e:pre.length + (l.length - pre.length) = l.toArray.size:=by simp; omega
   rw [e] at key
   exact key
  ·cases hc
 ·cases hc
theorem hreg_sound {id:Nat} {l:List Oper} {pre ks:List Nat} {hs:List G} {tl:GT} {p:St→Prop} {Q:Exit→Act→World→Prop} (hC:C.fr = none) (hc:compHr C.P l C.N pre = some (hs,tl)) (h:hregX C hs tl ks p S) (hok:Ok C A S a W)
  (hp:∀ A S a W,Ok C A S a W→p S→Q .normal a W) (hQ:∀ c (a:Act) d v w,Q (.panic c) (a.put d v) w→Q (.panic c) a w):(Code.region id l.toArray true).wp C.P Q a W :=
 have h:=hreg_any hC hc h hok hp hQ
 wp_region_any h.1 h.2
end Sx
end Go.Proofs.YtncmmbacoknefaaGreat
