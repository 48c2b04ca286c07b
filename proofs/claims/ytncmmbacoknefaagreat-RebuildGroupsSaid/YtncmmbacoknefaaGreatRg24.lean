/- Several texts in one: QPlain, Made, Law, MadeW, LawT, SxV, Hf, Hg, CdR, Qa, Ql, Qb, CdX, Qc, Tp, CdT, Tr, Rw, CdI, Wi, CdB, Va, Ck, Wk, Ro, Rg, Eb. -/
import Derived.Test.YtncmmbacoknefaaGreatRows
import Derived.WalkKit
import Derived.ProofKit
import Derived.WalkLawsBesides
import Derived.WalkSpells
import Derived.Outline
import Derived.RegionTactic
import Derived.ChangeAlike
import Derived.Deep.QuietTactic
import Derived.BigQuiet
import Derived.Deep.RegionWith
import Derived.OpenShut
import Derived.SizedLaws
import Derived.Test.YtncmmbacoknefaaGreatProg
import Derived.Laws.AppendOwn
import Derived.Laws.OwnMore
import Derived.Deep.Onto
import Derived.Deep.Upon
import Derived.Test.YtncmmbacoknefaaGreatRg21
import Derived.Test.YtncmmbacoknefaaGreatRg22
import Derived.Test.YtncmmbacoknefaaGreatRg23
set_option linter.defProp false

/- QPlain: Plain facts: bounds by bits, gcd, fractions. -/
namespace Go.Proofs.YtncmmbacoknefaaGreat
open Go Go.RowKit
set_option linter.unusedVariables false
set_option linter.unusedSimpArgs false
def Bd (k:Nat) (z:Int):Prop:=ab z < ((2 ^ k:Nat):Int)
theorem ab_mul (x y:Int):ab (x * y) = ab x * ab y:=by
 unfold ab
 rcases Int.lt_or_le x 0 with hx | hx <;> rcases Int.lt_or_le y 0 with hy | hy
 ·have:0 < x * y:=Int.mul_pos_of_neg_of_neg hx hy
  rw [if_neg (by omega),if_pos hx,if_pos hy,Int.neg_mul_neg]
 ·rw [if_pos hx,if_neg (by omega:¬ y < 0)]
  rcases Int.lt_or_eq_of_le hy with h | h
  ·have:x * y < 0:=Int.mul_neg_of_neg_of_pos hx h
   rw [if_pos this,Int.neg_mul]
  ·subst h; simp
 ·rw [if_pos hy,if_neg (by omega:¬ x < 0)]
  rcases Int.lt_or_eq_of_le hx with h | h
  ·have:x * y < 0:=Int.mul_neg_of_pos_of_neg h hy
   rw [if_pos this,Int.mul_neg]
  ·subst h; simp
 ·have:0≤x * y:=Int.mul_nonneg hx hy
  rw [if_neg (by omega),if_neg (by omega),if_neg (by omega)]
theorem ab_pos {z:Int} (h:0≤z):ab z = z:=by unfold ab; rw [if_neg (by omega)]
theorem ab_ab (z:Int):ab (ab z) = ab z:=ab_pos (ab_nonneg z)
theorem ab_neg (z:Int):ab (-z) = ab z:=by unfold ab; (repeat' split) <;> omega
theorem ab_zero_iff {z:Int}:ab z = 0↔z = 0:=by unfold ab; split <;> omega
theorem bd_mul {a b:Nat} {x y:Int} (hx:Bd a x) (hy:Bd b y):Bd (a + b) (x * y):=by
 unfold Bd at *
 rw [ab_mul,Nat.pow_add,Int.natCast_mul]
 have h0:=ab_nonneg x
 have h1:=ab_nonneg y
 have h2:=Int.mul_le_mul (Int.le_of_lt hx) (Int.le_of_lt hy) h1 (by omega)
 rcases Int.lt_or_eq_of_le h0 with h | h
 ·have:ab x * ab y < ab x * ((2 ^ b:Nat):Int):=Int.mul_lt_mul_of_pos_left hy h
  have h3:=Int.mul_le_mul_of_nonneg_right (Int.le_of_lt hx) (show (0:Int)≤((2 ^ b:Nat):Int) from Int.natCast_nonneg _)
  omega
 ·rw [← h,Int.zero_mul]
  rw [← Int.natCast_mul]
  exact Int.natCast_pos.2 (Nat.mul_pos (Nat.two_pow_pos _) (Nat.two_pow_pos _))
theorem bd_le {a b:Nat} {x:Int} (hx:Bd a x) (h:a≤b):Bd b x:=by
 unfold Bd at *
 have:=Int.ofNat_le.2 (Nat.pow_le_pow_right (show 0 < 2 by decide) h)
 omega
theorem bd_add {a b c:Nat} {x y:Int} (hx:Bd a x) (hy:Bd b y) (h:a < c) (h':b < c):Bd c (x + y):=by
 have hx:=bd_le hx (show a≤c - 1 by omega)
 have hy:=bd_le hy (show b≤c - 1 by omega)
 unfold Bd at *
 have e:(2 ^ c:Nat) = 2 ^ (c - 1) + 2 ^ (c - 1):=by
  have:c = (c - 1) + 1:=by omega
  rw [this,Nat.pow_succ]; simp; omega
 rw [e]
 have:ab (x + y)≤ab x + ab y:=by unfold ab; (repeat' split) <;> omega
 omega
theorem bd_neg {a:Nat} {x:Int} (hx:Bd a x):Bd a (-x):=by unfold Bd at *; rw [ab_neg]; exact hx
theorem bd_sub {a b c:Nat} {x y:Int} (hx:Bd a x) (hy:Bd b y) (h:a < c) (h':b < c):Bd c (x - y):=by
 rw [Int.sub_eq_add_neg]; exact bd_add hx (bd_neg hy) h h'
theorem bd_of_le {a:Nat} {x y:Int} (hx:Bd a x) (h:ab y≤ab x):Bd a y:=by unfold Bd at *; omega
theorem p64:((2 ^ 64:Nat):Int) = 18446744073709551616:=by decide
theorem bd_u64 {x:Int} (h:U64 x):Bd 64 x:=by unfold Bd; rw [p64,ab_pos h.1]; have:=h.2; omega
theorem bd_i64 {x:Int} (h:I64 x):Bd 64 x:=by
 have h1:=h.1
 have h2:=h.2
 unfold Bd ab; rw [p64]; split <;> omega
theorem Bd.fits {k:Nat} {z:Int} (h:Bd k z) (hk:k≤256:=by decide):Fits z:=by
 have h:=bd_le h hk
 rw [fits_lt]
 unfold Bd at h
 rw [show ((2 ^ 256:Nat):Int) = 115792089237316195423570985008687907853269984665640564039457584007913129639936 by decide] at h
 exact h
theorem bd_fits {z:Int} (h:Fits z):Bd 256 z:=by
 rw [fits_lt] at h
 unfold Bd
 rw [show ((2 ^ 256:Nat):Int) = 115792089237316195423570985008687907853269984665640564039457584007913129639936 by decide]
 exact h
theorem fits_le {x y:Int} (hx:Fits x) (h:ab y≤ab x):Fits y:=(bd_of_le (bd_fits hx) h).fits
theorem bd_one:Bd 1 1:=by unfold Bd; decide
theorem bd_zero {k:Nat}:Bd k 0:=by unfold Bd; exact Int.natCast_pos.2 (Nat.two_pow_pos _)
theorem fits_zero:Fits 0:=rfl
theorem ab_div_le {x y:Int} (hx:0≤x) (hy:0≤y):ab (x / y)≤ab x:=by
 rw [ab_pos hx,ab_pos (Int.ediv_nonneg hx hy)]; exact Int.ediv_le_self _ hx
theorem ab_fdiv_le (x:Int) {y:Int} (hy:0 < y):ab (x / y)≤ab x:=by
 rcases Int.lt_or_le x 0 with h | h
 ·have h1:=Int.mul_ediv_add_emod x y
  have h2:=Int.emod_nonneg x (Int.ne_of_gt hy)
  have h3:=Int.emod_lt_of_pos x hy
  have h4:x / y < 0:=Int.ediv_neg_of_neg_of_pos h hy
  unfold ab
  rw [if_pos h,if_pos h4]
  generalize x / y = q at *
  have h5:(y - 1) * (q + 1)≤0:=by
   have:=Int.mul_le_mul_of_nonneg_left (show q + 1≤0 by omega) (show 0≤y - 1 by omega)
   omega
  rw [Int.sub_mul,Int.mul_add,Int.one_mul,Int.mul_one] at h5
  omega
 ·exact ab_div_le h (by omega)
def gc (x y:Int):Int:=(Int.gcd x y:Int)
theorem gc_nonneg (x y:Int):0≤gc x y:=Int.natCast_nonneg _
theorem gc_zero (x:Int) (h:0≤x):gc x 0 = x:=by unfold gc; rw [Int.gcd_zero_right]; omega
theorem gc_step {x y:Int} (hx:0≤x) (hy:0 < y):gc y (x % y) = gc x y:=by
 unfold gc
 congr 1
 have e1:Int.gcd y (x % y) = Int.gcd (x % y) y:=Int.gcd_comm _ _
 rw [e1]
 unfold Int.gcd
 obtain ⟨a,rfl⟩:=Int.eq_ofNat_of_zero_le hx
 obtain ⟨b,rfl⟩:=Int.eq_ofNat_of_zero_le (Int.le_of_lt hy)
 show Nat.gcd ((a:Int) % (b:Int)).natAbs ((b:Int).natAbs) = _
 rw [← Int.natCast_emod]
 simp only [Int.natAbs_natCast]
 rw [Nat.gcd_comm a b,Nat.gcd_rec b a]
theorem gc_abs (x y:Int):gc (ab x) (ab y) = gc x y:=by
 have e:∀ z:Int,(ab z).natAbs = z.natAbs:=fun z=>by unfold ab; split <;> omega
 unfold gc Int.gcd
 rw [e,e]
theorem gc_abl (x y:Int):gc (ab x) y = gc x y:=by
 have e:∀ z:Int,(ab z).natAbs = z.natAbs:=fun z=>by unfold ab; split <;> omega
 unfold gc Int.gcd
 rw [e]
theorem gc_dvd_l (x y:Int):gc x y ∣ x:=Int.gcd_dvd_left ..
theorem gc_dvd_r (x y:Int):gc x y ∣ y:=Int.gcd_dvd_right ..
theorem gc_pos {x y:Int} (h:y≠0):0 < gc x y:=by
 have:=gc_nonneg x y
 have h2:=gc_dvd_r x y
 rcases Int.lt_or_eq_of_le this with h3 | h3
 ·exact h3
 ·rw [← h3] at h2; exact absurd (Int.zero_dvd.1 h2) h
theorem gc_le {x y:Int} (h:0 < y):gc x y≤y:=Int.le_of_dvd h (gc_dvd_r x y)
theorem gc_neg (x y:Int):gc (-x) y = gc x y:=by unfold gc; rw [Int.neg_gcd]
theorem gc_div (x y:Int) (h:y≠0):gc (x / gc x y) (y / gc x y) = 1:=by
 have hp:=gc_pos (x:=x) h
 unfold gc at *
 rw [Int.gcd_ediv_gcd_ediv_gcd (by omega)]; rfl
structure Fq (p q:Int):Prop where
 pos:0 < q
 bp:Bd 127 p
 bq:Bd 127 q
 gc:gc p q = 1
theorem Fq.ne {p q:Int} (h:Fq p q):q≠0:=Int.ne_of_gt h.pos
theorem Fq.fp {p q:Int} (h:Fq p q):Fits p:=h.bp.fits
theorem Fq.fq {p q:Int} (h:Fq p q):Fits q:=h.bq.fits
theorem fq_zero:Fq 0 1:=⟨by decide,bd_zero,bd_le bd_one (by decide),rfl⟩
theorem fq_int {z:Int} (h:Bd 127 z):Fq z 1:=⟨by decide,h,bd_le bd_one (by decide),by unfold Go.Proofs.YtncmmbacoknefaaGreat.gc; rw [Int.gcd_one_right]; rfl⟩
def rok (b:Bool) (p q:Int):Bool:=b && (decide (0 < q) && (decide (ab p < ((2 ^ 127:Nat):Int)) && (decide (ab q < ((2 ^ 127:Nat):Int)) && decide (gc p q = 1))))
theorem rok_iff {b:Bool} {p q:Int}:rok b p q = true↔b = true∧Fq p q:=by
 unfold rok
 simp only [Bool.and_eq_true,decide_eq_true_eq]
 exact ⟨fun ⟨a,b,c,d,e⟩=>⟨a,b,c,d,e⟩,fun ⟨a,b,c,d,e⟩=>⟨a,b,c,d,e⟩⟩
def qn (b:Bool) (p q:Int):Int:=if rok b p q then p else 0
def qd (b:Bool) (p q:Int):Int:=if rok b p q then q else 1
theorem fq_clean (b:Bool) (p q:Int):Fq (qn b p q) (qd b p q):=by
 unfold qn qd
 cases h:rok b p q
 ·exact fq_zero
 ·exact (rok_iff.1 h).2
def mn (z y:Int):Int:=(if y < 0 then -z else z) / gc z y
def mD (z y:Int):Int:=ab y / gc z y
theorem mk_pos {z y:Int} (h:y≠0):0 < mD z y:=by
 unfold mD
 have hp:=gc_pos (x:=z) h
 have h1:gc z y ∣ ab y:=by unfold ab; split; exact Int.dvd_neg.2 (gc_dvd_r _ _); exact gc_dvd_r _ _
 obtain ⟨k,hk⟩:=h1
 rw [hk,Int.mul_ediv_cancel_left _ (by omega)]
 have:0 < ab y:=by unfold ab; split <;> omega
 rw [hk] at this
 rcases Int.lt_or_le 0 k with h2 | h2
 ·exact h2
 ·have:=Int.mul_le_mul_of_nonneg_left h2 (Int.le_of_lt hp); omega
theorem gc_sym (x y:Int):gc x y = gc y x:=by unfold gc; rw [Int.gcd_comm]
theorem gc_ngr (x y:Int):gc x (-y) = gc x y:=by rw [gc_sym,gc_neg,gc_sym]
theorem mk_gc {z y:Int} (h:y≠0):gc (mn z y) (mD z y) = 1:=by
 unfold mn mD ab
 by_cases hy:y < 0
 ·rw [if_pos hy,if_pos hy]
  have:=gc_div (-z) (-y) (by omega)
  rw [gc_neg,gc_ngr] at this
  exact this
 ·rw [if_neg hy,if_neg hy]
  exact gc_div z y h
def mok (b:Bool) (z y:Int):Bool:=b && (!(decide (y = 0)) && (decide (ab (mn z y) < ((2 ^ 127:Nat):Int)) && decide (ab (mD z y) < ((2 ^ 127:Nat):Int))))
theorem mok_fq {b:Bool} {z y:Int} (h:mok b z y = true):Fq (mn z y) (mD z y):=by
 unfold mok at h
 simp only [Bool.and_eq_true,Bool.not_eq_true',decide_eq_false_iff_not,decide_eq_true_eq] at h
 obtain ⟨_,h1,h2,h3⟩:=h
 exact ⟨mk_pos h1,h2,h3,mk_gc h1⟩
end Go.Proofs.YtncmmbacoknefaaGreat

/- Made: The tape of tscodecmade: what its methods return, and that they turn nothing but the tape's own place. -/
namespace Go.Proofs.YtncmmbacoknefaaGreat
open Go.ChangeShapes Go.WideShapes Go.ChangeAt Go.RowKit
set_option linter.unusedVariables false
set_option linter.unusedSimpArgs false
theorem quiet_left {P:Program} {f:FuncId} {args:Array Value} {w:World} {n:Nat} {v:Value} (h:Calls P f args (w.drewN n) fun e w'=>e = .returned v∧w.drewN n = w'):Calls P f args (w.drewN n) fun e w'=>e = .returned v∧∃ m,w' = w.drewN m :=
 h.mono fun _ _ ⟨he,hm⟩=>⟨he,n,hm.symm⟩
theorem grown_refl (w:World) (row:Option Nat):w.grownBy w row:=⟨rfl,rfl,rfl,Nat.le_refl _,fun _ _ _=>rfl⟩
theorem grown_drewN {a w:World} {row:Option Nat} (h:a.grownBy w row) (n:Nat):a.grownBy (w.drewN n) row:=⟨h.os,h.tape,h.output,h.size,h.block⟩
theorem grown_setCell {a w:World} {g:Nat} (h:a.grownBy w (some g)) {p:Addr} (hp:p.block = g∨a.heap.size≤p.block) (u:Value):a.grownBy (w.setCell p u) (some g) :=
 ⟨h.os,h.tape,h.output,by simpa [World.setCell] using h.size,fun i hi hne=>(Below.heap_setCell w p u i (by
  rintro rfl
  rcases hp with hp | hp
  ·exact hne (by rw [hp])
  ·omega)).trans (h.block i hi hne)⟩
theorem grown_trans {a b c:World} {row:Option Nat} (h:a.grownBy b row) (k:b.grownBy c row):a.grownBy c row :=
 ⟨k.os.trans h.os,k.tape.trans h.tape,k.output.trans h.output,Nat.le_trans h.size k.size,fun i hi hn=>(k.block i (Nat.lt_of_lt_of_le hi h.size) hn).trans (h.block i hi hn)⟩
def TapeOk (B Bm:Nat) (w:World) (b:Nat):Prop:=∃ (a:Option Addr) (len cap k:Nat),b < B∧B≤w.heap.size∧w.cell? ⟨b,0,none⟩ = some (.slice a len cap)∧w.cell? ⟨b,1,none⟩ = some (.int .i64 k)∧w.frozen? ⟨b,1,none⟩ = false ∧
 k≤len∧len≤9223372036854775807∧(0 < len→∃ bb off,a = some ⟨bb,off,none⟩∧bb≠b∧bb < B∧bb < Bm∧∀ i,i < len→∃ x,w.cell? ⟨bb,off + i,none⟩ = some (.int .i64 x)∧I64 x)
theorem TapeOk.ltB {B Bm:Nat} {w:World} {b:Nat} (h:TapeOk B Bm w b):b < B:=by obtain ⟨_,_,_,_,h,_⟩:=h; exact h
theorem TapeOk.leB {B Bm:Nat} {w:World} {b:Nat} (h:TapeOk B Bm w b):B≤w.heap.size:=by obtain ⟨_,_,_,_,_,h,_⟩:=h; exact h
theorem TapeOk.lt {B Bm:Nat} {w:World} {b:Nat} (h:TapeOk B Bm w b):b < w.heap.size:=Nat.lt_of_lt_of_le h.ltB h.leB
theorem TapeOk.below {B Bm:Nat} {w w':World} {b:Nat} (h:TapeOk B Bm w b) (hb:Below B w w'):TapeOk B Bm w' b:=by
 obtain ⟨a,len,cap,k,h1,h0,h2,h3,h4,h5,h6,h7⟩:=h
 refine ⟨a,len,cap,k,h1,Nat.le_trans h0 hb.size,(hb.cell h1).trans h2,(hb.cell h1).trans h3,(hb.frozen h1).trans h4,h5,h6,fun hl=>?_⟩
 obtain ⟨bb,off,e,hne,hlt,hlm,hc⟩:=h7 hl
 exact ⟨bb,off,e,hne,hlt,hlm,fun i hi=>by
  obtain ⟨x,hx,hix⟩:=hc i hi
  exact ⟨x,(hb.cell hlt).trans hx,hix⟩⟩
theorem TapeOk.grown {B Bm:Nat} {w w':World} {b:Nat} {row:Option Nat} (h:TapeOk B Bm w b) (hg:w.grownBy w' row) (hr:∀ k,row = some k→B≤k):TapeOk B Bm w' b :=
 h.below ((Below.refl B w).grown hg h.leB hr)
theorem TapeOk.drew {B Bm:Nat} {w:World} {b:Nat} (h:TapeOk B Bm w b):TapeOk B Bm w.drew b:=h
theorem TapeOk.drewN {B Bm:Nat} {w:World} {b:Nat} (h:TapeOk B Bm w b) (n:Nat):TapeOk B Bm (w.drewN n) b:=h
theorem TapeOk.alloc {B Bm:Nat} {w:World} {b:Nat} (h:TapeOk B Bm w b) (o:Obj):TapeOk B Bm (w.alloc o) b:=h.below ((Below.refl B w).alloc h.leB o)
theorem grown_of_drew {w w':World} {row:Option Nat} (h:w.drew.grownBy w' row):w.grownBy w' row:=⟨h.os,h.tape,h.output,h.size,h.block⟩
theorem grown_alloc {a w:World} {row:Option Nat} (h:a.grownBy w row) (o:Obj):a.grownBy (w.alloc o) row :=
 ⟨h.os,h.tape,h.output,Nat.le_trans h.size (by simp),fun i hi hne=>(Below.heap_alloc w o i (Nat.lt_of_lt_of_le hi h.size)).trans (h.block i hi hne)⟩
theorem grown_own {a w w':World} {row row':Option Nat} (h:a.grownBy w row) (k:w.grownBy w' row') (hr:∀ x,row' = some x→a.heap.size≤x):a.grownBy w' row :=
 ⟨k.os.trans h.os,k.tape.trans h.tape,k.output.trans h.output,Nat.le_trans h.size k.size,fun i hi hn=>(k.block i (Nat.lt_of_lt_of_le hi h.size) (fun e=>by have:=hr i e.symm; omega)).trans (h.block i hi hn)⟩
def TPost (B Bm:Nat) (k:IntKind) (b:Nat) (w:World) (P:Int→Prop) (e:Ending) (w':World):Prop:=∃ r,P r∧e = .returned (.int k r)∧TapeOk B Bm w' b∧w.grownBy w' (some b)
def md (a n:Int):Int:=if n < 1 then 0 else a % n
theorem md_neg {a n:Int} (h:¬ n < 1) (hr:a.tmod n < 0):a.tmod n + n = md a n:=by
 unfold md; rw [if_neg h,Int.tmod_eq_emod]
 by_cases h0:0≤a∨n ∣ a
 ·rw [Int.tmod_eq_emod,if_pos h0] at hr
  have:=Int.emod_nonneg a (b:=n) (by omega); omega
 ·rw [if_neg h0]; omega
theorem md_pos {a n:Int} (h:¬ n < 1) (hr:¬ a.tmod n < 0):a.tmod n = md a n:=by
 unfold md; rw [if_neg h,Int.tmod_eq_emod]
 by_cases h0:0≤a∨n ∣ a
 ·rw [if_pos h0]; omega
 ·rw [Int.tmod_eq_emod,if_neg h0] at hr
  have:=Int.emod_lt_of_pos a (b:=n) (by omega); omega
theorem md_one {a n:Int} (h:n < 1):0 = md a n:=by unfold md; rw [if_pos h]
theorem md_bd (a n:Int):0≤md a n∧(1≤n→md a n < n)∧(n < 1→md a n = 0):=by
 unfold md; split
 ·exact ⟨by omega,by omega,fun _=>rfl⟩
 ·exact ⟨Int.emod_nonneg a (by omega),fun _=>Int.emod_lt_of_pos a (by omega),fun h=>by omega⟩
theorem mod_any (a n:Int) (ha:I64 a) (hn:I64 n) (w:World) :
  Calls Tryz.prog 74 #[.int .i64 a,.int .i64 n] w fun e w'=>e = .returned (.int .i64 (md a n))∧w = w':=by
 obtain ⟨n1,n2⟩:=hn
 by_cases h:n < 1
 ·go_enter Tryz.func74,Tryz.ntmps74
  go_wp2
  go_ret
  exact ⟨ret_i (md_one h),rfl⟩
 have t0:(n == 0) = false:=beq_eq_false_iff_ne.2 (by omega)
 have M:=md_bd a n
 by_cases hr:a.tmod n < 0
 ·have e:=md_neg h hr
  have hb:a.tmod n + n≤9223372036854775807:=by omega
  have hb' : -9223372036854775808≤a.tmod n + n:=by omega
  have E:=hid e
  clear e
  clear M
  go_enter Tryz.func74,Tryz.ntmps74
  go_wp2
  go_ret
  exact ⟨ret_i E.out,rfl⟩
 ·have E:=hid (md_pos h hr)
  have t1:decide (a.tmod n < 0) = false:=dF hr
  clear M hr
  go_enter Tryz.func74,Tryz.ntmps74
  go_wp2
  all_goals go_ret
  all_goals exact ⟨ret_i E.out,rfl⟩
def NextP (n:Int) (r:Int):Prop:=0≤r∧(1≤n→r < n)∧(n < 1→r = 0)
theorem NextP.zero (n:Int):NextP n 0:=⟨by omega,by omega,fun _=>rfl⟩
theorem new_any (a:Option Addr) (len cap:Nat) (w:World) :
  Calls Tryz.prog 15 #[.slice a len cap] w fun e w'=>e = .returned (.pointer (some ⟨w.heap.size,0,none⟩))∧w.alloc (.cells #[.slice a len cap,.int .i64 0] 112) = w':=by
 go_enter Tryz.func15,Tryz.ntmps15
 go_wp2
 go_ret
 exact ⟨rfl,rfl⟩
theorem next_end {B Bm:Nat} (b:Nat) (n:Int) (w:World) (a:Option Addr) (len cap:Nat) (h0:w.cell? ⟨b,0,none⟩ = some (.slice a len cap)) (h1:w.cell? ⟨b,1,none⟩ = some (.int .i64 len)) (hl:len≤9223372036854775807) (ht:TapeOk B Bm w b) :
  Calls Tryz.prog 20 #[.pointer (some ⟨b,0,none⟩),.int .i64 n] w (TPost B Bm .i64 b w (NextP n)):=by
 have H:=hid ht
 clear ht
 go_enter Tryz.func20,Tryz.ntmps20
 go_wp2
 go_quiet (fail)
 go_wp2
 go_ret
 exact ⟨0,NextP.zero n,rfl,H.out,grown_drewN (grown_refl _ _) _⟩
theorem next_more {B Bm:Nat} (b:Nat) (n:Int) (hn:I64 n) (w:World) (bb off len cap k:Nat) (x:Int) (hx:I64 x) (h0:w.cell? ⟨b,0,none⟩ = some (.slice (some ⟨bb,off,none⟩) len cap)) (h1:w.cell? ⟨b,1,none⟩ = some (.int .i64 k)) (hf:w.frozen? ⟨b,1,none⟩ = false)
  (hk:k < len) (hl:len≤9223372036854775807) (hc:w.cell? ⟨bb,off + k,none⟩ = some (.int .i64 x)) (hne:bb≠b) (ht:∀ m m':Nat,TapeOk B Bm (((w.drewN m).setCell ⟨b,1,none⟩ (.int .i64 (k + 1:Nat))).drewN m') b) :
  Calls Tryz.prog 20 #[.pointer (some ⟨b,0,none⟩),.int .i64 n] w (TPost B Bm .i64 b w (NextP n)):=by
 have H:=hid ht
 clear ht
 have t1:decide (len≤k) = false:=dF (by omega)
 have e2:((k:Int) + 1).toNat = k + 1:=by omega
 go_enter Tryz.func20,Tryz.ntmps20
 go_wp2
 go_quiet (fail)
 go_wp2
 go_quiet ((go_at_call 74; exact quiet_left (mod_any x n hx hn _)))
 go_wp2
 go_ret
 exact ⟨_,md_bd x n,rfl,H.out _ _,grown_drewN (grown_setCell (grown_drewN (grown_refl _ _) _) (.inl rfl) _) _⟩
theorem tape_moved {B Bm:Nat} (w:World) (b:Nat) (a:Option Addr) (len cap k:Nat) (h1:b < B) (hB:B≤w.heap.size) (h2:w.cell? ⟨b,0,none⟩ = some (.slice a len cap)) (h3:w.cell? ⟨b,1,none⟩ = some (.int .i64 k)) (h4:w.frozen? ⟨b,1,none⟩ = false)
  (h5:k < len) (h6:len≤9223372036854775807) (h7:0 < len→∃ bb off,a = some ⟨bb,off,none⟩∧bb≠b∧bb < B∧bb < Bm∧∀ i,i < len→∃ x,w.cell? ⟨bb,off + i,none⟩ = some (.int .i64 x)∧I64 x) (m m':Nat) :
  TapeOk B Bm (((w.drewN m).setCell ⟨b,1,none⟩ (.int .i64 (k + 1:Nat))).drewN m') b:=by
 have e:((((w.drewN m).setCell ⟨b,1,none⟩ (.int .i64 (k + 1:Nat))).drewN m').heap.size) = w.heap.size:=by simp [World.setCell,World.drewN]
 have other:∀ p:Addr,p≠⟨b,1,none⟩→(((w.drewN m).setCell ⟨b,1,none⟩ (.int .i64 (k + 1:Nat))).drewN m').cell? p = w.cell? p:=fun p hp=>by
  rw [World.cell?_drewN,World.cell?_setCell_other _ _ _ _ (fun e=>hp e.symm),World.cell?_drewN]
 refine ⟨a,len,cap,k + 1,h1,by rw [e]; exact hB,?_,?_,?_,by omega,h6,fun hl=>?_⟩
 ·rw [other _ (by simp)]; exact h2
 ·rw [World.cell?_drewN]; exact World.cell?_setCell_same _ _ _ (u:=.int .i64 k) (by rw [World.cell?_drewN]; exact h3)
 ·show World.frozen? ((w.drewN m).setCell ⟨b,1,none⟩ _) _ = false
  rw [World.frozen?_setCell]; exact h4
 ·obtain ⟨bb,off,ea,hne,hlt,hlm,hc⟩:=h7 hl
  refine ⟨bb,off,ea,hne,hlt,hlm,fun i hi=>?_⟩
  obtain ⟨x,hx,hix⟩:=hc i hi
  exact ⟨x,by rw [other _ (by simp; try (intro h; exact absurd h hne))]; exact hx,hix⟩
theorem next_any {B Bm:Nat} (b:Nat) (n:Int) (hn:I64 n) (w:World) (ht:TapeOk B Bm w b) :
  Calls Tryz.prog 20 #[.pointer (some ⟨b,0,none⟩),.int .i64 n] w (TPost B Bm .i64 b w (NextP n)):=by
 have ht':=ht
 obtain ⟨a,len,cap,k,h1,hB,h2,h3,h4,h5,h6,h7⟩:=ht
 by_cases hk:k < len
 ·obtain ⟨bb,off,rfl,hne,hlt,hlm,hc⟩:=h7 (by omega)
  obtain ⟨x,hx,hix⟩:=hc k hk
  exact next_more b n hn w bb off len cap k x hix h2 h3 h4 hk h6 hx hne (fun m m'=>tape_moved w b _ len cap k h1 hB h2 h3 h4 hk h6 h7 m m')
 ·obtain rfl:k = len:=by omega
  exact next_end b n w a k cap h2 h3 h6 ht'
def BPost (B Bm:Nat) (b:Nat) (w:World) (e:Ending) (w':World):Prop:=∃ r:Bool,e = .returned (.bool r)∧TapeOk B Bm w' b∧w.grownBy w' (some b)
theorem bool_any {B Bm:Nat} (b:Nat) (n:Int) (h1:2≤n) (h2:n≤1000) (w:World) (ht:TapeOk B Bm w b) :
  Calls Tryz.prog 69 #[.pointer (some ⟨b,0,none⟩),.int .i64 n] w (BPost B Bm b w):=by
 have hn:I64 n:=⟨by omega,by omega⟩
 have t0:(n == 0) = false:=beq_eq_false_iff_ne.2 (by omega)
 have H:Hid (TapeOk B Bm w.drew b):=ht.drew
 clear ht
 go_enter Tryz.func69,Tryz.ntmps69
 go_wp2
 go_region_with (go_at_call 20; refine (next_any b n hn _ H.out).mono ?_; rintro e w' ⟨r,⟨r1,r2,r3⟩,rfl,ht,hg⟩)
 all_goals (go_wp2; go_ret; exact ⟨_,rfl,ht,grown_of_drew hg⟩)
theorem word_any {B Bm:Nat} (b:Nat) (w:World) (ht:TapeOk B Bm w b) :
  Calls Tryz.prog 70 #[.pointer (some ⟨b,0,none⟩)] w (TPost B Bm .u64 b w U64):=by
 have H:=hid ht
 clear ht
 go_enter Tryz.func70,Tryz.ntmps70
 go_wp2
 go_loopw [3,4] (fun x i wr=>∃ (k:Nat) (r:Int),k≤4∧U64 r∧x = .int .u64 r∧i = .int .i64 k∧TapeOk B Bm wr b∧w.grownBy wr (some b)) (fun _ i _=>4 - (intOf i).toNat)
 case atStart=>exact ⟨0,0,by omega,⟨by decide,by decide⟩,rfl,rfl,H.out,grown_refl _ _⟩
 case round =>
  obtain ⟨k,r,hk,hr,rfl,rfl,ht,hg⟩:=hrel
  have HT:=hid ht
  have HG:=hid hg
  clear ht hg
  by_cases hlt:k < 4
  ·go_wp2_with (go_at_call 20; refine (next_any b 65536 ⟨by decide,by decide⟩ _ HT.out).mono ?_; rintro e w' ⟨r',⟨r1,r2,r3⟩,rfl,ht,hg⟩)
   go_roundw
   case rel=>exact ⟨k + 1,_,by omega,u64_wrap_in _,rfl,by go_num,ht,grown_trans HG.out hg⟩
   case measure=>simp [intOf]; omega
  ·go_wp2
   go_ret
   exact ⟨r,hr,rfl,HT.out,HG.out⟩
theorem int_any {B Bm:Nat} (b:Nat) (w:World) (ht0:TapeOk B Bm w b) :
  Calls Tryz.prog 68 #[.pointer (some ⟨b,0,none⟩)] w (TPost B Bm .i64 b w I64):=by
 go_enter Tryz.func68,Tryz.ntmps68
 go_wp2_with (first | (go_at_call 20; refine (next_any b _ (by exact ⟨by decide,by decide⟩) _ (by assumption)).mono ?_; rintro e w' ⟨r,⟨r1,r2,r3⟩,rfl,ht,hg⟩) | (go_at_call 70; refine (word_any b _ (by assumption)).mono ?_; rintro e w' ⟨u,⟨u1,u2⟩,rfl,ht,hg⟩))
 all_goals (go_ret; refine ⟨_,?_,rfl,by assumption,by repeat (first | assumption | exact grown_refl _ _ | refine grown_trans ?_ (by assumption))⟩)
 all_goals first | exact i64_wrap_in _ | exact ⟨by omega,by omega⟩ | skip
def Tol (x:Int):Prop:=0≤x∧x≤4611686018427387904
theorem tol_shr (u r:Int) (u1:0≤u) (u2:u≤18446744073709551615) (r1:0≤r):Tol (wrap64 (u / 2 ^ (2 + r).toNat)):=by
 have e:(2 + r).toNat = 2 + r.toNat:=by omega
 have hp:(0:Int) < 2 ^ r.toNat:=Int.pow_pos (by decide)
 have e2:u / 2 ^ (2 + r).toNat = u / 4 / 2 ^ r.toNat:=by
  rw [e,Int.pow_add,Int.ediv_ediv_of_nonneg (by decide)]; rfl
 have h4:u / 4≤4611686018427387903:=by omega
 have h0:0≤u / 4:=by omega
 have h1:=Int.ediv_nonneg h0 (Int.le_of_lt hp)
 have h2:=Int.ediv_le_self (2 ^ r.toNat) h0
 rw [e2]
 generalize u / 4 / 2 ^ r.toNat = q at *
 rw [wrap64_id q ⟨by omega,by omega⟩]
 exact ⟨h1,by omega⟩
theorem tol_any {B Bm:Nat} (b:Nat) (w:World) (ht0:TapeOk B Bm w b) :
  Calls Tryz.prog 17 #[.pointer (some ⟨b,0,none⟩)] w (TPost B Bm .i64 b w Tol):=by
 go_enter Tryz.func17,Tryz.ntmps17
 go_wp2_with (first | (go_at_call 20; refine (next_any b _ (by exact ⟨by decide,by decide⟩) _ (by assumption)).mono ?_; rintro e w' ⟨r,⟨r1,r2,r3⟩,rfl,ht,hg⟩) | (go_at_call 70; refine (word_any b _ (by assumption)).mono ?_; rintro e w' ⟨u,⟨u1,u2⟩,rfl,ht,hg⟩))
 all_goals (go_ret; refine ⟨_,?_,rfl,by assumption,by repeat (first | assumption | exact grown_refl _ _ | refine grown_trans ?_ (by assumption))⟩)
 all_goals first | exact ⟨by omega,by omega⟩ | exact tol_shr u r u1 u2 r1
end Go.Proofs.YtncmmbacoknefaaGreat

/- Law: A law's frame: the arguments opened, and what is owed behind the call, once for all laws of this seat. -/
namespace Go.Proofs.YtncmmbacoknefaaGreat
open Go.ChangeShapes Go.WideShapes Go.ChangeAt Go.RowKit
set_option linter.unusedVariables false
set_option linter.unusedSimpArgs false
theorem own:ownKnob Tryz.prog.godebug = none:=by kernel_rfl
theorem laidOut:laidOutB Tryz.prog = true:=by kernel_rfl
section
variable {H:Type} {enc:TypeId × Value→H} {P:Program}
def readB (P:Program) (ts:List TypeId):Bool:=ts.all fun t=>P.readableRec t && decide (t < P.types.size)
theorem below_trodAll (hl:laidOutB P = true) {W W':World} (hb:Below W.heap.size W W') {sp:Nat→Bool} :
  ∀ {ts:List TypeId} {vs:List Value} {ds:List (DataW H)} {ps:List MemPlace},readB P ts = true→DataW.TrodAll enc P W 0 (fun _=>true) true ts vs ds ps→(∀ x∈ps,x.block < W.heap.size)→(∀ x∈ps,sp x.block = true) →
   DataW.TrodAll enc P W' 0 sp true ts vs ds ps:=by
 intro ts
 induction ts with
 | nil =>
  intro vs ds ps _ h _ _
  obtain ⟨rfl,rfl,rfl⟩:=trodAll_nil h
  exact trodAll_mk0
 | cons t ts ih =>
  intro vs ds ps hr h hlt hsp
  obtain ⟨v,vs',d,ds',p,q,rfl,rfl,rfl,h0,h1⟩:=trodAll_cons h
  simp only [readB,List.all_cons,Bool.and_eq_true,decide_eq_true_eq] at hr
  refine trodAll_cons_mk (WideElems.Trod_stays hl hr.1.1 hr.1.2 h0 (fun x hx=>hb.same (hlt x (List.mem_append_left _ hx))) (fun x hx=>hsp x (List.mem_append_left _ hx))) ?_
  exact ih (by simpa [readB] using hr.2) h1 (fun x hx=>hlt x (List.mem_append_right _ hx)) (fun x hx=>hsp x (List.mem_append_right _ hx))
theorem law_post {f:Func} {s:ChangeSpec} {W W':World} {args:Array Value} {ds:List (DataW H)} {p:List MemPlace} {tb:TypeId}
  (hl:laidOutB P = true) (hr:readB P f.params.toList = true) (hvars:s.vars = []) (hrt:f.resultTypes = #[tb]) (htb:P.underlying tb = some .bool)
  (hW:DataW.Whole enc P f.params.toList s.vars false W args.toList ds [] p) (hs1:(s.fn H (ds ++ [])).results = [.lit (.bool true)]) (hs2:(s.fn H (ds ++ [])).args = ds) (hs3:(s.fn H (ds ++ [])).vars = [])
  (hb:Below W.heap.size W W'):s.post enc P f false true false false W args (.bool true) W':=by
 have hlt:∀ x∈p,x.block < W.heap.size:=fun x hx=>hW.lt x hx
 have hW2:=hW
 obtain ⟨p1,q1,hA,hV,rfl,hz,hn⟩:=hW2
 rw [hvars] at hV
 obtain ⟨_,rfl⟩:=trodVars_none hV
 simp only [List.append_nil] at hW hlt hz hn
 refine ⟨ds,[],p1,[],p1,[],hW,?_,?_,?_,World.keptBut_mono (fun x hx=>⟨hx,Or.inr (Or.inl hx)⟩) (hb.frame (· ∈ p1)),fun h=>by cases h⟩
 ·rw [hs1,hrt]
  exact trodAll_mk1 (shut_bool htb _)
 ·rw [hs2]
  exact below_trodAll hl hb hr hA hlt (fun x hx=>by simpa using hlt x hx)
 ·rw [hs3,hvars]; rfl
def SlZ (W:World) (k:IntKind) (v:Value) (zs:List Int):Prop:=∃ (a:Option Addr) (len cap:Nat),v = .slice a len cap∧zs.length = len∧len≤cap∧cap≤maxLen∧(∀ z∈zs,(Lit.int k z).wf = true) ∧
 (0 < len→∃ b off,a = some ⟨b,off,none⟩∧b < W.heap.size∧∀ i,i < len→W.cell? ⟨b,off + i,none⟩ = some (.int k (zs.getD i 0)))
theorem open_slz {t e:TypeId} {k:IntKind} {v:Value} {d:DataW H} {ps:List MemPlace} {W:World} {base:Nat} (ht:P.underlying t = some (.slice e)) (he:P.underlying e = some (.int k)) (hc:P.cellsOf e = 1)
  (hv:Value.okWide P W .any base t v) (h:DataW.Trod enc P W 0 (fun _=>true) true t v d ps) (hlt:∀ x∈ps,x.block < W.heap.size):∃ zs,SlZ W k v zs:=by
 obtain ⟨a0,len,cap,rfl⟩:=okWide_slice ht hv
 obtain ⟨fuel,hf⟩:=h
 rcases open_ints ht he hc hf with ⟨hcs,hx⟩ | ⟨a,len',cap',zs,hcs,_,hl,hm,hz,hx,hcell,hwz⟩
 ·simp [Value.cells] at hcs
  obtain ⟨rfl,rfl,rfl⟩:=hcs
  exact ⟨[],none,0,0,rfl,rfl,Nat.le_refl _,by simp [maxLen],by simp,fun h=>absurd h (by omega)⟩
 ·simp [Value.cells] at hcs
  obtain ⟨rfl,rfl,rfl⟩:=hcs
  simp only [Prod.mk.injEq] at hx
  obtain ⟨rfl,rfl⟩:=hx
  simp only [if_true] at hz
  refine ⟨zs.take len,some a,len,cap,rfl,by simp; omega,hl,hm,fun z hz'=>hwz z (List.mem_of_mem_take hz'),fun hpos=>?_⟩
  obtain ⟨b,off,rfl,hc'⟩:=ints_at hcell (by omega)
  refine ⟨b,off,rfl,hlt (.cell b off) (MemPlace.mem_row.2 ⟨0,by omega,by simp⟩),fun i hi=>?_⟩
  rw [show (zs.take len).getD i 0 = zs.getD i 0 by simp [List.getD_eq_getElem?_getD,List.getElem?_take,hi]]
  exact hc' i (by omega)
end
end Go.Proofs.YtncmmbacoknefaaGreat

/- MadeW: The tape's Wide, and the walk among calls of a tape's methods. -/
namespace Go.Proofs.YtncmmbacoknefaaGreat
open Go.ChangeShapes Go.WideShapes Go.ChangeAt Go.RowKit
set_option linter.unusedVariables false
set_option linter.unusedSimpArgs false
theorem grown_drew {a w:World} {row:Option Nat} (h:a.grownBy w row):a.grownBy w.drew row:=⟨h.os,h.tape,h.output,h.size,h.block⟩
theorem TapeOk.setc {B Bm:Nat} {w:World} {b:Nat} {p:Addr} {v:Value} (hp:B≤p.block) (h:TapeOk B Bm w b):TapeOk B Bm (w.setCell p v) b:=h.below ((Below.refl B w).setCell hp v)
def AWs (B Bm b q:Nat) (w W:World):Prop:=TapeOk B Bm W b∧w.grownBy W (some b)∧HB W q #[.bool false,.int .u64 0,.int .u64 0,.int .u64 0,.int .u64 0]∧∃ (n:Bool) (c0 c1 c2 c3:Int),U64 c0∧U64 c1∧U64 c2∧U64 c3∧HB W (q + 1) #[.bool n,.int .u64 c0,.int .u64 c1,.int .u64 c2,.int .u64 c3]
theorem AWs.tape {B Bm b q:Nat} {w W:World} (h:AWs B Bm b q w W):TapeOk B Bm W b:=h.1
theorem AWs.drew {B Bm b q:Nat} {w W:World} (h:AWs B Bm b q w W):AWs B Bm b q w W.drew:=by
 obtain ⟨ht,hG,B1,n,c0,c1,c2,c3,u0,u1,u2,u3,B2⟩:=h
 exact ⟨ht.drew,grown_drew hG,B1.drew,n,c0,c1,c2,c3,u0,u1,u2,u3,B2.drew⟩
theorem AWs.alloc {B Bm b q:Nat} {w W:World} (h:AWs B Bm b q w W) (o:Obj):AWs B Bm b q w (W.alloc o):=by
 obtain ⟨ht,hG,B1,n,c0,c1,c2,c3,u0,u1,u2,u3,B2⟩:=h
 exact ⟨ht.alloc _,grown_alloc hG _,B1.old B1.lt,n,c0,c1,c2,c3,u0,u1,u2,u3,B2.old B2.lt⟩
theorem AWs.store {B Bm b q:Nat} {w W:World} {j:Nat} {u:Int} (hu:U64 u) (hj:1≤j∧j≤4) (hq:w.heap.size≤q) (hB:B≤q) (h:AWs B Bm b q w W):AWs B Bm b q w (W.setCell ⟨q + 1,j,none⟩ (.int .u64 u)):=by
 obtain ⟨ht,hG,B1,n,c0,c1,c2,c3,u0,u1,u2,u3,B2⟩:=h
 have t:=ht.setc (p:=⟨q + 1,j,none⟩) (v:=.int .u64 u) (by show B≤q + 1; omega)
 have g:=grown_setCell hG (p:=⟨q + 1,j,none⟩) (.inr (by show w.heap.size≤q + 1; omega)) (.int .u64 u)
 have b1:=B1.setne (a:=⟨q + 1,j,none⟩) (v:=.int .u64 u) (by show q≠q + 1; omega)
 obtain rfl | rfl | rfl | rfl:j = 1∨j = 2∨j = 3∨j = 4:=by omega
 ·exact ⟨t,g,b1,n,u,c1,c2,c3,hu,u1,u2,u3,B2.set rfl⟩
 ·exact ⟨t,g,b1,n,c0,u,c2,c3,u0,hu,u2,u3,B2.set rfl⟩
 ·exact ⟨t,g,b1,n,c0,c1,u,c3,u0,u1,hu,u3,B2.set rfl⟩
 ·exact ⟨t,g,b1,n,c0,c1,c2,u,u0,u1,u2,hu,B2.set rfl⟩
theorem AWs.at {B Bm b q m:Nat} {w W:World} (h:AWs B Bm b q w W) (hm:m≤3):∃ c,W.cell? ⟨q + 1,1 + m,none⟩ = some (.int .u64 c)∧W.frozen? ⟨q + 1,1 + m,none⟩ = false∧q + 1 < W.heap.size∧B≤W.heap.size:=by
 obtain ⟨ht,hG,B1,n,c0,c1,c2,c3,u0,u1,u2,u3,B2⟩:=h
 obtain ⟨B2,B2c,B2f,B2l⟩:=Bx.of B2
 obtain rfl | rfl | rfl | rfl:m = 0∨m = 1∨m = 2∨m = 3:=by omega
 all_goals exact ⟨_,B2c _,B2f _,B2l,ht.leB⟩
theorem AWs.over {B Bm b q:Nat} {w W:World} {n':Bool} {d0 d1 d2 d3:Int} (v0:U64 d0) (v1:U64 d1) (v2:U64 d2) (v3:U64 d3) (hq:w.heap.size≤q) (hB:B≤q) (h:AWs B Bm b q w W) :
  AWs B Bm b q w (((((W.setCell ⟨q + 1,0,none⟩ (.bool n')).setCell ⟨q + 1,1,none⟩ (.int .u64 d0)).setCell ⟨q + 1,2,none⟩ (.int .u64 d1)).setCell ⟨q + 1,3,none⟩ (.int .u64 d2)).setCell ⟨q + 1,4,none⟩ (.int .u64 d3)):=by
 obtain ⟨ht,hG,B1,n,c0,c1,c2,c3,u0,u1,u2,u3,B2⟩:=h
 have hp:∀ (j:Nat),w.heap.size≤(⟨q + 1,j,none⟩:Addr).block:=fun j=>by show w.heap.size≤q + 1; omega
 have hp':∀ (j:Nat),B≤(⟨q + 1,j,none⟩:Addr).block:=fun j=>by show B≤q + 1; omega
 have hn:∀ (j:Nat),q≠(⟨q + 1,j,none⟩:Addr).block:=fun j=>by show q≠q + 1; omega
 exact ⟨((((ht.setc (hp' _)).setc (hp' _)).setc (hp' _)).setc (hp' _)).setc (hp' _),
  grown_setCell (grown_setCell (grown_setCell (grown_setCell (grown_setCell hG (.inr (hp _)) _) (.inr (hp _)) _) (.inr (hp _)) _) (.inr (hp _)) _) (.inr (hp _)) _,
  ((((B1.setne (hn _)).setne (hn _)).setne (hn _)).setne (hn _)).setne (hn _),n',d0,d1,d2,d3,v0,v1,v2,v3,HB.over5 (HN.of5 B2)⟩
end Go.Proofs.YtncmmbacoknefaaGreat

/- LawT: A law's frame where a tape comes behind boxed arguments. -/
namespace Go.Proofs.YtncmmbacoknefaaGreat
open Go.ChangeShapes Go.WideShapes Go.ChangeAt Go.RowKit
set_option linter.unusedVariables false
set_option linter.unusedSimpArgs false
theorem SlZ.below {W W':World} {k:IntKind} {v:Value} {zs:List Int} (h:SlZ W k v zs) (hb:Below W.heap.size W W'):SlZ W' k v zs:=by
 obtain ⟨a,len,cap,rfl,h1,h2,h3,h4,h5⟩:=h
 refine ⟨a,len,cap,rfl,h1,h2,h3,h4,fun hl=>?_⟩
 obtain ⟨b,off,rfl,hlt,hc⟩:=h5 hl
 exact ⟨b,off,rfl,Nat.lt_of_lt_of_le hlt hb.size,fun i hi=>(hb.cell hlt).trans (hc i hi)⟩
theorem next_in {B Bm:Nat} (b:Nat) (n:Int) (h1:1≤n) (h2:n≤1000000) (w:World) (ht:TapeOk B Bm w b) :
  Calls Tryz.prog 20 #[.pointer (some ⟨b,0,none⟩),.int .i64 n] w (TPost B Bm .i64 b w fun r=>0≤r∧r < n) :=
 (next_any b n ⟨by omega,by omega⟩ w ht).mono fun e w' ⟨r,⟨r1,r2,r3⟩,he,h⟩=>⟨r,⟨r1,r2 h1⟩,he,h⟩
end Go.Proofs.YtncmmbacoknefaaGreat

/- SxV: A symbolic run: Wides and fractions as atoms; tapes; pairs of slices. -/
namespace Go.Proofs.YtncmmbacoknefaaGreat
open Go Go.RowKit
set_option linter.unusedVariables false
set_option linter.unusedSimpArgs false
def WX (z:Int):Value:=WE z
def RX (p q:Int):Value:=.agg #[.bool (sg p),.int .u64 (lb0 (ab p)),.int .u64 (lb1 (ab p)),.int .u64 (lb2 (ab p)),.int .u64 (lb3 (ab p)),.bool (sg q),.int .u64 (lb0 (ab q)),.int .u64 (lb1 (ab q)),.int .u64 (lb2 (ab q)),.int .u64 (lb3 (ab q))]
def NZ:Value:=WV true 0 0 0 0
theorem IsW.x {z:Int} (h:Fits z):IsW (WX z) z:=IsW.we h
theorem sgx_ab (z:Int):sg (ab z) = false:=by unfold sg; exact decide_eq_false (by have:=ab_nonneg z; omega)
namespace Sx
variable {C:Cx} {S:St} {K:St→Prop} {d:Option Nat}
abbrev wc (z:Int):List Value:=[.bool (sg z),.int .u64 (lb0 (ab z)),.int .u64 (lb1 (ab z)),.int .u64 (lb2 (ab z)),.int .u64 (lb3 (ab z))]
theorem x_foldR (p q:Int):Value.agg [.bool (sg p),.int .u64 (lb0 (ab p)),.int .u64 (lb1 (ab p)),.int .u64 (lb2 (ab p)),.int .u64 (lb3 (ab p)),.bool (sg q),.int .u64 (lb0 (ab q)),.int .u64 (lb1 (ab q)),.int .u64 (lb2 (ab q)),.int .u64 (lb3 (ab q))].toArray = RX p q:=rfl
theorem x_foldW (z:Int):Value.agg [.bool (sg z),.int .u64 (lb0 (ab z)),.int .u64 (lb1 (ab z)),.int .u64 (lb2 (ab z)),.int .u64 (lb3 (ab z))].toArray = WX z:=rfl
theorem x_foldA (z:Int):Value.agg [.bool false,.int .u64 (lb0 (ab z)),.int .u64 (lb1 (ab z)),.int .u64 (lb2 (ab z)),.int .u64 (lb3 (ab z))].toArray = WX (ab z):=by
 rw [← x_foldW,ab_ab,sgx_ab]
theorem x_fold0:Value.agg [.bool false,.int .u64 0,.int .u64 0,.int .u64 0,.int .u64 0].toArray = WX 0:=rfl
theorem x_foldR0:Value.agg [.bool false,.int .u64 0,.int .u64 0,.int .u64 0,.int .u64 0,.bool false,.int .u64 0,.int .u64 0,.int .u64 0,.int .u64 0].toArray = RX 0 0:=rfl
theorem x_foldN:Value.agg [.bool true,.int .u64 0,.int .u64 0,.int .u64 0,.int .u64 0].toArray = NZ:=rfl
theorem x_cN:cellsO true (some (.v NZ)) = some [.bool true,.int .u64 0,.int .u64 0,.int .u64 0,.int .u64 0]:=rfl
theorem x_vN:cellsV (some (.v NZ)) = some [.bool true,.int .u64 0,.int .u64 0,.int .u64 0,.int .u64 0]:=rfl
theorem x_fN0:fdS false 1 0 (some (.v NZ)) = some (True,.bool true):=rfl
theorem x_csg1 {z:Int} {p q:St→Prop} (h:z < 0):condT (sg z) p q S = p S:=by unfold sg; rw [decide_eq_true h]; rfl
theorem x_csg0 {z:Int} {p q:St→Prop} (h:¬ z < 0):condT (sg z) p q S = q S:=by unfold sg; rw [decide_eq_false h]; rfl
theorem x_gsg1 {z:Int} {m:M} {w:Bool} (h:z < 0):gdT (sg z) w C m d K S = gdT true w C m d K S:=by unfold sg; rw [decide_eq_true h]
theorem x_gsg0 {z:Int} {m:M} {w:Bool} (h:¬ z < 0):gdT (sg z) w C m d K S = gdT false w C m d K S:=by unfold sg; rw [decide_eq_false h]
theorem x_psg1 {z:Int} {f g:Option SV} (h:z < 0):pickS f g (some (.v (.bool (sg z)))) = sv1 f:=by unfold sg; rw [decide_eq_true h]; rfl
theorem x_psg0 {z:Int} {f g:Option SV} (h:¬ z < 0):pickS f g (some (.v (.bool (sg z)))) = sv1 g:=by unfold sg; rw [decide_eq_false h]; rfl
theorem x_cW (z:Int):cellsO true (some (.v (WX z))) = some [.bool (sg z),.int .u64 (lb0 (ab z)),.int .u64 (lb1 (ab z)),.int .u64 (lb2 (ab z)),.int .u64 (lb3 (ab z))]:=rfl
theorem x_cR (p q:Int):cellsO true (some (.v (RX p q))) = some [.bool (sg p),.int .u64 (lb0 (ab p)),.int .u64 (lb1 (ab p)),.int .u64 (lb2 (ab p)),.int .u64 (lb3 (ab p)),.bool (sg q),.int .u64 (lb0 (ab q)),.int .u64 (lb1 (ab q)),.int .u64 (lb2 (ab q)),.int .u64 (lb3 (ab q))]:=rfl
theorem x_vW (z:Int):cellsV (some (.v (WX z))) = some [.bool (sg z),.int .u64 (lb0 (ab z)),.int .u64 (lb1 (ab z)),.int .u64 (lb2 (ab z)),.int .u64 (lb3 (ab z))]:=rfl
theorem x_vR (p q:Int):cellsV (some (.v (RX p q))) = some [.bool (sg p),.int .u64 (lb0 (ab p)),.int .u64 (lb1 (ab p)),.int .u64 (lb2 (ab p)),.int .u64 (lb3 (ab p)),.bool (sg q),.int .u64 (lb0 (ab q)),.int .u64 (lb1 (ab q)),.int .u64 (lb2 (ab q)),.int .u64 (lb3 (ab q))]:=rfl
theorem x_fW0 (z:Int):fdS false 1 0 (some (.v (WX z))) = some (True,.bool (sg z)):=rfl
theorem x_fR0 (p q:Int):fdS true 5 0 (some (.v (RX p q))) = some (True,WX p):=rfl
theorem x_fR5 (p q:Int):fdS true 5 5 (some (.v (RX p q))) = some (True,WX q):=rfl
theorem qxE:type_of% @x_foldR∧type_of% @x_foldW∧type_of% @x_foldA∧type_of% @x_fold0∧type_of% @x_foldR0∧type_of% @x_foldN∧type_of% @x_cN∧type_of% @x_vN∧type_of% @x_fN0∧type_of% @x_csg1∧type_of% @x_csg0∧type_of% @x_gsg1∧type_of% @x_gsg0∧type_of% @x_psg1∧type_of% @x_psg0∧type_of% @x_cW∧type_of% @x_cR∧type_of% @x_vW∧type_of% @x_vR∧type_of% @x_fW0∧type_of% @x_fR0∧type_of% @x_fR5 :=
 ⟨@x_foldR,@x_foldW,@x_foldA,@x_fold0,@x_foldR0,@x_foldN,@x_cN,@x_vN,@x_fN0,@x_csg1,@x_csg0,@x_gsg1,@x_gsg0,@x_psg1,@x_psg0,@x_cW,@x_cR,@x_vW,@x_vR,@x_fW0,@x_fR0,@x_fR5⟩
theorem asks_r2 {f:FuncId} {l:List Value} {L:List Kn} {ws vs:List Int} (he:∀ (l:Array Value) W,(callFunc f l).run C.P W = .ok (.enter f l) W) (hT:S.T = kX C.w0.heap.size L)
  (h:∀ W,Below C.w0.heap.size C.w0 W→(∀ k∈L,k.ok C.w0.heap.size W)→Calls C.P f l.toArray W fun e w'=>∃ u v,e = .returned (.tuple #[u,v])∧SlF w' W.heap.size u ws∧SlF w' W.heap.size v vs∧Below W.heap.size W w')
  (hk:∀ a cap b cbp,Shp a ws.length cap→Shp b vs.length cbp→K (St.put ⟨S.n,S.E,S.H,kX C.w0.heap.size (.r (.slice a ws.length cap) ws :: .r (.slice b vs.length cbp) vs :: L)⟩ d (.v (.tuple #[.slice a ws.length cap,.slice b vs.length cbp])))):asks C f l d K S:=by
 refine asks_T (ι:={x:(Option Addr × Nat) × (Option Addr × Nat) // Shp x.1.1 ws.length x.1.2∧Shp x.2.1 vs.length x.2.2}) (fun x=>.tuple #[.slice x.1.1.1 ws.length x.1.1.2,.slice x.1.2.1 vs.length x.1.2.2]) (fun x=>kX C.w0.heap.size (.r (.slice x.1.1.1 ws.length x.1.1.2) ws :: .r (.slice x.1.2.1 vs.length x.1.2.2) vs :: L)) (fun W hW hok hbs=>givesT_calls he (fun i=>kX_stab C _) ?_) (fun x=>hk _ _ _ _ x.2.1 x.2.2)
 rw [hT] at hok
 refine (h W hW hok).mono fun e w' ⟨u,v,h1,h2,h3,h4⟩=>?_
 obtain ⟨a,cap,rfl,hs⟩:=h2.1.shp
 obtain ⟨b,cbp,rfl,hs'⟩:=h3.1.shp
 have hok2:(Kn.r (.slice a ws.length cap) ws).ok C.w0.heap.size w':=Kn.ok.base (k:=.r _ ws) h2 hW.size (fun _ h=>by cases h)
 have hok3:(Kn.r (.slice b vs.length cbp) vs).ok C.w0.heap.size w':=Kn.ok.base (k:=.r _ vs) h3 hW.size (fun _ h=>by cases h)
 have hge:∀ c∈rbs (.slice a ws.length cap),W.heap.size≤c:=fun c hc=>(Kn.ok.lt (k:=.r (.slice a ws.length cap) ws) h2 c hc).1
 have hge':∀ c∈rbs (.slice b vs.length cbp),W.heap.size≤c:=fun c hc=>(Kn.ok.lt (k:=.r (.slice b vs.length cbp) vs) h3 c hc).1
 refine ⟨⟨((a,cap),(b,cbp)),hs,hs'⟩,h1,⟨h4.os,h4.tape,h4.output,h4.size,fun i hi _=>h4.block i hi⟩,?_,?_⟩
 ·intro k hk
  rcases List.mem_cons.1 hk with rfl | hk
  ·exact hok2
  ·rcases List.mem_cons.1 hk with rfl | hk
   ·exact hok3
   ·exact (hok k hk).below h4
 ·intro c hc
  obtain ⟨k,hk,hc⟩:=kX_bs.1 hc
  rcases List.mem_cons.1 hk with rfl | hk
  ·exact ⟨.inr (hge c hc),(hok2.lt c hc).2⟩
  ·rcases List.mem_cons.1 hk with rfl | hk
   ·exact ⟨.inr (hge' c hc),(hok3.lt c hc).2⟩
   ·exact ⟨.inl (by rw [hT]; exact kX_bs.2 ⟨k,hk,hc⟩),Nat.lt_of_lt_of_le ((hok k hk).lt c hc).2 h4.size⟩
def tK (tb:Nat):KnG where
 bs:=[tb]
 ok n W:=n≤tb∧TapeOk (tb + 1) n W tb
 lt:=fun {n W} h b hb=>by
  rw [List.mem_singleton.1 hb]
  exact ⟨h.1,h.2.lt⟩
 keep:=fun {n W W'} h hs hb ho=>by
  obtain ⟨h0,a,len,cap,k,h1,h2,h3,h4,h5,h6,h7,h8⟩:=h
  have ht:=hb tb (List.mem_singleton.2 rfl)
  refine ⟨h0,a,len,cap,k,h1,Nat.le_trans h2 hs,(World.cell?_of_block (a:=⟨tb,0,none⟩) ht).trans h3,(World.cell?_of_block (a:=⟨tb,1,none⟩) ht).trans h4,(World.frozen?_of_block (a:=⟨tb,1,none⟩) ht).trans h5,h6,h7,fun hl=>?_⟩
  obtain ⟨bb,off,e,hne,hlt,hlm,hc⟩:=h8 hl
  refine ⟨bb,off,e,hne,hlt,hlm,fun i hi=>?_⟩
  obtain ⟨x,hx,hix⟩:=hc i hi
  exact ⟨x,(World.cell?_of_block (a:=⟨bb,off + i,none⟩) (ho bb hlm (by omega))).trans hx,hix⟩
theorem asks_new {L:List Kn} {zs:List Int} {a:Option Addr} {len cap:Nat} (hP:C.P = Tryz.prog) (hT:S.T = kX C.w0.heap.size L) (h0:SlZ C.w0 .i64 (.slice a len cap) zs) (he:∀ (l:Array Value) W,(callFunc 15 l).run Tryz.prog W = .ok (.enter 15 l) W)
  (hk:∀ tb,tb ∉ S.T.bs→K (St.put ⟨S.n,S.E,S.H,kX C.w0.heap.size (.g (tK tb) :: L)⟩ d (.v (.pointer (some ⟨tb,0,none⟩))))):asks C 15 [.slice a len cap] d K S:=by
 refine asks_T (ι:={x:Nat // x ∉ S.T.bs}) (fun x=>.pointer (some ⟨x.1,0,none⟩)) (fun x=>kX C.w0.heap.size (.g (tK x.1) :: L)) (fun W hW hok hbs=>givesT_calls (by rw [hP]; exact he) (fun i=>kX_stab C _) ?_) (fun x=>hk _ x.2)
 rw [hT] at hok
 rw [hP]
 refine (new_any a len cap W).mono fun e w' ⟨he,hw⟩=>?_
 subst hw
 have hb:Below W.heap.size W (W.alloc (.cells #[.slice a len cap,.int .i64 0] 112)):=(Below.refl _ _).alloc (Nat.le_refl _) _
 have ht:TapeOk (W.heap.size + 1) C.w0.heap.size (W.alloc (.cells #[.slice a len cap,.int .i64 0] 112)) W.heap.size:=by
  obtain ⟨a',len',cap',e,hl,hlc,hcm,hwf,hc⟩:=h0
  cases e
  have hm:cap≤9223372036854775807:=by simpa [maxLen] using hcm
  refine ⟨a,len,cap,0,by omega,by simp,World.cell?_alloc_new _ _ _ _,World.cell?_alloc_new _ _ _ _,by simp [go_sem],by omega,by omega,fun hpos=>?_⟩
  obtain ⟨b,off,rfl,hlt,hcell⟩:=hc hpos
  have hsz:=hW.size
  refine ⟨b,off,rfl,by omega,by omega,hlt,fun i hi=>⟨zs.getD i 0,(hb.cell (p:=⟨b,off + i,none⟩) (show b < _ by omega)).trans ((hW.cell (p:=⟨b,off + i,none⟩) hlt).trans (hcell i hi)),?_⟩⟩
  refine I64.of_wf (hwf _ ?_)
  rw [List.getD_eq_getElem?_getD,List.getElem?_eq_getElem (by omega)]
  exact List.getElem_mem _
 refine ⟨⟨W.heap.size,fun hT2=>by have:=(hbs _ hT2).2; omega⟩,he,⟨hb.os,hb.tape,hb.output,hb.size,fun i hi _=>hb.block i hi⟩,?_,?_⟩
 ·intro k hk
  rcases List.mem_cons.1 hk with rfl | hk
  ·exact ⟨hW.size,ht⟩
  ·exact (hok k hk).below hb
 ·intro b hbb
  obtain ⟨k,hk,hbb⟩:=kX_bs.1 hbb
  rcases List.mem_cons.1 hk with rfl | hk
  ·have:b = W.heap.size:=List.mem_singleton.1 hbb
   subst this
   exact ⟨.inr (Nat.le_refl _),ht.lt⟩
  ·exact ⟨.inl (by rw [hT]; exact kX_bs.2 ⟨k,hk,hbb⟩),Nat.lt_of_lt_of_le ((hok k hk).lt b hbb).2 hb.size⟩
end Sx
end Go.Proofs.YtncmmbacoknefaaGreat

/- Hf: What calls of the reference's DivMod and Unsigned give; the numbers as atoms. -/
namespace Go.Proofs.YtncmmbacoknefaaGreat
open Go Go.RowKit Sx
set_option linter.unusedVariables false
set_option linter.unusedSimpArgs false
theorem g_wide {neg:Bool} {a:Option Addr} {len cap:Nat} {ws:List Int} {W:World} (h:SlU W (.slice a len cap) ws):Gives Tryz.prog 111 [.bool neg,.slice a len cap] W (· = .tuple #[WE (cl (sv neg (VL ws))),.bool (fb (sv neg (VL ws)))]) :=
 gives_known en_r02_wide (rwide_any neg a len cap ws W h)
theorem ask_wide {C:Cx} {S:St} {K:St→Prop} {d:Option Nat} {L:List Kn} {a:Option Addr} {c:Nat} {t z:Int} {neg:Bool} (hP:C.P = Tryz.prog) (hT:S.T = kX C.w0.heap.size L) (hm:.r (.slice a (wl t).length c) (wl t)∈L) (ht:0≤t) (e:z = sv neg t) (hf:Fits z)
  (hk:K (S.put d (.v (.tuple #[WE z,.bool true])))):asks C 111 [.bool neg,.slice a (wl t).length c] d K S :=
 asks_ext (v:=.tuple #[WE z,.bool true]) (fun W hW hok=>by
  rw [hT] at hok
  have:=g_wide (neg:=neg) (W:=W) (hok (.r (.slice a (wl t).length c) (wl t)) hm).1
  rw [VL_wl ht,← e,cl_fit hf,fb_fit hf] at this
  rw [hP]
  exact this) hk
theorem fits_ediv {z y:Int} (h:Fits z) (hy:y≠0):Fits (z / y):=by
 refine fits_le h ?_
 rcases Int.lt_or_lt_of_ne hy with h | h
 ·have e:z / y = -(z / -y):=by rw [Int.ediv_neg,Int.neg_neg]
  rw [e,ab_neg]
  exact ab_fdiv_le z (by omega)
 ·exact ab_fdiv_le z h
theorem fits_emod {z y:Int} (h:Fits y) (hy:y≠0):Fits (z % y):=by
 refine fits_le h ?_
 have h1:=Int.emod_nonneg z hy
 rw [ab_pos h1]
 have h2:=Int.emod_lt z hy
 unfold ab
 split <;> omega
set_option maxRecDepth 100000 in
theorem rg_divmod {v v':Value} {z y:Int} (h:IsW v z) (h':IsW v' y) (W0:World):Gives Tryz.prog 116 [v,v'] W0 (· = .tuple #[WE (z / y),WE (dr z y),.bool (decide (y≠0))]):=by
  have fz:Fits z:=by obtain ⟨n,a,b,c,d,-,rfl,ha,hb,hc,hd⟩:=h; unfold Fits; rw [ab_wv ha hb hc hd]; exact up4_mv ha hb hc hd
  have fy:Fits y:=by obtain ⟨n,a,b,c,d,-,rfl,ha,hb,hc,hd⟩:=h'; unfold Fits; rw [ab_wv ha hb hc hd]; exact up4_mv ha hb hc hd
  obtain ⟨n,m,rfl,am,hab,hz,hn⟩:=h.me
  obtain ⟨n',m',rfl,am',hab',hy,hn'⟩:=h'.me
  refine gives_known en_r02_DivMod ?_
  have p1:cn n (lb0 m) (lb1 m) (lb2 m) (lb3 m) = decide (z < 0):=hn
  have p2:cn n' (lb0 m') (lb1 m') (lb2 m') (lb3 m') = decide (y < 0):=hn'
  have SI:IsW (WV (decide (y < 0)) (lb0 m') (lb1 m') (lb2 m') (lb3 m')) y:=by
    have:=IsW.raw (n:=cn n' (lb0 m') (lb1 m') (lb2 m') (lb3 m')) (lb0_in m') (lb1_in m') (lb2_in m') (lb3_in m')
    rw [wv_cn,p2] at this
    have e:wv n' (lb0 m') (lb1 m') (lb2 m') (lb3 m') = y:=by rw [hy]; unfold wv sv; rw [mv_me am']
    rw [e] at this
    exact this
  clear hz hy hn hn' h h'
  have hcm:=cm_zero y
  by_cases hy0:y = 0
  · have hc0:cm y 0 = 0:=by subst hy0; rfl
    have e1:z / y = 0:=by rw [hy0]; exact Int.ediv_zero z
    have e2:dr z y = 0:=if_pos hy0
    have e3:decide (y≠0) = false:=by simp [hy0]
    rw [e1,e2,e3]
    clear hcm e1 e2 e3 hab hab'
    refine known_of (enter Tryz.func116 r02_DivMod.ok (args:=[WV n (lb0 m) (lb1 m) (lb2 m) (lb3 m),WV n' (lb0 m') (lb1 m') (lb2 m') (lb3 m')]) (by simp) ?_)
    repeat' (first | simp (disch:=omega) only [sxE,r02_DivMod.E,Nat.reduceAdd,Nat.reduceEqDiff,Nat.reduceMul,Nat.reduceSub,Int.reduceAdd,Int.reduceSub,Int.reduceMul,Int.reduceNeg,Int.reduceLT,Int.reduceLE,Int.reduceEq,Int.reduceToNat,↓reduceIte,Int.reducePow,Nat.reduceLeDiff,Nat.reduceLT,ne_eq,eq_self,List.length_cons,List.length_nil,p1,p2] | (with_reducible refine Sx.call_at (f:=109) (fun W hW=>rg_clean _ (lb0_in _) (lb1_in _) (lb2_in _) (lb3_in _) W) ?_) | (with_reducible refine Sx.call_at (f:=104) (fun W hW=>rg_sign SI W) ?_) | (with_reducible refine cregF ?_))
    rfl
  · have hc0:cm y 0≠0:=by rw [hcm]; split <;> (try split) <;> omega
    have e3:decide (y≠0) = true:=by simp [hy0]
    have hm':0 < m':=by rw [← hab']; unfold ab; split <;> omega
    obtain ⟨D1,D2⟩:=dm_plain (z:=z) hy0
    rw [hab,hab'] at D1 D2
    have e2:dr z y = z % y:=if_neg hy0
    rw [e2,e3]
    have ar:A4 (m % m'):=⟨Int.emod_nonneg _ (by omega),by have:=Int.emod_lt_of_pos m hm'; have:=am'.2; omega⟩
    have aq:A4 (m / m'):=⟨Int.ediv_nonneg am.1 (by omega),by have:=Int.ediv_le_self m' am.1; have:=am.2; omega⟩
    have q1:=fits_ediv fz hy0
    have q2:=fits_emod (z:=z) fy hy0
    generalize hQ:z / y = Q at *
    generalize hR:z % y = R at *
    refine known_of (enter Tryz.func116 r02_DivMod.ok (args:=[WV n (lb0 m) (lb1 m) (lb2 m) (lb3 m),WV n' (lb0 m') (lb1 m') (lb2 m') (lb3 m')]) (by simp) ?_)
    repeat' (first | simp (disch:=omega) only [sxE,r02_DivMod.E,Nat.reduceAdd,Nat.reduceEqDiff,Nat.reduceMul,Nat.reduceSub,Int.reduceAdd,Int.reduceSub,Int.reduceMul,Int.reduceNeg,Int.reduceLT,Int.reduceLE,Int.reduceEq,Int.reduceToNat,↓reduceIte,Int.reducePow,Nat.reduceLeDiff,Nat.reduceLT,ne_eq,eq_self,List.length_cons,List.length_nil,p1,p2] | (with_reducible refine Sx.call_at (f:=109) (fun W hW=>rg_clean _ (lb0_in _) (lb1_in _) (lb2_in _) (lb3_in _) W) ?_) | (with_reducible refine Sx.call_at (f:=104) (fun W hW=>rg_sign SI W) ?_) | (with_reducible refine cregF ?_))
    refine asks_r (L:=[]) (ws:=wl m) en_r02_of (kX_nil _) (fun W hW _=>of_mag am W) fun a1 c1 hs1 hn1=>?_
    simp (disch:=omega) only [sxE,r02_DivMod.E,Nat.reduceAdd,Nat.reduceEqDiff,Nat.reduceMul,Nat.reduceSub,Int.reduceAdd,Int.reduceSub,Int.reduceMul,Int.reduceNeg,Int.reduceLT,Int.reduceLE,Int.reduceEq,Int.reduceToNat,↓reduceIte,Int.reducePow,Nat.reduceLeDiff,Nat.reduceLT,ne_eq,eq_self,List.length_cons,List.length_nil]
    refine asks_r (L:=[.r (.slice a1 (wl m).length c1) (wl m)]) (ws:=wl m') en_r02_of rfl (fun W hW _=>of_mag am' W) fun a2 c2 hs2 hn2=>?_
    simp (disch:=omega) only [sxE,r02_DivMod.E,Nat.reduceAdd,Nat.reduceEqDiff,Nat.reduceMul,Nat.reduceSub,Int.reduceAdd,Int.reduceSub,Int.reduceMul,Int.reduceNeg,Int.reduceLT,Int.reduceLE,Int.reduceEq,Int.reduceToNat,↓reduceIte,Int.reducePow,Nat.reduceLeDiff,Nat.reduceLT,ne_eq,eq_self,List.length_cons,List.length_nil]
    refine asks_r2 (L:=[.r (.slice a2 (wl m').length c2) (wl m'),.r (.slice a1 (wl m).length c1) (wl m)]) (ws:=wl (m / m')) (vs:=wl (m % m')) en_r02_divmod rfl (fun W hW hok=>rdivmod_any am am' hm' (hok (.r (.slice a1 (wl m).length c1) (wl m)) (List.mem_cons_of_mem _ List.mem_cons_self)).1 (hok (.r (.slice a2 (wl m').length c2) (wl m')) List.mem_cons_self).1) fun a3 c3 a4 c4 hs3 hs4=>?_
    clear hn1 hn2 hs1 hs2 hs3 hs4 hcm p1 p2
    have l1:=pw4b ar
    have l2:=pw4b aq
    have l3:=pw4b am'
    have v1:=VL_wl aq.1
    have v2:=VL_wl ar.1
    have hl0:((wl (m % m')).length:Int) > 0↔m % m'≠0:=by
      constructor
      · intro h e; rw [e,wl_nil (Int.le_refl _)] at h; simp at h
      · intro h
        have:=ar.1
        rw [wl_cons (by omega),List.length_cons]; omega
    by_cases hC:¬ z < 0∨m % m' = 0
    · obtain ⟨e4,e5⟩:=D1 hC
      clear D1 D2 hab hab' SI e3 hQ hR e2 l1 l2 l3
      have e6:sv false (m % m') = R:=e5.symm
      have hR0:R = sv false (m % m'):=e5
      by_cases hz:z < 0
      · have h0:m % m' = 0:=by omega
        have hlf:¬ ((wl (m % m')).length:Int) > 0:=fun h=>hl0.1 h h0
        clear hl0 hC
        simp only [decide_eq_true hz]
        repeat' (first | simp (disch:=omega) only [sxE,r02_DivMod.E,Nat.reduceAdd,Nat.reduceEqDiff,Nat.reduceMul,Nat.reduceSub,Int.reduceAdd,Int.reduceSub,Int.reduceMul,Int.reduceNeg,Int.reduceLT,Int.reduceLE,Int.reduceEq,Int.reduceToNat,↓reduceIte,Int.reducePow,Nat.reduceLeDiff,Nat.reduceLT,ne_eq,eq_self,List.length_cons,List.length_nil] | (with_reducible refine cregF ?_))
        refine ask_wide rfl rfl List.mem_cons_self aq.1 (by rw [e4,decide_eq_true hz]; rfl) q1 ?_
        repeat' (first | simp (disch:=omega) only [sxE,r02_DivMod.E,Nat.reduceAdd,Nat.reduceEqDiff,Nat.reduceMul,Nat.reduceSub,Int.reduceAdd,Int.reduceSub,Int.reduceMul,Int.reduceNeg,Int.reduceLT,Int.reduceLE,Int.reduceEq,Int.reduceToNat,↓reduceIte,Int.reducePow,Nat.reduceLeDiff,Nat.reduceLT,ne_eq,eq_self,List.length_cons,List.length_nil] | (with_reducible refine cregF ?_))
        refine ask_wide rfl rfl (List.mem_cons_of_mem _ List.mem_cons_self) ar.1 hR0 q2 ?_
        repeat' (first | simp (disch:=omega) only [sxE,r02_DivMod.E,Nat.reduceAdd,Nat.reduceEqDiff,Nat.reduceMul,Nat.reduceSub,Int.reduceAdd,Int.reduceSub,Int.reduceMul,Int.reduceNeg,Int.reduceLT,Int.reduceLE,Int.reduceEq,Int.reduceToNat,↓reduceIte,Int.reducePow,Nat.reduceLeDiff,Nat.reduceLT,ne_eq,eq_self,List.length_cons,List.length_nil] | (with_reducible refine cregF ?_))
      · clear hl0 hC
        simp only [decide_eq_false hz]
        repeat' (first | simp (disch:=omega) only [sxE,r02_DivMod.E,Nat.reduceAdd,Nat.reduceEqDiff,Nat.reduceMul,Nat.reduceSub,Int.reduceAdd,Int.reduceSub,Int.reduceMul,Int.reduceNeg,Int.reduceLT,Int.reduceLE,Int.reduceEq,Int.reduceToNat,↓reduceIte,Int.reducePow,Nat.reduceLeDiff,Nat.reduceLT,ne_eq,eq_self,List.length_cons,List.length_nil] | (with_reducible refine cregF ?_))
        refine ask_wide rfl rfl List.mem_cons_self aq.1 (by rw [e4,decide_eq_false hz]; rfl) q1 ?_
        repeat' (first | simp (disch:=omega) only [sxE,r02_DivMod.E,Nat.reduceAdd,Nat.reduceEqDiff,Nat.reduceMul,Nat.reduceSub,Int.reduceAdd,Int.reduceSub,Int.reduceMul,Int.reduceNeg,Int.reduceLT,Int.reduceLE,Int.reduceEq,Int.reduceToNat,↓reduceIte,Int.reducePow,Nat.reduceLeDiff,Nat.reduceLT,ne_eq,eq_self,List.length_cons,List.length_nil] | (with_reducible refine cregF ?_))
        refine ask_wide rfl rfl (List.mem_cons_of_mem _ List.mem_cons_self) ar.1 hR0 q2 ?_
        repeat' (first | simp (disch:=omega) only [sxE,r02_DivMod.E,Nat.reduceAdd,Nat.reduceEqDiff,Nat.reduceMul,Nat.reduceSub,Int.reduceAdd,Int.reduceSub,Int.reduceMul,Int.reduceNeg,Int.reduceLT,Int.reduceLE,Int.reduceEq,Int.reduceToNat,↓reduceIte,Int.reducePow,Nat.reduceLeDiff,Nat.reduceLT,ne_eq,eq_self,List.length_cons,List.length_nil] | (with_reducible refine cregF ?_))
    · have hz:z < 0:=by omega
      have h0:m % m'≠0:=by omega
      obtain ⟨e4,e5⟩:=D2 hz h0
      have hlf:((wl (m % m')).length:Int) > 0:=hl0.2 h0
      clear D1 D2 hab hab' SI e3 hQ hR e2 hl0 hC
      have hR0:R = sv false (m' - m % m'):=e5
      simp only [decide_eq_true hz]
      repeat' (first | simp (disch:=omega) only [sxE,r02_DivMod.E,Nat.reduceAdd,Nat.reduceEqDiff,Nat.reduceMul,Nat.reduceSub,Int.reduceAdd,Int.reduceSub,Int.reduceMul,Int.reduceNeg,Int.reduceLT,Int.reduceLE,Int.reduceEq,Int.reduceToNat,↓reduceIte,Int.reducePow,Nat.reduceLeDiff,Nat.reduceLT,ne_eq,eq_self,List.length_cons,List.length_nil] | (with_reducible refine cregF ?_))
      have w1:wl (1:Int) = [1]:=(wl_one (by decide) (by rw [wl_cons (by decide),show (1:Int) / 18446744073709551616 = 0 by decide,wl_nil (by decide)]; rfl)).1
      have hlt:=Int.emod_lt_of_pos m hm'
      have asx:A4 (m' - m % m'):=⟨by omega,by have:=ar.1; have:=am'.2; omega⟩
      have aq1:A4 (m / m' + 1):=by
        refine ⟨by have:=aq.1; omega,?_⟩
        have h2:2≤m':=by
          rcases Int.lt_or_le m' 2 with h | h
          · exact absurd (show m % m' = 0 by have:m' = 1:=by omega
                                             rw [this]; exact Int.emod_one m) h0
          · exact h
        have:=Int.mul_ediv_add_emod m m'
        have h3:=Int.mul_le_mul_of_nonneg_right h2 aq.1
        have:=am.2
        have:=ar.1
        omega
      refine genA_o (L:=[.r (.slice a3 (wl (m / m')).length c3) (wl (m / m')),.r (.slice a4 (wl (m % m')).length c4) (wl (m % m')),.r (.slice a2 (wl m').length c2) (wl m'),.r (.slice a1 (wl m).length c1) (wl m)]) (ws:=[1]) rfl (fun W hW _=>gen_one ⟨by decide,by decide⟩ W) fun g5 c5 hn5=>?_
      clear hn5
      repeat' (first | simp (disch:=omega) only [sxE,r02_DivMod.E,Nat.reduceAdd,Nat.reduceEqDiff,Nat.reduceMul,Nat.reduceSub,Int.reduceAdd,Int.reduceSub,Int.reduceMul,Int.reduceNeg,Int.reduceLT,Int.reduceLE,Int.reduceEq,Int.reduceToNat,↓reduceIte,Int.reducePow,Nat.reduceLeDiff,Nat.reduceLT,ne_eq,eq_self,List.length_cons,List.length_nil] | (with_reducible refine cregF ?_))
      refine asks_r (L:=[.o (.slice (some ⟨g5,0,none⟩) 1 c5) [1],.r (.slice a3 (wl (m / m')).length c3) (wl (m / m')),.r (.slice a4 (wl (m % m')).length c4) (wl (m % m')),.r (.slice a2 (wl m').length c2) (wl m'),.r (.slice a1 (wl m).length c1) (wl m)]) (ws:=wl (m / m' + 1)) en_r02_add rfl (fun W hW hok=>by
        have h5:OwnU W W0.heap.size (.slice (some ⟨g5,0,none⟩) 1 c5) [1]:=hok (.o (.slice (some ⟨g5,0,none⟩) 1 c5) [1]) List.mem_cons_self
        exact radd_any _ _ _ _ _ _ _ _ aq.1 (by decide) (by omega) (by decide) W (hok (.r (.slice a3 (wl (m / m')).length c3) (wl (m / m'))) (List.mem_cons_of_mem _ List.mem_cons_self)).1 (by rw [w1]; exact h5.sl)) fun a6 c6 hs6 hn6=>?_
      clear hs6 hn6
      repeat' (first | simp (disch:=omega) only [sxE,r02_DivMod.E,Nat.reduceAdd,Nat.reduceEqDiff,Nat.reduceMul,Nat.reduceSub,Int.reduceAdd,Int.reduceSub,Int.reduceMul,Int.reduceNeg,Int.reduceLT,Int.reduceLE,Int.reduceEq,Int.reduceToNat,↓reduceIte,Int.reducePow,Nat.reduceLeDiff,Nat.reduceLT,ne_eq,eq_self,List.length_cons,List.length_nil] | (with_reducible refine cregF ?_))
      refine asks_r (L:=[.r (.slice a6 (wl (m / m' + 1)).length c6) (wl (m / m' + 1)),.o (.slice (some ⟨g5,0,none⟩) 1 c5) [1],.r (.slice a3 (wl (m / m')).length c3) (wl (m / m')),.r (.slice a4 (wl (m % m')).length c4) (wl (m % m')),.r (.slice a2 (wl m').length c2) (wl m'),.r (.slice a1 (wl m).length c1) (wl m)]) (ws:=wl m') en_r02_of rfl (fun W hW _=>of_mag am' W) fun a7 c7 hs7 hn7=>?_
      clear hs7 hn7
      repeat' (first | simp (disch:=omega) only [sxE,r02_DivMod.E,Nat.reduceAdd,Nat.reduceEqDiff,Nat.reduceMul,Nat.reduceSub,Int.reduceAdd,Int.reduceSub,Int.reduceMul,Int.reduceNeg,Int.reduceLT,Int.reduceLE,Int.reduceEq,Int.reduceToNat,↓reduceIte,Int.reducePow,Nat.reduceLeDiff,Nat.reduceLT,ne_eq,eq_self,List.length_cons,List.length_nil] | (with_reducible refine cregF ?_))
      refine asks_r (L:=[.r (.slice a7 (wl m').length c7) (wl m'),.r (.slice a6 (wl (m / m' + 1)).length c6) (wl (m / m' + 1)),.o (.slice (some ⟨g5,0,none⟩) 1 c5) [1],.r (.slice a3 (wl (m / m')).length c3) (wl (m / m')),.r (.slice a4 (wl (m % m')).length c4) (wl (m % m')),.r (.slice a2 (wl m').length c2) (wl m'),.r (.slice a1 (wl m).length c1) (wl m)]) (ws:=wl (m' - m % m')) en_r02_sub rfl (fun W hW hok=>rsub_any _ _ _ _ _ _ _ _ ar.1 (by omega) (by omega) W (hok (.r (.slice a7 (wl m').length c7) (wl m')) (by simp)).1 (hok (.r (.slice a4 (wl (m % m')).length c4) (wl (m % m'))) (by simp)).1) fun a8 c8 hs8 hn8=>?_
      clear hs8 hn8
      repeat' (first | simp (disch:=omega) only [sxE,r02_DivMod.E,Nat.reduceAdd,Nat.reduceEqDiff,Nat.reduceMul,Nat.reduceSub,Int.reduceAdd,Int.reduceSub,Int.reduceMul,Int.reduceNeg,Int.reduceLT,Int.reduceLE,Int.reduceEq,Int.reduceToNat,↓reduceIte,Int.reducePow,Nat.reduceLeDiff,Nat.reduceLT,ne_eq,eq_self,List.length_cons,List.length_nil] | (with_reducible refine cregF ?_))
      refine ask_wide rfl rfl (t:=m / m' + 1) (by simp) aq1.1 (by rw [e4,decide_eq_true hz]; rfl) q1 ?_
      repeat' (first | simp (disch:=omega) only [sxE,r02_DivMod.E,Nat.reduceAdd,Nat.reduceEqDiff,Nat.reduceMul,Nat.reduceSub,Int.reduceAdd,Int.reduceSub,Int.reduceMul,Int.reduceNeg,Int.reduceLT,Int.reduceLE,Int.reduceEq,Int.reduceToNat,↓reduceIte,Int.reducePow,Nat.reduceLeDiff,Nat.reduceLT,ne_eq,eq_self,List.length_cons,List.length_nil] | (with_reducible refine cregF ?_))
      refine ask_wide rfl rfl (t:=m' - m % m') (by simp) asx.1 hR0 q2 ?_
      repeat' (first | simp (disch:=omega) only [sxE,r02_DivMod.E,Nat.reduceAdd,Nat.reduceEqDiff,Nat.reduceMul,Nat.reduceSub,Int.reduceAdd,Int.reduceSub,Int.reduceMul,Int.reduceNeg,Int.reduceLT,Int.reduceLE,Int.reduceEq,Int.reduceToNat,↓reduceIte,Int.reducePow,Nat.reduceLeDiff,Nat.reduceLT,ne_eq,eq_self,List.length_cons,List.length_nil] | (with_reducible refine cregF ?_))
def unb (z:Int):Bool:=decide (0≤z∧z < 18446744073709551616)
def unv (z:Int):Int:=if unb z then z else 0
theorem ab_of_sv {n:Bool} {m z:Int} (h:ab z = m):(decide (z < 0) = true→z = -m)∧(decide (z < 0) = false→z = m):=by
 unfold ab at h
 constructor
 ·intro h2; rw [if_pos (of_decide_eq_true h2)] at h; omega
 ·intro h2; rw [if_neg (of_decide_eq_false h2)] at h; exact h
theorem rg_unsigned {v:Value} {z:Int} (h:IsW v z) (W:World):Gives Tryz.prog 153 [v] W (· = .tuple #[.int .u64 (unv z),.bool (unb z)]):=by
 obtain ⟨n,m,rfl,am,hab,hz,hn⟩:=h.me
 refine gives_known en_r02_Unsigned ?_
 have p1:cn n (lb0 m) (lb1 m) (lb2 m) (lb3 m) = decide (z < 0):=hn
 obtain ⟨k1,k2⟩:=ab_of_sv (n:=n) hab
 have hl:¬ 1 < ((wl m).length:Int)↔m < 18446744073709551616:=by
  have:=wl_len_lt am.1 1
  have e:((18446744073709551616:Int) ^ 1) = 18446744073709551616:=by decide
  have e2:(pw 1:Int) = 18446744073709551616:=rfl
  rw [e2] at this
  omega
 clear h hn hz hab
 refine known_of (enter Tryz.func153 r02_Unsigned.ok (args:=[WV n (lb0 m) (lb1 m) (lb2 m) (lb3 m)]) (by simp) ?_)
 repeat' (first | simp (disch:=omega) only [sxE,r02_Unsigned.E,Nat.reduceAdd,Nat.reduceEqDiff,Nat.reduceMul,Nat.reduceSub,Int.reduceAdd,Int.reduceSub,Int.reduceMul,Int.reduceNeg,Int.reduceLT,Int.reduceLE,Int.reduceEq,Int.reduceToNat,↓reduceIte,Int.reducePow,Nat.reduceLeDiff,Nat.reduceLT,ne_eq,eq_self,List.length_cons,List.length_nil,p1] | (with_reducible refine Sx.call_at (f:=109) (fun W hW=>rg_clean _ (lb0_in _) (lb1_in _) (lb2_in _) (lb3_in _) W) ?_) | (with_reducible refine cregF ?_))
 refine asks_r (L:=[]) (ws:=wl m) en_r02_of (kX_nil _) (fun W hW _=>of_mag am W) fun a1 c1 hs1 hn1=>?_
 clear hs1 hn1
 by_cases hneg:z < 0
 ·have u1:unb z = false:=decide_eq_false (by omega)
  have u2:unv z = 0:=by unfold unv; rw [u1]; rfl
  rw [u1,u2,decide_eq_true hneg]
  repeat' (first | simp (disch:=omega) only [sxE,r02_Unsigned.E,Nat.reduceAdd,Nat.reduceEqDiff,Nat.reduceMul,Nat.reduceSub,Int.reduceAdd,Int.reduceSub,Int.reduceMul,Int.reduceNeg,Int.reduceLT,Int.reduceLE,Int.reduceEq,Int.reduceToNat,↓reduceIte,Int.reducePow,Nat.reduceLeDiff,Nat.reduceLT,ne_eq,eq_self,List.length_cons,List.length_nil] | (with_reducible refine cregF ?_))
 ·have hzm:=k2 (decide_eq_false hneg)
  rw [decide_eq_false hneg]
  by_cases hlt:m < 18446744073709551616
  ·have u1:unb z = true:=decide_eq_true (by have:=am.1; omega)
   have u2:unv z = m:=by unfold unv; rw [u1]; exact hzm
   have u3:lb0 m = m:=Int.emod_eq_of_lt am.1 hlt
   have u4:=hl.2 hlt
   rw [u1,u2,u3]
   clear hl k1 k2 u1 u2 u3 p1 hneg hzm
   repeat' (first | simp (disch:=omega) only [sxE,r02_Unsigned.E,Nat.reduceAdd,Nat.reduceEqDiff,Nat.reduceMul,Nat.reduceSub,Int.reduceAdd,Int.reduceSub,Int.reduceMul,Int.reduceNeg,Int.reduceLT,Int.reduceLE,Int.reduceEq,Int.reduceToNat,↓reduceIte,Int.reducePow,Nat.reduceLeDiff,Nat.reduceLT,ne_eq,eq_self,List.length_cons,List.length_nil] | (with_reducible refine cregF ?_))
  ·have u1:unb z = false:=decide_eq_false (by omega)
   have u2:unv z = 0:=by unfold unv; rw [u1]; rfl
   have u4:1 < ((wl m).length:Int):=by omega
   rw [u1,u2]
   clear hl k1 k2 u1 u2 p1 hneg hzm
   repeat' (first | simp (disch:=omega) only [sxE,r02_Unsigned.E,Nat.reduceAdd,Nat.reduceEqDiff,Nat.reduceMul,Nat.reduceSub,Int.reduceAdd,Int.reduceSub,Int.reduceMul,Int.reduceNeg,Int.reduceLT,Int.reduceLE,Int.reduceEq,Int.reduceToNat,↓reduceIte,Int.reducePow,Nat.reduceLeDiff,Nat.reduceLT,ne_eq,eq_self,List.length_cons,List.length_nil] | (with_reducible refine cregF ?_))
end Go.Proofs.YtncmmbacoknefaaGreat

/- Hg: What calls of wide and of its reference give, on integers as atoms. -/
namespace Go.Proofs.YtncmmbacoknefaaGreat
open Go Go.RowKit Sx
set_option linter.unusedVariables false
set_option linter.unusedSimpArgs false
theorem Fits.is {z:Int} (h:Fits z):IsW (WX z) z:=IsW.x h
theorem nz_is:IsW NZ 0:=⟨true,0,0,0,0,rfl,rfl,⟨by decide,by decide⟩,⟨by decide,by decide⟩,⟨by decide,by decide⟩,⟨by decide,by decide⟩⟩
theorem raw_cases (n:Bool) {a b c d:Int} (ha:U64 a) (hb:U64 b) (hc:U64 c) (hd:U64 d):(∃ z,Fits z∧WV n a b c d = WX z)∨WV n a b c d = NZ:=by
 by_cases h:(n && mz a b c d) = true
 ·right
  rw [Bool.and_eq_true] at h
  obtain ⟨rfl,h2⟩:=h
  have hw:a = 0∧b = 0∧c = 0∧d = 0:=by simpa [mz,meq] using h2
  obtain ⟨rfl,rfl,rfl,rfl⟩:=hw
  rfl
 ·left
  refine ⟨wv n a b c d,?_,?_⟩
  ·unfold Fits; rw [ab_wv ha hb hc hd]; exact up4_mv ha hb hc hd
  ·have:cn n a b c d = n:=by unfold cn; cases n <;> cases h2:mz a b c d <;> simp_all
   have e:=we_wv (n:=n) ha hb hc hd
   rw [this] at e
   exact e
theorem valid_wx {z:Int} (h:Fits z):(!sg z || !mz (lb0 (ab z)) (lb1 (ab z)) (lb2 (ab z)) (lb3 (ab z))) = true:=by
 have a4:A4 (ab z):=⟨ab_nonneg z,(fits_lt z).1 h⟩
 rw [mz_me a4]
 unfold sg ab
 by_cases hz:z < 0
 ·rw [decide_eq_true hz,if_pos hz,decide_eq_false (by omega)]; rfl
 ·rw [decide_eq_false hz]; rfl
theorem tup2 {a b c d:Value} (h:a = c) (h':b = d):Value.tuple #[a,b] = Value.tuple #[c,d]:=by rw [h,h']
theorem tup3 {a b c a' b' c':Value} (h:a = a') (h1:b = b') (h2:c = c'):Value.tuple #[a,b,c] = Value.tuple #[a',b',c']:=by rw [h,h1,h2]
theorem gives_eq {P:Program} {f:FuncId} {l:List Value} {W:World} {u v:Value} (h:Gives P f l W (· = u)) (e:u = v):Gives P f l W (· = v):=by subst e; exact h
theorem gx_valid {z:Int} (h:Fits z) (W:World):Gives Tryz.prog 176 [WX z] W (· = .bool true):=gives_eq (g_valid _ _ _ _ _ W) (congrArg Value.bool (valid_wx h))
theorem gx_valid0 (W:World):Gives Tryz.prog 176 [NZ] W (· = .bool false):=g_valid true 0 0 0 0 W
theorem rx_valid {z:Int} (h:Fits z) (W:World):Gives Tryz.prog 100 [WX z] W (· = .bool true):=gives_eq (rg_valid _ (lb0_in _) (lb1_in _) (lb2_in _) (lb3_in _) W) (congrArg Value.bool (valid_wx h))
theorem rx_valid0 (W:World):Gives Tryz.prog 100 [NZ] W (· = .bool false):=rg_valid true ⟨by decide,by decide⟩ ⟨by decide,by decide⟩ ⟨by decide,by decide⟩ ⟨by decide,by decide⟩ W
theorem gx_add {x y:Int} (h:Fits x) (h':Fits y) (hf:Fits (x + y)) (W:World):Gives Tryz.prog 137 [WX x,WX y] W (· = .tuple #[WX (x + y),.bool true]):=gives_eq (g_add h.is h'.is W) (tup2 (by rw [cl_fit hf]; rfl) (by rw [fb_fit hf]))
theorem gx_mul {x y:Int} (h:Fits x) (h':Fits y) (hf:Fits (x * y)) (W:World):Gives Tryz.prog 126 [WX x,WX y] W (· = .tuple #[WX (x * y),.bool true]):=gives_eq (g_mul h.is h'.is W) (tup2 (by rw [cl_fit hf]; rfl) (by rw [fb_fit hf]))
theorem gx_sign {x:Int} (h:Fits x) (W:World):Gives Tryz.prog 140 [WX x] W (· = .int .i64 (cm x 0)):=g_sign h.is W
theorem gx_of {x:Int} (h:I64 x) (W:World):Gives Tryz.prog 81 [.int .i64 x] W (· = WX x):=g_of h W
theorem gx_ofU {x:Int} (h:U64 x) (W:World):Gives Tryz.prog 170 [.int .u64 x] W (· = WX x):=g_ofU h W
theorem gx_compare {x y:Int} (h:Fits x) (h':Fits y) (W:World):Gives Tryz.prog 193 [WX x,WX y] W (· = .int .i64 (cm x y)):=g_compare h.is h'.is W
theorem gx_divmod {x y:Int} (h:Fits x) (h':Fits y) (hy:y≠0) (W:World):Gives Tryz.prog 171 [WX x,WX y] W (· = .tuple #[WX (x / y),WX (x % y),.bool true]):=gives_eq (g_divmod h.is h'.is W) (tup3 rfl (by unfold dr; rw [if_neg hy]; rfl) (by rw [decide_eq_true hy]))
theorem rx_add {x y:Int} (h:Fits x) (h':Fits y) (hf:Fits (x + y)) (W:World):Gives Tryz.prog 51 [WX x,WX y] W (· = .tuple #[WX (x + y),.bool true]):=gives_eq (rg_add h.is h'.is W) (tup2 (by rw [cl_fit hf]; rfl) (by rw [fb_fit hf]))
theorem rx_sub {x y:Int} (h:Fits x) (h':Fits y) (hf:Fits (x - y)) (W:World):Gives Tryz.prog 53 [WX x,WX y] W (· = .tuple #[WX (x - y),.bool true]):=gives_eq (rg_sub h.is h'.is W) (tup2 (by rw [cl_fit hf]; rfl) (by rw [fb_fit hf]))
theorem rx_mul {x y:Int} (h:Fits x) (h':Fits y) (hf:Fits (x * y)) (W:World):Gives Tryz.prog 76 [WX x,WX y] W (· = .tuple #[WX (x * y),.bool true]):=gives_eq (rg_mul h.is h'.is W) (tup2 (by rw [cl_fit hf]; rfl) (by rw [fb_fit hf]))
theorem rx_neg {x:Int} (h:Fits x) (W:World):Gives Tryz.prog 117 [WX x] W (· = WX (-x)):=rg_neg h.is W
theorem rx_sign {x:Int} (h:Fits x) (W:World):Gives Tryz.prog 104 [WX x] W (· = .int .i64 (cm x 0)):=rg_sign h.is W
theorem rx_of {x:Int} (h:I64 x) (W:World):Gives Tryz.prog 50 [.int .i64 x] W (· = WX x):=rg_Of h W
theorem rx_ofU {x:Int} (h:U64 x) (W:World):Gives Tryz.prog 75 [.int .u64 x] W (· = WX x):=rg_OfU h W
theorem rx_compare {x y:Int} (h:Fits x) (h':Fits y) (W:World):Gives Tryz.prog 54 [WX x,WX y] W (· = .int .i64 (cm x y)):=rg_compare h.is h'.is W
theorem rx_divmod {x y:Int} (h:Fits x) (h':Fits y) (hy:y≠0) (W:World):Gives Tryz.prog 116 [WX x,WX y] W (· = .tuple #[WX (x / y),WX (x % y),.bool true]):=gives_eq (rg_divmod h.is h'.is W) (tup3 rfl (by unfold dr; rw [if_neg hy]; rfl) (by rw [decide_eq_true hy]))
theorem rx_unsigned {z:Int} (h:Fits z) (W:World):Gives Tryz.prog 153 [WX z] W (· = .tuple #[.int .u64 (unv z),.bool (unb z)]):=rg_unsigned h.is W
theorem we_inj {x y:Int} (h:Fits x) (h':Fits y):weq (sg x) (lb0 (ab x)) (lb1 (ab x)) (lb2 (ab x)) (lb3 (ab x)) (sg y) (lb0 (ab y)) (lb1 (ab y)) (lb2 (ab y)) (lb3 (ab y)) = decide (x = y):=by
 rw [Bool.eq_iff_iff,decide_eq_true_iff]
 constructor
 ·intro e
  have e':sg x = sg y∧lb0 (ab x) = lb0 (ab y)∧lb1 (ab x) = lb1 (ab y)∧lb2 (ab x) = lb2 (ab y)∧lb3 (ab x) = lb3 (ab y):=by simpa [weq,meq] using e
  obtain ⟨e0,e1,e2,e3,e4⟩:=e'
  have m1:=mv_me (z:=ab x) ⟨ab_nonneg x,(fits_lt x).1 h⟩
  have m2:=mv_me (z:=ab y) ⟨ab_nonneg y,(fits_lt y).1 h'⟩
  rw [e1,e2,e3,e4,m2] at m1
  unfold sg at e0
  have e0':(x < 0)↔(y < 0):=by simpa using e0
  unfold ab at m1
  (repeat' (split at m1)) <;> omega
 ·rintro rfl
  unfold weq meq; simp
theorem eqx_run {ng:Bool} {xo yo:Operand} {x y:Int} (h:Fits x) (h':Fits y) (W:World) :
  ((do eqGuard (if ng then .neq else .eql) 37 xo yo (WX x) (WX y); binOp (if ng then .neq else .eql) 37 (WX x) (WX y)):Sem Value).run Tryz.prog W = .ok (.bool (if ng then !decide (x = y) else decide (x = y))) W:=by
 have:=eqw_run (ng:=ng) (xo:=xo) (yo:=yo) (sg x) (lb0 (ab x)) (lb1 (ab x)) (lb2 (ab x)) (lb3 (ab x)) (sg y) (lb0 (ab y)) (lb1 (ab y)) (lb2 (ab y)) (lb3 (ab y)) W
 rw [we_inj h h'] at this
 exact this
def RW (v:Value) (b:Bool) (z:Int):Prop:=(b = true∧v = WX z∧Fits z)∨(b = false∧v = NZ∧z = 0)
theorem RW.five {v:Value} {b:Bool} {z:Int} (h:RW v b z):∃ c0 c1 c2 c3 c4,v = .agg #[c0,c1,c2,c3,c4]:=by
 rcases h with ⟨-,rfl,-⟩ | ⟨-,rfl,-⟩ <;> exact ⟨_,_,_,_,_,rfl⟩
theorem RW.is {v:Value} {b:Bool} {z:Int} (h:RW v b z):IsW v z:=by
 rcases h with ⟨-,rfl,h⟩ | ⟨-,rfl,rfl⟩
 ·exact h.is
 ·exact nz_is
theorem RW.fits {v:Value} {b:Bool} {z:Int} (h:RW v b z):Fits z:=by
 rcases h with ⟨-,rfl,h⟩ | ⟨-,rfl,rfl⟩
 ·exact h
 ·exact fits_zero
theorem Fits.rw {z:Int} (h:Fits z):RW (WX z) true z:=.inl ⟨rfl,rfl,h⟩
theorem rw_raw (n:Bool) {a b c d:Int} (ha:U64 a) (hb:U64 b) (hc:U64 c) (hd:U64 d):∃ t z,RW (WV n a b c d) t z:=by
 rcases raw_cases n ha hb hc hd with ⟨z,hz,e⟩ | e
 ·exact ⟨true,z,by rw [e]; exact hz.rw⟩
 ·exact ⟨false,0,.inr ⟨rfl,e,rfl⟩⟩
theorem gy_valid {v:Value} {b:Bool} {z:Int} (h:RW v b z) (W:World):Gives Tryz.prog 176 [v] W (· = .bool b):=by
 rcases h with ⟨rfl,rfl,h⟩ | ⟨rfl,rfl,rfl⟩
 ·exact gx_valid h W
 ·exact gx_valid0 W
theorem ry_valid {v:Value} {b:Bool} {z:Int} (h:RW v b z) (W:World):Gives Tryz.prog 100 [v] W (· = .bool b):=by
 rcases h with ⟨rfl,rfl,h⟩ | ⟨rfl,rfl,rfl⟩
 ·exact rx_valid h W
 ·exact rx_valid0 W
end Go.Proofs.YtncmmbacoknefaaGreat

/- CdR: MADE BY PROGRAM (sxgen.py): the small code of some functions, points of it and their equations. -/
namespace Go.Proofs.YtncmmbacoknefaaGreat
open Go Go.RowKit Sx Sx.Q
set_option linter.unusedVariables false
variable (C:Cx) (R L1 L2 L3 L4:St→Prop)
namespace ratio_At
abbrev q0:=[1,2,4]
abbrev r0:List G:=[e 2 (.box true 10 (t 0)),e 4 (.new zW)]
abbrev r1:List G:=[L 11 10 2,K1 12 168 11,V 10 2 12]
abbrev q1:=[1,2,4,5]
abbrev r2:List G:=[e 13 (.call false 81 [(i 2)]),e 5 (.new zW),V 5 5 13]
abbrev q2:=[2,4,5,6]
abbrev r3:List G:=[L 15 5 5,a 16 0 2,L 17 5 16,m 18 1,k1 19 170 18,k2 20 169 17 19,k2 21 169 15 20,a 22 5 2,L 23 5 22,k2 24 137 21 23,m 14 24,x 25 14 0,x 26 14 1]
abbrev t3:List G:=[e 6 (.new zW),V 5 6 25,m 7 26]
abbrev q3:=[4,8]
abbrev r4:List G:=[L 28 5 6,L 29 5 5,a 30 5 2,L 31 5 30,k2 32 169 29 31,k2 33 171 28 32,m 27 33,x 34 27 0,x 35 27 1,x 36 27 2]
abbrev t4:List G:=[e 8 (.new zW),e 9 (.new zW),V 5 8 34,V 5 9 35,m 10 36]
abbrev r5:List G:=[L 37 5 8,V 5 4 37]
abbrev c:MC:=sq [g r0 q0,g r1 q0,g r2 q1,gd r3 t3 q2,gd r4 t4 q3,g r5 [4],.ret]
theorem ok:compF Tryz.prog Tryz.f138 (an (rg 6) c [(3,14,[12],(up 12 ++ [(12,2)]),[13]),(4,12,[8,9],(up 8 ++ [(8,2),(9,2)]),[10,11])]) = some (38,c,[(4,some (true,5))]):=by kernel_rfl
abbrev p1:=P C r5 [4] R
abbrev p2:=Pd C r4 t4 q3 (p1 C R)
abbrev p3:=Pd C r3 t3 q2 (p2 C R)
abbrev p4:=P C r2 q1 (p3 C R)
abbrev p5:=P C r1 q0 (p4 C R)
abbrev p6:=P C r0 q0 (p5 C R)
theorem s (S:St):X C c (retK R) S = p6 C R S:=by kernel_rfl
theorem E:type_of% @s:=@s
end ratio_At
namespace ratio_Compare
abbrev q0:=[2,3]
abbrev r0:List G:=[e 2 (.box true 10 (t 0)),e 3 (.box true 10 (t 1)),Mi 4 0]
abbrev r1:List G:=[L 5 10 2,k1 6 168 5,L 7 10 3,k1 8 168 7]
abbrev t1:List G:=[V 10 2 6,V 10 3 8]
abbrev r2:List G:=[a 9 0 2,L 10 5 9,a 11 5 3,L 12 5 11,k2 13 169 10 12,a 14 0 3,L 15 5 14,a 16 5 2,L 17 5 16,k2 18 169 15 17,k2 19 193 13 18]
abbrev t2:List G:=[m 4 19]
abbrev c:MC:=sq [g r0 q0,gd r1 t1 q0,gd r2 t2 [4],.ret]
theorem ok:compF Tryz.prog Tryz.f179 (an (rg 3) c [(1,4,[],(up 4),[]),(2,11,[],(up 11),[])]) = some (20,c,[(4,none)]):=by kernel_rfl
abbrev p1:=Pd C r2 t2 [4] R
abbrev p2:=Pd C r1 t1 q0 (p1 C R)
abbrev p3:=P C r0 q0 (p2 C R)
theorem s (S:St):X C c (retK R) S = p3 C R S:=by kernel_rfl
theorem E:type_of% @s:=@s
end ratio_Compare
namespace ratio_Of
abbrev q0:=[0,2]
abbrev r0:List G:=[e 2 (.new zR)]
abbrev r1:List G:=[m 3 0,K1 4 81 3,e 5 (.call false 81 [(i 1)]),e 6 (.bd zR [(0,5,(t 4)),(5,5,(t 5))]),V 10 2 6]
abbrev c:MC:=sq [g r0 q0,g r1 [2],.ret]
theorem ok:compF Tryz.prog Tryz.f180 (an (rg 2) c []) = some (7,c,[(2,some (true,10))]):=by kernel_rfl
abbrev p1:=P C r1 [2] R
abbrev p2:=P C r0 q0 (p1 C R)
theorem s (S:St):X C c (retK R) S = p2 C R S:=by kernel_rfl
theorem E:type_of% @s:=@s
end ratio_Of
namespace ratio_Valid
abbrev r0:List G:=[e 1 (.box true 10 (t 0)),Mb 2 false]
abbrev r1:List G:=[a 3 0 1,L 4 5 3,K1 5 176 4,m 6 5,ya 7 6 5 1,y 8 6 (.ld true 5 (t 7)),y 9 6 (.call false 176 [(t 8)]),w 10 6 9,m 11 10,ya 12 11 5 1,y 13 11 (.ld true 5 (t 12)),y 14 11 (.call false 140 [(t 13)]),y 15 11 (.bin .gtr (t 14) (i 0)),w 16 11 15,m 17 16,ya 18 17 0 1,y 19 17 (.ld true 5 (t 18)),y 20 17 (.call false 192 [(t 19)]),w 21 17 20,m 22 21,ya 23 22 5 1,y 24 22 (.ld true 5 (t 23)),y 25 22 (.call false 192 [(t 24)]),w 26 22 25,m 27 26,ya 28 27 0 1,y 29 27 (.ld true 5 (t 28)),ya 30 27 5 1,y 31 27 (.ld true 5 (t 30)),y 32 27 (.call false 191 [(t 29),(t 31)]),y 33 27 (.call false 81 [(i 1)]),y 34 27 (.eqg false 37 (t 32) (t 33)),w 35 27 34,m 2 35]
abbrev c:MC:=sq [g r0 [1],g r1 [2],.ret]
theorem ok:compF Tryz.prog Tryz.f186 (an (rg 2) c []) = some (36,c,[(2,none)]):=by kernel_rfl
abbrev p1:=P C r1 [2] R
abbrev p2:=P C r0 [1] (p1 C R)
theorem s (S:St):X C c (retK R) S = p2 C R S:=by kernel_rfl
theorem E:type_of% @s:=@s
end ratio_Valid
namespace ratio_clean
abbrev q0:=[1,2]
abbrev r0:List G:=[e 1 (.box true 10 (t 0)),e 2 (.new zR)]
abbrev q1:=[1,2,5]
abbrev r1:List G:=[L 3 10 1,K1 4 186 3,e 5 (.un .not (t 4))]
abbrev r2:List G:=[e 6 (.call false 180 [(i 0)]),V 10 2 6]
abbrev r3:List G:=[L 7 10 1,V 10 2 7]
abbrev c:MC:=sq [g r0 q0,sq [g r1 q1,ci 5 (sq [g r2 [2],.ret]) .skip],g r3 [2],.ret]
theorem ok:compF Tryz.prog Tryz.f168 (an (rg 4) c []) = some (8,c,[(2,some (true,10))]):=by kernel_rfl
abbrev p1:=P C r3 [2] R
abbrev p3:=P C r2 [2] R
abbrev p2:=cd (t 5) (p3 C R) (p1 C R)
abbrev p4:=P C r1 q1 (p2 C R)
abbrev p5:=P C r0 q0 (p4 C R)
theorem s (S:St):X C c (retK R) S = p5 C R S:=by kernel_rfl
theorem E:type_of% @s:=@s
end ratio_clean
namespace ratio_divisor
abbrev q0:=[2,3,4]
abbrev r0:List G:=[e 2 (.box true 5 (t 0)),e 3 (.box true 5 (t 1)),e 4 (.new zW)]
abbrev r1:List G:=[a 8 0 2,z (.st false 1 (t 8) bf),a 9 0 3,z (.st false 1 (t 9) bf)]
abbrev q1:=[2,3,4,12]
abbrev r2:List G:=[L 10 5 3,K1 11 140 10,bi 12 .neq 11 0]
abbrev q2:=[2,3,4,6]
abbrev r3:List G:=[L 14 5 2,L 15 5 3,K2 16 171 14 15,m 13 16,x 17 13 0,x 18 13 1,x 19 13 2,e 5 (.new zW),e 6 (.new zW),V 5 5 17,V 5 6 18,m 7 19]
abbrev o4:List (List G):=[[L 20 5 3,L 21 5 6,V 5 2 20,V 5 3 21],[L 20 5 3,V 5 2 20,L 21 5 6,V 5 3 21],[L 21 5 6,L 20 5 3,V 5 2 20,V 5 3 21]]
abbrev r5:List G:=[L 22 5 2,V 5 4 22]
abbrev c:MC:=sq [g r0 q0,g r1 q0,.block 0 (.loop (sq [sq [g r2 q1,ci 12 .skip (.exit 0)],.block 1 (sq [g r3 q2,ga [] o4 q0])])),g r5 [4],.ret]
theorem ok:compF Tryz.prog Tryz.f191 (an (rg 6) c [(4,99999,[],[],[])]) = some (23,c,[(4,some (true,5))]):=by kernel_rfl
abbrev p1:=P C r5 [4] R
abbrev p3:=Pa C [] o4 q0 L1
abbrev p4:=P C r3 q2 (p3 C L1)
abbrev p5:=cd (t 12) (p4 C L1) (p1 C R)
abbrev p6:=P C r2 q1 (p5 C R L1)
def p2 (S:St):Prop:=LX C (fun L1=>(p6 C R L1)) S
theorem p2_l (S:St):p2 C R S = LX C (fun L1=>(p6 C R L1)) S:=rfl
abbrev p7:=P C r1 q0 (p2 C R)
abbrev p8:=P C r0 q0 (p7 C R)
theorem s (S:St):X C c (retK R) S = p8 C R S:=by kernel_rfl
theorem E:type_of% @s:=@s
end ratio_divisor
namespace ratio_product
abbrev q0:=[2,3,4]
abbrev r0:List G:=[e 2 (.box true 5 (t 0)),e 3 (.box true 5 (t 1)),e 4 (.new zW)]
abbrev q1:=[4,5]
abbrev r1:List G:=[L 8 5 2,L 9 5 3,K2 10 126 8 9,m 7 10,x 11 7 0,x 12 7 1,e 5 (.new zW),V 5 5 11,m 6 12]
abbrev r2:List G:=[L 13 5 5,V 5 4 13]
abbrev c:MC:=sq [g r0 q0,g r1 q1,g r2 [4],.ret]
theorem ok:compF Tryz.prog Tryz.f169 (an (rg 3) c []) = some (14,c,[(4,some (true,5))]):=by kernel_rfl
abbrev p1:=P C r2 [4] R
abbrev p2:=P C r1 q1 (p1 C R)
abbrev p3:=P C r0 q0 (p2 C R)
theorem s (S:St):X C c (retK R) S = p3 C R S:=by kernel_rfl
theorem E:type_of% @s:=@s
end ratio_product
namespace ratio_small
abbrev r0:List G:=[e 1 (.box true 5 (t 0)),Mb 2 false]
abbrev r1:List G:=[a 3 1 1,e 4 (.ia 4 1 (t 3) (i 3)),l 5 4,bu 6 .eql 5 0,m 7 6,ya 8 7 1 1,y 9 7 (.ia 4 1 (t 8) (i 2)),yl 10 7 9,y 11 7 (.bin .eql (t 10) (u 0)),w 12 7 11,m 13 12,ya 14 13 1 1,y 15 13 (.ia 4 1 (t 14) (i 1)),yl 16 13 15,y 17 13 (.bin .shr (t 16) (u 63)),y 18 13 (.bin .eql (t 17) (u 0)),w 19 13 18,m 2 19]
abbrev c:MC:=sq [g r0 [1],g r1 [2],.ret]
theorem ok:compF Tryz.prog Tryz.f192 (an (rg 2) c []) = some (20,c,[(2,none)]):=by kernel_rfl
abbrev p1:=P C r1 [2] R
abbrev p2:=P C r0 [1] (p1 C R)
theorem s (S:St):X C c (retK R) S = p2 C R S:=by kernel_rfl
theorem E:type_of% @s:=@s
end ratio_small
end Go.Proofs.YtncmmbacoknefaaGreat

/- Qa: What calls of the program's ratio give. -/
namespace Go.Proofs.YtncmmbacoknefaaGreat
open Go Go.RowKit Sx
set_option linter.unusedVariables false
set_option linter.unusedSimpArgs false
theorem small_plain {m:Int} (h:A4 m):m < ((2 ^ 127:Nat):Int)↔lb3 m = 0∧lb2 m = 0∧(lb1 m).fdiv 9223372036854775808 = 0:=by
 have e:=mv_me h
 have h0:=lb0_in m
 have h1:=lb1_in m
 have h2:=lb2_in m
 have h3:=lb3_in m
 rw [Int.fdiv_eq_ediv_of_nonneg _ (by decide)]
 rw [show ((2 ^ 127:Nat):Int) = 170141183460469231731687303715884105728 by decide]
 unfold MV at e
 unfold U64 at *
 generalize lb0 m = a at *
 generalize lb1 m = b at *
 generalize lb2 m = c at *
 generalize lb3 m = d at *
 clear h
 omega
theorem gx_small {z:Int} (h:Fits z) (W:World):Gives Tryz.prog 192 [WX z] W (· = .bool (decide (ab z < ((2 ^ 127:Nat):Int)))):=by
 have e:=small_plain (m:=ab z) ⟨ab_nonneg z,(fits_lt z).1 h⟩
 have hb:=lb1_in (ab z)
 have sh:∀ a:Int,Int.fdiv a (2 ^ 63) = a.fdiv 9223372036854775808:=fun a=>rfl
 refine gives_known en_ratio_small ?_
 rw [show decide (ab z < ((2 ^ 127:Nat):Int)) = (decide (lb3 (ab z) = 0) && (decide (lb2 (ab z) = 0) && decide ((lb1 (ab z)).fdiv 9223372036854775808 = 0))) by rw [Bool.eq_iff_iff,decide_eq_true_iff,e]; simp]
 clear e h
 refine known_of (enter Tryz.func192 ratio_small.ok (args:=[WX z]) (by simp) ?_)
 repeat' (first | simp (disch:=omega) only [sxE,ratio_small.E,Nat.reduceAdd,Nat.reduceEqDiff,Nat.reduceMul,Nat.reduceSub,Int.reduceAdd,Int.reduceSub,Int.reduceMul,Int.reduceNeg,Int.reduceLT,Int.reduceLE,Int.reduceEq,Int.reduceToNat,↓reduceIte,Int.reducePow,Nat.reduceLeDiff,Nat.reduceLT,ne_eq,eq_self,List.length_cons,List.length_nil,qxE] | ((with_reducible first | apply cond_beq | apply gd_beq) <;> (intro hc; first | simp only [beq_iff_eq.2 hc] | simp only [beq_eq_false_iff_ne.2 hc] | skip)) | ((with_reducible first | apply cond_dec | apply gd_dec) <;> (intro hc; first | simp only [decide_eq_true hc] | simp only [decide_eq_false hc] | skip)) | ((with_reducible first | apply cond_of | apply gd_of) <;> (intro hc; try simp only [hc])) | (with_reducible refine cregF ?_))
 all_goals (refine vb ?_; rw [Bool.eq_iff_iff]; simp_all)
def gcF (x:Int × Int):St:=⟨3,[(2,.p 0 0),(3,.p 1 0),(4,.p 2 0)],[(0,wc x.1),(1,wc x.2),(2,[.bool false,.int .u64 0,.int .u64 0,.int .u64 0,.int .u64 0])],ext0⟩
set_option maxRecDepth 100000 in
theorem gx_divisor {z y:Int} (h:Fits z) (h':Fits y) (W:World):Gives Tryz.prog 191 [WX z,WX y] W (· = WX (gc z y)):=by
 refine gives_known en_ratio_divisor ?_
 rw [← gc_abs]
 have f1:Fits (ab z):=fits_le h (by rw [ab_ab]; exact Int.le_refl _)
 have f2:Fits (ab y):=fits_le h' (by rw [ab_ab]; exact Int.le_refl _)
 have n1:=ab_nonneg z
 have n2:=ab_nonneg y
 have g1:=sgx_ab z
 have g2:=sgx_ab y
 have a1:=ab_ab z
 have a2:=ab_ab y
 clear h h'
 refine known_of (enter Tryz.func191 ratio_divisor.ok (args:=[WX z,WX y]) (by simp) ?_)
 repeat' (first | simp (disch:=omega) only [sxE,ratio_divisor.E,Nat.reduceAdd,Nat.reduceEqDiff,Nat.reduceMul,Nat.reduceSub,Int.reduceAdd,Int.reduceSub,Int.reduceMul,Int.reduceNeg,Int.reduceLT,Int.reduceLE,Int.reduceEq,Int.reduceToNat,↓reduceIte,Int.reducePow,Nat.reduceLeDiff,Nat.reduceLT,ne_eq,eq_self,List.length_cons,List.length_nil,qxE] | (with_reducible refine cregF ?_))
 rw [ratio_divisor.p2_l]
 refine LX_inv gcF (fun x=>0≤x.1∧0≤x.2∧Fits x.1∧Fits x.2∧gc x.1 x.2 = gc (ab z) (ab y)) (fun x=>x.2.toNat) ?round (ab z,ab y) ⟨n1,n2,f1,f2,rfl⟩ ?start
 case start =>
  unfold gcF wc
  dsimp only
  rw [g1,g2,a1,a2]
  simp (disch:=omega) only [sxE,ratio_divisor.E,Nat.reduceAdd,Nat.reduceEqDiff,Nat.reduceMul,Nat.reduceSub,Int.reduceAdd,Int.reduceSub,Int.reduceMul,Int.reduceNeg,Int.reduceLT,Int.reduceLE,Int.reduceEq,Int.reduceToNat,↓reduceIte,Int.reducePow,Nat.reduceLeDiff,Nat.reduceLT,ne_eq,eq_self,List.length_cons,List.length_nil]
 case round =>
  rintro ⟨x,w⟩ ⟨h1,h2,h3,h4,h5⟩
  dsimp only at h1 h2 h3 h4 h5 ⊢
  rw [← h5]
  clear h5 f1 f2 n1 n2 g1 g2 a1 a2
  have hcm:=cm_zero w
  unfold gcF wc
  dsimp only
  by_cases hw:w = 0
  ·subst hw
   rw [gc_zero x h1]
   have hc0:cm 0 0 = 0:=rfl
   repeat' (first | simp (disch:=omega) only [sxE,ratio_divisor.E,Nat.reduceAdd,Nat.reduceEqDiff,Nat.reduceMul,Nat.reduceSub,Int.reduceAdd,Int.reduceSub,Int.reduceMul,Int.reduceNeg,Int.reduceLT,Int.reduceLE,Int.reduceEq,Int.reduceToNat,↓reduceIte,Int.reducePow,Nat.reduceLeDiff,Nat.reduceLT,ne_eq,eq_self,List.length_cons,List.length_nil,qxE,hc0] | (with_reducible refine Sx.call_at (f:=140) (fun W hW=>gx_sign h4 W) ?_) | (with_reducible refine cregF ?_))
  ·have hc0:cm w 0≠0:=by rw [hcm]; (repeat' split) <;> omega
   have hq:=fits_emod (z:=x) h4 hw
   have hm0:=Int.emod_nonneg x hw
   have hm1:=Int.emod_lt_of_pos x (show 0 < w by omega)
   have hgs:=gc_step h1 (show 0 < w by omega)
   clear hcm
   repeat' (first | simp (disch:=omega) only [sxE,ratio_divisor.E,Nat.reduceAdd,Nat.reduceEqDiff,Nat.reduceMul,Nat.reduceSub,Int.reduceAdd,Int.reduceSub,Int.reduceMul,Int.reduceNeg,Int.reduceLT,Int.reduceLE,Int.reduceEq,Int.reduceToNat,↓reduceIte,Int.reducePow,Nat.reduceLeDiff,Nat.reduceLT,ne_eq,eq_self,List.length_cons,List.length_nil,qxE] | (with_reducible refine Sx.call_at (f:=140) (fun W hW=>gx_sign h4 W) ?_) | (with_reducible refine Sx.call_at (f:=171) (fun W hW=>gx_divmod h3 h4 hw W) ?_) | (with_reducible refine cregF ?_))
   exact ⟨(w,x % w),⟨h2,hm0,h4,hq,hgs⟩,by dsimp only; omega,by repeat' (first | (with_reducible rfl) | (exact Or.inl rfl) | apply And.intro)⟩
theorem gc_le_ab (x y:Int):gc x y≤ab x∨gc x y≤ab y:=by
 by_cases h:y = 0
 ·left; subst h; rw [← gc_abs]; rw [show ab 0 = 0 from rfl,gc_zero _ (ab_nonneg x)]; exact Int.le_refl _
 ·right
  rw [← gc_abs]
  exact gc_le (by have:=ab_nonneg y; have:=ab_zero_iff (z:=y); omega)
theorem fits_gc {x y:Int} (h:Fits x) (h':Fits y):Fits (gc x y):=by
 rcases gc_le_ab x y with e | e
 ·exact fits_le h (by rw [ab_pos (gc_nonneg x y)]; exact e)
 ·exact fits_le h' (by rw [ab_pos (gc_nonneg x y)]; exact e)
theorem fits_one:Fits 1:=rfl
theorem cm_pos (z:Int):0 < cm z 0↔0 < z:=by rw [cm_zero]; (repeat' split) <;> omega
theorem i64_one:I64 1:=⟨by decide,by decide⟩
set_option maxRecDepth 100000 in
theorem gx_rvalid {p q:Int} (h:Fits p) (h':Fits q) (W:World):Gives Tryz.prog 186 [RX p q] W (· = .bool (rok true p q)):=by
 have hg:=fits_gc h h'
 refine gives_known en_ratio_Valid ?_
 have hcm:=cm_pos q
 refine known_of (enter Tryz.func186 ratio_Valid.ok (args:=[RX p q]) (by simp) ?_)
 repeat' (first | simp (disch:=omega) only [sxE,ratio_Valid.E,Nat.reduceAdd,Nat.reduceEqDiff,Nat.reduceMul,Nat.reduceSub,Int.reduceAdd,Int.reduceSub,Int.reduceMul,Int.reduceNeg,Int.reduceLT,Int.reduceLE,Int.reduceEq,Int.reduceToNat,↓reduceIte,Int.reducePow,Nat.reduceLeDiff,Nat.reduceLT,ne_eq,eq_self,List.length_cons,List.length_nil,qxE] | (with_reducible refine Sx.call_at (f:=176) (fun W hW=>gx_valid h W) ?_) | (with_reducible refine Sx.call_at (f:=176) (fun W hW=>gx_valid h' W) ?_) | (with_reducible refine Sx.call_at (f:=140) (fun W hW=>gx_sign h' W) ?_) | (with_reducible refine Sx.call_at (f:=192) (fun W hW=>gx_small h W) ?_) | (with_reducible refine Sx.call_at (f:=192) (fun W hW=>gx_small h' W) ?_) | (with_reducible refine Sx.call_at (f:=191) (fun W hW=>gx_divisor h h' W) ?_) | (with_reducible refine Sx.call_at (f:=81) (fun W hW=>gx_of i64_one W) ?_) | ((with_reducible apply Sx.eq_is); (case h=>exact fun W=>eqx_run hg fits_one W); (case' hk=>skip)) | ((with_reducible first | apply cond_beq | apply gd_beq) <;> (intro hc; first | simp only [beq_iff_eq.2 hc] | simp only [beq_eq_false_iff_ne.2 hc] | skip)) | ((with_reducible first | apply cond_dec | apply gd_dec) <;> (intro hc; first | simp only [decide_eq_true hc] | simp only [decide_eq_false hc] | skip)) | ((with_reducible first | apply cond_of | apply gd_of) <;> (intro hc; try simp only [hc])) | (with_reducible refine cregF ?_))
 all_goals (refine vb ?_; unfold rok; rw [Bool.eq_iff_iff]; simp_all <;> (intros; omega))
def BadR (v:Value):Prop:=(∃ q,Fits q∧v = .agg #[.bool true,.int .u64 0,.int .u64 0,.int .u64 0,.int .u64 0,.bool (sg q),.int .u64 (lb0 (ab q)),.int .u64 (lb1 (ab q)),.int .u64 (lb2 (ab q)),.int .u64 (lb3 (ab q))]) ∨
 (∃ p,Fits p∧v = .agg #[.bool (sg p),.int .u64 (lb0 (ab p)),.int .u64 (lb1 (ab p)),.int .u64 (lb2 (ab p)),.int .u64 (lb3 (ab p)),.bool true,.int .u64 0,.int .u64 0,.int .u64 0,.int .u64 0]) ∨
 v = .agg #[.bool true,.int .u64 0,.int .u64 0,.int .u64 0,.int .u64 0,.bool true,.int .u64 0,.int .u64 0,.int .u64 0,.int .u64 0]
theorem gx_rvalid0 {v:Value} (h:BadR v) (W:World):Gives Tryz.prog 186 [v] W (· = .bool false):=by
 refine gives_known en_ratio_Valid ?_
 rcases h with ⟨q,h,rfl⟩ | ⟨p,h,rfl⟩ | rfl
 ·refine known_of (enter Tryz.func186 ratio_Valid.ok (args:=[_]) (by simp) ?_)
  repeat' (first | simp (disch:=omega) only [sxE,ratio_Valid.E,Nat.reduceAdd,Nat.reduceEqDiff,Nat.reduceMul,Nat.reduceSub,Int.reduceAdd,Int.reduceSub,Int.reduceMul,Int.reduceNeg,Int.reduceLT,Int.reduceLE,Int.reduceEq,Int.reduceToNat,↓reduceIte,Int.reducePow,Nat.reduceLeDiff,Nat.reduceLT,ne_eq,eq_self,List.length_cons,List.length_nil,qxE] | (with_reducible refine Sx.call_at (f:=176) (fun W hW=>gx_valid0 W) ?_) | (with_reducible refine cregF ?_))
 ·refine known_of (enter Tryz.func186 ratio_Valid.ok (args:=[_]) (by simp) ?_)
  repeat' (first | simp (disch:=omega) only [sxE,ratio_Valid.E,Nat.reduceAdd,Nat.reduceEqDiff,Nat.reduceMul,Nat.reduceSub,Int.reduceAdd,Int.reduceSub,Int.reduceMul,Int.reduceNeg,Int.reduceLT,Int.reduceLE,Int.reduceEq,Int.reduceToNat,↓reduceIte,Int.reducePow,Nat.reduceLeDiff,Nat.reduceLT,ne_eq,eq_self,List.length_cons,List.length_nil,qxE] | (with_reducible refine Sx.call_at (f:=176) (fun W hW=>gx_valid h W) ?_) | (with_reducible refine Sx.call_at (f:=176) (fun W hW=>gx_valid0 W) ?_) | (with_reducible refine cregF ?_))
 ·refine known_of (enter Tryz.func186 ratio_Valid.ok (args:=[_]) (by simp) ?_)
  repeat' (first | simp (disch:=omega) only [sxE,ratio_Valid.E,Nat.reduceAdd,Nat.reduceEqDiff,Nat.reduceMul,Nat.reduceSub,Int.reduceAdd,Int.reduceSub,Int.reduceMul,Int.reduceNeg,Int.reduceLT,Int.reduceLE,Int.reduceEq,Int.reduceToNat,↓reduceIte,Int.reducePow,Nat.reduceLeDiff,Nat.reduceLT,ne_eq,eq_self,List.length_cons,List.length_nil,qxE] | (with_reducible refine Sx.call_at (f:=176) (fun W hW=>gx_valid0 W) ?_) | (with_reducible refine cregF ?_))
theorem gx_rof {z:Int} (h:I64 z) (W:World):Gives Tryz.prog 180 [.int .i64 z] W (· = RX z 1):=by
 refine gives_known en_ratio_Of ?_
 refine known_of (enter Tryz.func180 ratio_Of.ok (args:=[_]) (by simp) ?_)
 repeat' (first | simp (disch:=omega) only [sxE,ratio_Of.E,Nat.reduceAdd,Nat.reduceEqDiff,Nat.reduceMul,Nat.reduceSub,Int.reduceAdd,Int.reduceSub,Int.reduceMul,Int.reduceNeg,Int.reduceLT,Int.reduceLE,Int.reduceEq,Int.reduceToNat,↓reduceIte,Int.reducePow,Nat.reduceLeDiff,Nat.reduceLT,ne_eq,eq_self,List.length_cons,List.length_nil,qxE] | (with_reducible refine Sx.call_at (f:=81) (fun W hW=>gx_of h W) ?_) | (with_reducible refine Sx.call_at (f:=81) (fun W hW=>gx_of i64_one W) ?_) | (with_reducible refine cregF ?_))
def CQ (v:Value) (p q:Int):Prop:=(∃ x y,Fits x∧Fits y∧v = RX x y∧p = qn true x y∧q = qd true x y)∨(BadR v∧p = 0∧q = 1)
theorem CQ.fq {v:Value} {p q:Int} (h:CQ v p q):Fq p q:=by
 rcases h with ⟨x,y,-,-,-,rfl,rfl⟩ | ⟨-,rfl,rfl⟩
 ·exact fq_clean _ _ _
 ·exact fq_zero
theorem Fq.cq {p q:Int} (h:Fq p q):CQ (RX p q) p q:=by
 have:rok true p q = true:=rok_iff.2 ⟨rfl,h⟩
 exact .inl ⟨p,q,h.fp,h.fq,rfl,by unfold qn; rw [this]; rfl,by unfold qd; rw [this]; rfl⟩
set_option maxRecDepth 100000 in
theorem gx_rclean {v:Value} {p q:Int} (h:CQ v p q) (W:World):Gives Tryz.prog 168 [v] W (· = RX p q):=by
 refine gives_known en_ratio_clean ?_
 rcases h with ⟨x,y,h1,h2,rfl,rfl,rfl⟩ | ⟨h,rfl,rfl⟩
 ·unfold qn qd
  cases hk:rok true x y
  ·refine known_of (enter Tryz.func168 ratio_clean.ok (args:=[_]) (by simp) ?_)
   repeat' (first | simp (disch:=omega) only [sxE,ratio_clean.E,Nat.reduceAdd,Nat.reduceEqDiff,Nat.reduceMul,Nat.reduceSub,Int.reduceAdd,Int.reduceSub,Int.reduceMul,Int.reduceNeg,Int.reduceLT,Int.reduceLE,Int.reduceEq,Int.reduceToNat,↓reduceIte,Int.reducePow,Nat.reduceLeDiff,Nat.reduceLT,ne_eq,eq_self,List.length_cons,List.length_nil,qxE,hk] | (with_reducible refine Sx.call_at (f:=186) (fun W hW=>gx_rvalid h1 h2 W) ?_) | (with_reducible refine Sx.call_at (f:=180) (fun W hW=>gx_rof i64_zero W) ?_) | (with_reducible refine cregF ?_))
  ·refine known_of (enter Tryz.func168 ratio_clean.ok (args:=[_]) (by simp) ?_)
   repeat' (first | simp (disch:=omega) only [sxE,ratio_clean.E,Nat.reduceAdd,Nat.reduceEqDiff,Nat.reduceMul,Nat.reduceSub,Int.reduceAdd,Int.reduceSub,Int.reduceMul,Int.reduceNeg,Int.reduceLT,Int.reduceLE,Int.reduceEq,Int.reduceToNat,↓reduceIte,Int.reducePow,Nat.reduceLeDiff,Nat.reduceLT,ne_eq,eq_self,List.length_cons,List.length_nil,qxE,hk] | (with_reducible refine Sx.call_at (f:=186) (fun W hW=>gx_rvalid h1 h2 W) ?_) | (with_reducible refine Sx.call_at (f:=180) (fun W hW=>gx_rof i64_zero W) ?_) | (with_reducible refine cregF ?_))
 ·have hv:=fun W=>gx_rvalid0 h W
  rcases h with ⟨q,h,rfl⟩ | ⟨p,h,rfl⟩ | rfl
  ·refine known_of (enter Tryz.func168 ratio_clean.ok (args:=[_]) (by simp) ?_)
   repeat' (first | simp (disch:=omega) only [sxE,ratio_clean.E,Nat.reduceAdd,Nat.reduceEqDiff,Nat.reduceMul,Nat.reduceSub,Int.reduceAdd,Int.reduceSub,Int.reduceMul,Int.reduceNeg,Int.reduceLT,Int.reduceLE,Int.reduceEq,Int.reduceToNat,↓reduceIte,Int.reducePow,Nat.reduceLeDiff,Nat.reduceLT,ne_eq,eq_self,List.length_cons,List.length_nil,qxE] | (with_reducible refine Sx.call_at (f:=186) (fun W hW=>hv W) ?_) | (with_reducible refine Sx.call_at (f:=180) (fun W hW=>gx_rof i64_zero W) ?_) | (with_reducible refine cregF ?_))
  ·refine known_of (enter Tryz.func168 ratio_clean.ok (args:=[_]) (by simp) ?_)
   repeat' (first | simp (disch:=omega) only [sxE,ratio_clean.E,Nat.reduceAdd,Nat.reduceEqDiff,Nat.reduceMul,Nat.reduceSub,Int.reduceAdd,Int.reduceSub,Int.reduceMul,Int.reduceNeg,Int.reduceLT,Int.reduceLE,Int.reduceEq,Int.reduceToNat,↓reduceIte,Int.reducePow,Nat.reduceLeDiff,Nat.reduceLT,ne_eq,eq_self,List.length_cons,List.length_nil,qxE] | (with_reducible refine Sx.call_at (f:=186) (fun W hW=>hv W) ?_) | (with_reducible refine Sx.call_at (f:=180) (fun W hW=>gx_rof i64_zero W) ?_) | (with_reducible refine cregF ?_))
  ·refine known_of (enter Tryz.func168 ratio_clean.ok (args:=[_]) (by simp) ?_)
   repeat' (first | simp (disch:=omega) only [sxE,ratio_clean.E,Nat.reduceAdd,Nat.reduceEqDiff,Nat.reduceMul,Nat.reduceSub,Int.reduceAdd,Int.reduceSub,Int.reduceMul,Int.reduceNeg,Int.reduceLT,Int.reduceLE,Int.reduceEq,Int.reduceToNat,↓reduceIte,Int.reducePow,Nat.reduceLeDiff,Nat.reduceLT,ne_eq,eq_self,List.length_cons,List.length_nil,qxE] | (with_reducible refine Sx.call_at (f:=186) (fun W hW=>hv W) ?_) | (with_reducible refine Sx.call_at (f:=180) (fun W hW=>gx_rof i64_zero W) ?_) | (with_reducible refine cregF ?_))
end Go.Proofs.YtncmmbacoknefaaGreat

/- Ql: Plain laws of fractions. -/
namespace Go.Proofs.YtncmmbacoknefaaGreat
set_option linter.unusedVariables false
set_option linter.unusedSimpArgs false
theorem km_le (x y:Int):cm x y≤0↔x≤y:=by unfold cm; (repeat' split) <;> omega
theorem km_gt (x y:Int):0 < cm x y↔y < x:=by unfold cm; (repeat' split) <;> omega
theorem km_lt (x y:Int):cm x y < 0↔x < y:=by unfold cm; (repeat' split) <;> omega
theorem km_ge0 (x y:Int):0≤cm x y↔y≤x:=by unfold cm; (repeat' split) <;> omega
def cq (p q p' q':Int):Int:=cm (p * q') (p' * q)
theorem mul_le_cancel {a x y:Int} (ha:0 < a) (h:a * x≤a * y):x≤y:=Int.le_of_mul_le_mul_left h ha
def atq (p q n:Int):Int:=(2 * (p * n) + q) / (2 * q)
theorem fl_le {x y:Int} (hy:0 < y):x / y * y≤x∧x < x / y * y + y:=by
 have h1:=Int.mul_ediv_add_emod x y
 have h2:=Int.emod_nonneg x (Int.ne_of_gt hy)
 have h3:=Int.emod_lt_of_pos x hy
 rw [Int.mul_comm] at h1
 omega
theorem le_fl {x y z:Int} (hy:0 < y) (h:z * y≤x):z≤x / y:=(Int.le_ediv_iff_mul_le hy).2 h
end Go.Proofs.YtncmmbacoknefaaGreat

/- Qb: What calls of the program's ratio give: Compare, Floor, Ceil, At, Make. -/
namespace Go.Proofs.YtncmmbacoknefaaGreat
open Go Go.RowKit Sx
set_option linter.unusedVariables false
set_option linter.unusedSimpArgs false
theorem CQ.ten {v:Value} {p q:Int} (h:CQ v p q):∃ c0 c1 c2 c3 c4 c5 c6 c7 c8 c9,v = .agg #[c0,c1,c2,c3,c4,c5,c6,c7,c8,c9]:=by
 rcases h with ⟨x,y,-,-,rfl,-,-⟩ | ⟨⟨q,-,rfl⟩ | ⟨p,-,rfl⟩ | rfl,-,-⟩ <;> exact ⟨_,_,_,_,_,_,_,_,_,_,rfl⟩
theorem gx_product {x y:Int} (h:Fits x) (h':Fits y) (hf:Fits (x * y)) (W:World):Gives Tryz.prog 169 [WX x,WX y] W (· = WX (x * y)):=by
 refine gives_known en_ratio_product ?_
 refine known_of (enter Tryz.func169 ratio_product.ok (args:=[_,_]) (by simp) ?_)
 repeat' (first | simp (disch:=omega) only [sxE,ratio_product.E,Nat.reduceAdd,Nat.reduceEqDiff,Nat.reduceMul,Nat.reduceSub,Int.reduceAdd,Int.reduceSub,Int.reduceMul,Int.reduceNeg,Int.reduceLT,Int.reduceLE,Int.reduceEq,Int.reduceToNat,↓reduceIte,Int.reducePow,Nat.reduceLeDiff,Nat.reduceLT,ne_eq,eq_self,List.length_cons,List.length_nil,qxE] | (with_reducible refine Sx.call_at (f:=126) (fun W hW=>gx_mul h h' hf W) ?_) | (with_reducible refine cregF ?_))
theorem Fq.fm {p q p' q':Int} (h:Fq p q) (h':Fq p' q'):Fits (p * q'):=(bd_mul h.bp h'.bq).fits
theorem gx_rcompare {v v':Value} {p q p' q':Int} (h:CQ v p q) (h':CQ v' p' q') (W:World):Gives Tryz.prog 179 [v,v'] W (· = .int .i64 (cq p q p' q')):=by
 obtain ⟨c0,c1,c2,c3,c4,c5,c6,c7,c8,c9,rfl⟩:=h.ten
 obtain ⟨d0,d1,d2,d3,d4,d5,d6,d7,d8,d9,rfl⟩:=h'.ten
 have f:=h.fq
 have f':=h'.fq
 have m1:=f.fm f'
 have m2:=f'.fm f
 refine gives_known en_ratio_Compare ?_
 refine known_of (enter Tryz.func179 ratio_Compare.ok (args:=[_,_]) (by simp) ?_)
 repeat' (first | simp (disch:=omega) only [sxE,ratio_Compare.E,Nat.reduceAdd,Nat.reduceEqDiff,Nat.reduceMul,Nat.reduceSub,Int.reduceAdd,Int.reduceSub,Int.reduceMul,Int.reduceNeg,Int.reduceLT,Int.reduceLE,Int.reduceEq,Int.reduceToNat,↓reduceIte,Int.reducePow,Nat.reduceLeDiff,Nat.reduceLT,ne_eq,eq_self,List.length_cons,List.length_nil,qxE] | (with_reducible refine Sx.call_at (f:=168) (fun W hW=>gx_rclean h W) ?_) | (with_reducible refine Sx.call_at (f:=168) (fun W hW=>gx_rclean h' W) ?_) | (with_reducible refine Sx.call_at (f:=169) (fun W hW=>gx_product f.fp f'.fq m1 W) ?_) | (with_reducible refine Sx.call_at (f:=169) (fun W hW=>gx_product f'.fp f.fq m2 W) ?_) | (with_reducible refine Sx.call_at (f:=193) (fun W hW=>gx_compare m1 m2 W) ?_) | (with_reducible refine cregF ?_))
 rfl
theorem Fq.neg {p q:Int} (h:Fq p q):Fq (-p) q:=⟨h.pos,bd_neg h.bp,h.bq,by rw [gc_neg]; exact h.gc⟩
theorem bd_two:Bd 2 2:=by unfold Bd; decide
theorem gx_rat {v:Value} {p q n:Int} (h:CQ v p q) (hn:U64 n) (W:World):Gives Tryz.prog 138 [v,.int .u64 n] W (· = WX (atq p q n)):=by
 obtain ⟨c0,c1,c2,c3,c4,c5,c6,c7,c8,c9,rfl⟩:=h.ten
 have f:=h.fq
 have b1:=bd_mul f.bp (bd_u64 hn)
 have b2:=bd_mul bd_two b1
 have b3:=bd_add (c:=194) b2 f.bq (by decide) (by decide)
 have b4:=bd_mul bd_two f.bq
 have f1:=b1.fits
 have f2:=b2.fits
 have f3:=b3.fits
 have f4:=b4.fits
 have fn:=(bd_u64 hn).fits
 have ft:=bd_two.fits
 have i2:I64 2:=⟨by decide,by decide⟩
 have ne:2 * q≠0:=by have:=f.pos; omega
 clear b1 b2 b3 b4
 refine gives_known en_ratio_At ?_
 refine known_of (enter Tryz.func138 ratio_At.ok (args:=[_,_]) (by simp) ?_)
 repeat' (first | simp (disch:=omega) only [sxE,ratio_At.E,Nat.reduceAdd,Nat.reduceEqDiff,Nat.reduceMul,Nat.reduceSub,Int.reduceAdd,Int.reduceSub,Int.reduceMul,Int.reduceNeg,Int.reduceLT,Int.reduceLE,Int.reduceEq,Int.reduceToNat,↓reduceIte,Int.reducePow,Nat.reduceLeDiff,Nat.reduceLT,ne_eq,eq_self,List.length_cons,List.length_nil,qxE] | (with_reducible refine Sx.call_at (f:=168) (fun W hW=>gx_rclean h W) ?_) | (with_reducible refine Sx.call_at (f:=81) (fun W hW=>gx_of i2 W) ?_) | (with_reducible refine Sx.call_at (f:=170) (fun W hW=>gx_ofU hn W) ?_) | (with_reducible refine Sx.call_at (f:=169) (fun W hW=>gx_product f.fp fn f1 W) ?_) | (with_reducible refine Sx.call_at (f:=169) (fun W hW=>gx_product ft f1 f2 W) ?_) | (with_reducible refine Sx.call_at (f:=169) (fun W hW=>gx_product ft f.fq f4 W) ?_) | (with_reducible refine Sx.call_at (f:=137) (fun W hW=>gx_add f2 f.fq f3 W) ?_) | (with_reducible refine Sx.call_at (f:=171) (fun W hW=>gx_divmod f3 f4 ne W) ?_) | (with_reducible refine cregF ?_))
 rfl
def mkV (b:Bool) (z y:Int):Value:=if mok b z y then .tuple #[RX (mn z y) (mD z y),.bool true] else .tuple #[RX 0 0,.bool false]
theorem cm_zero_iff (z:Int):cm z 0 = 0↔z = 0:=by rw [cm_zero]; (repeat' split) <;> omega
theorem fits_neg {z:Int} (h:Fits z):Fits (-z):=fits_le h (by rw [ab_neg]; exact Int.le_refl _)
theorem fits_mn {z y:Int} (h:Fits z) (hy:y≠0):Fits (mn z y):=by
 unfold mn
 split
 ·exact fits_ediv (fits_neg h) (by have:=gc_pos (x:=z) hy; omega)
 ·exact fits_ediv h (by have:=gc_pos (x:=z) hy; omega)
theorem fits_ab {z:Int} (h:Fits z):Fits (ab z):=fits_le h (by rw [ab_ab]; exact Int.le_refl _)
theorem fits_mD {z y:Int} (h:Fits y) (hy:y≠0):Fits (mD z y):=fits_ediv (fits_ab h) (by have:=gc_pos (x:=z) hy; omega)
end Go.Proofs.YtncmmbacoknefaaGreat

/- CdX: MADE BY PROGRAM (sxgen.py): the small code of some functions, points of it and their equations. -/
namespace Go.Proofs.YtncmmbacoknefaaGreat
open Go Go.RowKit Sx Sx.Q
set_option linter.unusedVariables false
variable (C:Cx) (R L1 L2 L3 L4:St→Prop)
namespace r03_At
abbrev q0:=[1,2,4]
abbrev r0:List G:=[e 2 (.box true 10 (t 0)),e 4 (.new zW)]
abbrev r1:List G:=[L 12 10 2,K1 13 115 12,V 10 2 13]
abbrev q1:=[2,4,5]
abbrev r2:List G:=[a 15 0 2,L 16 5 15,m 17 1,k1 18 75 17,k2 19 76 16 18,m 14 19,x 20 14 0,x 21 14 1]
abbrev t2:List G:=[e 5 (.new zW),V 5 5 20,m 6 21]
abbrev r3:List G:=[L 23 5 5,L 24 5 5,K2 25 51 23 24,m 22 25,x 26 22 0,x 27 22 1,V 5 5 26]
abbrev r4:List G:=[L 29 5 5,a 30 5 2,L 31 5 30,K2 32 51 29 31,m 28 32,x 33 28 0,x 34 28 1,V 5 5 33]
abbrev q2:=[4,5,7]
abbrev r5:List G:=[a 36 5 2,L 37 5 36,a 38 5 2,L 39 5 38,K2 40 51 37 39,m 35 40,x 41 35 0,x 42 35 1,e 7 (.new zW),V 5 7 41,m 8 42]
abbrev q3:=[4,9]
abbrev r6:List G:=[L 44 5 5,L 45 5 7,K2 46 116 44 45,m 43 46,x 47 43 0,x 48 43 1,x 49 43 2,e 9 (.new zW),e 10 (.new zW),V 5 9 47,V 5 10 48,m 11 49]
abbrev r7:List G:=[L 50 5 9,V 5 4 50]
abbrev c:MC:=sq [g r0 q0,g r1 q0,gd r2 t2 q1,g r3 q1,g r4 q1,g r5 q2,g r6 q3,g r7 [4],.ret]
theorem ok:compF Tryz.prog Tryz.f52 (an (rg 8) c [(2,9,[7],(up 7 ++ [(7,2)]),[8])]) = some (51,c,[(4,some (true,5))]):=by kernel_rfl
abbrev p1:=P C r7 [4] R
abbrev p2:=P C r6 q3 (p1 C R)
abbrev p3:=P C r5 q2 (p2 C R)
abbrev p4:=P C r4 q1 (p3 C R)
abbrev p5:=P C r3 q1 (p4 C R)
abbrev p6:=Pd C r2 t2 q1 (p5 C R)
abbrev p7:=P C r1 q0 (p6 C R)
abbrev p8:=P C r0 q0 (p7 C R)
theorem s (S:St):X C c (retK R) S = p8 C R S:=by kernel_rfl
theorem E:type_of% @s:=@s
end r03_At
namespace r03_Compare
abbrev q0:=[2,3]
abbrev r0:List G:=[e 2 (.box true 10 (t 0)),e 3 (.box true 10 (t 1)),Mi 4 0]
abbrev r1:List G:=[L 9 10 2,k1 10 115 9,L 11 10 3,k1 12 115 11]
abbrev t1:List G:=[V 10 2 10,V 10 3 12]
abbrev q1:=[2,3,5]
abbrev r2:List G:=[a 14 0 2,L 15 5 14,a 16 5 3,L 17 5 16,K2 18 76 15 17,m 13 18,x 19 13 0,x 20 13 1,e 5 (.new zW),V 5 5 19,m 6 20]
abbrev q2:=[5,7]
abbrev r3:List G:=[a 22 0 3,L 23 5 22,a 24 5 2,L 25 5 24,K2 26 76 23 25,m 21 26,x 27 21 0,x 28 21 1,e 7 (.new zW),V 5 7 27,m 8 28]
abbrev r4:List G:=[L 29 5 5,L 30 5 7,K2 31 54 29 30,m 4 31]
abbrev c:MC:=sq [g r0 q0,gd r1 t1 q0,g r2 q1,g r3 q2,g r4 [4],.ret]
theorem ok:compF Tryz.prog Tryz.f99 (an (rg 5) c [(1,4,[],(up 4),[])]) = some (32,c,[(4,none)]):=by kernel_rfl
abbrev p1:=P C r4 [4] R
abbrev p2:=P C r3 q2 (p1 C R)
abbrev p3:=P C r2 q1 (p2 C R)
abbrev p4:=Pd C r1 t1 q0 (p3 C R)
abbrev p5:=P C r0 q0 (p4 C R)
theorem s (S:St):X C c (retK R) S = p5 C R S:=by kernel_rfl
theorem E:type_of% @s:=@s
end r03_Compare
namespace r03_Make
abbrev q0:=[2,3,4]
abbrev r0:List G:=[e 2 (.box true 5 (t 0)),e 3 (.box true 5 (t 1)),e 4 (.new zR),Mb 5 false]
abbrev q1:=[2,3,4,26]
abbrev r1:List G:=[L 14 5 2,K1 15 100 14,e 16 (.un .not (t 15)),m 17 16,n 18 17 (.ld true 5 (t 3)),n 19 17 (.call false 100 [(t 18)]),n 20 17 (.un .not (t 19)),o 21 17 20,m 22 21,n 23 22 (.ld true 5 (t 3)),n 24 22 (.call false 104 [(t 23)]),n 25 22 (.bin .eql (t 24) (i 0)),o 26 22 25]
abbrev q2:=[4,5]
abbrev r2:List G:=[e 27 (.bd zR []),V 10 4 27,Mb 5 false]
abbrev q3:=[2,3,4,6]
abbrev r3:List G:=[L 28 5 2,k1 29 107 28,L 30 5 3,k1 31 107 30,k2 32 106 29 31]
abbrev t3:List G:=[e 6 (.new zW),V 5 6 32]
abbrev q4:=[2,3,4,6,7]
abbrev r4:List G:=[L 34 5 2,k1 35 107 34,L 36 5 6,k2 37 116 35 36,m 33 37,x 38 33 0,x 39 33 1,x 40 33 2]
abbrev t4:List G:=[e 7 (.new zW),e 8 (.new zW),V 5 7 38,V 5 8 39,m 9 40]
abbrev q5:=[2,3,4,7,10]
abbrev r5:List G:=[L 42 5 3,k1 43 107 42,L 44 5 6,k2 45 116 43 44,m 41 45,x 46 41 0,x 47 41 1,x 48 41 2]
abbrev t5:List G:=[e 10 (.new zW),e 11 (.new zW),V 5 10 46,V 5 11 47,m 12 48]
abbrev q6:=[4,7,10,53]
abbrev r6:List G:=[a 49 0 2,l 50 49,a 51 0 3,l 52 51,e 53 (.bq true (t 50) (t 52))]
abbrev q7:=[4,7,10]
abbrev r7:List G:=[L 54 5 7,K1 55 117 54,V 5 7 55]
abbrev q8:=[4,13]
abbrev r8:List G:=[L 56 5 7,L 57 5 10,e 58 (.bd zR [(0,5,(t 56)),(5,5,(t 57))]),e 13 (.new zR),V 10 13 58]
abbrev q9:=[4,13,61]
abbrev r9:List G:=[L 59 10 13,K1 60 49 59,e 61 (.un .not (t 60))]
abbrev r10:List G:=[e 62 (.bd zR []),V 10 4 62,Mb 5 false]
abbrev r11:List G:=[L 63 10 13,V 10 4 63,Mb 5 true]
abbrev c:MC:=sq [g r0 q0,sq [g r1 q1,ci 26 (sq [g r2 q2,.ret]) .skip],gd r3 t3 q3,gd r4 t4 q4,gd r5 t5 q5,sq [g r6 q6,ci 53 (g r7 q7) .skip],g r8 q8,sq [g r9 q9,ci 61 (sq [g r10 q2,.ret]) .skip],g r11 q2,.ret]
theorem ok:compF Tryz.prog Tryz.f77 (an (rg 12) c [(3,6,[],(up 5),[5]),(4,10,[6,7],(up 6 ++ [(6,2),(7,2)]),[8,9]),(5,10,[6,7],(up 6 ++ [(6,2),(7,2)]),[8,9])]) = some (64,c,[(4,some (true,10)),(5,none)]):=by kernel_rfl
abbrev p1:=P C r11 q2 R
abbrev p3:=P C r10 q2 R
abbrev p2:=cd (t 61) (p3 C R) (p1 C R)
abbrev p4:=P C r9 q9 (p2 C R)
abbrev p5:=P C r8 q8 (p4 C R)
abbrev p7:=P C r7 q7 (p5 C R)
abbrev p6:=cd (t 53) (p7 C R) (p5 C R)
abbrev p8:=P C r6 q6 (p6 C R)
abbrev p9:=Pd C r5 t5 q5 (p8 C R)
abbrev p10:=Pd C r4 t4 q4 (p9 C R)
abbrev p11:=Pd C r3 t3 q3 (p10 C R)
abbrev p13:=P C r2 q2 R
abbrev p12:=cd (t 26) (p13 C R) (p11 C R)
abbrev p14:=P C r1 q1 (p12 C R)
abbrev p15:=P C r0 q0 (p14 C R)
theorem s (S:St):X C c (retK R) S = p15 C R S:=by kernel_rfl
theorem E:type_of% @s:=@s
end r03_Make
namespace r03_Of
abbrev q0:=[0,2]
abbrev r0:List G:=[e 2 (.new zR)]
abbrev r1:List G:=[m 3 0,K1 4 50 3,K0 5 108,e 6 (.bd zR [(0,5,(t 4)),(5,5,(t 5))]),V 10 2 6]
abbrev c:MC:=sq [g r0 q0,g r1 [2],.ret]
theorem ok:compF Tryz.prog Tryz.f78 (an (rg 2) c []) = some (7,c,[(2,some (true,10))]):=by kernel_rfl
abbrev p1:=P C r1 [2] R
abbrev p2:=P C r0 q0 (p1 C R)
theorem s (S:St):X C c (retK R) S = p2 C R S:=by kernel_rfl
theorem E:type_of% @s:=@s
end r03_Of
namespace r03_Valid
abbrev r0:List G:=[e 1 (.box true 10 (t 0)),Mb 2 false]
abbrev q0:=[1,30]
abbrev r1:List G:=[a 3 0 1,L 4 5 3,K1 5 100 4,e 6 (.un .not (t 5)),m 7 6,na 8 7 5 1,n 9 7 (.ld true 5 (t 8)),n 10 7 (.call false 100 [(t 9)]),n 11 7 (.un .not (t 10)),o 12 7 11,m 13 12,na 14 13 5 1,n 15 13 (.ld true 5 (t 14)),n 16 13 (.call false 104 [(t 15)]),n 17 13 (.bin .leq (t 16) (i 0)),o 18 13 17,m 19 18,na 20 19 0 1,n 21 19 (.ld true 5 (t 20)),n 22 19 (.call false 105 [(t 21)]),n 23 19 (.un .not (t 22)),o 24 19 23,m 25 24,na 26 25 5 1,n 27 25 (.ld true 5 (t 26)),n 28 25 (.call false 105 [(t 27)]),n 29 25 (.un .not (t 28)),o 30 25 29]
abbrev r2:List G:=[Mb 2 false]
abbrev r3:List G:=[a 31 0 1,L 32 5 31,k1 33 107 32,a 34 5 1,L 35 5 34,k2 36 106 33 35,k0 37 108,e 38 (.eqg false 37 (t 36) (t 37))]
abbrev t3:List G:=[m 2 38]
abbrev c:MC:=sq [g r0 [1],sq [g r1 q0,ci 30 (sq [g r2 [2],.ret]) .skip],gd r3 t3 [2],.ret]
theorem ok:compF Tryz.prog Tryz.f49 (an (rg 4) c [(3,8,[],(up 8),[])]) = some (39,c,[(2,none)]):=by kernel_rfl
abbrev p1:=Pd C r3 t3 [2] R
abbrev p3:=P C r2 [2] R
abbrev p2:=cd (t 30) (p3 C R) (p1 C R)
abbrev p4:=P C r1 q0 (p2 C R)
abbrev p5:=P C r0 [1] (p4 C R)
theorem s (S:St):X C c (retK R) S = p5 C R S:=by kernel_rfl
theorem E:type_of% @s:=@s
end r03_Valid
namespace r03_abs
abbrev q0:=[1,2]
abbrev r0:List G:=[e 1 (.box true 5 (t 0)),e 2 (.new zW)]
abbrev r1:List G:=[a 3 0 1,z (.st false 1 (t 3) bf)]
abbrev r2:List G:=[L 4 5 1,V 5 2 4]
abbrev c:MC:=sq [g r0 q0,g r1 q0,g r2 [2],.ret]
theorem ok:compF Tryz.prog Tryz.f107 (an (rg 3) c []) = some (5,c,[(2,some (true,5))]):=by kernel_rfl
abbrev p1:=P C r2 [2] R
abbrev p2:=P C r1 q0 (p1 C R)
abbrev p3:=P C r0 q0 (p2 C R)
theorem s (S:St):X C c (retK R) S = p3 C R S:=by kernel_rfl
theorem E:type_of% @s:=@s
end r03_abs
namespace r03_clean
abbrev q0:=[1,2]
abbrev r0:List G:=[e 1 (.box true 10 (t 0)),e 2 (.new zR)]
abbrev q1:=[1,2,5]
abbrev r1:List G:=[L 3 10 1,K1 4 49 3,e 5 (.un .not (t 4))]
abbrev r2:List G:=[K0 6 108,e 7 (.bd zR [(5,5,(t 6))]),V 10 2 7]
abbrev r3:List G:=[L 8 10 1,V 10 2 8]
abbrev c:MC:=sq [g r0 q0,sq [g r1 q1,ci 5 (sq [g r2 [2],.ret]) .skip],g r3 [2],.ret]
theorem ok:compF Tryz.prog Tryz.f115 (an (rg 4) c []) = some (9,c,[(2,some (true,10))]):=by kernel_rfl
abbrev p1:=P C r3 [2] R
abbrev p3:=P C r2 [2] R
abbrev p2:=cd (t 5) (p3 C R) (p1 C R)
abbrev p4:=P C r1 q1 (p2 C R)
abbrev p5:=P C r0 q0 (p4 C R)
theorem s (S:St):X C c (retK R) S = p5 C R S:=by kernel_rfl
theorem E:type_of% @s:=@s
end r03_clean
namespace r03_gcd
abbrev q0:=[2,3,4]
abbrev r0:List G:=[e 2 (.box true 5 (t 0)),e 3 (.box true 5 (t 1)),e 4 (.new zW)]
abbrev q1:=[2,3,4,14]
abbrev r1:List G:=[L 12 5 3,K1 13 104 12,bi 14 .neq 13 0]
abbrev q2:=[2,3,4,5,6]
abbrev r2:List G:=[L 16 5 2,K1 17 153 16,m 15 17,x 18 15 0,x 19 15 1,m 5 18,m 6 19]
abbrev q3:=[2,3,4,5,6,7,8]
abbrev r3:List G:=[L 21 5 3,K1 22 153 21,m 20 22,x 23 20 0,x 24 20 1,m 7 23,m 8 24]
abbrev q4:=[2,3,4,5,7,28]
abbrev r4:List G:=[m 25 6,m 26 25,ym 27 26 8,w 28 26 27]
abbrev q5:=[4,5,7,30]
abbrev r5:List G:=[m 29 7,bu 30 .neq 29 0]
abbrev q6:=[4,5,7]
abbrev r6:List G:=[m 31 7,m 32 5,m 33 7,b 34 .rem 32 33]
abbrev t6:List G:=[m 5 31,m 7 34]
abbrev r7:List G:=[m 35 5,K1 36 75 35,V 5 4 36]
abbrev q7:=[2,3,4,10]
abbrev r8:List G:=[L 38 5 2,L 39 5 3,K2 40 116 38 39,m 37 40,x 41 37 0,x 42 37 1,x 43 37 2,e 9 (.new zW),e 10 (.new zW),V 5 9 41,V 5 10 42,m 11 43]
abbrev o9:List (List G):=[[L 44 5 3,L 45 5 10,V 5 2 44,V 5 3 45],[L 44 5 3,V 5 2 44,L 45 5 10,V 5 3 45],[L 45 5 10,L 44 5 3,V 5 2 44,V 5 3 45]]
abbrev r10:List G:=[L 46 5 2,V 5 4 46]
abbrev c:MC:=sq [g r0 q0,.block 0 (.loop (sq [sq [g r1 q1,ci 14 .skip (.exit 0)],.block 1 (sq [g r2 q2,g r3 q3,sq [g r4 q4,ci 28 (sq [.block 2 (.loop (sq [sq [g r5 q5,ci 30 .skip (.exit 2)],.block 3 (gd r6 t6 q6)])),g r7 [4],.ret]) .skip],g r8 q7,ga [] o9 q0])])),g r10 [4],.ret]
theorem ok:compF Tryz.prog Tryz.f106 (an (rg 11) c [(6,4,[2,3],[(0,0),(1,0),(2,2),(3,2)],[]),(9,99999,[],[],[])]) = some (47,c,[(4,some (true,5))]):=by kernel_rfl
abbrev p1:=P C r10 [4] R
abbrev p3:=Pa C [] o9 q0 L1
abbrev p4:=P C r8 q7 (p3 C L1)
abbrev p6:=P C r7 [4] R
abbrev p8:=Pd C r6 t6 q6 L2
abbrev p9:=cd (t 30) (p8 C L2) (p6 C R)
abbrev p10:=P C r5 q5 (p9 C R L2)
def p7 (S:St):Prop:=LX C (fun L2=>(p10 C R L2)) S
theorem p7_l (S:St):p7 C R S = LX C (fun L2=>(p10 C R L2)) S:=rfl
abbrev p5:=cd (t 28) (p7 C R) (p4 C L1)
abbrev p11:=P C r4 q4 (p5 C R L1)
abbrev p12:=P C r3 q3 (p11 C R L1)
abbrev p13:=P C r2 q2 (p12 C R L1)
abbrev p14:=cd (t 14) (p13 C R L1) (p1 C R)
abbrev p15:=P C r1 q1 (p14 C R L1)
def p2 (S:St):Prop:=LX C (fun L1=>(p15 C R L1)) S
theorem p2_l (S:St):p2 C R S = LX C (fun L1=>(p15 C R L1)) S:=rfl
abbrev p16:=P C r0 q0 (p2 C R)
theorem s (S:St):X C c (retK R) S = p16 C R S:=by kernel_rfl
theorem E:type_of% @s:=@s
end r03_gcd
namespace r03_one
abbrev r0:List G:=[e 0 (.new zW)]
abbrev r1:List G:=[e 1 (.call false 50 [(i 1)]),V 5 0 1]
abbrev c:MC:=sq [g r0 [0],g r1 [0],.ret]
theorem ok:compF Tryz.prog Tryz.f108 (an (rg 2) c []) = some (2,c,[(0,some (true,5))]):=by kernel_rfl
abbrev p1:=P C r1 [0] R
abbrev p2:=P C r0 [0] (p1 C R)
theorem s (S:St):X C c (retK R) S = p2 C R S:=by kernel_rfl
theorem E:type_of% @s:=@s
end r03_one
namespace r03_small
abbrev r0:List G:=[e 1 (.box true 5 (t 0)),Mb 2 false]
abbrev r1:List G:=[a 3 1 1,e 4 (.ia 4 1 (t 3) (i 3)),l 5 4,bu 6 .eql 5 0,m 7 6,ya 8 7 1 1,y 9 7 (.ia 4 1 (t 8) (i 2)),yl 10 7 9,y 11 7 (.bin .eql (t 10) (u 0)),w 12 7 11,m 13 12,ya 14 13 1 1,y 15 13 (.ia 4 1 (t 14) (i 1)),yl 16 13 15,y 17 13 (.bin .lss (t 16) (u 9223372036854775808)),w 18 13 17,m 2 18]
abbrev c:MC:=sq [g r0 [1],g r1 [2],.ret]
theorem ok:compF Tryz.prog Tryz.f105 (an (rg 2) c []) = some (19,c,[(2,none)]):=by kernel_rfl
abbrev p1:=P C r1 [2] R
abbrev p2:=P C r0 [1] (p1 C R)
theorem s (S:St):X C c (retK R) S = p2 C R S:=by kernel_rfl
theorem E:type_of% @s:=@s
end r03_small
end Go.Proofs.YtncmmbacoknefaaGreat

/- Qc: What calls of the reference of ratio give. -/
namespace Go.Proofs.YtncmmbacoknefaaGreat
open Go Go.RowKit Sx
set_option linter.unusedVariables false
set_option linter.unusedSimpArgs false
theorem small_plain2 {m:Int} (h:A4 m):m < ((2 ^ 127:Nat):Int)↔lb3 m = 0∧lb2 m = 0∧lb1 m < 9223372036854775808:=by
 rw [small_plain h]
 have:=lb1_in m
 rw [Int.fdiv_eq_ediv_of_nonneg _ (by decide)]
 unfold U64 at this
 constructor
 ·rintro ⟨a,b,c⟩; exact ⟨a,b,by omega⟩
 ·rintro ⟨a,b,c⟩; exact ⟨a,b,by omega⟩
theorem rx_small {z:Int} (h:Fits z) (W:World):Gives Tryz.prog 105 [WX z] W (· = .bool (decide (ab z < ((2 ^ 127:Nat):Int)))):=by
 have e:=small_plain2 (m:=ab z) ⟨ab_nonneg z,(fits_lt z).1 h⟩
 refine gives_known en_r03_small ?_
 rw [show decide (ab z < ((2 ^ 127:Nat):Int)) = (decide (lb3 (ab z) = 0) && (decide (lb2 (ab z) = 0) && decide (lb1 (ab z) < 9223372036854775808))) by rw [Bool.eq_iff_iff,decide_eq_true_iff,e]; simp]
 clear e h
 refine known_of (enter Tryz.func105 r03_small.ok (args:=[WX z]) (by simp) ?_)
 repeat' (first | simp (disch:=omega) only [sxE,r03_small.E,Nat.reduceAdd,Nat.reduceEqDiff,Nat.reduceMul,Nat.reduceSub,Int.reduceAdd,Int.reduceSub,Int.reduceMul,Int.reduceNeg,Int.reduceLT,Int.reduceLE,Int.reduceEq,Int.reduceToNat,↓reduceIte,Int.reducePow,Nat.reduceLeDiff,Nat.reduceLT,ne_eq,eq_self,List.length_cons,List.length_nil,qxE] | ((with_reducible first | apply cond_beq | apply gd_beq) <;> (intro hc; first | simp only [beq_iff_eq.2 hc] | simp only [beq_eq_false_iff_ne.2 hc] | skip)) | ((with_reducible first | apply cond_dec | apply gd_dec) <;> (intro hc; first | simp only [decide_eq_true hc] | simp only [decide_eq_false hc] | skip)) | ((with_reducible first | apply cond_of | apply gd_of) <;> (intro hc; try simp only [hc])) | (with_reducible refine cregF ?_))
 all_goals (refine vb ?_; rw [Bool.eq_iff_iff]; simp_all)
theorem rx_abs {z:Int} (W:World):Gives Tryz.prog 107 [WX z] W (· = WX (ab z)):=by
 refine gives_known en_r03_abs ?_
 refine known_of (enter Tryz.func107 r03_abs.ok (args:=[_]) (by simp) ?_)
 repeat' (first | simp (disch:=omega) only [sxE,r03_abs.E,Nat.reduceAdd,Nat.reduceEqDiff,Nat.reduceMul,Nat.reduceSub,Int.reduceAdd,Int.reduceSub,Int.reduceMul,Int.reduceNeg,Int.reduceLT,Int.reduceLE,Int.reduceEq,Int.reduceToNat,↓reduceIte,Int.reducePow,Nat.reduceLeDiff,Nat.reduceLT,ne_eq,eq_self,List.length_cons,List.length_nil,qxE] | (with_reducible refine cregF ?_))
theorem rx_one (W:World):Gives Tryz.prog 108 [] W (· = WX 1):=by
 refine gives_known en_r03_one ?_
 refine known_of (enter Tryz.func108 r03_one.ok (args:=[]) (by simp) ?_)
 repeat' (first | simp (disch:=omega) only [sxE,r03_one.E,Nat.reduceAdd,Nat.reduceEqDiff,Nat.reduceMul,Nat.reduceSub,Int.reduceAdd,Int.reduceSub,Int.reduceMul,Int.reduceNeg,Int.reduceLT,Int.reduceLE,Int.reduceEq,Int.reduceToNat,↓reduceIte,Int.reducePow,Nat.reduceLeDiff,Nat.reduceLT,ne_eq,eq_self,List.length_cons,List.length_nil,qxE] | (with_reducible refine Sx.call_at (f:=50) (fun W hW=>rx_of i64_one W) ?_) | (with_reducible refine cregF ?_))
def gcF2 (x:Int × Int):St:=⟨3,[(4,.p 2 0),(5,.v (.int .u64 x.1)),(7,.v (.int .u64 x.2))],[(2,[.bool false,.int .u64 0,.int .u64 0,.int .u64 0,.int .u64 0])],ext0⟩
set_option maxRecDepth 100000 in
theorem rx_gcd {z y:Int} (h:Fits z) (h':Fits y) (n1:0≤z) (n2:0≤y) (W:World):Gives Tryz.prog 106 [WX z,WX y] W (· = WX (gc z y)):=by
 refine gives_known en_r03_gcd ?_
 refine known_of (enter Tryz.func106 r03_gcd.ok (args:=[WX z,WX y]) (by simp) ?_)
 repeat' (first | simp (disch:=omega) only [sxE,r03_gcd.E,Nat.reduceAdd,Nat.reduceEqDiff,Nat.reduceMul,Nat.reduceSub,Int.reduceAdd,Int.reduceSub,Int.reduceMul,Int.reduceNeg,Int.reduceLT,Int.reduceLE,Int.reduceEq,Int.reduceToNat,↓reduceIte,Int.reducePow,Nat.reduceLeDiff,Nat.reduceLT,ne_eq,eq_self,List.length_cons,List.length_nil,qxE] | (with_reducible refine cregF ?_))
 rw [r03_gcd.p2_l]
 refine LX_inv gcF (fun x=>0≤x.1∧0≤x.2∧Fits x.1∧Fits x.2∧gc x.1 x.2 = gc z y) (fun x=>x.2.toNat) ?round (z,y) ⟨n1,n2,h,h',rfl⟩ ?start
 case start =>
  unfold gcF wc
  dsimp only
  simp (disch:=omega) only [sxE,r03_gcd.E,Nat.reduceAdd,Nat.reduceEqDiff,Nat.reduceMul,Nat.reduceSub,Int.reduceAdd,Int.reduceSub,Int.reduceMul,Int.reduceNeg,Int.reduceLT,Int.reduceLE,Int.reduceEq,Int.reduceToNat,↓reduceIte,Int.reducePow,Nat.reduceLeDiff,Nat.reduceLT,ne_eq,eq_self,List.length_cons,List.length_nil]
 case round =>
  rintro ⟨x,w⟩ ⟨h1,h2,h3,h4,h5⟩
  dsimp only at h1 h2 h3 h4 h5 ⊢
  rw [← h5]
  clear h5 h h' n1 n2
  have hcm:=cm_zero w
  unfold gcF wc
  dsimp only
  by_cases hw:w = 0
  ·subst hw
   rw [gc_zero x h1]
   have hc0:cm 0 0 = 0:=rfl
   repeat' (first | simp (disch:=omega) only [sxE,r03_gcd.E,Nat.reduceAdd,Nat.reduceEqDiff,Nat.reduceMul,Nat.reduceSub,Int.reduceAdd,Int.reduceSub,Int.reduceMul,Int.reduceNeg,Int.reduceLT,Int.reduceLE,Int.reduceEq,Int.reduceToNat,↓reduceIte,Int.reducePow,Nat.reduceLeDiff,Nat.reduceLT,ne_eq,eq_self,List.length_cons,List.length_nil,qxE,hc0] | (with_reducible refine Sx.call_at (f:=104) (fun W hW=>rx_sign h4 W) ?_) | (with_reducible refine cregF ?_))
  ·have hc0:cm w 0≠0:=by rw [hcm]; (repeat' split) <;> omega
   have hq:=fits_emod (z:=x) h4 hw
   have hm0:=Int.emod_nonneg x hw
   have hm1:=Int.emod_lt_of_pos x (show 0 < w by omega)
   have hgs:=gc_step h1 (show 0 < w by omega)
   clear hcm
   by_cases hu:x < 18446744073709551616∧w < 18446744073709551616
   ·have u1:unb x = true:=decide_eq_true ⟨h1,hu.1⟩
    have u2:unb w = true:=decide_eq_true ⟨h2,hu.2⟩
    have u3:unv x = x:=by unfold unv; rw [u1]; rfl
    have u4:unv w = w:=by unfold unv; rw [u2]; rfl
    have k1:=fun W=>rx_unsigned h3 W
    have k2:=fun W=>rx_unsigned h4 W
    rw [u1,u3] at k1
    rw [u2,u4] at k2
    repeat' (first | simp (disch:=omega) only [sxE,r03_gcd.E,Nat.reduceAdd,Nat.reduceEqDiff,Nat.reduceMul,Nat.reduceSub,Int.reduceAdd,Int.reduceSub,Int.reduceMul,Int.reduceNeg,Int.reduceLT,Int.reduceLE,Int.reduceEq,Int.reduceToNat,↓reduceIte,Int.reducePow,Nat.reduceLeDiff,Nat.reduceLT,ne_eq,eq_self,List.length_cons,List.length_nil,qxE] | (with_reducible refine Sx.call_at (f:=104) (fun W hW=>rx_sign h4 W) ?_) | (with_reducible refine Sx.call_at (f:=153) (fun W hW=>k1 W) ?_) | (with_reducible refine Sx.call_at (f:=153) (fun W hW=>k2 W) ?_) | (with_reducible refine cregF ?_))
    rw [r03_gcd.p7_l]
    obtain ⟨hu1,hu2⟩:=hu
    clear hgs hm0 hm1 hq hc0 hw u1 u2 u3 u4 k1 k2
    refine LX_inv gcF2 (fun t=>U64 t.1∧U64 t.2∧gc t.1 t.2 = gc x w) (fun t=>t.2.toNat) ?round2 (x,w) ⟨⟨h1,by omega⟩,⟨h2,by omega⟩,rfl⟩ ?start2
    case start2 =>
     unfold gcF2
     dsimp only
     simp (disch:=omega) only [sxE,r03_gcd.E,Nat.reduceAdd,Nat.reduceEqDiff,Nat.reduceMul,Nat.reduceSub,Int.reduceAdd,Int.reduceSub,Int.reduceMul,Int.reduceNeg,Int.reduceLT,Int.reduceLE,Int.reduceEq,Int.reduceToNat,↓reduceIte,Int.reducePow,Nat.reduceLeDiff,Nat.reduceLT,ne_eq,eq_self,List.length_cons,List.length_nil]
    case round2 =>
     rintro ⟨s,t⟩ ⟨i1,i2,i3⟩
     dsimp only at i1 i2 i3 ⊢
     rw [← i3]
     unfold gcF2
     dsimp only
     by_cases ht:t = 0
     ·subst ht
      rw [gc_zero s i1.1]
      repeat' (first | simp (disch:=omega) only [sxE,r03_gcd.E,Nat.reduceAdd,Nat.reduceEqDiff,Nat.reduceMul,Nat.reduceSub,Int.reduceAdd,Int.reduceSub,Int.reduceMul,Int.reduceNeg,Int.reduceLT,Int.reduceLE,Int.reduceEq,Int.reduceToNat,↓reduceIte,Int.reducePow,Nat.reduceLeDiff,Nat.reduceLT,ne_eq,eq_self,List.length_cons,List.length_nil,qxE] | (with_reducible refine Sx.call_at (f:=75) (fun W hW=>rx_ofU i1 W) ?_) | (with_reducible refine cregF ?_))
     ·have e1:s.tmod t = s % t:=Int.tmod_eq_emod_of_nonneg i1.1
      have j0:=Int.emod_nonneg s ht
      have j1:=Int.emod_lt_of_pos s (show 0 < t by have:=i2.1; omega)
      have j2:=gc_step i1.1 (show 0 < t by have:=i2.1; omega)
      have j3:=i2.2
      repeat' (first | simp (disch:=omega) only [sxE,r03_gcd.E,Nat.reduceAdd,Nat.reduceEqDiff,Nat.reduceMul,Nat.reduceSub,Int.reduceAdd,Int.reduceSub,Int.reduceMul,Int.reduceNeg,Int.reduceLT,Int.reduceLE,Int.reduceEq,Int.reduceToNat,↓reduceIte,Int.reducePow,Nat.reduceLeDiff,Nat.reduceLT,ne_eq,eq_self,List.length_cons,List.length_nil,qxE,e1] | (with_reducible refine cregF ?_))
      exact ⟨(t,s % t),⟨i2,⟨j0,by dsimp only; omega⟩,j2⟩,by dsimp only; omega,by repeat' (first | (with_reducible rfl) | (exact Or.inl rfl) | apply And.intro)⟩
   ·have u2:unb x = false∨unb w = false:=by
     rcases Int.lt_or_le x 18446744073709551616 with hl | hl
     ·right; exact decide_eq_false (by omega)
     ·left; exact decide_eq_false (by omega)
    have k1:=fun W=>rx_unsigned h3 W
    have k2:=fun W=>rx_unsigned h4 W
    generalize unb x = p1 at *
    generalize unb w = p2 at *
    generalize unv x = w1 at *
    generalize unv w = w2 at *
    clear hu
    cases p1
    ·repeat' (first | simp (disch:=omega) only [sxE,r03_gcd.E,Nat.reduceAdd,Nat.reduceEqDiff,Nat.reduceMul,Nat.reduceSub,Int.reduceAdd,Int.reduceSub,Int.reduceMul,Int.reduceNeg,Int.reduceLT,Int.reduceLE,Int.reduceEq,Int.reduceToNat,↓reduceIte,Int.reducePow,Nat.reduceLeDiff,Nat.reduceLT,ne_eq,eq_self,List.length_cons,List.length_nil,qxE] | (with_reducible refine Sx.call_at (f:=104) (fun W hW=>rx_sign h4 W) ?_) | (with_reducible refine Sx.call_at (f:=153) (fun W hW=>k1 W) ?_) | (with_reducible refine Sx.call_at (f:=153) (fun W hW=>k2 W) ?_) | (with_reducible refine Sx.call_at (f:=116) (fun W hW=>rx_divmod h3 h4 hw W) ?_) | (with_reducible refine cregF ?_))
     exact ⟨(w,x % w),⟨h2,hm0,h4,hq,hgs⟩,by dsimp only; omega,by repeat' (first | (with_reducible rfl) | (exact Or.inl rfl) | apply And.intro)⟩
    ·obtain rfl:p2 = false:=by rcases u2 with h | h; cases h; exact h
     repeat' (first | simp (disch:=omega) only [sxE,r03_gcd.E,Nat.reduceAdd,Nat.reduceEqDiff,Nat.reduceMul,Nat.reduceSub,Int.reduceAdd,Int.reduceSub,Int.reduceMul,Int.reduceNeg,Int.reduceLT,Int.reduceLE,Int.reduceEq,Int.reduceToNat,↓reduceIte,Int.reducePow,Nat.reduceLeDiff,Nat.reduceLT,ne_eq,eq_self,List.length_cons,List.length_nil,qxE] | (with_reducible refine Sx.call_at (f:=104) (fun W hW=>rx_sign h4 W) ?_) | (with_reducible refine Sx.call_at (f:=153) (fun W hW=>k1 W) ?_) | (with_reducible refine Sx.call_at (f:=153) (fun W hW=>k2 W) ?_) | (with_reducible refine Sx.call_at (f:=116) (fun W hW=>rx_divmod h3 h4 hw W) ?_) | (with_reducible refine cregF ?_))
     exact ⟨(w,x % w),⟨h2,hm0,h4,hq,hgs⟩,by dsimp only; omega,by repeat' (first | (with_reducible rfl) | (exact Or.inl rfl) | apply And.intro)⟩
set_option maxRecDepth 100000 in
theorem rx_rvalid {p q:Int} (h:Fits p) (h':Fits q) (W:World):Gives Tryz.prog 49 [RX p q] W (· = .bool (rok true p q)):=by
 have hg:=fits_gc h h'
 have hcm:=cm_pos q
 have gq:=fun (hq:0≤q) W=>rx_gcd (fits_ab h) h' (ab_nonneg p) hq W
 rw [gc_abl] at gq
 refine gives_known en_r03_Valid ?_
 by_cases hq:0 < q
 ·have gq:=gq (by omega)
  have hc0:¬ cm q 0≤0:=by omega
  refine known_of (enter Tryz.func49 r03_Valid.ok (args:=[RX p q]) (by simp) ?_)
  repeat' (first | simp (disch:=omega) only [sxE,r03_Valid.E,Nat.reduceAdd,Nat.reduceEqDiff,Nat.reduceMul,Nat.reduceSub,Int.reduceAdd,Int.reduceSub,Int.reduceMul,Int.reduceNeg,Int.reduceLT,Int.reduceLE,Int.reduceEq,Int.reduceToNat,↓reduceIte,Int.reducePow,Nat.reduceLeDiff,Nat.reduceLT,ne_eq,eq_self,List.length_cons,List.length_nil,qxE] | (with_reducible refine Sx.call_at (f:=100) (fun W hW=>rx_valid h W) ?_) | (with_reducible refine Sx.call_at (f:=100) (fun W hW=>rx_valid h' W) ?_) | (with_reducible refine Sx.call_at (f:=104) (fun W hW=>rx_sign h' W) ?_) | (with_reducible refine Sx.call_at (f:=105) (fun W hW=>rx_small h W) ?_) | (with_reducible refine Sx.call_at (f:=105) (fun W hW=>rx_small h' W) ?_) | (with_reducible refine Sx.call_at (f:=107) (fun W hW=>rx_abs W) ?_) | (with_reducible refine Sx.call_at (f:=106) (fun W hW=>gq W) ?_) | (with_reducible refine Sx.call_at (f:=108) (fun W hW=>rx_one W) ?_) | ((with_reducible apply Sx.eq_is); (case h=>exact fun W=>eqx_run hg fits_one W); (case' hk=>skip)) | ((with_reducible first | apply cond_beq | apply gd_beq) <;> (intro hc; first | simp only [beq_iff_eq.2 hc] | simp only [beq_eq_false_iff_ne.2 hc] | skip)) | ((with_reducible first | apply cond_dec | apply gd_dec) <;> (intro hc; first | simp only [decide_eq_true hc] | simp only [decide_eq_false hc] | skip)) | ((with_reducible first | apply cond_of | apply gd_of) <;> (intro hc; try simp only [hc])) | (with_reducible refine cregF ?_))
  all_goals (refine vb ?_; unfold rok; rw [Bool.eq_iff_iff]; simp_all <;> (intros; omega))
 ·have hc0:cm q 0≤0:=by omega
  have e:rok true p q = false:=by unfold rok; rw [decide_eq_false hq]; rfl
  rw [e]
  refine known_of (enter Tryz.func49 r03_Valid.ok (args:=[RX p q]) (by simp) ?_)
  repeat' (first | simp (disch:=omega) only [sxE,r03_Valid.E,Nat.reduceAdd,Nat.reduceEqDiff,Nat.reduceMul,Nat.reduceSub,Int.reduceAdd,Int.reduceSub,Int.reduceMul,Int.reduceNeg,Int.reduceLT,Int.reduceLE,Int.reduceEq,Int.reduceToNat,↓reduceIte,Int.reducePow,Nat.reduceLeDiff,Nat.reduceLT,ne_eq,eq_self,List.length_cons,List.length_nil,qxE] | (with_reducible refine Sx.call_at (f:=100) (fun W hW=>rx_valid h W) ?_) | (with_reducible refine Sx.call_at (f:=100) (fun W hW=>rx_valid h' W) ?_) | (with_reducible refine Sx.call_at (f:=104) (fun W hW=>rx_sign h' W) ?_) | (with_reducible refine cregF ?_))
theorem rx_rvalid0 {v:Value} (h:BadR v) (W:World):Gives Tryz.prog 49 [v] W (· = .bool false):=by
 refine gives_known en_r03_Valid ?_
 rcases h with ⟨q,h,rfl⟩ | ⟨p,h,rfl⟩ | rfl
 ·refine known_of (enter Tryz.func49 r03_Valid.ok (args:=[_]) (by simp) ?_)
  repeat' (first | simp (disch:=omega) only [sxE,r03_Valid.E,Nat.reduceAdd,Nat.reduceEqDiff,Nat.reduceMul,Nat.reduceSub,Int.reduceAdd,Int.reduceSub,Int.reduceMul,Int.reduceNeg,Int.reduceLT,Int.reduceLE,Int.reduceEq,Int.reduceToNat,↓reduceIte,Int.reducePow,Nat.reduceLeDiff,Nat.reduceLT,ne_eq,eq_self,List.length_cons,List.length_nil,qxE] | (with_reducible refine Sx.call_at (f:=100) (fun W hW=>rx_valid0 W) ?_) | (with_reducible refine cregF ?_))
 ·refine known_of (enter Tryz.func49 r03_Valid.ok (args:=[_]) (by simp) ?_)
  repeat' (first | simp (disch:=omega) only [sxE,r03_Valid.E,Nat.reduceAdd,Nat.reduceEqDiff,Nat.reduceMul,Nat.reduceSub,Int.reduceAdd,Int.reduceSub,Int.reduceMul,Int.reduceNeg,Int.reduceLT,Int.reduceLE,Int.reduceEq,Int.reduceToNat,↓reduceIte,Int.reducePow,Nat.reduceLeDiff,Nat.reduceLT,ne_eq,eq_self,List.length_cons,List.length_nil,qxE] | (with_reducible refine Sx.call_at (f:=100) (fun W hW=>rx_valid h W) ?_) | (with_reducible refine Sx.call_at (f:=100) (fun W hW=>rx_valid0 W) ?_) | (with_reducible refine cregF ?_))
 ·refine known_of (enter Tryz.func49 r03_Valid.ok (args:=[_]) (by simp) ?_)
  repeat' (first | simp (disch:=omega) only [sxE,r03_Valid.E,Nat.reduceAdd,Nat.reduceEqDiff,Nat.reduceMul,Nat.reduceSub,Int.reduceAdd,Int.reduceSub,Int.reduceMul,Int.reduceNeg,Int.reduceLT,Int.reduceLE,Int.reduceEq,Int.reduceToNat,↓reduceIte,Int.reducePow,Nat.reduceLeDiff,Nat.reduceLT,ne_eq,eq_self,List.length_cons,List.length_nil,qxE] | (with_reducible refine Sx.call_at (f:=100) (fun W hW=>rx_valid0 W) ?_) | (with_reducible refine cregF ?_))
theorem rx_rof {z:Int} (h:I64 z) (W:World):Gives Tryz.prog 78 [.int .i64 z] W (· = RX z 1):=by
 refine gives_known en_r03_Of ?_
 refine known_of (enter Tryz.func78 r03_Of.ok (args:=[_]) (by simp) ?_)
 repeat' (first | simp (disch:=omega) only [sxE,r03_Of.E,Nat.reduceAdd,Nat.reduceEqDiff,Nat.reduceMul,Nat.reduceSub,Int.reduceAdd,Int.reduceSub,Int.reduceMul,Int.reduceNeg,Int.reduceLT,Int.reduceLE,Int.reduceEq,Int.reduceToNat,↓reduceIte,Int.reducePow,Nat.reduceLeDiff,Nat.reduceLT,ne_eq,eq_self,List.length_cons,List.length_nil,qxE] | (with_reducible refine Sx.call_at (f:=50) (fun W hW=>rx_of h W) ?_) | (with_reducible refine Sx.call_at (f:=108) (fun W hW=>rx_one W) ?_) | (with_reducible refine cregF ?_))
theorem x_foldR01 (q:Int):Value.agg [.bool false,.int .u64 0,.int .u64 0,.int .u64 0,.int .u64 0,.bool (sg q),.int .u64 (lb0 (ab q)),.int .u64 (lb1 (ab q)),.int .u64 (lb2 (ab q)),.int .u64 (lb3 (ab q))].toArray = RX 0 q:=rfl
set_option maxRecDepth 100000 in
theorem rx_rclean {v:Value} {p q:Int} (h:CQ v p q) (W:World):Gives Tryz.prog 115 [v] W (· = RX p q):=by
 refine gives_known en_r03_clean ?_
 rcases h with ⟨x,y,h1,h2,rfl,rfl,rfl⟩ | ⟨h,rfl,rfl⟩
 ·unfold qn qd
  cases hk:rok true x y
  ·refine known_of (enter Tryz.func115 r03_clean.ok (args:=[_]) (by simp) ?_)
   repeat' (first | simp (disch:=omega) only [sxE,r03_clean.E,Nat.reduceAdd,Nat.reduceEqDiff,Nat.reduceMul,Nat.reduceSub,Int.reduceAdd,Int.reduceSub,Int.reduceMul,Int.reduceNeg,Int.reduceLT,Int.reduceLE,Int.reduceEq,Int.reduceToNat,↓reduceIte,Int.reducePow,Nat.reduceLeDiff,Nat.reduceLT,ne_eq,eq_self,List.length_cons,List.length_nil,qxE,hk,x_foldR01] | (with_reducible refine Sx.call_at (f:=49) (fun W hW=>rx_rvalid h1 h2 W) ?_) | (with_reducible refine Sx.call_at (f:=108) (fun W hW=>rx_one W) ?_) | (with_reducible refine cregF ?_))
  ·refine known_of (enter Tryz.func115 r03_clean.ok (args:=[_]) (by simp) ?_)
   repeat' (first | simp (disch:=omega) only [sxE,r03_clean.E,Nat.reduceAdd,Nat.reduceEqDiff,Nat.reduceMul,Nat.reduceSub,Int.reduceAdd,Int.reduceSub,Int.reduceMul,Int.reduceNeg,Int.reduceLT,Int.reduceLE,Int.reduceEq,Int.reduceToNat,↓reduceIte,Int.reducePow,Nat.reduceLeDiff,Nat.reduceLT,ne_eq,eq_self,List.length_cons,List.length_nil,qxE,hk] | (with_reducible refine Sx.call_at (f:=49) (fun W hW=>rx_rvalid h1 h2 W) ?_) | (with_reducible refine cregF ?_))
 ·have hv:=fun W=>rx_rvalid0 h W
  rcases h with ⟨q,h,rfl⟩ | ⟨p,h,rfl⟩ | rfl
  ·refine known_of (enter Tryz.func115 r03_clean.ok (args:=[_]) (by simp) ?_)
   repeat' (first | simp (disch:=omega) only [sxE,r03_clean.E,Nat.reduceAdd,Nat.reduceEqDiff,Nat.reduceMul,Nat.reduceSub,Int.reduceAdd,Int.reduceSub,Int.reduceMul,Int.reduceNeg,Int.reduceLT,Int.reduceLE,Int.reduceEq,Int.reduceToNat,↓reduceIte,Int.reducePow,Nat.reduceLeDiff,Nat.reduceLT,ne_eq,eq_self,List.length_cons,List.length_nil,qxE,x_foldR01] | (with_reducible refine Sx.call_at (f:=49) (fun W hW=>hv W) ?_) | (with_reducible refine Sx.call_at (f:=108) (fun W hW=>rx_one W) ?_) | (with_reducible refine cregF ?_))
  ·refine known_of (enter Tryz.func115 r03_clean.ok (args:=[_]) (by simp) ?_)
   repeat' (first | simp (disch:=omega) only [sxE,r03_clean.E,Nat.reduceAdd,Nat.reduceEqDiff,Nat.reduceMul,Nat.reduceSub,Int.reduceAdd,Int.reduceSub,Int.reduceMul,Int.reduceNeg,Int.reduceLT,Int.reduceLE,Int.reduceEq,Int.reduceToNat,↓reduceIte,Int.reducePow,Nat.reduceLeDiff,Nat.reduceLT,ne_eq,eq_self,List.length_cons,List.length_nil,qxE,x_foldR01] | (with_reducible refine Sx.call_at (f:=49) (fun W hW=>hv W) ?_) | (with_reducible refine Sx.call_at (f:=108) (fun W hW=>rx_one W) ?_) | (with_reducible refine cregF ?_))
  ·refine known_of (enter Tryz.func115 r03_clean.ok (args:=[_]) (by simp) ?_)
   repeat' (first | simp (disch:=omega) only [sxE,r03_clean.E,Nat.reduceAdd,Nat.reduceEqDiff,Nat.reduceMul,Nat.reduceSub,Int.reduceAdd,Int.reduceSub,Int.reduceMul,Int.reduceNeg,Int.reduceLT,Int.reduceLE,Int.reduceEq,Int.reduceToNat,↓reduceIte,Int.reducePow,Nat.reduceLeDiff,Nat.reduceLT,ne_eq,eq_self,List.length_cons,List.length_nil,qxE,x_foldR01] | (with_reducible refine Sx.call_at (f:=49) (fun W hW=>hv W) ?_) | (with_reducible refine Sx.call_at (f:=108) (fun W hW=>rx_one W) ?_) | (with_reducible refine cregF ?_))
theorem rx_rcompare {v v':Value} {p q p' q':Int} (h:CQ v p q) (h':CQ v' p' q') (W:World):Gives Tryz.prog 99 [v,v'] W (· = .int .i64 (cq p q p' q')):=by
 obtain ⟨c0,c1,c2,c3,c4,c5,c6,c7,c8,c9,rfl⟩:=h.ten
 obtain ⟨d0,d1,d2,d3,d4,d5,d6,d7,d8,d9,rfl⟩:=h'.ten
 have f:=h.fq
 have f':=h'.fq
 have m1:=f.fm f'
 have m2:=f'.fm f
 refine gives_known en_r03_Compare ?_
 refine known_of (enter Tryz.func99 r03_Compare.ok (args:=[_,_]) (by simp) ?_)
 repeat' (first | simp (disch:=omega) only [sxE,r03_Compare.E,Nat.reduceAdd,Nat.reduceEqDiff,Nat.reduceMul,Nat.reduceSub,Int.reduceAdd,Int.reduceSub,Int.reduceMul,Int.reduceNeg,Int.reduceLT,Int.reduceLE,Int.reduceEq,Int.reduceToNat,↓reduceIte,Int.reducePow,Nat.reduceLeDiff,Nat.reduceLT,ne_eq,eq_self,List.length_cons,List.length_nil,qxE] | (with_reducible refine Sx.call_at (f:=115) (fun W hW=>rx_rclean h W) ?_) | (with_reducible refine Sx.call_at (f:=115) (fun W hW=>rx_rclean h' W) ?_) | (with_reducible refine Sx.call_at (f:=76) (fun W hW=>rx_mul f.fp f'.fq m1 W) ?_) | (with_reducible refine Sx.call_at (f:=76) (fun W hW=>rx_mul f'.fp f.fq m2 W) ?_) | (with_reducible refine Sx.call_at (f:=54) (fun W hW=>rx_compare m1 m2 W) ?_) | (with_reducible refine cregF ?_))
 rfl
theorem rx_rat {v:Value} {p q n:Int} (h:CQ v p q) (hn:U64 n) (W:World):Gives Tryz.prog 52 [v,.int .u64 n] W (· = WX (atq p q n)):=by
 obtain ⟨c0,c1,c2,c3,c4,c5,c6,c7,c8,c9,rfl⟩:=h.ten
 have f:=h.fq
 have b1:=bd_mul f.bp (bd_u64 hn)
 have b2:Bd 192 (p * n + p * n):=bd_add b1 b1 (by decide) (by decide)
 have b3:Bd 193 (p * n + p * n + q):=bd_add b2 f.bq (by decide) (by decide)
 have b4:Bd 128 (q + q):=bd_add f.bq f.bq (by decide) (by decide)
 have f1:=b1.fits
 have f2:=b2.fits
 have f3:=b3.fits
 have f4:=b4.fits
 have fn:=(bd_u64 hn).fits
 have ne:q + q≠0:=by have:=f.pos; omega
 have e:atq p q n = (p * n + p * n + q) / (q + q):=by unfold atq; rw [Int.two_mul,Int.two_mul]
 rw [e]
 clear b1 b2 b3 b4 e
 refine gives_known en_r03_At ?_
 refine known_of (enter Tryz.func52 r03_At.ok (args:=[_,_]) (by simp) ?_)
 repeat' (first | simp (disch:=omega) only [sxE,r03_At.E,Nat.reduceAdd,Nat.reduceEqDiff,Nat.reduceMul,Nat.reduceSub,Int.reduceAdd,Int.reduceSub,Int.reduceMul,Int.reduceNeg,Int.reduceLT,Int.reduceLE,Int.reduceEq,Int.reduceToNat,↓reduceIte,Int.reducePow,Nat.reduceLeDiff,Nat.reduceLT,ne_eq,eq_self,List.length_cons,List.length_nil,qxE] | (with_reducible refine Sx.call_at (f:=115) (fun W hW=>rx_rclean h W) ?_) | (with_reducible refine Sx.call_at (f:=75) (fun W hW=>rx_ofU hn W) ?_) | (with_reducible refine Sx.call_at (f:=76) (fun W hW=>rx_mul f.fp fn f1 W) ?_) | (with_reducible refine Sx.call_at (f:=51) (fun W hW=>rx_add f1 f1 f2 W) ?_) | (with_reducible refine Sx.call_at (f:=51) (fun W hW=>rx_add f2 f.fq f3 W) ?_) | (with_reducible refine Sx.call_at (f:=51) (fun W hW=>rx_add f.fq f.fq f4 W) ?_) | (with_reducible refine Sx.call_at (f:=116) (fun W hW=>rx_divmod f3 f4 ne W) ?_) | (with_reducible refine cregF ?_))
theorem sg_beq (z y:Int):(sg z == sg y) = decide ((z < 0)↔(y < 0)):=by
 unfold sg
 by_cases h:z < 0 <;> by_cases h':y < 0 <;> simp [h,h']
theorem mn_sg {z y:Int} (hy:y≠0):((z < 0↔y < 0)→mn z y = ab z / gc z y)∧(¬ (z < 0↔y < 0)→mn z y = -(ab z / gc z y)):=by
 have hd:gc z y ∣ z:=gc_dvd_l z y
 unfold mn ab
 by_cases h:z < 0 <;> by_cases h':y < 0 <;> simp only [h,h',if_true,if_false,iff_true,iff_false,not_true_eq_false,not_false_eq_true,false_implies,true_implies,and_true,true_and,forall_const]
 ·rw [Int.neg_ediv_of_dvd hd,Int.neg_neg]
 ·exact Int.neg_ediv_of_dvd hd
set_option maxRecDepth 100000 in
theorem rx_rmake {v v':Value} {b b':Bool} {z y:Int} (h:RW v b z) (h':RW v' b' y) (W:World):Gives Tryz.prog 77 [v,v'] W (· = mkV (b && b') z y):=by
 refine gives_known en_r03_Make ?_
 have v1:=fun W=>ry_valid h W
 have v2:=fun W=>ry_valid h' W
 have s2:=fun W=>rg_sign h'.is W
 by_cases hbad:b = false∨b' = false∨y = 0
 ·have e:mkV (b && b') z y = .tuple #[RX 0 0,.bool false]:=by
   unfold mkV mok
   rcases hbad with rfl | rfl | rfl
   ·rfl
   ·rw [Bool.and_false]; rfl
   ·rw [if_neg (by simp)]
  rw [e]
  obtain ⟨c0,c1,c2,c3,c4,rfl⟩:=h.five
  obtain ⟨d0,d1,d2,d3,d4,rfl⟩:=h'.five
  have hcm:=cm_zero_iff y
  clear e h h'
  cases b
  ·refine known_of (enter Tryz.func77 r03_Make.ok (args:=[_,_]) (by simp) ?_)
   repeat' (first | simp (disch:=omega) only [sxE,r03_Make.E,Nat.reduceAdd,Nat.reduceEqDiff,Nat.reduceMul,Nat.reduceSub,Int.reduceAdd,Int.reduceSub,Int.reduceMul,Int.reduceNeg,Int.reduceLT,Int.reduceLE,Int.reduceEq,Int.reduceToNat,↓reduceIte,Int.reducePow,Nat.reduceLeDiff,Nat.reduceLT,ne_eq,eq_self,List.length_cons,List.length_nil,qxE] | (with_reducible refine Sx.call_at (f:=100) (fun W hW=>v1 W) ?_) | (with_reducible refine cregF ?_))
  ·cases b'
   ·refine known_of (enter Tryz.func77 r03_Make.ok (args:=[_,_]) (by simp) ?_)
    repeat' (first | simp (disch:=omega) only [sxE,r03_Make.E,Nat.reduceAdd,Nat.reduceEqDiff,Nat.reduceMul,Nat.reduceSub,Int.reduceAdd,Int.reduceSub,Int.reduceMul,Int.reduceNeg,Int.reduceLT,Int.reduceLE,Int.reduceEq,Int.reduceToNat,↓reduceIte,Int.reducePow,Nat.reduceLeDiff,Nat.reduceLT,ne_eq,eq_self,List.length_cons,List.length_nil,qxE] | (with_reducible refine Sx.call_at (f:=100) (fun W hW=>v1 W) ?_) | (with_reducible refine Sx.call_at (f:=100) (fun W hW=>v2 W) ?_) | (with_reducible refine cregF ?_))
   ·have hc0:cm y 0 = 0:=hcm.2 (by rcases hbad with h | h | h; cases h; cases h; exact h)
    clear hcm hbad
    refine known_of (enter Tryz.func77 r03_Make.ok (args:=[_,_]) (by simp) ?_)
    repeat' (first | simp (disch:=omega) only [sxE,r03_Make.E,Nat.reduceAdd,Nat.reduceEqDiff,Nat.reduceMul,Nat.reduceSub,Int.reduceAdd,Int.reduceSub,Int.reduceMul,Int.reduceNeg,Int.reduceLT,Int.reduceLE,Int.reduceEq,Int.reduceToNat,↓reduceIte,Int.reducePow,Nat.reduceLeDiff,Nat.reduceLT,ne_eq,eq_self,List.length_cons,List.length_nil,qxE,hc0] | (with_reducible refine Sx.call_at (f:=100) (fun W hW=>v1 W) ?_) | (with_reducible refine Sx.call_at (f:=100) (fun W hW=>v2 W) ?_) | (with_reducible refine Sx.call_at (f:=104) (fun W hW=>s2 W) ?_) | (with_reducible refine cregF ?_))
 ·obtain ⟨rfl,rfl⟩:b = true∧b' = true:=by
   cases b
   ·exact absurd (.inl rfl) hbad
   ·cases b'
    ·exact absurd (.inr (.inl rfl)) hbad
    ·exact ⟨rfl,rfl⟩
  have hy:y≠0:=fun e=>hbad (.inr (.inr e))
  rcases h with ⟨-,rfl,h⟩ | ⟨h,-,-⟩
  rotate_left
  ·cases h
  rcases h' with ⟨-,rfl,h'⟩ | ⟨h',-,-⟩
  rotate_left
  ·cases h'
  have hc0:cm y 0≠0:=fun e=>hy ((cm_zero_iff y).1 e)
  have f1:=fits_mn h hy
  have f2:=fits_mD (z:=z) h' hy
  have a1:=fits_ab h
  have a2:=fits_ab h'
  have hg:=fits_gc h h'
  have hgp:=gc_pos (x:=z) hy
  have hgn:gc z y≠0:=by omega
  have e:mkV (true && true) z y = if rok true (mn z y) (mD z y) = true then .tuple #[RX (mn z y) (mD z y),.bool true] else .tuple #[RX 0 0,.bool false]:=by
   unfold mkV mok rok
   rw [decide_eq_false hy,decide_eq_true (mk_pos hy),decide_eq_true (mk_gc hy)]
   simp only [Bool.and_true,Bool.true_and,Bool.not_false]
  rw [e]
  have k1:=fun W=>rx_rvalid f1 f2 W
  generalize rok true (mn z y) (mD z y) = t at *
  clear e hbad
  have sb:=sg_beq z y
  have gg:=fun W=>rx_gcd a1 a2 (ab_nonneg z) (ab_nonneg y) W
  rw [gc_abs] at gg
  have d1:=fun W=>rx_divmod a1 hg hgn W
  have d2:=fun W=>rx_divmod a2 hg hgn W
  have e2:ab y / gc z y = mD z y:=rfl
  rw [e2] at d2
  have f3:=fits_ediv a1 hgn
  obtain ⟨m1,m2⟩:=mn_sg (z:=z) hy
  by_cases hs:(z < 0↔y < 0)
  ·have e1:=m1 hs
   rw [e1] at k1 f1 ⊢
   rw [decide_eq_true hs] at sb
   clear m1 m2 e1 e2 hs
   generalize ab z / gc z y = N at *
   generalize mD z y = D at *
   generalize gc z y = G at *
   cases t
   all_goals
    refine known_of (enter Tryz.func77 r03_Make.ok (args:=[_,_]) (by simp) ?_)
    repeat' (first | simp (disch:=omega) only [sxE,r03_Make.E,Nat.reduceAdd,Nat.reduceEqDiff,Nat.reduceMul,Nat.reduceSub,Int.reduceAdd,Int.reduceSub,Int.reduceMul,Int.reduceNeg,Int.reduceLT,Int.reduceLE,Int.reduceEq,Int.reduceToNat,↓reduceIte,Int.reducePow,Nat.reduceLeDiff,Nat.reduceLT,ne_eq,eq_self,List.length_cons,List.length_nil,qxE,sb] | (with_reducible refine Sx.call_at (f:=100) (fun W hW=>v1 W) ?_) | (with_reducible refine Sx.call_at (f:=100) (fun W hW=>v2 W) ?_) | (with_reducible refine Sx.call_at (f:=104) (fun W hW=>s2 W) ?_) | (with_reducible refine Sx.call_at (f:=107) (fun W hW=>rx_abs W) ?_) | (with_reducible refine Sx.call_at (f:=106) (fun W hW=>gg W) ?_) | (with_reducible refine Sx.call_at (f:=116) (fun W hW=>d1 W) ?_) | (with_reducible refine Sx.call_at (f:=116) (fun W hW=>d2 W) ?_) | (with_reducible refine Sx.call_at (f:=49) (fun W hW=>k1 W) ?_) | (with_reducible refine cregF ?_))
    try rfl
  ·have e1:=m2 hs
   rw [e1] at k1 f1 ⊢
   rw [decide_eq_false hs] at sb
   clear m1 m2 e1 e2 hs
   generalize ab z / gc z y = N at *
   generalize mD z y = D at *
   generalize gc z y = G at *
   cases t
   all_goals
    refine known_of (enter Tryz.func77 r03_Make.ok (args:=[_,_]) (by simp) ?_)
    repeat' (first | simp (disch:=omega) only [sxE,r03_Make.E,Nat.reduceAdd,Nat.reduceEqDiff,Nat.reduceMul,Nat.reduceSub,Int.reduceAdd,Int.reduceSub,Int.reduceMul,Int.reduceNeg,Int.reduceLT,Int.reduceLE,Int.reduceEq,Int.reduceToNat,↓reduceIte,Int.reducePow,Nat.reduceLeDiff,Nat.reduceLT,ne_eq,eq_self,List.length_cons,List.length_nil,qxE,sb] | (with_reducible refine Sx.call_at (f:=100) (fun W hW=>v1 W) ?_) | (with_reducible refine Sx.call_at (f:=100) (fun W hW=>v2 W) ?_) | (with_reducible refine Sx.call_at (f:=104) (fun W hW=>s2 W) ?_) | (with_reducible refine Sx.call_at (f:=107) (fun W hW=>rx_abs W) ?_) | (with_reducible refine Sx.call_at (f:=106) (fun W hW=>gg W) ?_) | (with_reducible refine Sx.call_at (f:=116) (fun W hW=>d1 W) ?_) | (with_reducible refine Sx.call_at (f:=116) (fun W hW=>d2 W) ?_) | (with_reducible refine Sx.call_at (f:=117) (fun W hW=>rx_neg f3 W) ?_) | (with_reducible refine Sx.call_at (f:=49) (fun W hW=>k1 W) ?_) | (with_reducible refine cregF ?_))
    try rfl
end Go.Proofs.YtncmmbacoknefaaGreat

/- Tp: A symbolic run: calls that move a tape. -/
namespace Go.Proofs.YtncmmbacoknefaaGreat
open Go Go.RowKit Sx
set_option linter.unusedVariables false
set_option linter.unusedSimpArgs false
namespace Sx
variable {C:Cx} {S:St} {K:St→Prop} {d:Option Nat}
def hK (w:World) (tb B Bm:Nat):KnG where
 bs:=List.range' tb (w.heap.size - tb)
 ok n W:=n = tb∧(tb < w.heap.size∧B≤w.heap.size)∧TapeOk B Bm W tb∧w.heap.size≤W.heap.size∧∀ i,i < w.heap.size→i≠tb→W.heap[i]? = w.heap[i]?
 lt:=fun {n W} h b hb=>by
  obtain ⟨h0,⟨h1,h1b⟩,h2,h3,-⟩:=h
  rw [List.mem_range'] at hb
  obtain ⟨i,hi,rfl⟩:=hb
  omega
 keep:=fun {n W W'} h hs hb ho=>by
  obtain ⟨h0,⟨hw,hB⟩,⟨a,len,cap,k,h1,h2,h3,h4,h5,h6,h7,h8⟩,hsz,hg⟩:=h
  have all:∀ i,i < w.heap.size→W'.heap[i]? = W.heap[i]? := fun i hi=>by
   rcases Nat.lt_or_ge i tb with h | h
   ·exact ho i (by omega) (by omega)
   ·exact hb i (List.mem_range'.2 ⟨i - tb,by omega,by omega⟩)
  have ht:=all tb hw
  refine ⟨h0,⟨hw,hB⟩,⟨a,len,cap,k,h1,Nat.le_trans h2 hs,(World.cell?_of_block (a:=⟨tb,0,none⟩) ht).trans h3,(World.cell?_of_block (a:=⟨tb,1,none⟩) ht).trans h4,(World.frozen?_of_block (a:=⟨tb,1,none⟩) ht).trans h5,h6,h7,fun hl=>?_⟩,Nat.le_trans hsz hs,fun i hi hn=>(all i hi).trans (hg i hi hn)⟩
  obtain ⟨bb,off,e,hne,hlt,hlm,hc⟩:=h8 hl
  refine ⟨bb,off,e,hne,hlt,hlm,fun i hi=>?_⟩
  obtain ⟨x,hx,hix⟩:=hc i hi
  exact ⟨x,(World.cell?_of_block (a:=⟨bb,off + i,none⟩) (all bb (by omega))).trans hx,hix⟩
structure TpK (k:KnG) (n tb B Bm:Nat):Prop where
 tape:∀ {W},k.ok n W→TapeOk B Bm W tb
 go:∀ {W W'},k.ok n W→TapeOk B Bm W' tb→W.grownBy W' (some tb)→k.ok n W'
 ge:∀ {W},k.ok n W→n≤tb
 mem:∀ {W},k.ok n W→tb∈k.bs
theorem tpk_t (n tb:Nat):TpK (tK tb) n tb (tb + 1) n where
 tape h:=h.2
 go h ht hg:=⟨h.1,ht⟩
 ge h:=h.1
 mem h:=List.mem_singleton.2 rfl
theorem tpk_h (w:World) (tb B Bm:Nat):TpK (hK w tb B Bm) tb tb B Bm where
 tape h:=h.2.2.1
 go h ht hg:=⟨h.1,h.2.1,ht,Nat.le_trans h.2.2.2.1 hg.size,fun i hi hn=>(hg.block i (Nat.lt_of_lt_of_le hi h.2.2.2.1) (fun e=>hn (Option.some.inj e))).trans (h.2.2.2.2 i hi hn)⟩
 ge h:=Nat.le_of_eq h.1
 mem h:=List.mem_range'.2 ⟨0,by have:=h.2.1; omega,by omega⟩
theorem asks_tp {f:FuncId} {l:List Value} {L:List Kn} {ι:Type} {P:ι→Prop} {k:KnG} {tb B Bm:Nat} (v:ι→Value) (hk:TpK k C.w0.heap.size tb B Bm) (he:∀ (l:Array Value) W,(callFunc f l).run C.P W = .ok (.enter f l) W) (hT:S.T = kX C.w0.heap.size L) (hm:.g k∈L) (hmv:C.mv S = S.T.bs)
  (hL:∀ j∈L,j = .g k∨tb ∉ j.bs)
  (h:∀ W,TapeOk B Bm W tb→Calls C.P f l.toArray W fun e w'=>∃ i,P i∧e = .returned (v i)∧TapeOk B Bm w' tb∧W.grownBy w' (some tb))
  (hK:∀ i,P i→K (St.put S d (.v (v i)))):asks C f l d K S:=by
 refine asks_T (ι:={i // P i}) (fun i=>v i.1) (fun _=>S.T) (fun W hW hok hbs=>givesT_calls he (fun i=>by rw [hT]; exact kX_stab C L) ?_) (fun i=>hK i.1 i.2)
 rw [hT] at hok
 have ho:k.ok C.w0.heap.size W:=hok _ hm
 refine (h W (hk.tape ho)).mono fun e w' ⟨i,hi,he,h1,h2⟩=>⟨⟨i,hi⟩,he,⟨h2.os,h2.tape,h2.output,h2.size,fun j hj hn=>h2.block j hj fun e=>hn (by cases e; rw [hmv,hT]; exact kX_bs.2 ⟨_,hm,hk.mem ho⟩)⟩,?_,fun b hb=>⟨.inl hb,?_⟩⟩
 ·rw [hT]
  intro j hj
  rcases hL j hj with rfl | hb
  ·exact hk.go ho h1 h2
  ·refine (hok j hj).keep h2.size (fun b hbb=>h2.block b ((hok j hj).lt b hbb).2 fun e=>hb (by cases e; exact hbb)) fun b hbn hbl=>h2.block b hbl fun e=>?_
   have:=hk.ge ho
   have e2:b = tb:=Option.some.inj e
   omega
 ·rw [hT] at hb
  exact Nat.lt_of_lt_of_le (kX_lt hok b hb).2 h2.size
theorem hK_start {w:World} {tb B Bm:Nat} (h:TapeOk B Bm w tb):(kX (cut w tb).heap.size [.g (hK w tb B Bm)]).ok w∧∀ b∈(kX (cut w tb).heap.size [.g (hK w tb B Bm)]).bs,(cut w tb).heap.size≤b∧b < w.heap.size:=by
 have hc:=cut_size (Nat.le_of_lt h.lt)
 have h1:(kX (cut w tb).heap.size [.g (hK w tb B Bm)]).ok w:=fun k hk=>by
  rw [List.mem_singleton.1 hk]
  exact ⟨hc,⟨h.lt,h.leB⟩,h,Nat.le_refl _,fun _ _ _=>rfl⟩
 exact ⟨h1,kX_lt h1⟩
theorem hK_end {w w':World} {tb B Bm:Nat} {L:List Kn} (h:(kX (cut w tb).heap.size L).ok w') (hm:.g (hK w tb B Bm)∈L) (hb:Below (cut w tb).heap.size (cut w tb) w'):TapeOk B Bm w' tb∧w.grownBy w' (some tb):=by
 have hk:(hK w tb B Bm).ok (cut w tb).heap.size w':=h _ hm
 exact ⟨hk.2.2.1,hb.os,hb.tape,hb.output,hk.2.2.2.1,fun i hi hn=>hk.2.2.2.2 i hi fun e=>hn (by rw [e])⟩
theorem tpk_h' {w:World} {tb B Bm:Nat} (h:TapeOk B Bm w tb):TpK (hK w tb B Bm) (cut w tb).heap.size tb B Bm:=by
 rw [cut_size (Nat.le_of_lt h.lt)]; exact tpk_h w tb B Bm
end Sx
def TpC (f:FuncId) (l:List Value) (tb:Nat) {ι:Type} (P:ι→Prop) (v:ι→Value):Prop:=∀ {B Bm:Nat} (W:World),TapeOk B Bm W tb→Calls Tryz.prog f l.toArray W fun e w'=>∃ i,P i∧e = .returned (v i)∧TapeOk B Bm w' tb∧W.grownBy w' (some tb)
theorem t_next (tb:Nat) {n:Int} (h1:1≤n) (h2:n≤1000000):TpC 20 [.pointer (some ⟨tb,0,none⟩),.int .i64 n] tb (fun r:Int=>0≤r∧r < n) (fun r=>.int .i64 r) :=
 fun W h=>(next_in tb n h1 h2 W h).mono fun e w' ⟨r,a,b,c,d⟩=>⟨r,a,b,c,d⟩
theorem t_bool (tb:Nat) {n:Int} (h1:2≤n) (h2:n≤1000):TpC 69 [.pointer (some ⟨tb,0,none⟩),.int .i64 n] tb (fun _:Bool=>True) (fun r=>.bool r) :=
 fun W h=>(bool_any tb n h1 h2 W h).mono fun e w' ⟨r,b,c,d⟩=>⟨r,trivial,b,c,d⟩
theorem t_word (tb:Nat):TpC 70 [.pointer (some ⟨tb,0,none⟩)] tb U64 (fun r=>.int .u64 r) :=
 fun W h=>(word_any tb W h).mono fun e w' ⟨r,a,b,c,d⟩=>⟨r,a,b,c,d⟩
theorem t_int (tb:Nat):TpC 68 [.pointer (some ⟨tb,0,none⟩)] tb I64 (fun r=>.int .i64 r) :=
 fun W h=>(int_any tb W h).mono fun e w' ⟨r,a,b,c,d⟩=>⟨r,a,b,c,d⟩
theorem t_tol (tb:Nat):TpC 17 [.pointer (some ⟨tb,0,none⟩)] tb Tol (fun r=>.int .i64 r) :=
 fun W h=>(tol_any tb W h).mono fun e w' ⟨r,a,b,c,d⟩=>⟨r,a,b,c,d⟩
theorem asks_tc {C:Cx} {S:St} {K:St→Prop} {d:Option Nat} {f:FuncId} {l:List Value} {L:List Kn} {ι:Type} {P:ι→Prop} {v:ι→Value} {k:KnG} {tb B Bm:Nat} (hP:C.P = Tryz.prog) (hk:TpK k C.w0.heap.size tb B Bm) (h:TpC f l tb P v) (he:∀ (l:Array Value) W,(callFunc f l).run Tryz.prog W = .ok (.enter f l) W) (hT:S.T = kX C.w0.heap.size L) (hm:.g k∈L) (hmv:C.mv S = S.T.bs)
  (hL:∀ j∈L,j = .g k∨tb ∉ j.bs) (hK:∀ i,P i→K (St.put S d (.v (v i)))):asks C f l d K S :=
 asks_tp v hk (by rw [hP]; exact he) hT hm hmv hL (fun W hW=>by rw [hP]; exact h W hW) hK
end Go.Proofs.YtncmmbacoknefaaGreat

/- CdT: MADE BY PROGRAM (sxgen.py): the small code of some functions, points of it and their equations. -/
namespace Go.Proofs.YtncmmbacoknefaaGreat
open Go Go.RowKit Sx Sx.Q
set_option linter.unusedVariables false
variable (C:Cx) (R L1 L2 L3 L4:St→Prop)
namespace m_Tape__Ratio
abbrev q0:=[0,2]
abbrev r0:List G:=[e 2 (.new zR)]
abbrev q1:=[0,2,3,4]
abbrev r1:List G:=[m 7 0,e 8 (.call false 20 [(t 7),(i 200)]),bi 9 .sub 8 100,K1 10 50 9,m 11 0,e 12 (.call false 20 [(t 11),(i 60)]),e 13 (.bin .add (i 1) (t 12)),K1 14 50 13,e 3 (.new zW),e 4 (.new zW),V 5 3 10,V 5 4 14]
abbrev q2:=[0,2,3,4,16]
abbrev r2:List G:=[m 15 0,e 16 (.call false 69 [(t 15),(i 4)])]
abbrev r3:List G:=[m 17 0,K1 18 68 17,K1 19 50 18,m 20 0,K1 21 70 20,bu 22 .or 21 1,K1 23 75 22,V 5 3 19,V 5 4 23]
abbrev q3:=[2,3,4,25]
abbrev r4:List G:=[m 24 0,e 25 (.call false 69 [(t 24),(i 8)])]
abbrev q4:=[2,3,4]
abbrev r5:List G:=[L 27 5 3,e 28 (.call true 50 [(i 4611686018427387904)]),k2 29 76 27 28,m 26 29,x 30 26 0,x 31 26 1]
abbrev t5:List G:=[V 5 3 30]
abbrev q5:=[2,5,6]
abbrev r6:List G:=[L 33 5 3,L 34 5 4,K2 35 77 33 34,m 32 35,x 36 32 0,x 37 32 1,e 5 (.new zR),V 10 5 36,m 6 37]
abbrev q6:=[2,5,39]
abbrev r7:List G:=[m 38 6,e 39 (.un .not (t 38))]
abbrev r8:List G:=[e 40 (.call false 78 [(i 1)]),V 10 2 40]
abbrev r9:List G:=[L 41 10 5,V 10 2 41]
abbrev c:MC:=sq [g r0 q0,g r1 q1,sq [g r2 q2,ci 16 (g r3 q1) .skip],sq [g r4 q3,ci 25 (gd r5 t5 q4) .skip],g r6 q5,sq [g r7 q6,ci 39 (sq [g r8 [2],.ret]) .skip],g r9 [2],.ret]
theorem ok:compF Tryz.prog Tryz.f21 (an (rg 10) c [(5,6,[5],(up 5 ++ [(5,2)]),[])]) = some (42,c,[(2,some (true,10))]):=by kernel_rfl
abbrev p1:=P C r9 [2] R
abbrev p3:=P C r8 [2] R
abbrev p2:=cd (t 39) (p3 C R) (p1 C R)
abbrev p4:=P C r7 q6 (p2 C R)
abbrev p5:=P C r6 q5 (p4 C R)
abbrev p7:=Pd C r5 t5 q4 (p5 C R)
abbrev p6:=cd (t 25) (p7 C R) (p5 C R)
abbrev p8:=P C r4 q3 (p6 C R)
abbrev p10:=P C r3 q1 (p8 C R)
abbrev p9:=cd (t 16) (p10 C R) (p8 C R)
abbrev p11:=P C r2 q2 (p9 C R)
abbrev p12:=P C r1 q1 (p11 C R)
abbrev p13:=P C r0 q0 (p12 C R)
theorem s (S:St):X C c (retK R) S = p13 C R S:=by kernel_rfl
theorem E:type_of% @s:=@s
end m_Tape__Ratio
end Go.Proofs.YtncmmbacoknefaaGreat

/- Tr: What a call of the tape's Ratio gives. -/
namespace Go.Proofs.YtncmmbacoknefaaGreat
open Go Go.RowKit Sx
set_option linter.unusedVariables false
set_option linter.unusedSimpArgs false
theorem mkV_cases {b:Bool} {z y:Int}:(mok b z y = true∧mkV b z y = .tuple #[RX (mn z y) (mD z y),.bool true])∨(mok b z y = false∧mkV b z y = .tuple #[RX 0 0,.bool false]):=by
 unfold mkV
 cases h:mok b z y
 ·exact .inr ⟨rfl,rfl⟩
 ·exact .inl ⟨rfl,rfl⟩
theorem or_one {x:Int} (h:U64 x):U64 (IntKind.u64.wrap (BitVec.ofInt IntKind.u64.bits x ||| BitVec.ofInt IntKind.u64.bits 1).toNat)∧IntKind.u64.wrap (BitVec.ofInt IntKind.u64.bits x ||| BitVec.ofInt IntKind.u64.bits 1).toNat≠0:=by
 have hlt:=(BitVec.ofInt IntKind.u64.bits x ||| BitVec.ofInt IntKind.u64.bits 1).isLt
 have hne:(BitVec.ofInt IntKind.u64.bits x ||| BitVec.ofInt IntKind.u64.bits 1).toNat≠0:=by
  intro e
  rw [BitVec.toNat_or] at e
  have h2:=Nat.or_eq_zero_iff.1 e
  have:(BitVec.ofInt IntKind.u64.bits 1).toNat = 1:=by decide
  omega
 generalize (BitVec.ofInt IntKind.u64.bits x ||| BitVec.ofInt IntKind.u64.bits 1).toNat = n at *
 have hb:(n:Int) < 18446744073709551616:=by
  have:(2:Nat) ^ IntKind.u64.bits = 18446744073709551616:=by decide
  rw [this] at hlt; omega
 have e:IntKind.u64.wrap (n:Int) = n:=IntWalk.u64_in _ (by omega)
 rw [e]
 exact ⟨⟨by omega,by omega⟩,by omega⟩
def IsR (v:Value):Prop:=∃ x:Int × Int,Fq x.1 x.2∧v = RX x.1 x.2
set_option maxRecDepth 100000 in
theorem t_ratio (tb:Nat):TpC 21 [.pointer (some ⟨tb,0,none⟩)] tb (fun x:Int × Int=>Fq x.1 x.2) (fun x=>RX x.1 x.2):=by
 intro B Bm w ht
 refine Calls.mono (enterG Tryz.func21 m_Tape__Ratio.ok (args:=[.pointer (some ⟨tb,0,none⟩)]) (w0:=cut w tb) (T:=kX (cut w tb).heap.size [.g (hK w tb B Bm)]) (R:=fun v X=>(IsR) v∧X = kX (cut w tb).heap.size [.g (hK w tb B Bm)]) (by simp) (below_cut (Nat.le_of_lt ht.lt)) (hK_start ht).1 (kX_stab (Sx.cx _ (cut w tb) _) _) (hK_start ht).2 ?run) ?fin; have hk:=tpk_h' ht
 case fin =>
  rintro e w' ⟨v,X,rfl,⟨⟨x,hx,rfl⟩,rfl⟩,hX,hb,-⟩
  obtain ⟨h1,h2⟩:=hK_end hX (List.mem_singleton.2 rfl) hb
  exact ⟨x,hx,rfl,h1,h2⟩
 case run =>
  try dsimp only
  repeat' (first | simp (disch:=omega) only [sxE,m_Tape__Ratio.E,Nat.reduceAdd,Nat.reduceEqDiff,Nat.reduceMul,Nat.reduceSub,Int.reduceAdd,Int.reduceSub,Int.reduceMul,Int.reduceNeg,Int.reduceLT,Int.reduceLE,Int.reduceEq,Int.reduceToNat,↓reduceIte,Int.reducePow,Nat.reduceLeDiff,Nat.reduceLT,ne_eq,eq_self,List.length_cons,List.length_nil,qxE] | (with_reducible refine cregF ?_))
  refine asks_tc rfl (hk) (t_next tb (by decide) (by decide)) en_m_Tape__Next rfl (by first | exact List.mem_singleton.2 rfl | simp) rfl (by first | exact fun j hj=>.inl (List.mem_singleton.1 hj) | simp) ?_
  intro r1 ⟨a1,a2⟩
  have i1:I64 (r1 - 100):=⟨by omega,by omega⟩
  repeat' (first | simp (disch:=omega) only [sxE,m_Tape__Ratio.E,Nat.reduceAdd,Nat.reduceEqDiff,Nat.reduceMul,Nat.reduceSub,Int.reduceAdd,Int.reduceSub,Int.reduceMul,Int.reduceNeg,Int.reduceLT,Int.reduceLE,Int.reduceEq,Int.reduceToNat,↓reduceIte,Int.reducePow,Nat.reduceLeDiff,Nat.reduceLT,ne_eq,eq_self,List.length_cons,List.length_nil,qxE] | (with_reducible refine Sx.call_at (f:=50) (fun W hW=>rx_of i1 W) ?_) | (with_reducible refine cregF ?_))
  refine asks_tc rfl (hk) (t_next tb (by decide) (by decide)) en_m_Tape__Next rfl (by first | exact List.mem_singleton.2 rfl | simp) rfl (by first | exact fun j hj=>.inl (List.mem_singleton.1 hj) | simp) ?_
  intro r2 ⟨b1,b2⟩
  have i2:I64 (1 + r2):=⟨by omega,by omega⟩
  have f1:=(bd_i64 i1).fits
  have f2:=(bd_i64 i2).fits
  repeat' (first | simp (disch:=omega) only [sxE,m_Tape__Ratio.E,Nat.reduceAdd,Nat.reduceEqDiff,Nat.reduceMul,Nat.reduceSub,Int.reduceAdd,Int.reduceSub,Int.reduceMul,Int.reduceNeg,Int.reduceLT,Int.reduceLE,Int.reduceEq,Int.reduceToNat,↓reduceIte,Int.reducePow,Nat.reduceLeDiff,Nat.reduceLT,ne_eq,eq_self,List.length_cons,List.length_nil,qxE] | (with_reducible refine Sx.call_at (f:=50) (fun W hW=>rx_of i2 W) ?_) | (with_reducible refine cregF ?_))
  have bN:=bd_i64 i1
  have bD:=bd_i64 i2
  have dne:1 + r2≠0:=by omega
  refine asks_tc rfl (hk) (t_bool tb (by decide) (by decide)) en_m_Tape__Bool rfl (by first | exact List.mem_singleton.2 rfl | simp) rfl (by first | exact fun j hj=>.inl (List.mem_singleton.1 hj) | simp) ?_
  rintro (_ | _) -
  case' true =>
   repeat' (first | simp (disch:=omega) only [sxE,m_Tape__Ratio.E,Nat.reduceAdd,Nat.reduceEqDiff,Nat.reduceMul,Nat.reduceSub,Int.reduceAdd,Int.reduceSub,Int.reduceMul,Int.reduceNeg,Int.reduceLT,Int.reduceLE,Int.reduceEq,Int.reduceToNat,↓reduceIte,Int.reducePow,Nat.reduceLeDiff,Nat.reduceLT,ne_eq,eq_self,List.length_cons,List.length_nil,qxE] | (with_reducible refine cregF ?_))
   refine asks_tc rfl (hk) (t_int tb) en_m_Tape__Int rfl (by first | exact List.mem_singleton.2 rfl | simp) rfl (by first | exact fun j hj=>.inl (List.mem_singleton.1 hj) | simp) ?_
   intro z hz
   clear bN bD dne i1 i2 f1 f2 a1 a2 b1 b2
   repeat' (first | simp (disch:=omega) only [sxE,m_Tape__Ratio.E,Nat.reduceAdd,Nat.reduceEqDiff,Nat.reduceMul,Nat.reduceSub,Int.reduceAdd,Int.reduceSub,Int.reduceMul,Int.reduceNeg,Int.reduceLT,Int.reduceLE,Int.reduceEq,Int.reduceToNat,↓reduceIte,Int.reducePow,Nat.reduceLeDiff,Nat.reduceLT,ne_eq,eq_self,List.length_cons,List.length_nil,qxE] | (with_reducible refine Sx.call_at (f:=50) (fun W hW=>rx_of hz W) ?_) | (with_reducible refine cregF ?_))
   refine asks_tc rfl (hk) (t_word tb) en_m_Tape__Word rfl (by first | exact List.mem_singleton.2 rfl | simp) rfl (by first | exact fun j hj=>.inl (List.mem_singleton.1 hj) | simp) ?_
   intro y hy
   obtain ⟨o1,o2⟩:=or_one hy
   have bN:=bd_i64 hz
   have bD:=bd_u64 o1
   have dne:=o2
   have i1:True:=trivial
   have i2:True:=trivial
   have a1:True:=trivial
   have a2:True:=trivial
   have b1:True:=trivial
   have b2:True:=trivial
   have f1:=bN.fits
   have f2:=bD.fits
   repeat' (first | simp (disch:=omega) only [sxE,m_Tape__Ratio.E,Nat.reduceAdd,Nat.reduceEqDiff,Nat.reduceMul,Nat.reduceSub,Int.reduceAdd,Int.reduceSub,Int.reduceMul,Int.reduceNeg,Int.reduceLT,Int.reduceLE,Int.reduceEq,Int.reduceToNat,↓reduceIte,Int.reducePow,Nat.reduceLeDiff,Nat.reduceLT,ne_eq,eq_self,List.length_cons,List.length_nil,qxE] | (with_reducible refine cregF ?_))
   generalize IntKind.u64.wrap (BitVec.ofInt IntKind.u64.bits y ||| BitVec.ofInt IntKind.u64.bits 1).toNat = D at *
   repeat' (first | simp (disch:=omega) only [sxE,m_Tape__Ratio.E,Nat.reduceAdd,Nat.reduceEqDiff,Nat.reduceMul,Nat.reduceSub,Int.reduceAdd,Int.reduceSub,Int.reduceMul,Int.reduceNeg,Int.reduceLT,Int.reduceLE,Int.reduceEq,Int.reduceToNat,↓reduceIte,Int.reducePow,Nat.reduceLeDiff,Nat.reduceLT,ne_eq,eq_self,List.length_cons,List.length_nil,qxE] | (with_reducible refine Sx.call_at (f:=75) (fun W hW=>rx_ofU o1 W) ?_) | (with_reducible refine cregF ?_))
  case' false =>
   repeat' (first | simp (disch:=omega) only [sxE,m_Tape__Ratio.E,Nat.reduceAdd,Nat.reduceEqDiff,Nat.reduceMul,Nat.reduceSub,Int.reduceAdd,Int.reduceSub,Int.reduceMul,Int.reduceNeg,Int.reduceLT,Int.reduceLE,Int.reduceEq,Int.reduceToNat,↓reduceIte,Int.reducePow,Nat.reduceLeDiff,Nat.reduceLT,ne_eq,eq_self,List.length_cons,List.length_nil,qxE] | (with_reducible refine cregF ?_))
  all_goals
   clear i1 i2 a1 a2 b1 b2
   refine asks_tc rfl (hk) (t_bool tb (by decide) (by decide)) en_m_Tape__Bool rfl (by first | exact List.mem_singleton.2 rfl | simp) rfl (by first | exact fun j hj=>.inl (List.mem_singleton.1 hj) | simp) ?_
   rintro (_ | _) -
   case' true =>
    have i62:I64 4611686018427387904:=⟨by decide,by decide⟩
    have f3:=(bd_mul bN (bd_i64 i62)).fits
    have f62:=(bd_i64 i62).fits
    repeat' (first | simp (disch:=omega) only [sxE,m_Tape__Ratio.E,Nat.reduceAdd,Nat.reduceEqDiff,Nat.reduceMul,Nat.reduceSub,Int.reduceAdd,Int.reduceSub,Int.reduceMul,Int.reduceNeg,Int.reduceLT,Int.reduceLE,Int.reduceEq,Int.reduceToNat,↓reduceIte,Int.reducePow,Nat.reduceLeDiff,Nat.reduceLT,ne_eq,eq_self,List.length_cons,List.length_nil,qxE] | (with_reducible refine Sx.call_at (f:=50) (fun W hW=>rx_of i62 W) ?_) | (with_reducible refine Sx.call_at (f:=76) (fun W hW=>rx_mul f1 f62 f3 W) ?_) | (with_reducible refine cregF ?_))
    clear f1 bN i62 f62
    have f1:=f3
    clear f3
    have bN:=True.intro
   case' false =>
    repeat' (first | simp (disch:=omega) only [sxE,m_Tape__Ratio.E,Nat.reduceAdd,Nat.reduceEqDiff,Nat.reduceMul,Nat.reduceSub,Int.reduceAdd,Int.reduceSub,Int.reduceMul,Int.reduceNeg,Int.reduceLT,Int.reduceLE,Int.reduceEq,Int.reduceToNat,↓reduceIte,Int.reducePow,Nat.reduceLeDiff,Nat.reduceLT,ne_eq,eq_self,List.length_cons,List.length_nil,qxE] | (with_reducible refine cregF ?_))
   all_goals
    clear bN
    have mk1:=fun W=>rx_rmake f1.rw f2.rw W
    rcases mkV_cases (b:=true && true) with ⟨hm,e⟩ | ⟨hm,e⟩
    ·rw [e] at mk1
     have hq:=mok_fq hm
     clear e hm
     repeat' (first | simp (disch:=omega) only [sxE,m_Tape__Ratio.E,Nat.reduceAdd,Nat.reduceEqDiff,Nat.reduceMul,Nat.reduceSub,Int.reduceAdd,Int.reduceSub,Int.reduceMul,Int.reduceNeg,Int.reduceLT,Int.reduceLE,Int.reduceEq,Int.reduceToNat,↓reduceIte,Int.reducePow,Nat.reduceLeDiff,Nat.reduceLT,ne_eq,eq_self,List.length_cons,List.length_nil,qxE] | (with_reducible refine Sx.call_at (f:=77) (fun W hW=>mk1 W) ?_) | (with_reducible refine cregF ?_))
     exact ⟨(_,_),hq,rfl⟩
    ·rw [e] at mk1
     clear e hm
     repeat' (first | simp (disch:=omega) only [sxE,m_Tape__Ratio.E,Nat.reduceAdd,Nat.reduceEqDiff,Nat.reduceMul,Nat.reduceSub,Int.reduceAdd,Int.reduceSub,Int.reduceMul,Int.reduceNeg,Int.reduceLT,Int.reduceLE,Int.reduceEq,Int.reduceToNat,↓reduceIte,Int.reducePow,Nat.reduceLeDiff,Nat.reduceLT,ne_eq,eq_self,List.length_cons,List.length_nil,qxE] | (with_reducible refine Sx.call_at (f:=77) (fun W hW=>mk1 W) ?_) | (with_reducible refine Sx.call_at (f:=78) (fun W hW=>rx_rof i64_one W) ?_) | (with_reducible refine cregF ?_))
     exact ⟨(1,1),fq_int (bd_le bd_one (by decide)),rfl⟩
end Go.Proofs.YtncmmbacoknefaaGreat

/- Rw: Make on atoms; raw Wides and Ratios as arguments. -/
namespace Go.Proofs.YtncmmbacoknefaaGreat
open Go Go.RowKit Sx
set_option linter.unusedVariables false
set_option linter.unusedSimpArgs false
theorem rx_make {z y:Int} (h:Fits z) (h':Fits y) (W:World):Gives Tryz.prog 77 [WX z,WX y] W (· = mkV true z y):=rx_rmake h.rw h'.rw W
theorem mkV_yes {z y:Int} (h:mok true z y = true):mkV true z y = .tuple #[RX (mn z y) (mD z y),.bool true]:=by unfold mkV; rw [if_pos h]
theorem rw_cq {c0 c1 c2 c3 c4 d0 d1 d2 d3 d4:Value} {t t':Bool} {z y:Int} (h:RW (.agg #[c0,c1,c2,c3,c4]) t z) (h':RW (.agg #[d0,d1,d2,d3,d4]) t' y):∃ p q,CQ (.agg #[c0,c1,c2,c3,c4,d0,d1,d2,d3,d4]) p q:=by
 rcases h with ⟨-,e,h⟩ | ⟨-,e,-⟩ <;> rcases h' with ⟨-,e',h'⟩ | ⟨-,e',-⟩
 ·cases e; cases e'
  exact ⟨_,_,.inl ⟨z,y,h,h',rfl,rfl,rfl⟩⟩
 ·cases e; cases e'
  exact ⟨0,1,.inr ⟨.inr (.inl ⟨z,h,rfl⟩),rfl,rfl⟩⟩
 ·cases e; cases e'
  exact ⟨0,1,.inr ⟨.inl ⟨y,h',rfl⟩,rfl,rfl⟩⟩
 ·cases e; cases e'
  exact ⟨0,1,.inr ⟨.inr (.inr rfl),rfl,rfl⟩⟩
theorem cq_raw (n n':Bool) {a b c d a' b' c' d':Int} (ha:U64 a) (hb:U64 b) (hc:U64 c) (hd:U64 d) (ha':U64 a') (hb':U64 b') (hc':U64 c') (hd':U64 d') :
  ∃ p q,CQ (.agg #[.bool n,.int .u64 a,.int .u64 b,.int .u64 c,.int .u64 d,.bool n',.int .u64 a',.int .u64 b',.int .u64 c',.int .u64 d']) p q:=by
 obtain ⟨t,z,h⟩:=rw_raw n ha hb hc hd
 obtain ⟨t',y,h'⟩:=rw_raw n' ha' hb' hc' hd'
 exact rw_cq h h'
end Go.Proofs.YtncmmbacoknefaaGreat

/- CdI: MADE BY PROGRAM (sxgen.py): the small code of some functions, points of it and their equations. -/
namespace Go.Proofs.YtncmmbacoknefaaGreat
open Go Go.RowKit Sx Sx.Q
set_option linter.unusedVariables false
variable (C:Cx) (R L1 L2 L3 L4:St→Prop)
namespace wide_Int64
abbrev r0:List G:=[e 1 (.box true 5 (t 0)),Mi 2 0,Mb 3 false]
abbrev r1:List G:=[L 5 5 1,K1 6 161 5,V 5 1 6]
abbrev q0:=[1,4]
abbrev r2:List G:=[a 7 1 1,e 8 (.ia 4 1 (t 7) (i 0)),l 9 8,m 4 9]
abbrev q1:=[1,4,10]
abbrev r3:List G:=[a 11 1 1,L 12 4 11,m 13 4,e 14 (.bd [.int .u64 0,.int .u64 0,.int .u64 0,.int .u64 0] [(0,1,(t 13))]),e 15 (.eqg true 35 (t 12) (t 14)),m 16 15,nm 17 16 4,n 18 16 (.bin .gtr (t 17) (u 9223372036854775808)),o 19 16 18,m 20 19,nm 21 20 4,n 22 20 (.bin .eql (t 21) (u 9223372036854775808)),nm 23 20 22,ya 24 23 0 1,yl 25 23 24,y 26 23 (.un .not (t 25)),n 27 20 (.pick (t 23) (t 26) bf),o 28 20 27,m 10 28]
abbrev q2:=[2,3]
abbrev r4:List G:=[Mi 2 0,Mb 3 false]
abbrev q3:=[4,29]
abbrev r5:List G:=[a 30 0 1,l 31 30,m 29 31]
abbrev r6:List G:=[m 32 4,e 33 (.un .neg (t 32)),e 34 (.cv .i64 (t 33)),m 2 34,Mb 3 true]
abbrev r7:List G:=[m 35 4,e 36 (.cv .i64 (t 35)),m 2 36,Mb 3 true]
abbrev c:MC:=sq [g r0 [1],g r1 [1],g r2 q0,.block 0 (sq [g r3 q1,ci 10 (sq [g r4 q2,.ret]) (sq [g r5 q3,ci 29 (sq [g r6 q2,.ret]) .skip])]),g r7 q2,.ret]
theorem ok:compF Tryz.prog Tryz.f139 (an (rg 8) c []) = some (37,c,[(2,none),(3,none)]):=by kernel_rfl
abbrev p1:=P C r7 q2 R
abbrev p3:=P C r4 q2 R
abbrev p5:=P C r6 q2 R
abbrev p4:=cd (t 29) (p5 C R) (p1 C R)
abbrev p6:=P C r5 q3 (p4 C R)
abbrev p2:=cd (t 10) (p3 C R) (p6 C R)
abbrev p7:=P C r3 q1 (p2 C R)
abbrev p8:=P C r2 q0 (p7 C R)
abbrev p9:=P C r1 [1] (p8 C R)
abbrev p10:=P C r0 [1] (p9 C R)
theorem s (S:St):X C c (retK R) S = p10 C R S:=by kernel_rfl
theorem E:type_of% @s:=@s
end wide_Int64
end Go.Proofs.YtncmmbacoknefaaGreat

/- Wi: Int64 of both, for all Wides. -/
namespace Go.Proofs.YtncmmbacoknefaaGreat
open Go Go.RowKit Sx
set_option linter.unusedVariables false
set_option linter.unusedSimpArgs false
def i6b (z:Int):Bool:=decide (-9223372036854775808≤z∧z≤9223372036854775807)
def i6v (z:Int):Int:=if i6b z then z else 0
theorem meq_low {m:Int} (h:A4 m):meq (lb0 m) (lb1 m) (lb2 m) (lb3 m) (lb0 m) 0 0 0 = decide (m < 18446744073709551616):=by
 have h4:=mv_me h
 have b0:=lb0_in m
 have b1:=lb1_in m
 have b2:=lb2_in m
 have b3:=lb3_in m
 rw [Bool.eq_iff_iff,decide_eq_true_eq]
 unfold meq
 generalize lb0 m = a at *
 generalize lb1 m = b at *
 generalize lb2 m = c at *
 generalize lb3 m = d at *
 unfold MV at h4
 obtain ⟨a1,a2⟩:=b0
 obtain ⟨c1,c2⟩:=b1
 obtain ⟨d1,d2⟩:=b2
 obtain ⟨e1,e2⟩:=b3
 simp only [beq_self_eq_true,Bool.true_and,Bool.and_eq_true,beq_iff_eq]
 omega
theorem wr_lo {m:Int} (h0:0≤m) (h:m < 9223372036854775808):IntKind.i64.wrap m = m:=wrap_i64_lo m h0 h
theorem wr_neg {m:Int} (h0:0 < m) (h:m≤9223372036854775808):IntKind.u64.wrap (0 - m) = 18446744073709551616 - m∧IntKind.i64.wrap (18446744073709551616 - m) = -m:=by
 refine ⟨by unfold IntKind.wrap; simp [IntKind.signed,IntKind.bits]; omega,?_⟩
 rw [wrap_i64_hi _ (by omega) (by omega)]
 omega
set_option maxRecDepth 100000 in
set_option maxHeartbeats 1000000 in
theorem g_int64 {v:Value} {z:Int} (h:IsW v z) (W:World):Gives Tryz.prog 139 [v] W (· = .tuple #[.int .i64 (i6v z),.bool (i6b z)]):=by
 obtain ⟨n,m,rfl,am,hab,hz,hn⟩:=h.me
 refine gives_known en_wide_Int64 ?_
 have p1:cn n (lb0 m) (lb1 m) (lb2 m) (lb3 m) = decide (z < 0):=hn
 obtain ⟨k1,k2⟩:=ab_of_sv (n:=n) hab
 have ml:=meq_low am
 have am0:=am.1
 clear h hn hz hab
 have no:i6b z = false→i6v z = 0:=fun e=>by unfold i6v; rw [e]; rfl
 have yes:i6b z = true→i6v z = z:=fun e=>by unfold i6v; rw [e]; rfl
 by_cases hlt:m < 18446744073709551616
 ·have u3:lb0 m = m:=Int.emod_eq_of_lt am0 hlt
  rw [decide_eq_true hlt] at ml
  by_cases hneg:z < 0
  ·have hzm:=k1 (decide_eq_true hneg)
   rw [decide_eq_true hneg] at p1
   by_cases hb:m≤9223372036854775808
   ·have u1:i6b z = true:=decide_eq_true (by omega)
    rw [yes u1,u1]
    obtain ⟨w1,w2⟩:=wr_neg (m:=m) (by omega) hb
    rw [← u3] at w1 w2
    have hb':¬ 9223372036854775808 < lb0 m:=by omega
    clear k1 k2 u1 hneg am no yes
    have hzm':z = -lb0 m:=by omega
    rw [hzm']
    clear hzm hzm' u3
    by_cases he:lb0 m = 9223372036854775808
    ·have d1:(lb0 m == 9223372036854775808) = true:=beq_iff_eq.2 he
     refine known_of (enter Tryz.func139 wide_Int64.ok (args:=[WV n (lb0 m) (lb1 m) (lb2 m) (lb3 m)]) (by simp) ?_)
     repeat' (first | simp (disch:=omega) only [sxE,wide_Int64.E,Nat.reduceAdd,Nat.reduceEqDiff,Nat.reduceMul,Nat.reduceSub,Int.reduceAdd,Int.reduceSub,Int.reduceMul,Int.reduceNeg,Int.reduceLT,Int.reduceLE,Int.reduceEq,Int.reduceToNat,↓reduceIte,Int.reducePow,Nat.reduceLeDiff,Nat.reduceLT,ne_eq,eq_self,List.length_cons,List.length_nil,p1,ml,d1,w1,w2] | (with_reducible refine Sx.call_at (f:=161) (fun W hW=>g_clean _ _ _ _ _ W) ?_) | (with_reducible refine eq_is (fun W=>by exact eqm_run _ _ _ _ _ _ _ _ W) ?_) | (with_reducible refine cregF ?_))
    ·have d1:(lb0 m == 9223372036854775808) = false:=beq_eq_false_iff_ne.2 he
     refine known_of (enter Tryz.func139 wide_Int64.ok (args:=[WV n (lb0 m) (lb1 m) (lb2 m) (lb3 m)]) (by simp) ?_)
     repeat' (first | simp (disch:=omega) only [sxE,wide_Int64.E,Nat.reduceAdd,Nat.reduceEqDiff,Nat.reduceMul,Nat.reduceSub,Int.reduceAdd,Int.reduceSub,Int.reduceMul,Int.reduceNeg,Int.reduceLT,Int.reduceLE,Int.reduceEq,Int.reduceToNat,↓reduceIte,Int.reducePow,Nat.reduceLeDiff,Nat.reduceLT,ne_eq,eq_self,List.length_cons,List.length_nil,p1,ml,d1,w1,w2] | (with_reducible refine Sx.call_at (f:=161) (fun W hW=>g_clean _ _ _ _ _ W) ?_) | (with_reducible refine eq_is (fun W=>by exact eqm_run _ _ _ _ _ _ _ _ W) ?_) | (with_reducible refine cregF ?_))
   ·have u1:i6b z = false:=decide_eq_false (by omega)
    rw [no u1,u1]
    have hb':9223372036854775808 < lb0 m:=by omega
    clear k1 k2 u1 hneg am no yes u3
    refine known_of (enter Tryz.func139 wide_Int64.ok (args:=[WV n (lb0 m) (lb1 m) (lb2 m) (lb3 m)]) (by simp) ?_)
    repeat' (first | simp (disch:=omega) only [sxE,wide_Int64.E,Nat.reduceAdd,Nat.reduceEqDiff,Nat.reduceMul,Nat.reduceSub,Int.reduceAdd,Int.reduceSub,Int.reduceMul,Int.reduceNeg,Int.reduceLT,Int.reduceLE,Int.reduceEq,Int.reduceToNat,↓reduceIte,Int.reducePow,Nat.reduceLeDiff,Nat.reduceLT,ne_eq,eq_self,List.length_cons,List.length_nil,p1,ml] | (with_reducible refine Sx.call_at (f:=161) (fun W hW=>g_clean _ _ _ _ _ W) ?_) | (with_reducible refine eq_is (fun W=>by exact eqm_run _ _ _ _ _ _ _ _ W) ?_) | (with_reducible refine cregF ?_))
  ·have hzm:=k2 (decide_eq_false hneg)
   rw [decide_eq_false hneg] at p1
   by_cases hb:m < 9223372036854775808
   ·have u1:i6b z = true:=decide_eq_true (by omega)
    rw [yes u1,u1]
    have w1:=wr_lo (m:=lb0 m) (by omega) (by omega)
    have hb':¬ 9223372036854775808 < lb0 m:=by omega
    have d1:(lb0 m == 9223372036854775808) = false:=beq_eq_false_iff_ne.2 (by omega)
    have hzm':z = lb0 m:=by omega
    clear k1 k2 u1 hneg am no yes
    rw [hzm']
    clear hzm hzm' u3
    refine known_of (enter Tryz.func139 wide_Int64.ok (args:=[WV n (lb0 m) (lb1 m) (lb2 m) (lb3 m)]) (by simp) ?_)
    repeat' (first | simp (disch:=omega) only [sxE,wide_Int64.E,Nat.reduceAdd,Nat.reduceEqDiff,Nat.reduceMul,Nat.reduceSub,Int.reduceAdd,Int.reduceSub,Int.reduceMul,Int.reduceNeg,Int.reduceLT,Int.reduceLE,Int.reduceEq,Int.reduceToNat,↓reduceIte,Int.reducePow,Nat.reduceLeDiff,Nat.reduceLT,ne_eq,eq_self,List.length_cons,List.length_nil,p1,ml,d1,w1] | (with_reducible refine Sx.call_at (f:=161) (fun W hW=>g_clean _ _ _ _ _ W) ?_) | (with_reducible refine eq_is (fun W=>by exact eqm_run _ _ _ _ _ _ _ _ W) ?_) | (with_reducible refine cregF ?_))
   ·have u1:i6b z = false:=decide_eq_false (by omega)
    rw [no u1,u1]
    clear k1 k2 u1 hneg am no yes
    by_cases he:lb0 m = 9223372036854775808
    ·have hb':¬ 9223372036854775808 < lb0 m:=by omega
     have d1:(lb0 m == 9223372036854775808) = true:=beq_iff_eq.2 he
     refine known_of (enter Tryz.func139 wide_Int64.ok (args:=[WV n (lb0 m) (lb1 m) (lb2 m) (lb3 m)]) (by simp) ?_)
     repeat' (first | simp (disch:=omega) only [sxE,wide_Int64.E,Nat.reduceAdd,Nat.reduceEqDiff,Nat.reduceMul,Nat.reduceSub,Int.reduceAdd,Int.reduceSub,Int.reduceMul,Int.reduceNeg,Int.reduceLT,Int.reduceLE,Int.reduceEq,Int.reduceToNat,↓reduceIte,Int.reducePow,Nat.reduceLeDiff,Nat.reduceLT,ne_eq,eq_self,List.length_cons,List.length_nil,p1,ml,d1] | (with_reducible refine Sx.call_at (f:=161) (fun W hW=>g_clean _ _ _ _ _ W) ?_) | (with_reducible refine eq_is (fun W=>by exact eqm_run _ _ _ _ _ _ _ _ W) ?_) | (with_reducible refine cregF ?_))
    ·have hb':9223372036854775808 < lb0 m:=by omega
     refine known_of (enter Tryz.func139 wide_Int64.ok (args:=[WV n (lb0 m) (lb1 m) (lb2 m) (lb3 m)]) (by simp) ?_)
     repeat' (first | simp (disch:=omega) only [sxE,wide_Int64.E,Nat.reduceAdd,Nat.reduceEqDiff,Nat.reduceMul,Nat.reduceSub,Int.reduceAdd,Int.reduceSub,Int.reduceMul,Int.reduceNeg,Int.reduceLT,Int.reduceLE,Int.reduceEq,Int.reduceToNat,↓reduceIte,Int.reducePow,Nat.reduceLeDiff,Nat.reduceLT,ne_eq,eq_self,List.length_cons,List.length_nil,p1,ml] | (with_reducible refine Sx.call_at (f:=161) (fun W hW=>g_clean _ _ _ _ _ W) ?_) | (with_reducible refine eq_is (fun W=>by exact eqm_run _ _ _ _ _ _ _ _ W) ?_) | (with_reducible refine cregF ?_))
 ·have u1:i6b z = false:=decide_eq_false (by
   cases hd:decide (z < 0) <;> simp only [hd,true_implies,reduceCtorEq,false_implies] at k1 k2 <;> omega)
  rw [decide_eq_false hlt] at ml
  rw [no u1,u1]
  clear k1 k2 u1 am no yes
  refine known_of (enter Tryz.func139 wide_Int64.ok (args:=[WV n (lb0 m) (lb1 m) (lb2 m) (lb3 m)]) (by simp) ?_)
  repeat' (first | simp (disch:=omega) only [sxE,wide_Int64.E,Nat.reduceAdd,Nat.reduceEqDiff,Nat.reduceMul,Nat.reduceSub,Int.reduceAdd,Int.reduceSub,Int.reduceMul,Int.reduceNeg,Int.reduceLT,Int.reduceLE,Int.reduceEq,Int.reduceToNat,↓reduceIte,Int.reducePow,Nat.reduceLeDiff,Nat.reduceLT,ne_eq,eq_self,List.length_cons,List.length_nil,p1,ml] | (with_reducible refine Sx.call_at (f:=161) (fun W hW=>g_clean _ _ _ _ _ W) ?_) | (with_reducible refine eq_is (fun W=>by exact eqm_run _ _ _ _ _ _ _ _ W) ?_) | (with_reducible refine cregF ?_))
set_option maxRecDepth 100000 in
set_option maxHeartbeats 1000000 in
theorem rgf_int64 {v:Value} {z:Int} (h:IsW v z) (W:World):Gives Tryz.prog 136 [v] W (· = .tuple #[.int .i64 (i6v z),.bool (i6b z)]):=by
 obtain ⟨n,m,rfl,am,hab,-,hn⟩:=h.me
 refine gives_known en_r02_Int64 ?_
 have p1:cn n (lb0 m) (lb1 m) (lb2 m) (lb3 m) = decide (z < 0):=hn
 obtain ⟨k1,k2⟩:=ab_of_sv (n:=n) hab
 have hm0:=am.1
 have hl:¬ 1 < ((wl m).length:Int)↔m < 18446744073709551616:=by
  have:=wl_len_lt am.1 1
  have e:((18446744073709551616:Int) ^ 1) = 18446744073709551616:=by decide
  have e2:(pw 1:Int) = 18446744073709551616:=rfl
  rw [e2] at this
  omega
 have no:i6b z = false→i6v z = 0:=fun e=>by unfold i6v; rw [e]; rfl
 have yes:i6b z = true→i6v z = z:=fun e=>by unfold i6v; rw [e]; rfl
 clear h hn hab
 refine known_of (enter Tryz.func136 r02_Int64.ok (args:=[WV n (lb0 m) (lb1 m) (lb2 m) (lb3 m)]) (by simp) ?_)
 repeat' (first | simp (disch:=omega) only [sxE,r02_Int64.E,Nat.reduceAdd,Nat.reduceEqDiff,Nat.reduceMul,Nat.reduceSub,Int.reduceAdd,Int.reduceSub,Int.reduceMul,Int.reduceNeg,Int.reduceLT,Int.reduceLE,Int.reduceEq,Int.reduceToNat,↓reduceIte,Int.reducePow,Nat.reduceLeDiff,Nat.reduceLT,ne_eq,eq_self,List.length_cons,List.length_nil,p1] | (with_reducible refine Sx.call_at (f:=109) (fun W hW=>rg_clean _ (lb0_in _) (lb1_in _) (lb2_in _) (lb3_in _) W) ?_) | (with_reducible refine cregF ?_))
 by_cases h0:m = 0
 ·have hz0:z = 0:=by cases hd:decide (z < 0) <;> simp only [hd,true_implies,reduceCtorEq,false_implies] at k1 k2 <;> omega
  refine asks_r (L:=[]) (ws:=[]) en_r02_of (kX_nil _) (fun W hW _=>by have:=of_mag (n:=decide (z < 0)) am W; unfold MagP at this; rwa [show wl m = [] by rw [h0]; exact wl_nil (Int.le_refl _)] at this) fun a1 c1 hs1 hn1=>?_
  have u1:i6b z = true:=decide_eq_true (by omega)
  rw [yes u1,u1]
  clear hs1 hn1 k1 k2 hl no yes u1
  subst hz0
  repeat' (first | simp (disch:=omega) only [sxE,r02_Int64.E,Nat.reduceAdd,Nat.reduceEqDiff,Nat.reduceMul,Nat.reduceSub,Int.reduceAdd,Int.reduceSub,Int.reduceMul,Int.reduceNeg,Int.reduceLT,Int.reduceLE,Int.reduceEq,Int.reduceToNat,↓reduceIte,Int.reducePow,Nat.reduceLeDiff,Nat.reduceLT,ne_eq,eq_self,List.length_cons,List.length_nil] | (with_reducible refine cregF ?_))
 ·by_cases hlt:m < 18446744073709551616
  ·have e1:wl m = [m]:=by rw [wl_cons (by omega),wl_nil (by omega),Int.emod_eq_of_lt hm0 (by omega)]
   refine asks_r (L:=[]) (ws:=[m]) en_r02_of (kX_nil _) (fun W hW _=>by have:=of_mag (n:=decide (z < 0)) am W; unfold MagP at this; rwa [e1] at this) fun a1 c1 hs1 hn1=>?_
   obtain ⟨b,off,rfl⟩:∃ b off,a1 = some ⟨b,off,none⟩:=hs1.some Nat.zero_lt_one
   have g0:[m].getD 0 0 = m:=rfl
   clear hs1 hn1 hl e1
   by_cases hneg:z < 0
   ·have hzm:=k1 (decide_eq_true hneg)
    rw [decide_eq_true hneg]
    by_cases hb:m≤9223372036854775808
    ·have u1:i6b z = true:=decide_eq_true (by omega)
     rw [yes u1,u1]
     obtain ⟨w1,w2⟩:=wr_neg (m:=m) (by omega) hb
     have hb':¬ 9223372036854775808 < m:=by omega
     rw [hzm]
     clear k1 k2 p1 hneg u1 no yes hzm
     repeat' (first | simp (disch:=omega) only [sxE,r02_Int64.E,Nat.reduceAdd,Nat.reduceEqDiff,Nat.reduceMul,Nat.reduceSub,Int.reduceAdd,Int.reduceSub,Int.reduceMul,Int.reduceNeg,Int.reduceLT,Int.reduceLE,Int.reduceEq,Int.reduceToNat,↓reduceIte,Int.reducePow,Nat.reduceLeDiff,Nat.reduceLT,ne_eq,eq_self,List.length_cons,List.length_nil,w1,w2,g0,Nat.add_zero] | (refine ldP_r 0 rfl List.mem_cons_self Nat.zero_lt_one ?_) | (with_reducible refine cregF ?_))
    ·have u1:i6b z = false:=decide_eq_false (by omega)
     rw [no u1,u1]
     have hb':9223372036854775808 < m:=by omega
     clear k1 k2 p1 hneg u1 no yes hzm
     repeat' (first | simp (disch:=omega) only [sxE,r02_Int64.E,Nat.reduceAdd,Nat.reduceEqDiff,Nat.reduceMul,Nat.reduceSub,Int.reduceAdd,Int.reduceSub,Int.reduceMul,Int.reduceNeg,Int.reduceLT,Int.reduceLE,Int.reduceEq,Int.reduceToNat,↓reduceIte,Int.reducePow,Nat.reduceLeDiff,Nat.reduceLT,ne_eq,eq_self,List.length_cons,List.length_nil,g0,Nat.add_zero] | (refine ldP_r 0 rfl List.mem_cons_self Nat.zero_lt_one ?_) | (with_reducible refine cregF ?_))
   ·have hzm:=k2 (decide_eq_false hneg)
    rw [decide_eq_false hneg]
    by_cases hb:m < 9223372036854775808
    ·have u1:i6b z = true:=decide_eq_true (by omega)
     rw [yes u1,u1]
     have w1:=wr_lo (m:=m) hm0 hb
     have hb':¬ 9223372036854775808≤m:=by omega
     rw [hzm]
     clear k1 k2 p1 hneg u1 no yes hzm
     repeat' (first | simp (disch:=omega) only [sxE,r02_Int64.E,Nat.reduceAdd,Nat.reduceEqDiff,Nat.reduceMul,Nat.reduceSub,Int.reduceAdd,Int.reduceSub,Int.reduceMul,Int.reduceNeg,Int.reduceLT,Int.reduceLE,Int.reduceEq,Int.reduceToNat,↓reduceIte,Int.reducePow,Nat.reduceLeDiff,Nat.reduceLT,ne_eq,eq_self,List.length_cons,List.length_nil,w1,g0,Nat.add_zero] | (refine ldP_r 0 rfl List.mem_cons_self Nat.zero_lt_one ?_) | (with_reducible refine cregF ?_))
    ·have u1:i6b z = false:=decide_eq_false (by omega)
     rw [no u1,u1]
     have hb':9223372036854775808≤m:=by omega
     clear k1 k2 p1 hneg u1 no yes hzm
     repeat' (first | simp (disch:=omega) only [sxE,r02_Int64.E,Nat.reduceAdd,Nat.reduceEqDiff,Nat.reduceMul,Nat.reduceSub,Int.reduceAdd,Int.reduceSub,Int.reduceMul,Int.reduceNeg,Int.reduceLT,Int.reduceLE,Int.reduceEq,Int.reduceToNat,↓reduceIte,Int.reducePow,Nat.reduceLeDiff,Nat.reduceLT,ne_eq,eq_self,List.length_cons,List.length_nil,g0,Nat.add_zero] | (refine ldP_r 0 rfl List.mem_cons_self Nat.zero_lt_one ?_) | (with_reducible refine cregF ?_))
  ·refine asks_r (L:=[]) (ws:=wl m) en_r02_of (kX_nil _) (fun W hW _=>of_mag am W) fun a1 c1 hs1 hn1=>?_
   have hl1:1 < ((wl m).length:Int):=Decidable.byContradiction fun e=>hlt (hl.1 e)
   have u1:i6b z = false:=decide_eq_false (by
    cases hd:decide (z < 0) <;> simp only [hd,true_implies,reduceCtorEq,false_implies] at k1 k2 <;> omega)
   rw [no u1,u1]
   have hl0:¬ ((wl m).length:Int) = 0:=by omega
   clear k1 k2 p1 u1 no yes hl hs1 hn1
   repeat' (first | simp (disch:=omega) only [sxE,r02_Int64.E,Nat.reduceAdd,Nat.reduceEqDiff,Nat.reduceMul,Nat.reduceSub,Int.reduceAdd,Int.reduceSub,Int.reduceMul,Int.reduceNeg,Int.reduceLT,Int.reduceLE,Int.reduceEq,Int.reduceToNat,↓reduceIte,Int.reducePow,Nat.reduceLeDiff,Nat.reduceLT,ne_eq,eq_self,List.length_cons,List.length_nil] | (with_reducible refine cregF ?_))
end Go.Proofs.YtncmmbacoknefaaGreat

/- CdB: MADE BY PROGRAM (sxgen.py): the small code of some functions, points of it and their equations. -/
namespace Go.Proofs.YtncmmbacoknefaaGreat
open Go Go.RowKit Sx Sx.Q
set_option linter.unusedVariables false
variable (C:Cx) (R L1 L2 L3 L4:St→Prop)
namespace rebuild_Value
abbrev q0:=[2,3,4]
abbrev r0:List G:=[e 3 (.box true 5 (t 0)),e 4 (.box true 10 (t 1)),Mi 6 0]
abbrev q1:=[2,3,4,20]
abbrev r1:List G:=[a 11 1 3,e 12 (.ia 4 1 (t 11) (i 3)),l 13 12,bu 14 .neq 13 0,m 15 14,na 16 15 1 3,n 17 15 (.ia 4 1 (t 16) (i 2)),nl 18 15 17,n 19 15 (.bin .neq (t 18) (u 0)),o 20 15 19]
abbrev r2:List G:=[e 21 (.bd zW []),V 5 3 21]
abbrev r3:List G:=[L 23 5 3,L 24 10 4,m 25 2,k2 26 138 24 25,k2 27 137 23 26,m 22 27,x 28 22 0,x 29 22 1]
abbrev t3:List G:=[e 7 (.new zW),V 5 7 28,m 8 29]
abbrev q2:=[7,9,10]
abbrev r4:List G:=[L 31 5 7,K1 32 139 31,m 30 32,x 33 30 0,x 34 30 1,m 9 33,m 10 34]
abbrev q3:=[7,9,35]
abbrev r5:List G:=[m 35 10]
abbrev r6:List G:=[m 36 9,m 6 36]
abbrev r7:List G:=[L 37 5 7,K1 38 140 37,bi 39 .lss 38 0]
abbrev r8:List G:=[Mi 6 (-9223372036854775808)]
abbrev r9:List G:=[Mi 6 9223372036854775807]
abbrev c:MC:=sq [g r0 q0,sq [g r1 q1,ci 20 (g r2 q0) .skip],gd r3 t3 [7],sq [g r4 q2,g r5 q3,ci 35 (sq [g r6 [6],.ret]) .skip],sq [g r7 [39],ci 39 (sq [g r8 [6],.ret]) .skip],g r9 [6],.ret]
theorem ok:compF Tryz.prog Tryz.f84 (an (rg 10) c [(3,9,[7],(up 7 ++ [(7,2)]),[8])]) = some (40,c,[(6,none)]):=by kernel_rfl
abbrev p1:=P C r9 [6] R
abbrev p3:=P C r8 [6] R
abbrev p2:=cd (t 39) (p3 C R) (p1 C R)
abbrev p4:=P C r7 [39] (p2 C R)
abbrev p6:=P C r6 [6] R
abbrev p5:=cd (t 35) (p6 C R) (p4 C R)
abbrev p7:=P C r5 q3 (p5 C R)
abbrev p8:=P C r4 q2 (p7 C R)
abbrev p9:=Pd C r3 t3 [7] (p8 C R)
abbrev p11:=P C r2 q0 (p9 C R)
abbrev p10:=cd (t 20) (p11 C R) (p9 C R)
abbrev p12:=P C r1 q1 (p10 C R)
abbrev p13:=P C r0 q0 (p12 C R)
theorem s (S:St):X C c (retK R) S = p13 C R S:=by kernel_rfl
theorem E:type_of% @s:=@s
end rebuild_Value
namespace r20_Value
abbrev q0:=[2,3,4]
abbrev r0:List G:=[e 3 (.box true 5 (t 0)),e 4 (.box true 10 (t 1)),Mi 6 0]
abbrev q1:=[2,3,4,25]
abbrev r1:List G:=[L 11 5 3,K1 12 100 11,e 13 (.un .not (t 12)),m 14 13,na 15 14 1 3,n 16 14 (.ia 4 1 (t 15) (i 2)),nl 17 14 16,n 18 14 (.bin .neq (t 17) (u 0)),o 19 14 18,m 20 19,na 21 20 1 3,n 22 20 (.ia 4 1 (t 21) (i 3)),nl 23 20 22,n 24 20 (.bin .neq (t 23) (u 0)),o 25 20 24]
abbrev r2:List G:=[e 26 (.bd zW []),V 5 3 26]
abbrev r3:List G:=[L 28 5 3,L 29 10 4,m 30 2,k2 31 52 29 30,k2 32 51 28 31,m 27 32,x 33 27 0,x 34 27 1]
abbrev t3:List G:=[e 7 (.new zW),V 5 7 33,m 8 34]
abbrev q2:=[7,9,10]
abbrev r4:List G:=[L 36 5 7,K1 37 136 36,m 35 37,x 38 35 0,x 39 35 1,m 9 38,m 10 39]
abbrev q3:=[7,9,40]
abbrev r5:List G:=[m 40 10]
abbrev r6:List G:=[m 41 9,m 6 41]
abbrev r7:List G:=[a 42 0 7,l 43 42]
abbrev r8:List G:=[Mi 6 (-9223372036854775808)]
abbrev r9:List G:=[Mi 6 9223372036854775807]
abbrev c:MC:=sq [g r0 q0,sq [g r1 q1,ci 25 (g r2 q0) .skip],gd r3 t3 [7],g r4 q2,sq [g r5 q3,ci 40 (sq [g r6 [6],.ret]) .skip],sq [g r7 [43],ci 43 (sq [g r8 [6],.ret]) .skip],g r9 [6],.ret]
theorem ok:compF Tryz.prog Tryz.f83 (an (rg 10) c [(3,9,[7],(up 7 ++ [(7,2)]),[8])]) = some (44,c,[(6,none)]):=by kernel_rfl
abbrev p1:=P C r9 [6] R
abbrev p3:=P C r8 [6] R
abbrev p2:=cd (t 43) (p3 C R) (p1 C R)
abbrev p4:=P C r7 [43] (p2 C R)
abbrev p6:=P C r6 [6] R
abbrev p5:=cd (t 40) (p6 C R) (p4 C R)
abbrev p7:=P C r5 q3 (p5 C R)
abbrev p8:=P C r4 q2 (p7 C R)
abbrev p9:=Pd C r3 t3 [7] (p8 C R)
abbrev p11:=P C r2 q0 (p9 C R)
abbrev p10:=cd (t 25) (p11 C R) (p9 C R)
abbrev p12:=P C r1 q1 (p10 C R)
abbrev p13:=P C r0 q0 (p12 C R)
theorem s (S:St):X C c (retK R) S = p13 C R S:=by kernel_rfl
theorem E:type_of% @s:=@s
end r20_Value
namespace rebuild_Constants
abbrev r0:List G:=[e 2 (.mv (.const (.slice none 0 0)))]
abbrev q0:=[0,3]
abbrev r1:List G:=[e 3 (.mv (.const (.slice none 0 0)))]
abbrev q1:=[3,6,7,8]
abbrev r2:List G:=[m 6 0,e 7 (.len false (t 6)),Mi 8 0]
abbrev q2:=[3,6,7,8,9]
abbrev r3:List G:=[b 9 .lss 8 7]
abbrev q3:=[3,5,6,7,8]
abbrev r4:List G:=[j 10 2 6 8,L 11 2 10,e 5 (.new [.int .i64 0,.int .i64 0]),V 2 5 11]
abbrev q4:=[3,5,6,7,8,19]
abbrev r5:List G:=[a 12 0 5,l 13 12,bi 14 .geq 13 1,m 15 14,ya 16 15 0 5,yl 17 15 16,y 18 15 (.bin .leq (t 17) (i 1073741824)),w 19 15 18]
abbrev r6:List G:=[m 20 3,a 21 1 5,l 22 21,e 23 (.gen false (.bsl 23 1 [0]) [(t 22)]),a 24 0 5,l 25 24,K2 26 88 23 25,e 27 (.gen false (.bi .append [23,23] 23 [false,false]) [(t 20),(t 26)]),m 3 27]
abbrev r7:List G:=[bi 28 .add 8 1,m 8 28]
abbrev r8:List G:=[m 29 3,m 2 29]
abbrev c:MC:=sq [g r0 [0],g r1 q0,sq [g r2 q1,.block 0 (.loop (sq [g r3 q2,ci 9 .skip (.exit 0),.block 1 (sq [g r4 q3,g r5 q4,ci 19 (g r6 q1) .skip]),g r7 q1]))],g r8 [2],.ret]
theorem ok:compF Tryz.prog Tryz.f29 (an (rg 9) c []) = some (30,c,[(2,none)]):=by kernel_rfl
abbrev p1:=P C r8 [2] R
abbrev p3:=P C r7 q1 L1
abbrev p5:=P C r6 q1 (p3 C L1)
abbrev p4:=cd (t 19) (p5 C L1) (p3 C L1)
abbrev p6:=P C r5 q4 (p4 C L1)
abbrev p7:=P C r4 q3 (p6 C L1)
abbrev p8:=cd (t 9) (p7 C L1) (p1 C R)
abbrev p9:=P C r3 q2 (p8 C R L1)
def p2 (S:St):Prop:=LX C (fun L1=>(p9 C R L1)) S
theorem p2_l (S:St):p2 C R S = LX C (fun L1=>(p9 C R L1)) S:=rfl
abbrev p10:=P C r2 q1 (p2 C R)
abbrev p11:=P C r1 q0 (p10 C R)
abbrev p12:=P C r0 [0] (p11 C R)
theorem s (S:St):X C c (retK R) S = p12 C R S:=by kernel_rfl
theorem E:type_of% @s:=@s
end rebuild_Constants
namespace slices_Repeat___int64_int64
abbrev q0:=[0,1]
abbrev r0:List G:=[e 4 (.mv (.const (.slice none 0 0)))]
abbrev q1:=[0,1,10]
abbrev r1:List G:=[m 9 1,bi 10 .lss 9 0]
abbrev r2:List G:=[e 11 .trap,z .trap]
abbrev q2:=[0,5,6]
abbrev r3:List G:=[m 13 0,e 14 (.len false (t 13)),e 15 (.cv .u64 (t 14)),m 16 1,e 17 (.cv .u64 (t 16)),K2 18 144 15 17,m 12 18,x 19 12 0,x 20 12 1,m 5 19,m 6 20]
abbrev q3:=[0,6,26]
abbrev r4:List G:=[m 21 5,bu 22 .gtr 21 0,m 23 22,nm 24 23 6,n 25 23 (.bin .gtr (t 24) (u 9223372036854775807)),o 26 23 25]
abbrev q4:=[0,6]
abbrev r5:List G:=[e 27 .trap,z .trap]
abbrev q5:=[0,7]
abbrev r6:List G:=[m 28 6,e 29 (.cv .i64 (t 28)),e 30 (.gen false (.mks 23) [(t 29),(t 29)]),m 7 30]
abbrev q6:=[7,8]
abbrev r7:List G:=[m 31 7,m 32 0,e 33 (.gen false (.bi .copy [23,23] 3 [false,false]) [(t 31),(t 32)]),m 8 33]
abbrev q7:=[7,8,37]
abbrev r8:List G:=[m 34 8,m 35 7,e 36 (.len false (t 35)),b 37 .lss 34 36]
abbrev r9:List G:=[m 38 8,m 39 7,m 40 8,e 41 (.gen true (.sl 23 true false false) [(t 39),(t 40)]),m 42 7,m 43 8,e 44 (.gen true (.sl 23 false true false) [(t 42),(t 43)]),e 45 (.gen false (.bi .copy [23,23] 3 [false,false]) [(t 41),(t 44)]),b 46 .add 38 45]
abbrev t9:List G:=[m 8 46]
abbrev r10:List G:=[m 47 7,m 4 47]
abbrev c:MC:=sq [g r0 q0,sq [g r1 q1,ci 10 (g r2 q0) .skip],g r3 q2,sq [g r4 q3,ci 26 (g r5 q4) .skip],g r6 q5,g r7 q6,.block 0 (.loop (sq [sq [g r8 q7,ci 37 .skip (.exit 0)],.block 1 (gk false false r9 t9 q6)])),g r10 [4],.ret]
theorem ok:compF Tryz.prog Tryz.f88 (an (rg 11) c [(9,300009,[],(up 7 ++ [(7,1),(8,0)]),[])]) = some (48,c,[(4,none)]):=by kernel_rfl
abbrev p1:=P C r10 [4] R
abbrev p3:=Pc C false false r9 t9 q6 L1
abbrev p4:=cd (t 37) (p3 C L1) (p1 C R)
abbrev p5:=P C r8 q7 (p4 C R L1)
def p2 (S:St):Prop:=LX C (fun L1=>(p5 C R L1)) S
theorem p2_l (S:St):p2 C R S = LX C (fun L1=>(p5 C R L1)) S:=rfl
abbrev p6:=P C r7 q6 (p2 C R)
abbrev p7:=P C r6 q5 (p6 C R)
abbrev p9:=P C r5 q4 (p7 C R)
abbrev p8:=cd (t 26) (p9 C R) (p7 C R)
abbrev p10:=P C r4 q3 (p8 C R)
abbrev p11:=P C r3 q2 (p10 C R)
abbrev p13:=P C r2 q0 (p11 C R)
abbrev p12:=cd (t 10) (p13 C R) (p11 C R)
abbrev p14:=P C r1 q1 (p12 C R)
abbrev p15:=P C r0 q0 (p14 C R)
theorem s (S:St):X C c (retK R) S = p15 C R S:=by kernel_rfl
theorem E:type_of% @s:=@s
end slices_Repeat___int64_int64
namespace w20_known
abbrev r0:List G:=[Mb 0 false]
abbrev r1:List G:=[e 4 (.call false 50 [(i 1)]),e 5 (.call false 50 [(i 2)]),K2 6 77 4 5,m 3 6,x 7 3 0,x 8 3 1,e 1 (.new zR),V 10 1 7,m 2 8]
abbrev r2:List G:=[e 9 (.call true 50 [(i 0)]),L 10 10 1,e 11 (.call true 84 [(t 9),(t 10),(u 3)]),bi 12 .eql 11 2,m 13 12,y 14 13 (.call true 50 [(i 9223372036854775807)]),y 15 13 (.call true 78 [(i 1)]),y 16 13 (.call true 84 [(t 14),(t 15),(u 5)]),y 17 13 (.bin .eql (t 16) (i 9223372036854775807)),w 18 13 17,m 19 18,y 20 19 (.bd [.int .i64 0,.int .i64 0] [(0,1,(i 2)),(1,1,(i 9))]),y 21 19 (.gen false (.bsl 52 1 [0]) [(t 20)]),y 22 19 (.call false 29 [(t 21)]),y 23 19 (.len false (t 22)),y 24 19 (.bin .eql (t 23) (i 2)),w 25 19 24]
abbrev t2:List G:=[m 0 25]
abbrev c:MC:=sq [g r0 [],g r1 [1],gk true false r2 t2 [0],.ret]
theorem ok:compF Tryz.prog Tryz.f26 (an (rg 3) c [(2,200017,[],(up 12 ++ [(12,1),(13,1),(14,0),(15,0),(16,0)]),[])]) = some (26,c,[(0,none)]):=by kernel_rfl
abbrev p1:=Pc C true false r2 t2 [0] R
abbrev p2:=P C r1 [1] (p1 C R)
abbrev p3:=P C r0 [] (p2 C R)
theorem s (S:St):X C c (retK R) S = p3 C R S:=by kernel_rfl
theorem E:type_of% @s:=@s
end w20_known
end Go.Proofs.YtncmmbacoknefaaGreat

/- Va: What Value of rebuild and of its reference returns. (Printed by gen/value.py.) -/
namespace Go.Proofs.YtncmmbacoknefaaGreat
open Go Go.RowKit Sx
set_option linter.unusedVariables false
set_option linter.unusedSimpArgs false
def vz (z:Int):Int:=if ab z < 340282366920938463463374607431768211456 then z else 0
def vl (s:Int):Int:=if s < -9223372036854775808 then -9223372036854775808 else if 9223372036854775807 < s then 9223372036854775807 else s
theorem small128 {z:Int} (h:Fits z):ab z < 340282366920938463463374607431768211456↔lb3 (ab z) = 0∧lb2 (ab z) = 0:=by
 have h0:=ab_nonneg z
 have h4:=mv_me (z:=ab z) ⟨h0,(fits_lt z).1 h⟩
 have b0:=lb0_in (ab z)
 have b1:=lb1_in (ab z)
 have b2:=lb2_in (ab z)
 have b3:=lb3_in (ab z)
 generalize lb0 (ab z) = a at *
 generalize lb1 (ab z) = b at *
 generalize lb2 (ab z) = c at *
 generalize lb3 (ab z) = d at *
 unfold MV at h4
 obtain ⟨a1,a2⟩:=b0
 obtain ⟨c1,c2⟩:=b1
 obtain ⟨d1,d2⟩:=b2
 obtain ⟨e1,e2⟩:=b3
 omega
theorem vz_fits {z a:Int} (hz:ab (vz z) < 340282366920938463463374607431768211456) (ha:Bd 194 a):Fits (vz z + a):=by
 have b0:Bd 128 (vz z):=hz
 have b1:Bd 195 (vz z + a):=bd_add b0 ha (by decide) (by decide)
 exact b1.fits
theorem vz_small (z:Int):ab (vz z) < 340282366920938463463374607431768211456:=by
 unfold vz
 split
 ·assumption
 ·decide
theorem bd_at {p q n:Int} (h:Fq p q) (hn:U64 n):Bd 194 (atq p q n):=by
 have b1:=bd_mul h.bp (bd_u64 hn)
 have b3:Bd 194 (2 * (p * n) + q):=bd_add (bd_mul bd_two b1) h.bq (by decide) (by decide)
 exact bd_of_le b3 (ab_fdiv_le _ (by have:=h.pos; omega))
theorem bd_fits' {z:Int} (h:ab z < 340282366920938463463374607431768211456):Fits z:=by
 have b0:Bd 128 z:=h
 exact b0.fits
set_option maxRecDepth 100000 in
set_option maxHeartbeats 4000000 in
theorem gx_value {b s:Value} {t:Bool} {z p q dt:Int} (h:RW b t z) (hq:CQ s p q) (hd:U64 dt) (W:World):Gives Tryz.prog 84 [b,s,.int .u64 dt] W (· = .int .i64 (vl (vz z + atq p q dt))):=by
 have at1:=fun W=>gx_rat hq hd W
 have f:=hq.fq
 have ba:=bd_at f hd
 have fa:=ba.fits
 have v1:=fun W=>gy_valid h W
 obtain ⟨s0,s1,s2,s3,s4,s5,s6,s7,s8,s9,rfl⟩:=hq.ten
 clear hq f
 have fs:=vz_fits (z:=z) (vz_small z) ba
 have n1:=fun W=>g_int64 fs.is W
 have n2:=fun W=>gx_sign fs W
 have ad:∀ W,Gives Tryz.prog 137 [WX (vz z),WX (atq p q dt)] W (· = .tuple #[WX (vz z + atq p q dt),.bool true]):=fun W=>gx_add (bd_fits' (vz_small z)) fa fs W
 have ad0:∀ W,Gives Tryz.prog 137 [NZ,WX (atq p q dt)] W (· = .tuple #[WX (0 + atq p q dt),.bool true]):=fun W=>by
  have h1:Fits (0 + atq p q dt):=by rw [Int.zero_add]; exact fa
  exact gives_eq (g_add nz_is fa.is W) (tup2 (by rw [cl_fit h1]; rfl) (by rw [fb_fit h1]))
 have e0:vz 0 = 0:=by decide
 have eN:ab z < 340282366920938463463374607431768211456→vz z = z:=fun e=>by unfold vz; rw [if_pos e]
 have eB:¬ ab z < 340282366920938463463374607431768211456→vz z = 0:=fun e=>by unfold vz; rw [if_neg e]
 refine gives_known en_rebuild_Value ?_
 have fin:(i6b (vz z + atq p q dt) = true∧i6v (vz z + atq p q dt) = vl (vz z + atq p q dt))∨(i6b (vz z + atq p q dt) = false∧i6v (vz z + atq p q dt) = 0∧cm (vz z + atq p q dt) 0 < 0∧sg (vz z + atq p q dt) = true∧vl (vz z + atq p q dt) = -9223372036854775808)∨(i6b (vz z + atq p q dt) = false∧i6v (vz z + atq p q dt) = 0∧¬ cm (vz z + atq p q dt) 0 < 0∧sg (vz z + atq p q dt) = false∧vl (vz z + atq p q dt) = 9223372036854775807):=by
  generalize vz z + atq p q dt = S
  unfold i6v i6b vl sg
  rw [km_lt]
  by_cases g1:S < -9223372036854775808
  ·rw [decide_eq_false (show ¬ (-9223372036854775808≤S∧S≤9223372036854775807) by omega),if_pos g1,decide_eq_true (show S < 0 by omega)]
   exact .inr (.inl ⟨rfl,rfl,by omega,rfl,rfl⟩)
  ·by_cases g2:9223372036854775807 < S
   ·rw [decide_eq_false (show ¬ (-9223372036854775808≤S∧S≤9223372036854775807) by omega),if_neg g1,if_pos g2,decide_eq_false (show ¬ S < 0 by omega)]
    exact .inr (.inr ⟨rfl,rfl,by omega,rfl,rfl⟩)
   ·rw [decide_eq_true (show -9223372036854775808≤S∧S≤9223372036854775807 by omega),if_neg g1,if_neg g2]
    exact .inl ⟨rfl,rfl⟩
 rcases h with ⟨rfl,rfl,h⟩ | ⟨rfl,rfl,rfl⟩
 ·have hs:=small128 h
  by_cases hz:ab z < 340282366920938463463374607431768211456
  ·obtain ⟨k3,k2⟩:=hs.1 hz
   have d3:(lb3 (ab z) == 0) = true:=beq_iff_eq.2 k3
   have d2:(lb2 (ab z) == 0) = true:=beq_iff_eq.2 k2
   simp only [eN hz] at ad n1 n2 fin ⊢
   clear hs hz eN eB ad0 e0 fs ba
   generalize hS:z + atq p q dt = S at *
   generalize atq p q dt = A at *
   rcases fin with ⟨g1,g2⟩ | ⟨g1,g2,g3,g4,g5⟩ | ⟨g1,g2,g3,g4,g5⟩
   ·refine known_of (enter Tryz.func84 rebuild_Value.ok (args:=[_,_,_]) (by simp) ?_)
    repeat' (first | simp (disch:=omega) only [sxE,rebuild_Value.E,Nat.reduceAdd,Nat.reduceEqDiff,Nat.reduceMul,Nat.reduceSub,Int.reduceAdd,Int.reduceSub,Int.reduceMul,Int.reduceNeg,Int.reduceLT,Int.reduceLE,Int.reduceEq,Int.reduceToNat,↓reduceIte,Int.reducePow,Nat.reduceLeDiff,Nat.reduceLT,ne_eq,eq_self,List.length_cons,List.length_nil,qxE,d3,d2,g1,g2,beq_self_eq_true] | (with_reducible refine Sx.call_at (f:=176) (fun W hW=>v1 W) ?_) | (with_reducible refine Sx.call_at (f:=138) (fun W hW=>at1 W) ?_) | (with_reducible refine Sx.call_at (f:=137) (fun W hW=>ad W) ?_) | (with_reducible refine Sx.call_at (f:=139) (fun W hW=>n1 W) ?_) | (with_reducible refine Sx.call_at (f:=140) (fun W hW=>n2 W) ?_) | (with_reducible refine cregF ?_))
   ·refine known_of (enter Tryz.func84 rebuild_Value.ok (args:=[_,_,_]) (by simp) ?_)
    repeat' (first | simp (disch:=omega) only [sxE,rebuild_Value.E,Nat.reduceAdd,Nat.reduceEqDiff,Nat.reduceMul,Nat.reduceSub,Int.reduceAdd,Int.reduceSub,Int.reduceMul,Int.reduceNeg,Int.reduceLT,Int.reduceLE,Int.reduceEq,Int.reduceToNat,↓reduceIte,Int.reducePow,Nat.reduceLeDiff,Nat.reduceLT,ne_eq,eq_self,List.length_cons,List.length_nil,qxE,d3,d2,g1,g2,g5,beq_self_eq_true] | (with_reducible refine Sx.call_at (f:=176) (fun W hW=>v1 W) ?_) | (with_reducible refine Sx.call_at (f:=138) (fun W hW=>at1 W) ?_) | (with_reducible refine Sx.call_at (f:=137) (fun W hW=>ad W) ?_) | (with_reducible refine Sx.call_at (f:=139) (fun W hW=>n1 W) ?_) | (with_reducible refine Sx.call_at (f:=140) (fun W hW=>n2 W) ?_) | (with_reducible refine cregF ?_))
   ·refine known_of (enter Tryz.func84 rebuild_Value.ok (args:=[_,_,_]) (by simp) ?_)
    repeat' (first | simp (disch:=omega) only [sxE,rebuild_Value.E,Nat.reduceAdd,Nat.reduceEqDiff,Nat.reduceMul,Nat.reduceSub,Int.reduceAdd,Int.reduceSub,Int.reduceMul,Int.reduceNeg,Int.reduceLT,Int.reduceLE,Int.reduceEq,Int.reduceToNat,↓reduceIte,Int.reducePow,Nat.reduceLeDiff,Nat.reduceLT,ne_eq,eq_self,List.length_cons,List.length_nil,qxE,d3,d2,g1,g2,g5,beq_self_eq_true] | (with_reducible refine Sx.call_at (f:=176) (fun W hW=>v1 W) ?_) | (with_reducible refine Sx.call_at (f:=138) (fun W hW=>at1 W) ?_) | (with_reducible refine Sx.call_at (f:=137) (fun W hW=>ad W) ?_) | (with_reducible refine Sx.call_at (f:=139) (fun W hW=>n1 W) ?_) | (with_reducible refine Sx.call_at (f:=140) (fun W hW=>n2 W) ?_) | (with_reducible refine cregF ?_))
  ·simp only [eB hz] at ad n1 n2 fin ⊢
   have hn:lb3 (ab z)≠0∨lb2 (ab z)≠0:=by
    rcases Decidable.em (lb3 (ab z) = 0) with e | e
    ·exact .inr fun e'=>hz (hs.2 ⟨e,e'⟩)
    ·exact .inl e
   clear hs hz eN eB ad0 e0 fs ba
   generalize hS:0 + atq p q dt = S at *
   generalize atq p q dt = A at *
   rcases fin with ⟨g1,g2⟩ | ⟨g1,g2,g3,g4,g5⟩ | ⟨g1,g2,g3,g4,g5⟩
   ·by_cases k3:lb3 (ab z) = 0
    ·have d3:(lb3 (ab z) == 0) = true:=beq_iff_eq.2 k3
     by_cases k2:lb2 (ab z) = 0
     ·exact absurd hn (by simp [k3,k2])
     ·have d2:(lb2 (ab z) == 0) = false:=beq_eq_false_iff_ne.2 k2
      refine known_of (enter Tryz.func84 rebuild_Value.ok (args:=[_,_,_]) (by simp) ?_)
      repeat' (first | simp (disch:=omega) only [sxE,rebuild_Value.E,Nat.reduceAdd,Nat.reduceEqDiff,Nat.reduceMul,Nat.reduceSub,Int.reduceAdd,Int.reduceSub,Int.reduceMul,Int.reduceNeg,Int.reduceLT,Int.reduceLE,Int.reduceEq,Int.reduceToNat,↓reduceIte,Int.reducePow,Nat.reduceLeDiff,Nat.reduceLT,ne_eq,eq_self,List.length_cons,List.length_nil,qxE,d3,d2,g1,g2,beq_self_eq_true] | (with_reducible refine Sx.call_at (f:=176) (fun W hW=>v1 W) ?_) | (with_reducible refine Sx.call_at (f:=138) (fun W hW=>at1 W) ?_) | (with_reducible refine Sx.call_at (f:=137) (fun W hW=>ad W) ?_) | (with_reducible refine Sx.call_at (f:=139) (fun W hW=>n1 W) ?_) | (with_reducible refine Sx.call_at (f:=140) (fun W hW=>n2 W) ?_) | (with_reducible refine cregF ?_))
    ·have d3:(lb3 (ab z) == 0) = false:=beq_eq_false_iff_ne.2 k3
     by_cases k2:lb2 (ab z) = 0
     ·have d2:(lb2 (ab z) == 0) = true:=beq_iff_eq.2 k2
      refine known_of (enter Tryz.func84 rebuild_Value.ok (args:=[_,_,_]) (by simp) ?_)
      repeat' (first | simp (disch:=omega) only [sxE,rebuild_Value.E,Nat.reduceAdd,Nat.reduceEqDiff,Nat.reduceMul,Nat.reduceSub,Int.reduceAdd,Int.reduceSub,Int.reduceMul,Int.reduceNeg,Int.reduceLT,Int.reduceLE,Int.reduceEq,Int.reduceToNat,↓reduceIte,Int.reducePow,Nat.reduceLeDiff,Nat.reduceLT,ne_eq,eq_self,List.length_cons,List.length_nil,qxE,d3,d2,g1,g2,beq_self_eq_true] | (with_reducible refine Sx.call_at (f:=176) (fun W hW=>v1 W) ?_) | (with_reducible refine Sx.call_at (f:=138) (fun W hW=>at1 W) ?_) | (with_reducible refine Sx.call_at (f:=137) (fun W hW=>ad W) ?_) | (with_reducible refine Sx.call_at (f:=139) (fun W hW=>n1 W) ?_) | (with_reducible refine Sx.call_at (f:=140) (fun W hW=>n2 W) ?_) | (with_reducible refine cregF ?_))
     ·have d2:(lb2 (ab z) == 0) = false:=beq_eq_false_iff_ne.2 k2
      refine known_of (enter Tryz.func84 rebuild_Value.ok (args:=[_,_,_]) (by simp) ?_)
      repeat' (first | simp (disch:=omega) only [sxE,rebuild_Value.E,Nat.reduceAdd,Nat.reduceEqDiff,Nat.reduceMul,Nat.reduceSub,Int.reduceAdd,Int.reduceSub,Int.reduceMul,Int.reduceNeg,Int.reduceLT,Int.reduceLE,Int.reduceEq,Int.reduceToNat,↓reduceIte,Int.reducePow,Nat.reduceLeDiff,Nat.reduceLT,ne_eq,eq_self,List.length_cons,List.length_nil,qxE,d3,d2,g1,g2,beq_self_eq_true] | (with_reducible refine Sx.call_at (f:=176) (fun W hW=>v1 W) ?_) | (with_reducible refine Sx.call_at (f:=138) (fun W hW=>at1 W) ?_) | (with_reducible refine Sx.call_at (f:=137) (fun W hW=>ad W) ?_) | (with_reducible refine Sx.call_at (f:=139) (fun W hW=>n1 W) ?_) | (with_reducible refine Sx.call_at (f:=140) (fun W hW=>n2 W) ?_) | (with_reducible refine cregF ?_))
   ·by_cases k3:lb3 (ab z) = 0
    ·have d3:(lb3 (ab z) == 0) = true:=beq_iff_eq.2 k3
     by_cases k2:lb2 (ab z) = 0
     ·exact absurd hn (by simp [k3,k2])
     ·have d2:(lb2 (ab z) == 0) = false:=beq_eq_false_iff_ne.2 k2
      refine known_of (enter Tryz.func84 rebuild_Value.ok (args:=[_,_,_]) (by simp) ?_)
      repeat' (first | simp (disch:=omega) only [sxE,rebuild_Value.E,Nat.reduceAdd,Nat.reduceEqDiff,Nat.reduceMul,Nat.reduceSub,Int.reduceAdd,Int.reduceSub,Int.reduceMul,Int.reduceNeg,Int.reduceLT,Int.reduceLE,Int.reduceEq,Int.reduceToNat,↓reduceIte,Int.reducePow,Nat.reduceLeDiff,Nat.reduceLT,ne_eq,eq_self,List.length_cons,List.length_nil,qxE,d3,d2,g1,g2,g5,beq_self_eq_true] | (with_reducible refine Sx.call_at (f:=176) (fun W hW=>v1 W) ?_) | (with_reducible refine Sx.call_at (f:=138) (fun W hW=>at1 W) ?_) | (with_reducible refine Sx.call_at (f:=137) (fun W hW=>ad W) ?_) | (with_reducible refine Sx.call_at (f:=139) (fun W hW=>n1 W) ?_) | (with_reducible refine Sx.call_at (f:=140) (fun W hW=>n2 W) ?_) | (with_reducible refine cregF ?_))
    ·have d3:(lb3 (ab z) == 0) = false:=beq_eq_false_iff_ne.2 k3
     by_cases k2:lb2 (ab z) = 0
     ·have d2:(lb2 (ab z) == 0) = true:=beq_iff_eq.2 k2
      refine known_of (enter Tryz.func84 rebuild_Value.ok (args:=[_,_,_]) (by simp) ?_)
      repeat' (first | simp (disch:=omega) only [sxE,rebuild_Value.E,Nat.reduceAdd,Nat.reduceEqDiff,Nat.reduceMul,Nat.reduceSub,Int.reduceAdd,Int.reduceSub,Int.reduceMul,Int.reduceNeg,Int.reduceLT,Int.reduceLE,Int.reduceEq,Int.reduceToNat,↓reduceIte,Int.reducePow,Nat.reduceLeDiff,Nat.reduceLT,ne_eq,eq_self,List.length_cons,List.length_nil,qxE,d3,d2,g1,g2,g5,beq_self_eq_true] | (with_reducible refine Sx.call_at (f:=176) (fun W hW=>v1 W) ?_) | (with_reducible refine Sx.call_at (f:=138) (fun W hW=>at1 W) ?_) | (with_reducible refine Sx.call_at (f:=137) (fun W hW=>ad W) ?_) | (with_reducible refine Sx.call_at (f:=139) (fun W hW=>n1 W) ?_) | (with_reducible refine Sx.call_at (f:=140) (fun W hW=>n2 W) ?_) | (with_reducible refine cregF ?_))
     ·have d2:(lb2 (ab z) == 0) = false:=beq_eq_false_iff_ne.2 k2
      refine known_of (enter Tryz.func84 rebuild_Value.ok (args:=[_,_,_]) (by simp) ?_)
      repeat' (first | simp (disch:=omega) only [sxE,rebuild_Value.E,Nat.reduceAdd,Nat.reduceEqDiff,Nat.reduceMul,Nat.reduceSub,Int.reduceAdd,Int.reduceSub,Int.reduceMul,Int.reduceNeg,Int.reduceLT,Int.reduceLE,Int.reduceEq,Int.reduceToNat,↓reduceIte,Int.reducePow,Nat.reduceLeDiff,Nat.reduceLT,ne_eq,eq_self,List.length_cons,List.length_nil,qxE,d3,d2,g1,g2,g5,beq_self_eq_true] | (with_reducible refine Sx.call_at (f:=176) (fun W hW=>v1 W) ?_) | (with_reducible refine Sx.call_at (f:=138) (fun W hW=>at1 W) ?_) | (with_reducible refine Sx.call_at (f:=137) (fun W hW=>ad W) ?_) | (with_reducible refine Sx.call_at (f:=139) (fun W hW=>n1 W) ?_) | (with_reducible refine Sx.call_at (f:=140) (fun W hW=>n2 W) ?_) | (with_reducible refine cregF ?_))
   ·by_cases k3:lb3 (ab z) = 0
    ·have d3:(lb3 (ab z) == 0) = true:=beq_iff_eq.2 k3
     by_cases k2:lb2 (ab z) = 0
     ·exact absurd hn (by simp [k3,k2])
     ·have d2:(lb2 (ab z) == 0) = false:=beq_eq_false_iff_ne.2 k2
      refine known_of (enter Tryz.func84 rebuild_Value.ok (args:=[_,_,_]) (by simp) ?_)
      repeat' (first | simp (disch:=omega) only [sxE,rebuild_Value.E,Nat.reduceAdd,Nat.reduceEqDiff,Nat.reduceMul,Nat.reduceSub,Int.reduceAdd,Int.reduceSub,Int.reduceMul,Int.reduceNeg,Int.reduceLT,Int.reduceLE,Int.reduceEq,Int.reduceToNat,↓reduceIte,Int.reducePow,Nat.reduceLeDiff,Nat.reduceLT,ne_eq,eq_self,List.length_cons,List.length_nil,qxE,d3,d2,g1,g2,g5,beq_self_eq_true] | (with_reducible refine Sx.call_at (f:=176) (fun W hW=>v1 W) ?_) | (with_reducible refine Sx.call_at (f:=138) (fun W hW=>at1 W) ?_) | (with_reducible refine Sx.call_at (f:=137) (fun W hW=>ad W) ?_) | (with_reducible refine Sx.call_at (f:=139) (fun W hW=>n1 W) ?_) | (with_reducible refine Sx.call_at (f:=140) (fun W hW=>n2 W) ?_) | (with_reducible refine cregF ?_))
    ·have d3:(lb3 (ab z) == 0) = false:=beq_eq_false_iff_ne.2 k3
     by_cases k2:lb2 (ab z) = 0
     ·have d2:(lb2 (ab z) == 0) = true:=beq_iff_eq.2 k2
      refine known_of (enter Tryz.func84 rebuild_Value.ok (args:=[_,_,_]) (by simp) ?_)
      repeat' (first | simp (disch:=omega) only [sxE,rebuild_Value.E,Nat.reduceAdd,Nat.reduceEqDiff,Nat.reduceMul,Nat.reduceSub,Int.reduceAdd,Int.reduceSub,Int.reduceMul,Int.reduceNeg,Int.reduceLT,Int.reduceLE,Int.reduceEq,Int.reduceToNat,↓reduceIte,Int.reducePow,Nat.reduceLeDiff,Nat.reduceLT,ne_eq,eq_self,List.length_cons,List.length_nil,qxE,d3,d2,g1,g2,g5,beq_self_eq_true] | (with_reducible refine Sx.call_at (f:=176) (fun W hW=>v1 W) ?_) | (with_reducible refine Sx.call_at (f:=138) (fun W hW=>at1 W) ?_) | (with_reducible refine Sx.call_at (f:=137) (fun W hW=>ad W) ?_) | (with_reducible refine Sx.call_at (f:=139) (fun W hW=>n1 W) ?_) | (with_reducible refine Sx.call_at (f:=140) (fun W hW=>n2 W) ?_) | (with_reducible refine cregF ?_))
     ·have d2:(lb2 (ab z) == 0) = false:=beq_eq_false_iff_ne.2 k2
      refine known_of (enter Tryz.func84 rebuild_Value.ok (args:=[_,_,_]) (by simp) ?_)
      repeat' (first | simp (disch:=omega) only [sxE,rebuild_Value.E,Nat.reduceAdd,Nat.reduceEqDiff,Nat.reduceMul,Nat.reduceSub,Int.reduceAdd,Int.reduceSub,Int.reduceMul,Int.reduceNeg,Int.reduceLT,Int.reduceLE,Int.reduceEq,Int.reduceToNat,↓reduceIte,Int.reducePow,Nat.reduceLeDiff,Nat.reduceLT,ne_eq,eq_self,List.length_cons,List.length_nil,qxE,d3,d2,g1,g2,g5,beq_self_eq_true] | (with_reducible refine Sx.call_at (f:=176) (fun W hW=>v1 W) ?_) | (with_reducible refine Sx.call_at (f:=138) (fun W hW=>at1 W) ?_) | (with_reducible refine Sx.call_at (f:=137) (fun W hW=>ad W) ?_) | (with_reducible refine Sx.call_at (f:=139) (fun W hW=>n1 W) ?_) | (with_reducible refine Sx.call_at (f:=140) (fun W hW=>n2 W) ?_) | (with_reducible refine cregF ?_))
 ·simp only [e0] at ad n1 n2 fin ⊢
  clear eN eB e0 fs ba
  generalize hS:0 + atq p q dt = S at *
  generalize atq p q dt = A at *
  rcases fin with ⟨g1,g2⟩ | ⟨g1,g2,g3,g4,g5⟩ | ⟨g1,g2,g3,g4,g5⟩
  ·refine known_of (enter Tryz.func84 rebuild_Value.ok (args:=[_,_,_]) (by simp) ?_)
   repeat' (first | simp (disch:=omega) only [sxE,rebuild_Value.E,Nat.reduceAdd,Nat.reduceEqDiff,Nat.reduceMul,Nat.reduceSub,Int.reduceAdd,Int.reduceSub,Int.reduceMul,Int.reduceNeg,Int.reduceLT,Int.reduceLE,Int.reduceEq,Int.reduceToNat,↓reduceIte,Int.reducePow,Nat.reduceLeDiff,Nat.reduceLT,ne_eq,eq_self,List.length_cons,List.length_nil,qxE,g1,g2,beq_self_eq_true] | (with_reducible refine Sx.call_at (f:=176) (fun W hW=>v1 W) ?_) | (with_reducible refine Sx.call_at (f:=138) (fun W hW=>at1 W) ?_) | (with_reducible refine Sx.call_at (f:=137) (fun W hW=>ad W) ?_) | (with_reducible refine Sx.call_at (f:=137) (fun W hW=>ad0 W) ?_) | (with_reducible refine Sx.call_at (f:=139) (fun W hW=>n1 W) ?_) | (with_reducible refine Sx.call_at (f:=140) (fun W hW=>n2 W) ?_) | (with_reducible refine cregF ?_))
  ·refine known_of (enter Tryz.func84 rebuild_Value.ok (args:=[_,_,_]) (by simp) ?_)
   repeat' (first | simp (disch:=omega) only [sxE,rebuild_Value.E,Nat.reduceAdd,Nat.reduceEqDiff,Nat.reduceMul,Nat.reduceSub,Int.reduceAdd,Int.reduceSub,Int.reduceMul,Int.reduceNeg,Int.reduceLT,Int.reduceLE,Int.reduceEq,Int.reduceToNat,↓reduceIte,Int.reducePow,Nat.reduceLeDiff,Nat.reduceLT,ne_eq,eq_self,List.length_cons,List.length_nil,qxE,g1,g2,g5,beq_self_eq_true] | (with_reducible refine Sx.call_at (f:=176) (fun W hW=>v1 W) ?_) | (with_reducible refine Sx.call_at (f:=138) (fun W hW=>at1 W) ?_) | (with_reducible refine Sx.call_at (f:=137) (fun W hW=>ad W) ?_) | (with_reducible refine Sx.call_at (f:=137) (fun W hW=>ad0 W) ?_) | (with_reducible refine Sx.call_at (f:=139) (fun W hW=>n1 W) ?_) | (with_reducible refine Sx.call_at (f:=140) (fun W hW=>n2 W) ?_) | (with_reducible refine cregF ?_))
  ·refine known_of (enter Tryz.func84 rebuild_Value.ok (args:=[_,_,_]) (by simp) ?_)
   repeat' (first | simp (disch:=omega) only [sxE,rebuild_Value.E,Nat.reduceAdd,Nat.reduceEqDiff,Nat.reduceMul,Nat.reduceSub,Int.reduceAdd,Int.reduceSub,Int.reduceMul,Int.reduceNeg,Int.reduceLT,Int.reduceLE,Int.reduceEq,Int.reduceToNat,↓reduceIte,Int.reducePow,Nat.reduceLeDiff,Nat.reduceLT,ne_eq,eq_self,List.length_cons,List.length_nil,qxE,g1,g2,g5,beq_self_eq_true] | (with_reducible refine Sx.call_at (f:=176) (fun W hW=>v1 W) ?_) | (with_reducible refine Sx.call_at (f:=138) (fun W hW=>at1 W) ?_) | (with_reducible refine Sx.call_at (f:=137) (fun W hW=>ad W) ?_) | (with_reducible refine Sx.call_at (f:=137) (fun W hW=>ad0 W) ?_) | (with_reducible refine Sx.call_at (f:=139) (fun W hW=>n1 W) ?_) | (with_reducible refine Sx.call_at (f:=140) (fun W hW=>n2 W) ?_) | (with_reducible refine cregF ?_))
set_option maxRecDepth 100000 in
set_option maxHeartbeats 4000000 in
theorem rx_value {b s:Value} {t:Bool} {z p q dt:Int} (h:RW b t z) (hq:CQ s p q) (hd:U64 dt) (W:World):Gives Tryz.prog 83 [b,s,.int .u64 dt] W (· = .int .i64 (vl (vz z + atq p q dt))):=by
 have at1:=fun W=>rx_rat hq hd W
 have f:=hq.fq
 have ba:=bd_at f hd
 have fa:=ba.fits
 have v1:=fun W=>ry_valid h W
 obtain ⟨s0,s1,s2,s3,s4,s5,s6,s7,s8,s9,rfl⟩:=hq.ten
 clear hq f
 have fs:=vz_fits (z:=z) (vz_small z) ba
 have n1:=fun W=>rgf_int64 fs.is W
 have n2:=fun W=>rx_sign fs W
 have ad:∀ W,Gives Tryz.prog 51 [WX (vz z),WX (atq p q dt)] W (· = .tuple #[WX (vz z + atq p q dt),.bool true]):=fun W=>rx_add (bd_fits' (vz_small z)) fa fs W
 have ad0:∀ W,Gives Tryz.prog 51 [NZ,WX (atq p q dt)] W (· = .tuple #[WX (0 + atq p q dt),.bool true]):=fun W=>by
  have h1:Fits (0 + atq p q dt):=by rw [Int.zero_add]; exact fa
  exact gives_eq (rg_add nz_is fa.is W) (tup2 (by rw [cl_fit h1]; rfl) (by rw [fb_fit h1]))
 have e0:vz 0 = 0:=by decide
 have eN:ab z < 340282366920938463463374607431768211456→vz z = z:=fun e=>by unfold vz; rw [if_pos e]
 have eB:¬ ab z < 340282366920938463463374607431768211456→vz z = 0:=fun e=>by unfold vz; rw [if_neg e]
 refine gives_known en_r20_Value ?_
 have fin:(i6b (vz z + atq p q dt) = true∧i6v (vz z + atq p q dt) = vl (vz z + atq p q dt))∨(i6b (vz z + atq p q dt) = false∧i6v (vz z + atq p q dt) = 0∧cm (vz z + atq p q dt) 0 < 0∧sg (vz z + atq p q dt) = true∧vl (vz z + atq p q dt) = -9223372036854775808)∨(i6b (vz z + atq p q dt) = false∧i6v (vz z + atq p q dt) = 0∧¬ cm (vz z + atq p q dt) 0 < 0∧sg (vz z + atq p q dt) = false∧vl (vz z + atq p q dt) = 9223372036854775807):=by
  generalize vz z + atq p q dt = S
  unfold i6v i6b vl sg
  rw [km_lt]
  by_cases g1:S < -9223372036854775808
  ·rw [decide_eq_false (show ¬ (-9223372036854775808≤S∧S≤9223372036854775807) by omega),if_pos g1,decide_eq_true (show S < 0 by omega)]
   exact .inr (.inl ⟨rfl,rfl,by omega,rfl,rfl⟩)
  ·by_cases g2:9223372036854775807 < S
   ·rw [decide_eq_false (show ¬ (-9223372036854775808≤S∧S≤9223372036854775807) by omega),if_neg g1,if_pos g2,decide_eq_false (show ¬ S < 0 by omega)]
    exact .inr (.inr ⟨rfl,rfl,by omega,rfl,rfl⟩)
   ·rw [decide_eq_true (show -9223372036854775808≤S∧S≤9223372036854775807 by omega),if_neg g1,if_neg g2]
    exact .inl ⟨rfl,rfl⟩
 rcases h with ⟨rfl,rfl,h⟩ | ⟨rfl,rfl,rfl⟩
 ·have hs:=small128 h
  by_cases hz:ab z < 340282366920938463463374607431768211456
  ·obtain ⟨k3,k2⟩:=hs.1 hz
   have d3:(lb3 (ab z) == 0) = true:=beq_iff_eq.2 k3
   have d2:(lb2 (ab z) == 0) = true:=beq_iff_eq.2 k2
   simp only [eN hz] at ad n1 n2 fin ⊢
   clear hs hz eN eB ad0 e0 fs ba
   generalize hS:z + atq p q dt = S at *
   generalize atq p q dt = A at *
   rcases fin with ⟨g1,g2⟩ | ⟨g1,g2,g3,g4,g5⟩ | ⟨g1,g2,g3,g4,g5⟩
   ·refine known_of (enter Tryz.func83 r20_Value.ok (args:=[_,_,_]) (by simp) ?_)
    repeat' (first | simp (disch:=omega) only [sxE,r20_Value.E,Nat.reduceAdd,Nat.reduceEqDiff,Nat.reduceMul,Nat.reduceSub,Int.reduceAdd,Int.reduceSub,Int.reduceMul,Int.reduceNeg,Int.reduceLT,Int.reduceLE,Int.reduceEq,Int.reduceToNat,↓reduceIte,Int.reducePow,Nat.reduceLeDiff,Nat.reduceLT,ne_eq,eq_self,List.length_cons,List.length_nil,qxE,d3,d2,g1,g2,beq_self_eq_true] | (with_reducible refine Sx.call_at (f:=100) (fun W hW=>v1 W) ?_) | (with_reducible refine Sx.call_at (f:=52) (fun W hW=>at1 W) ?_) | (with_reducible refine Sx.call_at (f:=51) (fun W hW=>ad W) ?_) | (with_reducible refine Sx.call_at (f:=136) (fun W hW=>n1 W) ?_) | (with_reducible refine Sx.call_at (f:=104) (fun W hW=>n2 W) ?_) | (with_reducible refine cregF ?_))
   ·refine known_of (enter Tryz.func83 r20_Value.ok (args:=[_,_,_]) (by simp) ?_)
    repeat' (first | simp (disch:=omega) only [sxE,r20_Value.E,Nat.reduceAdd,Nat.reduceEqDiff,Nat.reduceMul,Nat.reduceSub,Int.reduceAdd,Int.reduceSub,Int.reduceMul,Int.reduceNeg,Int.reduceLT,Int.reduceLE,Int.reduceEq,Int.reduceToNat,↓reduceIte,Int.reducePow,Nat.reduceLeDiff,Nat.reduceLT,ne_eq,eq_self,List.length_cons,List.length_nil,qxE,d3,d2,g1,g2,g5,beq_self_eq_true] | (with_reducible refine Sx.call_at (f:=100) (fun W hW=>v1 W) ?_) | (with_reducible refine Sx.call_at (f:=52) (fun W hW=>at1 W) ?_) | (with_reducible refine Sx.call_at (f:=51) (fun W hW=>ad W) ?_) | (with_reducible refine Sx.call_at (f:=136) (fun W hW=>n1 W) ?_) | (with_reducible refine Sx.call_at (f:=104) (fun W hW=>n2 W) ?_) | (with_reducible refine cregF ?_))
    repeat' (first | simp (disch:=omega) only [sxE,r20_Value.E,Nat.reduceAdd,Nat.reduceEqDiff,Nat.reduceMul,Nat.reduceSub,Int.reduceAdd,Int.reduceSub,Int.reduceMul,Int.reduceNeg,Int.reduceLT,Int.reduceLE,Int.reduceEq,Int.reduceToNat,↓reduceIte,Int.reducePow,Nat.reduceLeDiff,Nat.reduceLT,ne_eq,eq_self,List.length_cons,List.length_nil,qxE,g4,g5] | (with_reducible refine cregF ?_))
   ·refine known_of (enter Tryz.func83 r20_Value.ok (args:=[_,_,_]) (by simp) ?_)
    repeat' (first | simp (disch:=omega) only [sxE,r20_Value.E,Nat.reduceAdd,Nat.reduceEqDiff,Nat.reduceMul,Nat.reduceSub,Int.reduceAdd,Int.reduceSub,Int.reduceMul,Int.reduceNeg,Int.reduceLT,Int.reduceLE,Int.reduceEq,Int.reduceToNat,↓reduceIte,Int.reducePow,Nat.reduceLeDiff,Nat.reduceLT,ne_eq,eq_self,List.length_cons,List.length_nil,qxE,d3,d2,g1,g2,g5,beq_self_eq_true] | (with_reducible refine Sx.call_at (f:=100) (fun W hW=>v1 W) ?_) | (with_reducible refine Sx.call_at (f:=52) (fun W hW=>at1 W) ?_) | (with_reducible refine Sx.call_at (f:=51) (fun W hW=>ad W) ?_) | (with_reducible refine Sx.call_at (f:=136) (fun W hW=>n1 W) ?_) | (with_reducible refine Sx.call_at (f:=104) (fun W hW=>n2 W) ?_) | (with_reducible refine cregF ?_))
    repeat' (first | simp (disch:=omega) only [sxE,r20_Value.E,Nat.reduceAdd,Nat.reduceEqDiff,Nat.reduceMul,Nat.reduceSub,Int.reduceAdd,Int.reduceSub,Int.reduceMul,Int.reduceNeg,Int.reduceLT,Int.reduceLE,Int.reduceEq,Int.reduceToNat,↓reduceIte,Int.reducePow,Nat.reduceLeDiff,Nat.reduceLT,ne_eq,eq_self,List.length_cons,List.length_nil,qxE,g4,g5] | (with_reducible refine cregF ?_))
  ·simp only [eB hz] at ad n1 n2 fin ⊢
   have hn:lb3 (ab z)≠0∨lb2 (ab z)≠0:=by
    rcases Decidable.em (lb3 (ab z) = 0) with e | e
    ·exact .inr fun e'=>hz (hs.2 ⟨e,e'⟩)
    ·exact .inl e
   clear hs hz eN eB ad0 e0 fs ba
   generalize hS:0 + atq p q dt = S at *
   generalize atq p q dt = A at *
   rcases fin with ⟨g1,g2⟩ | ⟨g1,g2,g3,g4,g5⟩ | ⟨g1,g2,g3,g4,g5⟩
   ·by_cases k3:lb3 (ab z) = 0
    ·have d3:(lb3 (ab z) == 0) = true:=beq_iff_eq.2 k3
     by_cases k2:lb2 (ab z) = 0
     ·exact absurd hn (by simp [k3,k2])
     ·have d2:(lb2 (ab z) == 0) = false:=beq_eq_false_iff_ne.2 k2
      refine known_of (enter Tryz.func83 r20_Value.ok (args:=[_,_,_]) (by simp) ?_)
      repeat' (first | simp (disch:=omega) only [sxE,r20_Value.E,Nat.reduceAdd,Nat.reduceEqDiff,Nat.reduceMul,Nat.reduceSub,Int.reduceAdd,Int.reduceSub,Int.reduceMul,Int.reduceNeg,Int.reduceLT,Int.reduceLE,Int.reduceEq,Int.reduceToNat,↓reduceIte,Int.reducePow,Nat.reduceLeDiff,Nat.reduceLT,ne_eq,eq_self,List.length_cons,List.length_nil,qxE,d3,d2,g1,g2,beq_self_eq_true] | (with_reducible refine Sx.call_at (f:=100) (fun W hW=>v1 W) ?_) | (with_reducible refine Sx.call_at (f:=52) (fun W hW=>at1 W) ?_) | (with_reducible refine Sx.call_at (f:=51) (fun W hW=>ad W) ?_) | (with_reducible refine Sx.call_at (f:=136) (fun W hW=>n1 W) ?_) | (with_reducible refine Sx.call_at (f:=104) (fun W hW=>n2 W) ?_) | (with_reducible refine cregF ?_))
    ·have d3:(lb3 (ab z) == 0) = false:=beq_eq_false_iff_ne.2 k3
     by_cases k2:lb2 (ab z) = 0
     ·have d2:(lb2 (ab z) == 0) = true:=beq_iff_eq.2 k2
      refine known_of (enter Tryz.func83 r20_Value.ok (args:=[_,_,_]) (by simp) ?_)
      repeat' (first | simp (disch:=omega) only [sxE,r20_Value.E,Nat.reduceAdd,Nat.reduceEqDiff,Nat.reduceMul,Nat.reduceSub,Int.reduceAdd,Int.reduceSub,Int.reduceMul,Int.reduceNeg,Int.reduceLT,Int.reduceLE,Int.reduceEq,Int.reduceToNat,↓reduceIte,Int.reducePow,Nat.reduceLeDiff,Nat.reduceLT,ne_eq,eq_self,List.length_cons,List.length_nil,qxE,d3,d2,g1,g2,beq_self_eq_true] | (with_reducible refine Sx.call_at (f:=100) (fun W hW=>v1 W) ?_) | (with_reducible refine Sx.call_at (f:=52) (fun W hW=>at1 W) ?_) | (with_reducible refine Sx.call_at (f:=51) (fun W hW=>ad W) ?_) | (with_reducible refine Sx.call_at (f:=136) (fun W hW=>n1 W) ?_) | (with_reducible refine Sx.call_at (f:=104) (fun W hW=>n2 W) ?_) | (with_reducible refine cregF ?_))
     ·have d2:(lb2 (ab z) == 0) = false:=beq_eq_false_iff_ne.2 k2
      refine known_of (enter Tryz.func83 r20_Value.ok (args:=[_,_,_]) (by simp) ?_)
      repeat' (first | simp (disch:=omega) only [sxE,r20_Value.E,Nat.reduceAdd,Nat.reduceEqDiff,Nat.reduceMul,Nat.reduceSub,Int.reduceAdd,Int.reduceSub,Int.reduceMul,Int.reduceNeg,Int.reduceLT,Int.reduceLE,Int.reduceEq,Int.reduceToNat,↓reduceIte,Int.reducePow,Nat.reduceLeDiff,Nat.reduceLT,ne_eq,eq_self,List.length_cons,List.length_nil,qxE,d3,d2,g1,g2,beq_self_eq_true] | (with_reducible refine Sx.call_at (f:=100) (fun W hW=>v1 W) ?_) | (with_reducible refine Sx.call_at (f:=52) (fun W hW=>at1 W) ?_) | (with_reducible refine Sx.call_at (f:=51) (fun W hW=>ad W) ?_) | (with_reducible refine Sx.call_at (f:=136) (fun W hW=>n1 W) ?_) | (with_reducible refine Sx.call_at (f:=104) (fun W hW=>n2 W) ?_) | (with_reducible refine cregF ?_))
   ·by_cases k3:lb3 (ab z) = 0
    ·have d3:(lb3 (ab z) == 0) = true:=beq_iff_eq.2 k3
     by_cases k2:lb2 (ab z) = 0
     ·exact absurd hn (by simp [k3,k2])
     ·have d2:(lb2 (ab z) == 0) = false:=beq_eq_false_iff_ne.2 k2
      refine known_of (enter Tryz.func83 r20_Value.ok (args:=[_,_,_]) (by simp) ?_)
      repeat' (first | simp (disch:=omega) only [sxE,r20_Value.E,Nat.reduceAdd,Nat.reduceEqDiff,Nat.reduceMul,Nat.reduceSub,Int.reduceAdd,Int.reduceSub,Int.reduceMul,Int.reduceNeg,Int.reduceLT,Int.reduceLE,Int.reduceEq,Int.reduceToNat,↓reduceIte,Int.reducePow,Nat.reduceLeDiff,Nat.reduceLT,ne_eq,eq_self,List.length_cons,List.length_nil,qxE,d3,d2,g1,g2,g5,beq_self_eq_true] | (with_reducible refine Sx.call_at (f:=100) (fun W hW=>v1 W) ?_) | (with_reducible refine Sx.call_at (f:=52) (fun W hW=>at1 W) ?_) | (with_reducible refine Sx.call_at (f:=51) (fun W hW=>ad W) ?_) | (with_reducible refine Sx.call_at (f:=136) (fun W hW=>n1 W) ?_) | (with_reducible refine Sx.call_at (f:=104) (fun W hW=>n2 W) ?_) | (with_reducible refine cregF ?_))
      repeat' (first | simp (disch:=omega) only [sxE,r20_Value.E,Nat.reduceAdd,Nat.reduceEqDiff,Nat.reduceMul,Nat.reduceSub,Int.reduceAdd,Int.reduceSub,Int.reduceMul,Int.reduceNeg,Int.reduceLT,Int.reduceLE,Int.reduceEq,Int.reduceToNat,↓reduceIte,Int.reducePow,Nat.reduceLeDiff,Nat.reduceLT,ne_eq,eq_self,List.length_cons,List.length_nil,qxE,g4,g5] | (with_reducible refine cregF ?_))
    ·have d3:(lb3 (ab z) == 0) = false:=beq_eq_false_iff_ne.2 k3
     by_cases k2:lb2 (ab z) = 0
     ·have d2:(lb2 (ab z) == 0) = true:=beq_iff_eq.2 k2
      refine known_of (enter Tryz.func83 r20_Value.ok (args:=[_,_,_]) (by simp) ?_)
      repeat' (first | simp (disch:=omega) only [sxE,r20_Value.E,Nat.reduceAdd,Nat.reduceEqDiff,Nat.reduceMul,Nat.reduceSub,Int.reduceAdd,Int.reduceSub,Int.reduceMul,Int.reduceNeg,Int.reduceLT,Int.reduceLE,Int.reduceEq,Int.reduceToNat,↓reduceIte,Int.reducePow,Nat.reduceLeDiff,Nat.reduceLT,ne_eq,eq_self,List.length_cons,List.length_nil,qxE,d3,d2,g1,g2,g5,beq_self_eq_true] | (with_reducible refine Sx.call_at (f:=100) (fun W hW=>v1 W) ?_) | (with_reducible refine Sx.call_at (f:=52) (fun W hW=>at1 W) ?_) | (with_reducible refine Sx.call_at (f:=51) (fun W hW=>ad W) ?_) | (with_reducible refine Sx.call_at (f:=136) (fun W hW=>n1 W) ?_) | (with_reducible refine Sx.call_at (f:=104) (fun W hW=>n2 W) ?_) | (with_reducible refine cregF ?_))
      repeat' (first | simp (disch:=omega) only [sxE,r20_Value.E,Nat.reduceAdd,Nat.reduceEqDiff,Nat.reduceMul,Nat.reduceSub,Int.reduceAdd,Int.reduceSub,Int.reduceMul,Int.reduceNeg,Int.reduceLT,Int.reduceLE,Int.reduceEq,Int.reduceToNat,↓reduceIte,Int.reducePow,Nat.reduceLeDiff,Nat.reduceLT,ne_eq,eq_self,List.length_cons,List.length_nil,qxE,g4,g5] | (with_reducible refine cregF ?_))
     ·have d2:(lb2 (ab z) == 0) = false:=beq_eq_false_iff_ne.2 k2
      refine known_of (enter Tryz.func83 r20_Value.ok (args:=[_,_,_]) (by simp) ?_)
      repeat' (first | simp (disch:=omega) only [sxE,r20_Value.E,Nat.reduceAdd,Nat.reduceEqDiff,Nat.reduceMul,Nat.reduceSub,Int.reduceAdd,Int.reduceSub,Int.reduceMul,Int.reduceNeg,Int.reduceLT,Int.reduceLE,Int.reduceEq,Int.reduceToNat,↓reduceIte,Int.reducePow,Nat.reduceLeDiff,Nat.reduceLT,ne_eq,eq_self,List.length_cons,List.length_nil,qxE,d3,d2,g1,g2,g5,beq_self_eq_true] | (with_reducible refine Sx.call_at (f:=100) (fun W hW=>v1 W) ?_) | (with_reducible refine Sx.call_at (f:=52) (fun W hW=>at1 W) ?_) | (with_reducible refine Sx.call_at (f:=51) (fun W hW=>ad W) ?_) | (with_reducible refine Sx.call_at (f:=136) (fun W hW=>n1 W) ?_) | (with_reducible refine Sx.call_at (f:=104) (fun W hW=>n2 W) ?_) | (with_reducible refine cregF ?_))
      repeat' (first | simp (disch:=omega) only [sxE,r20_Value.E,Nat.reduceAdd,Nat.reduceEqDiff,Nat.reduceMul,Nat.reduceSub,Int.reduceAdd,Int.reduceSub,Int.reduceMul,Int.reduceNeg,Int.reduceLT,Int.reduceLE,Int.reduceEq,Int.reduceToNat,↓reduceIte,Int.reducePow,Nat.reduceLeDiff,Nat.reduceLT,ne_eq,eq_self,List.length_cons,List.length_nil,qxE,g4,g5] | (with_reducible refine cregF ?_))
   ·by_cases k3:lb3 (ab z) = 0
    ·have d3:(lb3 (ab z) == 0) = true:=beq_iff_eq.2 k3
     by_cases k2:lb2 (ab z) = 0
     ·exact absurd hn (by simp [k3,k2])
     ·have d2:(lb2 (ab z) == 0) = false:=beq_eq_false_iff_ne.2 k2
      refine known_of (enter Tryz.func83 r20_Value.ok (args:=[_,_,_]) (by simp) ?_)
      repeat' (first | simp (disch:=omega) only [sxE,r20_Value.E,Nat.reduceAdd,Nat.reduceEqDiff,Nat.reduceMul,Nat.reduceSub,Int.reduceAdd,Int.reduceSub,Int.reduceMul,Int.reduceNeg,Int.reduceLT,Int.reduceLE,Int.reduceEq,Int.reduceToNat,↓reduceIte,Int.reducePow,Nat.reduceLeDiff,Nat.reduceLT,ne_eq,eq_self,List.length_cons,List.length_nil,qxE,d3,d2,g1,g2,g5,beq_self_eq_true] | (with_reducible refine Sx.call_at (f:=100) (fun W hW=>v1 W) ?_) | (with_reducible refine Sx.call_at (f:=52) (fun W hW=>at1 W) ?_) | (with_reducible refine Sx.call_at (f:=51) (fun W hW=>ad W) ?_) | (with_reducible refine Sx.call_at (f:=136) (fun W hW=>n1 W) ?_) | (with_reducible refine Sx.call_at (f:=104) (fun W hW=>n2 W) ?_) | (with_reducible refine cregF ?_))
      repeat' (first | simp (disch:=omega) only [sxE,r20_Value.E,Nat.reduceAdd,Nat.reduceEqDiff,Nat.reduceMul,Nat.reduceSub,Int.reduceAdd,Int.reduceSub,Int.reduceMul,Int.reduceNeg,Int.reduceLT,Int.reduceLE,Int.reduceEq,Int.reduceToNat,↓reduceIte,Int.reducePow,Nat.reduceLeDiff,Nat.reduceLT,ne_eq,eq_self,List.length_cons,List.length_nil,qxE,g4,g5] | (with_reducible refine cregF ?_))
    ·have d3:(lb3 (ab z) == 0) = false:=beq_eq_false_iff_ne.2 k3
     by_cases k2:lb2 (ab z) = 0
     ·have d2:(lb2 (ab z) == 0) = true:=beq_iff_eq.2 k2
      refine known_of (enter Tryz.func83 r20_Value.ok (args:=[_,_,_]) (by simp) ?_)
      repeat' (first | simp (disch:=omega) only [sxE,r20_Value.E,Nat.reduceAdd,Nat.reduceEqDiff,Nat.reduceMul,Nat.reduceSub,Int.reduceAdd,Int.reduceSub,Int.reduceMul,Int.reduceNeg,Int.reduceLT,Int.reduceLE,Int.reduceEq,Int.reduceToNat,↓reduceIte,Int.reducePow,Nat.reduceLeDiff,Nat.reduceLT,ne_eq,eq_self,List.length_cons,List.length_nil,qxE,d3,d2,g1,g2,g5,beq_self_eq_true] | (with_reducible refine Sx.call_at (f:=100) (fun W hW=>v1 W) ?_) | (with_reducible refine Sx.call_at (f:=52) (fun W hW=>at1 W) ?_) | (with_reducible refine Sx.call_at (f:=51) (fun W hW=>ad W) ?_) | (with_reducible refine Sx.call_at (f:=136) (fun W hW=>n1 W) ?_) | (with_reducible refine Sx.call_at (f:=104) (fun W hW=>n2 W) ?_) | (with_reducible refine cregF ?_))
      repeat' (first | simp (disch:=omega) only [sxE,r20_Value.E,Nat.reduceAdd,Nat.reduceEqDiff,Nat.reduceMul,Nat.reduceSub,Int.reduceAdd,Int.reduceSub,Int.reduceMul,Int.reduceNeg,Int.reduceLT,Int.reduceLE,Int.reduceEq,Int.reduceToNat,↓reduceIte,Int.reducePow,Nat.reduceLeDiff,Nat.reduceLT,ne_eq,eq_self,List.length_cons,List.length_nil,qxE,g4,g5] | (with_reducible refine cregF ?_))
     ·have d2:(lb2 (ab z) == 0) = false:=beq_eq_false_iff_ne.2 k2
      refine known_of (enter Tryz.func83 r20_Value.ok (args:=[_,_,_]) (by simp) ?_)
      repeat' (first | simp (disch:=omega) only [sxE,r20_Value.E,Nat.reduceAdd,Nat.reduceEqDiff,Nat.reduceMul,Nat.reduceSub,Int.reduceAdd,Int.reduceSub,Int.reduceMul,Int.reduceNeg,Int.reduceLT,Int.reduceLE,Int.reduceEq,Int.reduceToNat,↓reduceIte,Int.reducePow,Nat.reduceLeDiff,Nat.reduceLT,ne_eq,eq_self,List.length_cons,List.length_nil,qxE,d3,d2,g1,g2,g5,beq_self_eq_true] | (with_reducible refine Sx.call_at (f:=100) (fun W hW=>v1 W) ?_) | (with_reducible refine Sx.call_at (f:=52) (fun W hW=>at1 W) ?_) | (with_reducible refine Sx.call_at (f:=51) (fun W hW=>ad W) ?_) | (with_reducible refine Sx.call_at (f:=136) (fun W hW=>n1 W) ?_) | (with_reducible refine Sx.call_at (f:=104) (fun W hW=>n2 W) ?_) | (with_reducible refine cregF ?_))
      repeat' (first | simp (disch:=omega) only [sxE,r20_Value.E,Nat.reduceAdd,Nat.reduceEqDiff,Nat.reduceMul,Nat.reduceSub,Int.reduceAdd,Int.reduceSub,Int.reduceMul,Int.reduceNeg,Int.reduceLT,Int.reduceLE,Int.reduceEq,Int.reduceToNat,↓reduceIte,Int.reducePow,Nat.reduceLeDiff,Nat.reduceLT,ne_eq,eq_self,List.length_cons,List.length_nil,qxE,g4,g5] | (with_reducible refine cregF ?_))
 ·simp only [e0] at ad n1 n2 fin ⊢
  clear eN eB e0 fs ba
  generalize hS:0 + atq p q dt = S at *
  generalize atq p q dt = A at *
  rcases fin with ⟨g1,g2⟩ | ⟨g1,g2,g3,g4,g5⟩ | ⟨g1,g2,g3,g4,g5⟩
  ·refine known_of (enter Tryz.func83 r20_Value.ok (args:=[_,_,_]) (by simp) ?_)
   repeat' (first | simp (disch:=omega) only [sxE,r20_Value.E,Nat.reduceAdd,Nat.reduceEqDiff,Nat.reduceMul,Nat.reduceSub,Int.reduceAdd,Int.reduceSub,Int.reduceMul,Int.reduceNeg,Int.reduceLT,Int.reduceLE,Int.reduceEq,Int.reduceToNat,↓reduceIte,Int.reducePow,Nat.reduceLeDiff,Nat.reduceLT,ne_eq,eq_self,List.length_cons,List.length_nil,qxE,g1,g2,beq_self_eq_true] | (with_reducible refine Sx.call_at (f:=100) (fun W hW=>v1 W) ?_) | (with_reducible refine Sx.call_at (f:=52) (fun W hW=>at1 W) ?_) | (with_reducible refine Sx.call_at (f:=51) (fun W hW=>ad W) ?_) | (with_reducible refine Sx.call_at (f:=51) (fun W hW=>ad0 W) ?_) | (with_reducible refine Sx.call_at (f:=136) (fun W hW=>n1 W) ?_) | (with_reducible refine Sx.call_at (f:=104) (fun W hW=>n2 W) ?_) | (with_reducible refine cregF ?_))
  ·refine known_of (enter Tryz.func83 r20_Value.ok (args:=[_,_,_]) (by simp) ?_)
   repeat' (first | simp (disch:=omega) only [sxE,r20_Value.E,Nat.reduceAdd,Nat.reduceEqDiff,Nat.reduceMul,Nat.reduceSub,Int.reduceAdd,Int.reduceSub,Int.reduceMul,Int.reduceNeg,Int.reduceLT,Int.reduceLE,Int.reduceEq,Int.reduceToNat,↓reduceIte,Int.reducePow,Nat.reduceLeDiff,Nat.reduceLT,ne_eq,eq_self,List.length_cons,List.length_nil,qxE,g1,g2,g5,beq_self_eq_true] | (with_reducible refine Sx.call_at (f:=100) (fun W hW=>v1 W) ?_) | (with_reducible refine Sx.call_at (f:=52) (fun W hW=>at1 W) ?_) | (with_reducible refine Sx.call_at (f:=51) (fun W hW=>ad W) ?_) | (with_reducible refine Sx.call_at (f:=51) (fun W hW=>ad0 W) ?_) | (with_reducible refine Sx.call_at (f:=136) (fun W hW=>n1 W) ?_) | (with_reducible refine Sx.call_at (f:=104) (fun W hW=>n2 W) ?_) | (with_reducible refine cregF ?_))
   repeat' (first | simp (disch:=omega) only [sxE,r20_Value.E,Nat.reduceAdd,Nat.reduceEqDiff,Nat.reduceMul,Nat.reduceSub,Int.reduceAdd,Int.reduceSub,Int.reduceMul,Int.reduceNeg,Int.reduceLT,Int.reduceLE,Int.reduceEq,Int.reduceToNat,↓reduceIte,Int.reducePow,Nat.reduceLeDiff,Nat.reduceLT,ne_eq,eq_self,List.length_cons,List.length_nil,qxE,g4,g5] | (with_reducible refine cregF ?_))
  ·refine known_of (enter Tryz.func83 r20_Value.ok (args:=[_,_,_]) (by simp) ?_)
   repeat' (first | simp (disch:=omega) only [sxE,r20_Value.E,Nat.reduceAdd,Nat.reduceEqDiff,Nat.reduceMul,Nat.reduceSub,Int.reduceAdd,Int.reduceSub,Int.reduceMul,Int.reduceNeg,Int.reduceLT,Int.reduceLE,Int.reduceEq,Int.reduceToNat,↓reduceIte,Int.reducePow,Nat.reduceLeDiff,Nat.reduceLT,ne_eq,eq_self,List.length_cons,List.length_nil,qxE,g1,g2,g5,beq_self_eq_true] | (with_reducible refine Sx.call_at (f:=100) (fun W hW=>v1 W) ?_) | (with_reducible refine Sx.call_at (f:=52) (fun W hW=>at1 W) ?_) | (with_reducible refine Sx.call_at (f:=51) (fun W hW=>ad W) ?_) | (with_reducible refine Sx.call_at (f:=51) (fun W hW=>ad0 W) ?_) | (with_reducible refine Sx.call_at (f:=136) (fun W hW=>n1 W) ?_) | (with_reducible refine Sx.call_at (f:=104) (fun W hW=>n2 W) ?_) | (with_reducible refine cregF ?_))
   repeat' (first | simp (disch:=omega) only [sxE,r20_Value.E,Nat.reduceAdd,Nat.reduceEqDiff,Nat.reduceMul,Nat.reduceSub,Int.reduceAdd,Int.reduceSub,Int.reduceMul,Int.reduceNeg,Int.reduceLT,Int.reduceLE,Int.reduceEq,Int.reduceToNat,↓reduceIte,Int.reducePow,Nat.reduceLeDiff,Nat.reduceLT,ne_eq,eq_self,List.length_cons,List.length_nil,qxE,g4,g5] | (with_reducible refine cregF ?_))
end Go.Proofs.YtncmmbacoknefaaGreat

/- Ck: A symbolic run: blocks of the call's own that are known cell by cell. -/
namespace Go.Proofs.YtncmmbacoknefaaGreat
open Go Go.RowKit Sx
set_option linter.unusedVariables false
set_option linter.unusedSimpArgs false
namespace Sx
variable {C:Cx} {S:St} {K:St→Prop} {d:Option Nat}
def cK (b:Nat) (cs:List Value):KnG where
 bs:=[b]
 ok n W:=n≤b∧HB W b cs.toArray
 lt:=fun {n W} h c hc=>by
  rw [List.mem_singleton.1 hc]
  exact ⟨h.1,h.2.lt⟩
 keep:=fun {n W W'} h hs hb ho=>by
  obtain ⟨T,hT⟩:=h.2
  exact ⟨h.1,T,(hb b (List.mem_singleton.2 rfl)).trans hT⟩
theorem cK_cell {b:Nat} {cs:List Value} {n:Nat} {W:World} (h:(cK b cs).ok n W) {i:Nat} {v:Value} (hv:cs[i]? = some v):W.cell? ⟨b,i,none⟩ = some v:=by
 have hc:=(Bx.of h.2).2.1 i
 rw [hc]
 simpa using hv
theorem genA_c {q:GK} {l:List Value} {L:List Kn} {cs:List Value} {T:TypeId} (v:Nat→Value) (hT:S.T = kX C.w0.heap.size L)
  (h:∀ W,(genRun q l).run C.P W = .ok (.value (v W.heap.size)) (W.alloc (.cells cs.toArray T (0,0))))
  (hk:∀ b,b ∉ S.T.bs→K (St.put ⟨S.n,S.E,S.H,kX C.w0.heap.size (.g (cK b cs) :: L)⟩ d (.v (v b)))):genA C q l d K S:=by
 refine genA_T (ι:={x:Nat // x ∉ S.T.bs}) (fun x=>v x.1) (fun x=>kX C.w0.heap.size (.g (cK x.1 cs) :: L)) (fun W hW hok hbs=>⟨?_⟩) (fun x=>hk _ x.2)
 rw [hT] at hok
 rw [h W]
 have hb:Below W.heap.size W (W.alloc (.cells cs.toArray T (0,0))):=(Below.refl _ _).alloc (Nat.le_refl _) _
 have hc:(cK W.heap.size cs).ok C.w0.heap.size (W.alloc (.cells cs.toArray T (0,0))):=⟨hW.size,HB.new W _ T rfl⟩
 refine ⟨⟨W.heap.size,fun hT2=>by have:=(hbs _ hT2).2; omega⟩,rfl,⟨hb.os,hb.tape,hb.output,hb.size,fun i hi _=>hb.block i hi⟩,?_,kX_stab C _,?_⟩
 ·intro k hk
  rcases List.mem_cons.1 hk with rfl | hk
  ·exact hc
  ·exact (hok k hk).below hb
 ·intro b hbb
  obtain ⟨k,hk,hbb⟩:=kX_bs.1 hbb
  rcases List.mem_cons.1 hk with rfl | hk
  ·have:b = W.heap.size:=List.mem_singleton.1 hbb
   subst this
   exact ⟨.inr (Nat.le_refl _),hc.2.lt⟩
  ·exact ⟨.inl (by rw [hT]; exact kX_bs.2 ⟨k,hk,hbb⟩),Nat.lt_of_lt_of_le ((hok k hk).lt b hbb).2 hb.size⟩
theorem ldP_c {L:List Kn} {b o m:Nat} {g:Bool} {cs l:List Value} (hT:(C.kn S).T = kX C.w0.heap.size L) (hm:.g (cK b cs)∈L) (hl:l.length = m) (hs:∀ j v,l[j]? = some v→cs[o + j]? = some v) (hk:K (S.put d (.v (mk g l)))):ldP C g m ⟨b,o,none⟩ d K S :=
 ldP_ext l hl (fun W hW hok j v hj=>by
  rw [hT] at hok
  have ho:(cK b cs).ok C.w0.heap.size W:=hok _ hm
  rw [Addr.add_lit]
  exact cK_cell ho (hs j v hj)) hk
theorem ldP_k {L:List Kn} {b o m:Nat} {g:Bool} {cs l:List Value} (hT:(C.kn S).T = kX C.w0.heap.size L) (hm:.g (cK b cs)∈L) (hl:sub cs o m = some l) (hk:K (S.put d (.v (mk g l)))):ldP C g m ⟨b,o,none⟩ d K S :=
 ldP_c hT hm (sub_get hl).1 (fun j v hj=>by
  have hlt:j < m:=by
   have:=(List.getElem?_eq_some_iff.1 hj).1
   rw [(sub_get hl).1] at this
   exact this
  rw [← (sub_get hl).2 j hlt]
  exact hj) hk
theorem run_storeK {P:Program} {b o0:Nat}:∀ {vs cs cs':List Value} {i:Nat} {W:World},HB W b cs.toArray→ovrO cs (o0 + i) vs = some cs'→all1 vs = true →
  ∃ W',(storeCells ⟨b,o0,none⟩ vs i).run P W = .ok () W'∧Moves [b] W W'∧W'.heap.size = W.heap.size∧HB W' b cs'.toArray
 | [],cs,cs',i,W,h,ho,h1=>⟨W,by unfold storeCells; rfl,⟨rfl,rfl,rfl,Nat.le_refl _,fun _ _ _=>rfl⟩,rfl,by rw [ovrO_nil ho]; exact h⟩
 | v :: vs,cs,cs',i,W,h,ho,h1=>by
  unfold all1 at h1
  rw [Bool.and_eq_true] at h1
  obtain ⟨o1,o2⟩:=ovrO_cons ho
  have hB:=Bx.of h
  have hc:W.cell? ⟨b,o0 + i,none⟩ = some cs[o0 + i]:=by
   rw [hB.2.1,List.getElem?_toArray,List.getElem?_eq_getElem o1]
  have hs:HB (W.setCell ⟨b,o0 + i,none⟩ v) b (cs.set (o0 + i) v).toArray:=h.set (by simp)
  obtain ⟨W',e,⟨m1,m2,m3,m4,m5⟩,hz,hB'⟩:=run_storeK (P:=P) (o0:=o0) (i:=i + 1) hs o2 h1.2
  have hsz:(W.setCell ⟨b,o0 + i,none⟩ v).heap.size = W.heap.size:=World.size_setCell _ _ _
  refine ⟨W',?_,⟨m1,m2,m3,by rw [hz,hsz]; exact Nat.le_refl _,fun j hj hn=>?_⟩,by rw [hz,hsz],hB'⟩
  ·unfold storeCells
   rw [Addr.add_lit]
   exact (run_bind_ok (run_store1 h1.1 hc (hB.2.2.1 _))).trans e
  ·exact (m5 j (by rw [hsz]; exact hj) hn).trans (Below.heap_setCell W _ _ j fun e=>hn (by rw [show j = b from e]; exact List.mem_singleton.2 rfl))
theorem genA_al {P:Program} (hP:C.P = P) {t:TypeId} {L:List Kn} {i:TypeInfo} {z:Value} (hi:P.info? t = some i) (hz:i.zero = some z) (hT:S.T = kX C.w0.heap.size L)
  (hk:∀ b,b ∉ S.T.bs→K (St.put ⟨S.n,S.E,S.H,kX C.w0.heap.size (.g (cK b z.cells.toList) :: L)⟩ d (.v (.pointer (some ⟨b,0,none⟩))))):genA C (.al t) [] d K S:=by
 refine genA_c (cs:=z.cells.toList) (T:=t) (fun b=>.pointer (some ⟨b,0,none⟩)) hT (fun W=>?_) hk
 subst hP
 show (do pure (Next.value (← Instr.alloc t true (.tuple #[])))).run C.P W = _
 have e:(Instr.alloc t true (.tuple #[])).run C.P W = .ok (.pointer (some ⟨W.heap.size,0,none⟩)) (W.alloc (.cells z.cells t (0,0))):=by
  unfold Instr.alloc
  have h1:(zeroValue t).run C.P W = .ok z W:=by
   unfold zeroValue typeInfo
   simp [go_sem,hi,hz]
  rw [run_bind_ok h1]
  rfl
 rw [run_bind_ok e]
 simp
end Sx
end Go.Proofs.YtncmmbacoknefaaGreat

/- Wk: A symbolic run: rows of the call's own that grow by append. -/
namespace Go.Proofs.YtncmmbacoknefaaGreat
open Go Go.RowKit Sx
set_option linter.unusedVariables false
set_option linter.unusedSimpArgs false
theorem append_own {P:Program} {W:World} (base:Nat) (t ty e:TypeId) (i:TypeInfo) (z:Value) (size bytes:Nat) (ht:P.underlying t = some (.slice e)) (hi:P.info? e = some i) (hz:i.zero = some z)
  (hsize:i.size = size) (hby:i.bytes = bytes) (hzs:z.cells.size = size) (hsz:0 < size) (v:Value) (n:Nat) (xs:List Value) (hown:W.ownsRow base e size v n xs)
  (b m c:Nat) (news:List Value) (hl:news.length = m * size) (hm:0 < m) (hnews:∀ (j:Nat) u,news[j]? = some u→W.cell? ⟨b,j,none⟩ = some u) (h1:∀ u∈news,u.oneCell' = true)
  (h63:n + m≤maxLen) (hbytes:(n + m) * bytes≤140737488355328) (hbase:base≤W.heap.size) :
  ∃ g cap w',(Builtin.append_ #[t,t] ty #[v,.slice (some ⟨b,0,none⟩) m c]).run P W = .ok (.slice (some ⟨g,0,none⟩) (n + m) cap) w'∧w'.ownsRow base e size (.slice (some ⟨g,0,none⟩) (n + m) cap) (n + m) (xs ++ news)∧W.grownBy w' v.ownBlock∧(v.ownBlock = some g∨W.heap.size≤g):=by
 have hadd:∀ (j:Nat) u,news[j]? = some u→W.cell? ((⟨b,0,none⟩:Addr).add j) = some u:=fun j u hj=>by
  have:(⟨b,0,none⟩:Addr).add j = ⟨b,j,none⟩:=by rw [Addr.add_lit,Nat.zero_add]
  rw [this]
  exact hnews j u hj
 obtain ⟨v',w',hr,ho,hg,-⟩:=run_append_own (P:=P) (w:=W) base t ty e i z size bytes ht hi hz hsize hby hzs hsz v n xs hown ⟨b,0,none⟩ m c news hl hadd h1 h63 hbytes hbase
 have key:∃ g cap,v' = .slice (some ⟨g,0,none⟩) (n + m) cap∧(v.ownBlock = some g∨W.heap.size≤g):=by
  subst hsize; subst hby
  rcases hown.2 with ⟨rfl,rfl⟩ | ⟨g,cap,cur,rfl,hbg,hg2,hnc,hcm,hcs,htake⟩
  ·have:=run_append_nil (P:=P) W t ty e i z ht hi hz ⟨b,0,none⟩ m c news hl hadd hm (by simp only [maxLen] at h63; omega) (by rw [Nat.zero_add] at hbytes; omega)
   rw [hr] at this
   cases this
   exact ⟨_,_,by rw [Nat.zero_add],.inr (Nat.le_refl _)⟩
  ·by_cases hroom:n + m≤cap
   ·have hfit:n * i.size + news.length≤cur.size:=by rw [hl,hcs,← Nat.add_mul]; exact Nat.mul_le_mul_right _ hroom
    have:=run_append_room (P:=P) W t ty e i ht hi g n cap cur hg2 ⟨b,0,none⟩ m c news hl hadd h1 hroom hfit
    rw [hr] at this
    cases this
    exact ⟨_,_,rfl,.inl rfl⟩
   ·have holds:∀ j u,xs[j]? = some u→W.cell? ((⟨g,0,none⟩:Addr).add j) = some u:=hown.cells (g:=g) rfl
    have:=run_append_grow (P:=P) W t ty e i z ht hi hz ⟨g,0,none⟩ n cap xs hown.1 holds ⟨b,0,none⟩ m c news hl hadd (by omega) (by simp only [maxLen] at h63; omega) (growslice_fits (by omega) hbytes)
    rw [hr] at this
    cases this
    exact ⟨_,_,rfl,.inr (Nat.le_refl _)⟩
 obtain ⟨g,cap,rfl,hgg⟩:=key
 exact ⟨g,cap,w',hr,ho,hg,hgg⟩
namespace Sx
variable {C:Cx} {S:St} {K:St→Prop} {d:Option Nat}
def wK (e:TypeId) (s:Nat) (v:Value) (n:Nat) (xs:List Value):KnG where
 bs:=v.ownBlock.toList
 ok m W:=W.ownsRow m e s v n xs
 lt:=fun {m W} h b hb=>h.lt b (by simpa using hb)
 keep:=fun {m W W'} h hs hb ho=>by
  refine ⟨h.1,?_⟩
  rcases h.2 with hn | ⟨g,cap,cur,rfl,hbg,hg,hnc,hcm,hcs,htake⟩
  ·exact .inl hn
  ·exact .inr ⟨g,cap,cur,rfl,hbg,(hb g (by simp [Value.ownBlock])).trans hg,hnc,hcm,hcs,htake⟩
theorem genA_grow {P:Program} (hP:C.P = P) {L:List Kn} (L':Nat→Nat→List Kn) {t e:TypeId} {i:TypeInfo} {z:Value} {size bytes:Nat} {v:Value} {n:Nat} {xs:List Value} {b m c:Nat} {news:List Value} {cs:List Bool}
  (ht:P.underlying t = some (.slice e)) (hi:P.info? e = some i) (hz:i.zero = some z) (hsize:i.size = size) (hby:i.bytes = bytes) (hzs:z.cells.size = size) (hsz:0 < size)
  (hT:S.T = kX C.w0.heap.size L) (hv:∀ W,(∀ k∈L,k.ok C.w0.heap.size W)→W.ownsRow C.w0.heap.size e size v n xs) (hmv:∀ g,v.ownBlock = some g→g∈S.T.bs∧g∈C.mv S)
  (hm:.g (cK b news)∈L) (hl:news.length = m * size) (hm0:0 < m) (h1:∀ u∈news,u.oneCell' = true) (h63:n + m≤maxLen) (hbytes:(n + m) * bytes≤140737488355328)
  (hL:∀ g cap,∀ k∈L' g cap,k = .g (wK e size (.slice (some ⟨g,0,none⟩) (n + m) cap) (n + m) (xs ++ news))∨(k∈L∧∀ b∈k.bs,v.ownBlock≠some b))
  (hk:∀ g cap,K (St.put ⟨S.n,S.E,S.H,kX C.w0.heap.size (L' g cap)⟩ d (.v (.slice (some ⟨g,0,none⟩) (n + m) cap)))):genA C (.bi .append [t,t] t cs) [v,.slice (some ⟨b,0,none⟩) m c] d K S:=by
 subst hP
 refine genA_T (ι:=Nat × Nat) (fun x=>.slice (some ⟨x.1,0,none⟩) (n + m) x.2) (fun x=>kX C.w0.heap.size (L' x.1 x.2)) (fun W hW hok hbs=>⟨?_⟩) (fun x=>hk _ _)
 rw [hT] at hok
 have hc:(cK b news).ok C.w0.heap.size W:=hok _ hm
 obtain ⟨g,cap,w',hr,ho,hg,hgg⟩:=append_own (P:=C.P) C.w0.heap.size t t e i z size bytes ht hi hz hsize hby hzs hsz v n xs (hv W hok) b m c news hl hm0 (fun j u hj=>cK_cell hc hj) h1 h63 hbytes hW.size
 have hr':(genRun (.bi .append [t,t] t cs) [v,.slice (some ⟨b,0,none⟩) m c]).run C.P W = .ok (.value (.slice (some ⟨g,0,none⟩) (n + m) cap)) w':=by
  show (do let x ← Builtin.append_ #[t,t] t #[v,.slice (some ⟨b,0,none⟩) m c]; pure (Next.value x)).run C.P W = _
  rw [run_bind_ok hr]; rfl
 rw [hr']
 refine ⟨⟨g,cap⟩,rfl,⟨hg.os,hg.tape,hg.output,hg.size,fun j hj hn=>hg.block j hj fun e=>hn (hmv j e.symm).2⟩,?_,kX_stab C _,?_⟩
 ·intro k hk
  rcases hL g cap k hk with rfl | ⟨hk,hb⟩
  ·exact ho
  ·exact (hok k hk).keep hg.size (fun b hbb=>hg.block b ((hok k hk).lt b hbb).2 fun e=>hb b hbb e.symm) fun b hbn hbl=>hg.block b hbl fun e=>by have:=(hbs b (hmv b e.symm).1).1; omega
 ·intro x hx
  obtain ⟨k,hk,hx⟩:=kX_bs.1 hx
  rcases hL g cap k hk with rfl | ⟨hk,hb⟩
  ·have hxg:x = g:=by
    have:x∈[g]:=hx
    simpa using this
   subst hxg
   refine ⟨hgg.elim (fun e=>.inl (hmv x e).1) .inr,?_⟩
   exact (ho.lt x rfl).2
  ·exact ⟨.inl (by rw [hT]; exact kX_bs.2 ⟨k,hk,hx⟩),Nat.lt_of_lt_of_le ((hok k hk).lt x hx).2 hg.size⟩
end Sx
end Go.Proofs.YtncmmbacoknefaaGreat

/- Ro: A symbolic run: calls that leave rows of the call's own. -/
namespace Go.Proofs.YtncmmbacoknefaaGreat
open Go Go.RowKit Sx
set_option linter.unusedVariables false
set_option linter.unusedSimpArgs false
namespace Sx
variable {C:Cx} {S:St} {K:St→Prop} {d:Option Nat}
theorem asks_row {f:FuncId} {l:List Value} {L:List Kn} {e:TypeId} {s:Nat} {ι:Type} (P:ι→Prop) (n:ι→Nat) (xs:ι→List Value) (ret:ι→Value→Value) (gs:List Nat) (L2:List Kn)
  (he:∀ (l:Array Value) W,(callFunc f l).run C.P W = .ok (.enter f l) W) (hT:S.T = kX C.w0.heap.size L) (hgs:∀ g∈gs,g∈C.mv S) (hgo:∀ W,(∀ k∈L,k.ok C.w0.heap.size W)→∀ g∈gs,C.w0.heap.size≤g)
  (h:∀ W,Below C.w0.heap.size C.w0 W→(∀ k∈L,k.ok C.w0.heap.size W)→Calls C.P f l.toArray W fun e' w'=>∃ i v,P i∧e' = .returned (ret i v)∧w'.ownsRow W.heap.size e s v (n i) (xs i)∧Moves gs W w'∧∀ k∈L2,(k∈L∧∀ b∈k.bs,b ∉ gs)∨(k.ok C.w0.heap.size w'∧∀ b∈k.bs,b∈S.T.bs))
  (hk:∀ i a cap,P i→n i≤cap→cap≤maxLen→(0 < n i→∃ g,a = some ⟨g,0,none⟩)→(∀ b∈(Value.slice a (n i) cap).ownBlock.toList,b ∉ S.T.bs) →
   K (St.put ⟨S.n,S.E,S.H,kX C.w0.heap.size (.g (wK e s (.slice a (n i) cap) (n i) (xs i)) :: L2)⟩ d (.v (ret i (.slice a (n i) cap))))):asks C f l d K S:=by
 refine asks_kn (ι:={x:ι × (Option Addr × Nat) // P x.1∧n x.1≤x.2.2∧x.2.2≤maxLen∧(0 < n x.1→∃ g,x.2.1 = some ⟨g,0,none⟩)∧∀ b∈(Value.slice x.2.1 (n x.1) x.2.2).ownBlock.toList,b ∉ S.T.bs}) (L:=L) (gs:=gs) (fun x=>ret x.1.1 (.slice x.1.2.1 (n x.1.1) x.1.2.2)) (fun x=>.g (wK e s (.slice x.1.2.1 (n x.1.1) x.1.2.2) (n x.1.1) (xs x.1.1)) :: L2) he hT hgs hgo (fun W hW hok=>?_) (fun x=>hk _ _ _ x.2.1 x.2.2.1 x.2.2.2.1 x.2.2.2.2.1 x.2.2.2.2.2)
 refine (h W hW hok).mono fun e' w' ⟨i,v,hP,he',ho,hm,hL2⟩=>?_
 obtain ⟨a,cap,rfl,h1,h2,h3,h4⟩:∃ a cap,v = .slice a (n i) cap∧n i≤cap∧cap≤maxLen∧(0 < n i→∃ g,a = some ⟨g,0,none⟩)∧∀ b∈v.ownBlock.toList,W.heap.size≤b:=by
  rcases ho.2 with ⟨rfl,h0⟩ | ⟨g,cap,cur,rfl,hbg,hg,hnc,hcm,-⟩
  ·exact ⟨none,0,by rw [h0],by omega,Nat.zero_le _,fun h=>by omega,fun b hb=>by simp [Value.ownBlock] at hb⟩
  ·exact ⟨_,cap,rfl,hnc,hcm,fun _=>⟨g,rfl⟩,fun b hb=>by simp [Value.ownBlock] at hb; omega⟩
 refine ⟨⟨(i,a,cap),hP,h1,h2,h3,fun b hb hT2=>?_⟩,he',hm,fun k hk=>?_⟩
 ·rw [hT] at hT2
  obtain ⟨k,hk,hbk⟩:=kX_bs.1 hT2
  have:=((hok k hk).lt b hbk).2
  have:=h4 b hb
  omega
 ·rcases List.mem_cons.1 hk with rfl | hk
  ·exact .inr ⟨ho.mono hW.size,fun b hb=>.inr (h4 b hb)⟩
  ·rcases hL2 k hk with h | ⟨h,hb⟩
   ·exact .inl h
   ·exact .inr ⟨h,fun b hbb=>.inl (hb b hbb)⟩
theorem asks_rowB {f:FuncId} {l:List Value} {L:List Kn} {e:TypeId} {s:Nat} {ι:Type} (P:ι→Prop) (n:ι→Nat) (xs:ι→List Value) (ret:ι→Value→Value)
  (he:∀ (l:Array Value) W,(callFunc f l).run C.P W = .ok (.enter f l) W) (hT:S.T = kX C.w0.heap.size L)
  (h:∀ W,Below C.w0.heap.size C.w0 W→(∀ k∈L,k.ok C.w0.heap.size W)→Calls C.P f l.toArray W fun e' w'=>∃ i v,P i∧e' = .returned (ret i v)∧w'.ownsRow W.heap.size e s v (n i) (xs i)∧Below W.heap.size W w')
  (hk:∀ i a cap,P i→n i≤cap→cap≤maxLen→(0 < n i→∃ g,a = some ⟨g,0,none⟩)→(∀ b∈(Value.slice a (n i) cap).ownBlock.toList,b ∉ S.T.bs) →
   K (St.put ⟨S.n,S.E,S.H,kX C.w0.heap.size (.g (wK e s (.slice a (n i) cap) (n i) (xs i)) :: L)⟩ d (.v (ret i (.slice a (n i) cap))))):asks C f l d K S :=
 asks_row P n xs ret [] L he hT (fun g hg=>by cases hg) (fun W hok g hg=>by cases hg) (fun W hW hok=>(h W hW hok).mono fun e' w' ⟨i,v,h1,h2,h3,h4⟩=>⟨i,v,h1,h2,h3,⟨h4.os,h4.tape,h4.output,h4.size,fun j hj _=>h4.block j hj⟩,fun k hk=>.inl ⟨hk,fun b hb hg=>by cases hg⟩⟩) hk
theorem asks_rowT {f:FuncId} {l:List Value} {L:List Kn} {e:TypeId} {s:Nat} {ι:Type} {k:KnG} {tb B Bm:Nat} (P:ι→Prop) (n:ι→Nat) (xs:ι→List Value) (ret:ι→Value→Value)
  (hkn:TpK k C.w0.heap.size tb B Bm) (he:∀ (l:Array Value) W,(callFunc f l).run C.P W = .ok (.enter f l) W) (hT:S.T = kX C.w0.heap.size L) (hm:.g k∈L) (hin:tb∈k.bs) (hmv:C.mv S = S.T.bs) (hL:∀ j∈L,j = .g k∨tb ∉ j.bs)
  (h:∀ W,TapeOk B Bm W tb→Calls C.P f l.toArray W fun e' w'=>∃ i v,P i∧e' = .returned (ret i v)∧w'.ownsRow W.heap.size e s v (n i) (xs i)∧TapeOk B Bm w' tb∧W.grownBy w' (some tb))
  (hk:∀ i a cap,P i→n i≤cap→cap≤maxLen→(0 < n i→∃ g,a = some ⟨g,0,none⟩)→(∀ b∈(Value.slice a (n i) cap).ownBlock.toList,b ∉ S.T.bs) →
   K (St.put ⟨S.n,S.E,S.H,kX C.w0.heap.size (.g (wK e s (.slice a (n i) cap) (n i) (xs i)) :: L)⟩ d (.v (ret i (.slice a (n i) cap))))):asks C f l d K S:=by
 refine asks_row P n xs ret [tb] L he hT (fun g hg=>?_) (fun W hok g hg=>?_) (fun W hW hok=>(h W (hkn.tape (hok _ hm))).mono fun e' w' ⟨i,v,h1,h2,h3,h4,h5⟩=>⟨i,v,h1,h2,h3,⟨h5.os,h5.tape,h5.output,h5.size,fun j hj hn=>h5.block j hj fun e=>hn (by cases e; exact List.mem_singleton.2 rfl)⟩,fun j hj=>?_⟩) hk
 ·rw [List.mem_singleton.1 hg,hmv,hT]
  exact kX_bs.2 ⟨_,hm,hin⟩
 ·rw [List.mem_singleton.1 hg]
  exact hkn.ge (hok _ hm)
 ·rcases hL j hj with rfl | hne
  ·exact .inr ⟨hkn.go (hok _ hm) h4 h5,fun b hb=>by rw [hT]; exact kX_bs.2 ⟨_,hm,hb⟩⟩
  ·exact .inl ⟨hj,fun b hb hg=>hne (by rw [← List.mem_singleton.1 hg]; exact hb)⟩
theorem ldP_old {g o:Nat} {m:Nat} {b:Bool} {l:List Value} (hl:l.length = m) (hlt:g < C.w0.heap.size) (hs:∀ j v,l[j]? = some v→C.w0.cell? ⟨g,o + j,none⟩ = some v) (hk:K (S.put d (.v (mk b l)))):ldP C b m ⟨g,o,none⟩ d K S :=
 ldP_ext l hl (fun W hW hok j v hj=>by
  rw [Addr.add_lit]
  exact (hW.cell (p:=⟨g,o + j,none⟩) hlt).trans (hs j v hj)) hk
end Sx
end Go.Proofs.YtncmmbacoknefaaGreat

/- Rg: A symbolic run: rows of the call's own that grow, of whatever source; what is left of what is known. -/
namespace Go.Proofs.YtncmmbacoknefaaGreat
open Go Go.RowKit Sx
set_option linter.unusedVariables false
set_option linter.unusedSimpArgs false
structure ElT (P:Program) (t e:TypeId) (size bytes:Nat):Prop where
 sl:P.underlying t = some (.slice e)
 el:∃ i z,P.info? e = some i∧i.zero = some z∧i.size = size∧i.bytes = bytes∧z.cells.size = size
 pos:0 < size
theorem elT {P:Program} {t e:TypeId} {z:Value} {size bytes:Nat} (h:P.underlying t = some (.slice e)) (h2:(P.info? e).map (fun i=>(i.zero,i.size,i.bytes)) = some (some z,size,bytes)) (h3:z.cells.size = size) (h4:0 < size):ElT P t e size bytes:=by
 refine ⟨h,?_,h4⟩
 cases hi:P.info? e with
 | none=>rw [hi] at h2; cases h2
 | some i =>
  rw [hi] at h2
  have h2:=Option.some.inj h2
  exact ⟨i,z,rfl,congrArg (fun x=>x.1) h2,congrArg (fun x=>x.2.1) h2,congrArg (fun x=>x.2.2) h2,h3⟩
theorem cell1_of_one {v:Value} (h:one v = true):v.oneCell' = true:=by
 cases v <;> first | rfl | cases h
theorem cells1_of_all {l:List Value} (h:all1 l = true):∀ u∈l,u.oneCell' = true:=by
 induction l with
 | nil=>intro u hu; cases hu
 | cons v l ih =>
  unfold all1 at h
  rw [Bool.and_eq_true] at h
  intro u hu
  rcases List.mem_cons.1 hu with rfl | hu
  ·exact cell1_of_one h.1
  ·exact ih h.2 u hu
theorem append_any {P:Program} {W:World} (base:Nat) {t ty e:TypeId} {size bytes:Nat} (hE:ElT P t e size bytes) (v:Value) (n:Nat) (xs:List Value) (hown:W.ownsRow base e size v n xs)
  (b so m c:Nat) (news:List Value) (hl:news.length = m * size) (hm:0 < m) (hnews:∀ (j:Nat) u,news[j]? = some u→W.cell? ⟨b,so + j,none⟩ = some u) (h1:∀ u∈news,u.oneCell' = true)
  (h63:n + m≤maxLen) (hbytes:(n + m) * bytes≤140737488355328) (hbase:base≤W.heap.size) :
  ∃ g cap w',(Builtin.append_ #[t,t] ty #[v,.slice (some ⟨b,so,none⟩) m c]).run P W = .ok (.slice (some ⟨g,0,none⟩) (n + m) cap) w'∧w'.ownsRow base e size (.slice (some ⟨g,0,none⟩) (n + m) cap) (n + m) (xs ++ news)∧W.grownBy w' v.ownBlock∧(v.ownBlock = some g∨W.heap.size≤g):=by
 obtain ⟨ht,⟨i,z,hi,hz,hsize,hby,hzs⟩,hsz⟩:=hE
 have hadd:∀ (j:Nat) u,news[j]? = some u→W.cell? ((⟨b,so,none⟩:Addr).add j) = some u:=fun j u hj=>by
  rw [Addr.add_lit]
  exact hnews j u hj
 obtain ⟨v',w',hr,ho,hg,-⟩:=run_append_own (P:=P) (w:=W) base t ty e i z size bytes ht hi hz hsize hby hzs hsz v n xs hown ⟨b,so,none⟩ m c news hl hadd h1 h63 hbytes hbase
 have key:∃ g cap,v' = .slice (some ⟨g,0,none⟩) (n + m) cap∧(v.ownBlock = some g∨W.heap.size≤g):=by
  subst hsize; subst hby
  rcases hown.2 with ⟨rfl,rfl⟩ | ⟨g,cap,cur,rfl,hbg,hg2,hnc,hcm,hcs,htake⟩
  ·have:=run_append_nil (P:=P) W t ty e i z ht hi hz ⟨b,so,none⟩ m c news hl hadd hm (by simp only [maxLen] at h63; omega) (by rw [Nat.zero_add] at hbytes; omega)
   rw [hr] at this
   cases this
   exact ⟨_,_,by rw [Nat.zero_add],.inr (Nat.le_refl _)⟩
  ·by_cases hroom:n + m≤cap
   ·have hfit:n * i.size + news.length≤cur.size:=by rw [hl,hcs,← Nat.add_mul]; exact Nat.mul_le_mul_right _ hroom
    have:=run_append_room (P:=P) W t ty e i ht hi g n cap cur hg2 ⟨b,so,none⟩ m c news hl hadd h1 hroom hfit
    rw [hr] at this
    cases this
    exact ⟨_,_,rfl,.inl rfl⟩
   ·have holds:∀ j u,xs[j]? = some u→W.cell? ((⟨g,0,none⟩:Addr).add j) = some u:=hown.cells (g:=g) rfl
    have:=run_append_grow (P:=P) W t ty e i z ht hi hz ⟨g,0,none⟩ n cap xs hown.1 holds ⟨b,so,none⟩ m c news hl hadd (by omega) (by simp only [maxLen] at h63; omega) (growslice_fits (by omega) hbytes)
    rw [hr] at this
    cases this
    exact ⟨_,_,rfl,.inr (Nat.le_refl _)⟩
 obtain ⟨g,cap,rfl,hgg⟩:=key
 exact ⟨g,cap,w',hr,ho,hg,hgg⟩
theorem row_caps {W:World} {base n g cap size:Nat} {e:TypeId} {xs:List Value} (h:W.ownsRow base e size (.slice (some ⟨g,0,none⟩) n cap) n xs):n≤cap∧cap≤maxLen:=by
 rcases h.2 with ⟨h,_⟩ | ⟨g',cap',cur,h,_,_,hnc,hcm,_⟩
 ·cases h
 ·cases h
  exact ⟨hnc,hcm⟩
theorem row_form {W:World} {base size n:Nat} {e:TypeId} {v:Value} {xs:List Value} (h:W.ownsRow base e size v n xs):∃ a cap,v = .slice a n cap∧n≤cap∧cap≤maxLen∧(0 < n→∃ g,a = some ⟨g,0,none⟩):=by
 rcases h.2 with ⟨rfl,h0⟩ | ⟨g,cap,cur,rfl,hbg,hg,hnc,hcm,-⟩
 ·exact ⟨none,0,by rw [h0],by omega,Nat.zero_le _,fun h=>by omega⟩
 ·exact ⟨_,cap,rfl,hnc,hcm,fun _=>⟨g,rfl⟩⟩
theorem append_row {P:Program} {W:World} (base:Nat) {t e:TypeId} {size bytes:Nat} (hE:ElT P t e size bytes) {v:Value} {n:Nat} {xs:List Value} (hown:W.ownsRow base e size v n xs)
  {v2:Value} {m:Nat} {ys:List Value} (h2:W.ownsRow base e size v2 m ys) (h1:all1 ys = true) (h63:n + m≤maxLen) (hbytes:(n + m) * bytes≤140737488355328) (hbase:base≤W.heap.size) :
  ∃ a cap w',(Builtin.append_ #[t,t] t #[v,v2]).run P W = .ok (.slice a (n + m) cap) w'∧w'.ownsRow base e size (.slice a (n + m) cap) (n + m) (xs ++ ys)∧W.grownBy w' v.ownBlock∧∀ g,(Value.slice a (n + m) cap).ownBlock = some g→v.ownBlock = some g∨W.heap.size≤g:=by
 obtain ⟨a2,c2,e2,-,-,hp2⟩:=row_form h2
 rcases Nat.eq_zero_or_pos m with h0 | hpos
 ·obtain ⟨a,cap,e1,hc,-,-⟩:=row_form hown
  have hys:ys = []:=List.eq_nil_of_length_eq_zero (by rw [h2.1,h0,Nat.zero_mul])
  obtain ⟨ht,⟨i,z,hi,hz,hsize,hby,hzs⟩,hsz⟩:=hE
  have hsrc:Src P i.size t v2 0 [] W:=by
   rw [e2,h0]
   cases a2 with
   | none =>
    refine ⟨.inl ⟨e,ht⟩,fun _=>?_,rfl,rfl,by simp,by simp⟩
    rfl
   | some a2=>exact Src.ofSlice W ht a2 0 c2 [] (by simp) (fun j u hj=>by simp at hj) (fun u hu=>by cases hu)
  refine ⟨a,cap,W,?_,?_,gt_refl _ _,fun g hg=>.inl ?_⟩
  ·rw [e1,h0]
   exact run_append_nothing W t t t e i ht hi a n cap hc _ hsrc
  ·rw [hys,List.append_nil,h0,Nat.add_zero,← e1]
   exact hown
  ·rw [h0,Nat.add_zero] at hg
   rw [e1]; exact hg
 ·obtain ⟨g2,rfl⟩:=hp2 hpos
  subst e2
  obtain ⟨g,cap,w',hr,ho,hg,hgg⟩:=append_any (ty:=t) base hE v n xs hown g2 0 m c2 ys h2.1 hpos (fun j u hj=>by
   have:=h2.cells (g:=g2) rfl j u hj
   rwa [Addr.add_lit] at this) (cells1_of_all h1) h63 hbytes hbase
  exact ⟨_,cap,w',hr,ho,hg,fun g' hg'=>by cases hg'; exact hgg⟩
namespace Sx
variable {C:Cx} {S:St} {K:St→Prop} {d:Option Nat}
def rowOf (L:List Kn) (e:TypeId) (size:Nat) (v:Value) (n:Nat) (xs:List Value):Prop:=(v = .slice none 0 0∧n = 0∧xs = [])∨.g (wK e size v n xs)∈L
theorem rowOf.own {L:List Kn} {e:TypeId} {size n base:Nat} {v:Value} {xs:List Value} {W:World} (h:rowOf L e size v n xs) (hok:∀ k∈L,k.ok base W):W.ownsRow base e size v n xs:=by
 rcases h with ⟨rfl,rfl,rfl⟩ | h
 ·exact World.ownsRow_nil _ _ _ _
 ·exact hok _ h
theorem rowOf.blk {L:List Kn} {e:TypeId} {size n g:Nat} {v:Value} {xs:List Value} (h:rowOf L e size v n xs) (hg:v.ownBlock = some g):∃ k∈L,g∈k.bs:=by
 rcases h with ⟨rfl,rfl,rfl⟩ | h
 ·cases hg
 ·exact ⟨_,h,by show g∈v.ownBlock.toList; rw [hg]; exact List.mem_singleton.2 rfl⟩
theorem genA_app {P:Program} (hP:C.P = P) {L:List Kn} (R:List Kn) {t e:TypeId} {size bytes:Nat} (hE:ElT P t e size bytes) {v:Value} {n:Nat} {xs:List Value} {sb so m c:Nat} {news:List Value} {cs:List Bool}
  (hT:S.T = kX C.w0.heap.size L) (hv:rowOf L e size v n xs) (hmv:(∀ x∈S.T.bs,x∈C.mv S)∨∀ g,v.ownBlock = some g→g∈C.mv S)
  (hsrc:∀ W,Below C.w0.heap.size C.w0 W→(∀ k∈L,k.ok C.w0.heap.size W)→∀ (j:Nat) u,news[j]? = some u→W.cell? ⟨sb,so + j,none⟩ = some u) (hl:news.length = m * size) (hm0:0 < m) (h1:all1 news = true) (h63:n + m≤maxLen) (hbytes:(n + m) * bytes≤140737488355328)
  (hR:∀ k∈R,k∈L∧∀ x∈k.bs,v.ownBlock≠some x)
  (hk:∀ g cap,n + m≤cap→cap≤maxLen→C.w0.heap.size≤g→(∀ k∈R,g ∉ k.bs)→K (St.put ⟨S.n,S.E,S.H,kX C.w0.heap.size (.g (wK e size (.slice (some ⟨g,0,none⟩) (n + m) cap) (n + m) (xs ++ news)) :: R)⟩ d (.v (.slice (some ⟨g,0,none⟩) (n + m) cap)))):genA C (.bi .append [t,t] t cs) [v,.slice (some ⟨sb,so,none⟩) m c] d K S:=by
 subst hP
 refine genA_T (ι:={x:Nat × Nat // n + m≤x.2∧x.2≤maxLen∧C.w0.heap.size≤x.1∧∀ k∈R,x.1 ∉ k.bs}) (fun x=>.slice (some ⟨x.1.1,0,none⟩) (n + m) x.1.2) (fun x=>kX C.w0.heap.size (.g (wK e size (.slice (some ⟨x.1.1,0,none⟩) (n + m) x.1.2) (n + m) (xs ++ news)) :: R)) (fun W hW hok hbs=>⟨?_⟩) (fun x=>hk _ _ x.2.1 x.2.2.1 x.2.2.2.1 x.2.2.2.2)
 rw [hT] at hok
 obtain ⟨g,cap,w',hr,ho,hg,hgg⟩:=append_any (P:=C.P) (ty:=t) C.w0.heap.size hE v n xs (hv.own hok) sb so m c news hl hm0 (hsrc W hW hok) (cells1_of_all h1) h63 hbytes hW.size
 have hr':(genRun (.bi .append [t,t] t cs) [v,.slice (some ⟨sb,so,none⟩) m c]).run C.P W = .ok (.value (.slice (some ⟨g,0,none⟩) (n + m) cap)) w':=by
  show (do let x ← Builtin.append_ #[t,t] t #[v,.slice (some ⟨sb,so,none⟩) m c]; pure (Next.value x)).run C.P W = _
  rw [run_bind_ok hr]; rfl
 rw [hr']
 have hmem:∀ g,v.ownBlock = some g→g∈S.T.bs:=fun g hg=>by
  obtain ⟨k,hk,hx⟩:=hv.blk hg
  rw [hT]
  exact kX_bs.2 ⟨k,hk,hx⟩
 refine ⟨⟨(g,cap),(row_caps ho).1,(row_caps ho).2,(ho.lt g rfl).1,fun k hk hgk=>?_⟩,rfl,⟨hg.os,hg.tape,hg.output,hg.size,fun j hj hn=>hg.block j hj fun e=>hn (hmv.elim (fun h=>h _ (hmem j e.symm)) fun h=>h _ e.symm)⟩,?_,kX_stab C _,?_⟩
 ·obtain ⟨hkL,hkb⟩:=hR k hk
  rcases hgg with h | h
  ·exact hkb g hgk h
  ·have:=((hok k hkL).lt g hgk).2
   omega
 ·intro k hk
  rcases List.mem_cons.1 hk with rfl | hk
  ·exact ho
  ·obtain ⟨hkL,hb⟩:=hR k hk
   exact (hok k hkL).keep hg.size (fun b hbb=>hg.block b ((hok k hkL).lt b hbb).2 fun e=>hb b hbb e.symm) fun b hbn hbl=>hg.block b hbl fun e=>by have:=(hbs b (hmem b e.symm)).1; omega
 ·intro x hx
  obtain ⟨k,hk,hx⟩:=kX_bs.1 hx
  rcases List.mem_cons.1 hk with rfl | hk
  ·have hxg:x = g:=by
    have:x∈[g]:=hx
    simpa using this
   subst hxg
   refine ⟨hgg.elim (fun e=>.inl (hmem x e)) .inr,?_⟩
   exact (ho.lt x rfl).2
  ·obtain ⟨hkL,hb⟩:=hR k hk
   exact ⟨.inl (by rw [hT]; exact kX_bs.2 ⟨k,hkL,hx⟩),Nat.lt_of_lt_of_le ((hok k hkL).lt x hx).2 hg.size⟩
theorem genA_lit {P:Program} (hP:C.P = P) {L:List Kn} (R:List Kn) {t e:TypeId} {size bytes:Nat} (hE:ElT P t e size bytes) {v:Value} {n:Nat} {xs:List Value} {b m c:Nat} {news:List Value} {cs:List Bool}
  (hT:S.T = kX C.w0.heap.size L) (hv:rowOf L e size v n xs) (hmv:(∀ x∈S.T.bs,x∈C.mv S)∨∀ g,v.ownBlock = some g→g∈C.mv S)
  (hm:.g (cK b news)∈L) (hl:news.length = m * size) (hm0:0 < m) (h1:all1 news = true) (h63:n + m≤maxLen) (hbytes:(n + m) * bytes≤140737488355328)
  (hR:∀ k∈R,k∈L∧∀ x∈k.bs,v.ownBlock≠some x)
  (hk:∀ g cap,n + m≤cap→cap≤maxLen→C.w0.heap.size≤g→(∀ k∈R,g ∉ k.bs)→K (St.put ⟨S.n,S.E,S.H,kX C.w0.heap.size (.g (wK e size (.slice (some ⟨g,0,none⟩) (n + m) cap) (n + m) (xs ++ news)) :: R)⟩ d (.v (.slice (some ⟨g,0,none⟩) (n + m) cap)))):genA C (.bi .append [t,t] t cs) [v,.slice (some ⟨b,0,none⟩) m c] d K S :=
 genA_app hP R hE hT hv hmv (fun W hW hok j u hj=>by
  have hc:(cK b news).ok C.w0.heap.size W:=hok _ hm
  have:=cK_cell hc hj
  rwa [Nat.zero_add]) hl hm0 h1 h63 hbytes hR hk
theorem genA_appR {P:Program} (hP:C.P = P) {L:List Kn} (R:List Kn) {t e:TypeId} {size bytes:Nat} (hE:ElT P t e size bytes) {v v2:Value} {n m:Nat} {xs ys:List Value} {cs:List Bool}
  (hT:S.T = kX C.w0.heap.size L) (hv:rowOf L e size v n xs) (h2:rowOf L e size v2 m ys) (hmv:(∀ x∈S.T.bs,x∈C.mv S)∨∀ g,v.ownBlock = some g→g∈C.mv S) (h1:all1 ys = true) (h63:n + m≤maxLen) (hbytes:(n + m) * bytes≤140737488355328)
  (hR:∀ k∈R,k∈L∧∀ x∈k.bs,v.ownBlock≠some x)
  (hk:∀ a cap,n + m≤cap→cap≤maxLen→(0 < n + m→∃ g,a = some ⟨g,0,none⟩)→(∀ g,(Value.slice a (n + m) cap).ownBlock = some g→C.w0.heap.size≤g∧∀ k∈R,g ∉ k.bs) →
   K (St.put ⟨S.n,S.E,S.H,kX C.w0.heap.size (.g (wK e size (.slice a (n + m) cap) (n + m) (xs ++ ys)) :: R)⟩ d (.v (.slice a (n + m) cap)))):genA C (.bi .append [t,t] t cs) [v,v2] d K S:=by
 subst hP
 refine genA_T (ι:={x:Option Addr × Nat // n + m≤x.2∧x.2≤maxLen∧(0 < n + m→∃ g,x.1 = some ⟨g,0,none⟩)∧∀ g,(Value.slice x.1 (n + m) x.2).ownBlock = some g→C.w0.heap.size≤g∧∀ k∈R,g ∉ k.bs}) (fun x=>.slice x.1.1 (n + m) x.1.2) (fun x=>kX C.w0.heap.size (.g (wK e size (.slice x.1.1 (n + m) x.1.2) (n + m) (xs ++ ys)) :: R)) (fun W hW hok hbs=>⟨?_⟩) (fun x=>hk _ _ x.2.1 x.2.2.1 x.2.2.2.1 x.2.2.2.2)
 rw [hT] at hok
 obtain ⟨a,cap,w',hr,ho,hg,hgg⟩:=append_row (P:=C.P) C.w0.heap.size hE (hv.own hok) (h2.own hok) h1 h63 hbytes hW.size
 have hr':(genRun (.bi .append [t,t] t cs) [v,v2]).run C.P W = .ok (.value (.slice a (n + m) cap)) w':=by
  show (do let x ← Builtin.append_ #[t,t] t #[v,v2]; pure (Next.value x)).run C.P W = _
  rw [run_bind_ok hr]; rfl
 rw [hr']
 obtain ⟨a',cap',e',q1,q2,q3⟩:=row_form ho
 cases e'
 have hmem:∀ g,v.ownBlock = some g→g∈S.T.bs:=fun g hg=>by
  obtain ⟨k,hk,hx⟩:=hv.blk hg
  rw [hT]
  exact kX_bs.2 ⟨k,hk,hx⟩
 refine ⟨⟨(a,cap),q1,q2,q3,fun g hgo=>⟨(ho.lt g hgo).1,fun k hk hgk=>?_⟩⟩,rfl,⟨hg.os,hg.tape,hg.output,hg.size,fun j hj hn=>hg.block j hj fun e=>hn (hmv.elim (fun h=>h _ (hmem j e.symm)) fun h=>h _ e.symm)⟩,?_,kX_stab C _,?_⟩
 ·obtain ⟨hkL,hkb⟩:=hR k hk
  rcases hgg g hgo with h | h
  ·exact hkb g hgk h
  ·have:=((hok k hkL).lt g hgk).2
   omega
 ·intro k hk
  rcases List.mem_cons.1 hk with rfl | hk
  ·exact ho
  ·obtain ⟨hkL,hb⟩:=hR k hk
   exact (hok k hkL).keep hg.size (fun b hbb=>hg.block b ((hok k hkL).lt b hbb).2 fun e=>hb b hbb e.symm) fun b hbn hbl=>hg.block b hbl fun e=>by have:=(hbs b (hmem b e.symm)).1; omega
 ·intro x hx
  obtain ⟨k,hk,hx⟩:=kX_bs.1 hx
  rcases List.mem_cons.1 hk with rfl | hk
  ·have hxg:(Value.slice a (n + m) cap).ownBlock = some x:=by
    have:x∈(Value.slice a (n + m) cap).ownBlock.toList:=hx
    simpa using this
   exact ⟨(hgg x hxg).elim (fun e=>.inl (hmem x e)) .inr,(ho.lt x hxg).2⟩
  ·obtain ⟨hkL,hb⟩:=hR k hk
   exact ⟨.inl (by rw [hT]; exact kX_bs.2 ⟨k,hkL,hx⟩),Nat.lt_of_lt_of_le ((hok k hkL).lt x hx).2 hg.size⟩
theorem genA_w {q:GK} {l:List Value} {L:List Kn} {cs:List Value} {e:TypeId} {s n:Nat} (hT:S.T = kX C.w0.heap.size L) (hn:n≤maxLen) (hs:cs.length = n * s)
  (h:∀ W,(genRun q l).run C.P W = .ok (.value (.slice (some ⟨W.heap.size,0,none⟩) n n)) (W.alloc (.cells cs.toArray e (0,0))))
  (hk:∀ b,b ∉ S.T.bs→K (St.put ⟨S.n,S.E,S.H,kX C.w0.heap.size (.g (wK e s (.slice (some ⟨b,0,none⟩) n n) n cs) :: L)⟩ d (.v (.slice (some ⟨b,0,none⟩) n n)))):genA C q l d K S:=by
 refine genA_T (ι:={x:Nat // x ∉ S.T.bs}) (fun x=>.slice (some ⟨x.1,0,none⟩) n n) (fun x=>kX C.w0.heap.size (.g (wK e s (.slice (some ⟨x.1,0,none⟩) n n) n cs) :: L)) (fun W hW hok hbs=>⟨?_⟩) (fun x=>hk _ x.2)
 rw [hT] at hok
 rw [h W]
 have hb:Below W.heap.size W (W.alloc (.cells cs.toArray e (0,0))):=(Below.refl _ _).alloc (Nat.le_refl _) _
 have hc:(W.alloc (.cells cs.toArray e (0,0))).ownsRow C.w0.heap.size e s (.slice (some ⟨W.heap.size,0,none⟩) n n) n cs:=by
  have:=World.ownsRow_lit (base:=C.w0.heap.size) (e:=e) (size:=s) W cs.toArray n hW.size hn (by simpa using hs)
  simpa using this
 refine ⟨⟨W.heap.size,fun hT2=>by have:=(hbs _ hT2).2; omega⟩,rfl,⟨hb.os,hb.tape,hb.output,hb.size,fun i hi _=>hb.block i hi⟩,?_,kX_stab C _,?_⟩
 ·intro k hk
  rcases List.mem_cons.1 hk with rfl | hk
  ·exact hc
  ·exact (hok k hk).below hb
 ·intro b hbb
  obtain ⟨k,hk,hbb⟩:=kX_bs.1 hbb
  rcases List.mem_cons.1 hk with rfl | hk
  ·have hx:(Value.slice (some ⟨W.heap.size,0,none⟩) n n).ownBlock = some b:=by
    have:b∈(Value.slice (some ⟨W.heap.size,0,none⟩) n n).ownBlock.toList:=hbb
    simpa using this
   have e:W.heap.size = b:=by cases hx; rfl
   exact ⟨.inr (by omega),(hc.lt b hx).2⟩
  ·exact ⟨.inl (by rw [hT]; exact kX_bs.2 ⟨k,hk,hbb⟩),Nat.lt_of_lt_of_le ((hok k hk).lt b hbb).2 hb.size⟩
theorem ldP_own {e:TypeId} {s n base cap g o m:Nat} {b:Bool} {xs l:List Value} (h:C.w0.ownsRow base e s (.slice (some ⟨g,0,none⟩) n cap) n xs) (hl:l.length = m) (hs:∀ j v,l[j]? = some v→xs[o + j]? = some v) (hk:K (S.put d (.v (mk b l)))):ldP C b m ⟨g,o,none⟩ d K S :=
 ldP_old hl (h.lt g rfl).2 (fun j v hj=>by
  have:=h.cells (g:=g) rfl (o + j) v (hs j v hj)
  rwa [Addr.add_lit,Nat.zero_add] at this) hk
theorem extS_of {C:Cx} {L L':List Kn} (h:∀ k∈L',k∈L∨(k.bs = []∧∀ W,k.ok C.w0.heap.size W)):extS C (kX C.w0.heap.size L) (kX C.w0.heap.size L'):=by
 refine .inr ⟨kX_stab C L',fun W hW k hk=>?_,fun b hb=>?_⟩
 ·rcases h k hk with h | ⟨-,h⟩
  ·exact hW k h
  ·exact h W
 ·obtain ⟨k,hk,hb⟩:=kX_bs.1 hb
  rcases h k hk with h | ⟨h,-⟩
  ·exact kX_bs.2 ⟨k,h,hb⟩
  ·rw [h] at hb; cases hb
theorem wK_nil (e:TypeId) (s n:Nat) (W:World):(Kn.g (wK e s (.slice none 0 0) 0 [])).ok n W:=World.ownsRow_nil _ _ _ _
end Sx
end Go.Proofs.YtncmmbacoknefaaGreat

/- Eb: A symbolic run: functions that are given blocks of the caller's and change them. -/
namespace Go.Proofs.YtncmmbacoknefaaGreat
open Go Go.RowKit Sx
set_option linter.unusedVariables false
set_option linter.unusedSimpArgs false
namespace Sx
theorem wK_bs {e:TypeId} {s n g:Nat} {v:Value} {xs:List Value}:g∈(Kn.g (wK e s v n xs)).bs↔v.ownBlock = some g:=by
 show g∈v.ownBlock.toList↔_
 simp
theorem cK_bs {b g:Nat} {cs:List Value}:g∈(Kn.g (cK b cs)).bs↔g = b:=by
 show g∈[b]↔_
 simp
theorem tK_bs {tb g:Nat}:g∈(Kn.g (tK tb)).bs↔g = tb:=by
 show g∈[tb]↔_
 simp
variable {C:Cx} {S:St} {K:St→Prop} {d:Option Nat}
theorem ldP_blk (b:Nat) {t:Bool} {m o:Nat} (h:ldP C t m ⟨b,o,none⟩ d K S):ldP C t m ⟨b,o,none⟩ d K S:=h
theorem stL_c {L R:List Kn} {b o:Nat} {cs cs' vs:List Value} (hT:S.T = kX C.w0.heap.size L) (hm:.g (cK b cs)∈L) (hR:∀ k∈R,k∈L∧b ∉ k.bs) (ho:ovrO cs o vs = some cs') (h1:all1 vs = true)
  (hk:K ⟨S.n,S.E,S.H,kX C.w0.heap.size (.g (cK b cs') :: R)⟩):stL C ⟨b,o,none⟩ vs K S:=by
 refine ⟨kX C.w0.heap.size (.g (cK b cs') :: R),fun A W hW=>?_,kX_stab C _,fun c hc=>?_,hk⟩
 ·have hok:=hW.tk
  rw [hT] at hok
  have hc:(cK b cs).ok C.w0.heap.size W:=hok _ hm
  obtain ⟨W',e,hmv,hz,hB⟩:=run_storeK (P:=C.P) (i:=0) hc.2 ho h1
  refine ⟨by rw [hT]; exact kX_bs.2 ⟨_,hm,List.mem_singleton.2 rfl⟩,W',e,hmv,fun k hk=>?_⟩
  rcases List.mem_cons.1 hk with rfl | hk
  ·exact ⟨hc.1,hB⟩
  ·obtain ⟨hkL,hkb⟩:=hR k hk
   exact (hok k hkL).keep hmv.2.2.2.1 (fun c hcc=>hmv.2.2.2.2 c ((hok k hkL).lt c hcc).2 fun e=>hkb (by rw [← List.mem_singleton.1 e]; exact hcc)) fun c hcn hcl=>hmv.2.2.2.2 c hcl fun e=>by
    have h0:=hc.1
    rw [List.mem_singleton.1 e] at hcn
    omega
 ·rw [hT]
  obtain ⟨k,hk,hc⟩:=kX_bs.1 hc
  rcases List.mem_cons.1 hk with rfl | hk
  ·exact kX_bs.2 ⟨_,hm,hc⟩
  ·exact kX_bs.2 ⟨k,(hR k hk).1,hc⟩
theorem stP_c {L R:List Kn} {b o:Nat} {cs cs':List Value} {v:Value} (hT:S.T = kX C.w0.heap.size L) (hm:.g (cK b cs)∈L) (hR:∀ k∈R,k∈L∧b ∉ k.bs) (ho:ovrO cs o [v] = some cs') (h1:one v = true)
  (hk:K ⟨S.n,S.E,S.H,kX C.w0.heap.size (.g (cK b cs') :: R)⟩):stP C ⟨b,o,none⟩ v K S:=by
 refine stP_is (kX C.w0.heap.size (.g (cK b cs') :: R)) (fun W hW hok=>?_) (kX_stab C _) (fun c hc=>?_) h1 hk
 ·rw [hT] at hok
  have hc:(cK b cs).ok C.w0.heap.size W:=hok _ hm
  obtain ⟨o1,o2⟩:=ovrO_cons ho
  have e:=ovrO_nil o2
  have hB:=Bx.of hc.2
  refine ⟨by rw [hT]; exact kX_bs.2 ⟨_,hm,List.mem_singleton.2 rfl⟩,⟨cs[o],by rw [hB.2.1,List.getElem?_toArray,List.getElem?_eq_getElem o1]⟩,hB.2.2.1 _,fun k hk=>?_⟩
  rcases List.mem_cons.1 hk with rfl | hk
  ·refine ⟨hc.1,?_⟩
   rw [e]
   exact hc.2.set (by simp)
  ·obtain ⟨hkL,hkb⟩:=hR k hk
   exact (hok k hkL).keep (by rw [World.size_setCell]; exact Nat.le_refl _) (fun c hcc=>Below.heap_setCell W _ _ c fun e=>hkb (by rw [← show c = b from e]; exact hcc)) fun c hcn hcl=>Below.heap_setCell W _ _ c fun e=>by
    have h0:=hc.1
    rw [show c = b from e] at hcn
    omega
 ·rw [hT]
  obtain ⟨k,hk,hc⟩:=kX_bs.1 hc
  rcases List.mem_cons.1 hk with rfl | hk
  ·exact kX_bs.2 ⟨_,hm,hc⟩
  ·exact kX_bs.2 ⟨k,(hR k hk).1,hc⟩
theorem cregI {nb:Bool} {hs tl:List G} {p:St→Prop} {L:List Kn} (F:List Kn) (rows:List Nat) (hT:S.T = kX C.w0.heap.size L) (hF:∀ k∈F,k∈L∧∀ b∈k.bs,b ∉ rows) (hr:∀ b∈rows,∃ k∈L,b∈k.bs)
  (h:Sx.ops (C.fo (kX C.w0.heap.size F) rows) hs (chk nb S.T.bs (Sx.ops C tl p)) S):cregX C false nb hs tl p S:=by
 refine ⟨kX C.w0.heap.size F,rows,⟨fun b hb=>?_,fun W hW k hk=>?_,kX_stab C F,fun b hb=>?_⟩,h⟩
 ·rw [hT]
  exact kX_bs.2 (hr b hb)
 ·rw [hT] at hW
  exact hW k (hF k hk).1
 ·obtain ⟨k,hk,hb⟩:=kX_bs.1 hb
  exact ⟨by rw [hT]; exact kX_bs.2 ⟨k,(hF k hk).1,hb⟩,(hF k hk).2 b hb⟩
end Sx
end Go.Proofs.YtncmmbacoknefaaGreat
