/- Nothing of a statement is proved in this text alone: it is part 7 of the proof's own tools, an evaluator of the code over deep values, its soundness, and what it makes of this seat's functions. Conditions: none beyond the statement's own. -/
import Derived.Test.YtmdmclbpnkdimaaGreatDoorVsRCQuot6
import Derived.Test.YtmdmclbpnkdimaaGreatDoorRows
import Derived.Test.YtmdmclbpnkdimaaGreatDoorTie
import Derived.WalkKit
import Derived.ProofKit
import Derived.Deep.DeepHandedRow
import Derived.Lib.LaidTab
set_option linter.unusedSimpArgs false
set_option linter.unusedVariables false
namespace Go.VS
open Go
set_option maxHeartbeats 0
def PB (k:Sn) (a y:Int):Prop:=(0≤a∧a * k.lo≤y∧y≤a * k.hi) ∨ (a≤0∧a * k.hi≤y∧y≤a * k.lo)
def TimesS (k:Sn) (r:List Sn) (y:Int):Prop:=∃ a,In r a∧PB k a y
def Gp (k:Sn) (a:Int):Prop:=a * (k.hi - k.lo) < k.lo - 1
theorem gp_mono {k:Sn} (hk:KOk k) {a b:Int} (hab:a≤b) (h:¬ Gp k a):¬ Gp k b:=by
 have:=Int.mul_le_mul_of_nonneg_right hab (show 0≤k.hi - k.lo by have:=hk.2.1; omega)
 unfold Gp at *
 omega
theorem gp_succ {k:Sn} {a:Int}:Gp k a↔a * k.hi+1 < (a+1) * k.lo:=by
 unfold Gp
 rw [Int.mul_sub,Int.add_mul]
 omega
theorem mul_mono {a b c:Int} (hc:0≤c) (h:a≤b):a * c≤b * c:=Int.mul_le_mul_of_nonneg_right h hc
theorem all_met {k:Sn} (hk:KOk k):∀ (n:Nat) (x hi y:Int),0≤x→x≤hi→hi≤x+n→¬ Gp k x→x * k.lo≤y→y≤hi * k.hi→∃ a,x≤a∧a≤hi∧a * k.lo≤y∧y≤a * k.hi
 | 0,x,hi,y,h0,h1,h2,hg,h3,h4=>by
  have:hi=x:=by omega
  subst this
  exact ⟨hi,Int.le_refl _,Int.le_refl _,h3,h4⟩
 | n+1,x,hi,y,h0,h1,h2,hg,h3,h4=>by
  by_cases hy:y≤x * k.hi
  ·exact ⟨x,Int.le_refl _,h1,h3,hy⟩
  ·have hlt:x < hi:=by
    rcases Int.lt_or_eq_of_le h1 with h | h
    ·exact h
    ·rw [h] at hy; omega
   have hg':¬ (x * k.hi+1 < (x+1) * k.lo):=fun h=>hg (gp_succ.2 h)
   obtain ⟨a,a1,a2,a3,a4⟩:=all_met hk n (x+1) hi y (by omega) (by omega) (by omega) (gp_mono hk (by omega) hg) (by omega) h4
   exact ⟨a,by omega,a2,a3,a4⟩
theorem prodL_sound {k:Sn} (hk:KOk k) {hi:Int}:∀ (n:Nat) (x y:Int),0≤x→In (prodL k hi n x) y→∃ a,x≤a∧a≤hi∧a * k.lo≤y∧y≤a * k.hi
 | 0,_,_,_,h=>absurd h In_nil
 | n+1,x,y,h0,h=>by
  unfold prodL at h
  split at h
  ·rename_i hc
   split at h
   ·rename_i hg
    rcases In_cons.1 h with ⟨h1,h2⟩ | h
    ·simp only at h1 h2
     exact all_met hk (hi - x).toNat x hi y h0 hc (by omega) (fun g=>by unfold Gp at g; omega) h1 h2
    ·exact absurd h In_nil
   ·rcases In_cons.1 h with ⟨h1,h2⟩ | h
    ·exact ⟨x,Int.le_refl _,hc,h1,h2⟩
    ·obtain ⟨a,a1,a2⟩:=prodL_sound hk n (x+1) y (by omega) h
     exact ⟨a,by omega,a2⟩
  ·exact absurd h In_nil
def Cm (k:Sn) (hi:Int) (n:Nat) (x:Int):Prop:=hi < x+n ∨ (0 < n∧¬ Gp k (x+n - 1))
theorem prodL_all {k:Sn} (hk:KOk k) {hi:Int}:∀ (n:Nat) (x y a:Int),0≤x→Cm k hi n x→x≤a→a≤hi→a * k.lo≤y→y≤a * k.hi→In (prodL k hi n x) y
 | 0,x,y,a,h0,hc,h1,h2,h3,h4=>by
  rcases hc with hc | hc <;> omega
 | n+1,x,y,a,h0,hc,h1,h2,h3,h4=>by
  unfold prodL
  rw [if_pos (by omega)]
  have m1:=mul_mono hk.1 h1
  have m2:=mul_mono (show 0≤k.hi by have:=hk.1; have:=hk.2.1; omega) h2
  split
  ·exact In_cons.2 (.inl ⟨by simp only; omega,by simp only; omega⟩)
  ·rename_i hg
   by_cases he:a=x
   ·subst he
    exact In_cons.2 (.inl ⟨h3,h4⟩)
   ·refine In_cons.2 (.inr (prodL_all hk n (x+1) y a (by omega) ?_ (by omega) h2 h3 h4))
    rcases hc with hc | ⟨hc,hg2⟩
    ·exact .inl (by omega)
    ·have e:x+((n+1:Nat):Int) - 1=x+n:=by omega
     rw [e] at hg2
     rcases Nat.eq_zero_or_pos n with h | h
     ·subst h
      exact absurd (show Gp k x by unfold Gp; omega) (by simpa using hg2)
     ·refine .inr ⟨h,?_⟩
      rw [show x+1+(n:Int) - 1=x+n by omega]; exact hg2
theorem prodL_has {k:Sn} (hk:KOk k) {hi:Int}:∀ (n:Nat) (x b:Int),0≤x→x≤b→b≤hi→b < x+n→In (prodL k hi n x) (b * k.lo)
 | 0,x,b,h0,h1,h2,h3=>by omega
 | n+1,x,b,h0,h1,h2,h3=>by
  unfold prodL
  rw [if_pos (by omega)]
  have m1:=mul_mono hk.1 h1
  have m2:=mul_mono (show 0≤k.hi by have:=hk.1; have:=hk.2.1; omega) h2
  have m3:=Int.mul_le_mul_of_nonneg_left hk.2.1 (show 0≤b by omega)
  split
  ·exact In_cons.2 (.inl ⟨by simp only; omega,by simp only; omega⟩)
  ·by_cases he:b=x
   ·subst he
    exact In_cons.2 (.inl ⟨Int.le_refl _,m3⟩)
   ·exact In_cons.2 (.inr (prodL_has hk n (x+1) b (by omega) (by omega) h2 (by omega)))
theorem In_neg {l:List Sn} {y:Int}:In (l.map negS) y↔In l (-y):=by
 unfold In
 simp only [List.mem_map]
 constructor
 ·rintro ⟨s,⟨t,ht,rfl⟩,h1,h2⟩
  unfold negS at h1 h2
  exact ⟨t,ht,by simp only at h1 h2; omega,by simp only at h1 h2; omega⟩
 ·rintro ⟨t,ht,h1,h2⟩
  exact ⟨negS t,⟨t,ht,rfl⟩,by unfold negS; simp only; omega,by unfold negS; simp only; omega⟩
def halves (k:Sn) (n m:Nat) (d:Int) (x:Sn):List Sn:=prodL k x.hi n (max x.lo 0)++(prodL k (-x.lo) m (max (-x.hi) d)).map negS
theorem pb_neg {k:Sn} {a y:Int} (h0:0≤a) (h1:a * k.lo≤-y) (h2:-y≤a * k.hi):PB k (-a) y:=.inr ⟨by omega,by rw [Int.neg_mul]; omega,by rw [Int.neg_mul]; omega⟩
theorem halves_sound {k:Sn} (hk:KOk k) {n m:Nat} {d:Int} (hd:0≤d) {x:Sn} {y:Int} (h:In (halves k n m d x) y):∃ a,x.lo≤a∧a≤x.hi∧PB k a y:=by
 rcases In_append.1 h with h | h
 ·obtain ⟨a,a1,a2,a3,a4⟩:=prodL_sound hk n _ y (by omega) h
  exact ⟨a,by omega,a2,.inl ⟨by omega,a3,a4⟩⟩
 ·obtain ⟨a,a1,a2,a3,a4⟩:=prodL_sound hk m _ (-y) (by omega) (In_neg.1 h)
  exact ⟨-a,by omega,by omega,pb_neg (by omega) a3 a4⟩
theorem halves_all {k:Sn} (hk:KOk k) {n m:Nat} {d:Int} (hd:0≤d) (hd1:d≤1) {x:Sn} (h1:Cm k x.hi n (max x.lo 0)) (h2:Cm k (-x.lo) m (max (-x.hi) d)) {a y:Int} (ha1:x.lo≤a) (ha2:a≤x.hi) (h:PB k a y):In (halves k n m d x) y:=by
 unfold halves
 rw [In_append]
 have pos:0≤a→a * k.lo≤y→y≤a * k.hi→In (prodL k x.hi n (max x.lo 0)) y:=fun p1 p2 p3=>prodL_all hk n _ y a (by omega) h1 (by omega) ha2 p2 p3
 rcases h with ⟨p1,p2,p3⟩ | ⟨p1,p2,p3⟩
 ·exact .inl (pos p1 p2 p3)
 ·by_cases he:a=0
  ·subst he
   exact .inl (pos (by omega) (by simpa using p2) (by simpa using p3))
  ·refine .inr (In_neg.2 (prodL_all hk m _ (-y) (-a) (by omega) h2 (by omega) (by omega) ?_ ?_)) <;> rw [Int.neg_mul] <;> omega
theorem halves_bd {k:Sn} (hk:KOk k) {n m:Nat} {d:Int} (hd:0≤d) {x:Sn} (hx:-1099511627776≤x.lo∧x.lo≤x.hi∧x.hi≤1099511627776):∀ s∈halves k n m d x,-1099511627776000≤s.lo∧s.lo≤s.hi∧s.hi≤1099511627776000:=fun s hs=>by
 rcases List.mem_append.1 hs with h | h
 ·have:=prodL_bd k hk x.hi (by omega) n _ (by omega) s h
  omega
 ·obtain ⟨t,ht,rfl⟩:=List.mem_map.1 h
  have:=prodL_bd k hk (-x.lo) (by omega) m _ (by omega) t ht
  unfold negS
  simp only
  omega
theorem gap_out {k:Sn} (hk:KOk k) {a:Int} (ha:0≤a) (hg:Gp k a) {b:Int}:¬ PB k b (a * k.hi+1)∧¬ PB k b (-(a * k.hi+1)):=by
 have hg:=gp_succ.1 hg
 have k0:0≤k.hi:=by have:=hk.1; have:=hk.2.1; omega
 have ak:=Int.mul_nonneg ha k0
 have up:∀ c,0≤c→c * k.lo≤a * k.hi+1→a * k.hi+1≤c * k.hi→False:=fun c h0 h1 h2=>by
  rcases Int.lt_or_le a c with h | h
  ·have:=mul_mono hk.1 (show a+1≤c by omega); omega
  ·have:=mul_mono k0 h; omega
 constructor
 ·rintro (⟨h0,h1,h2⟩ | ⟨h0,h1,h2⟩)
  ·exact up b h0 h1 h2
  ·have:=Int.mul_nonneg (show 0≤-b by omega) hk.1
   rw [Int.neg_mul] at this
   omega
 ·rintro (⟨h0,h1,h2⟩ | ⟨h0,h1,h2⟩)
  ·have:=Int.mul_nonneg h0 hk.1
   omega
  ·exact up (-b) (by omega) (by rw [Int.neg_mul]; omega) (by rw [Int.neg_mul]; omega)
theorem timesL_halves (k x:Sn):timesL k x=halves k 2049 2049 0 x:=rfl
theorem many_gaps {k:Sn} (hk:KOk k) {l r:List Sn} (hl:cn l) (hs:∀ y,In l y→TimesS k r y) {b:Int} (hb:0≤b) (hg:Gp k (b+64)) (h:(∀ j:Nat,j < 65→In l ((b+j) * k.lo)) ∨ (∀ j:Nat,j < 65→In l (-((b+j) * k.lo)))):64 < l.length:=by
 have gj:∀ j:Nat,j < 65→Gp k (b+j):=fun j hj=>Classical.byContradiction fun hn=>gp_mono hk (show b+j≤b+64 by omega) hn hg
 have no:∀ j:Nat,j < 65→¬ In l ((b+j) * k.hi+1)∧¬ In l (-((b+j) * k.hi+1)):=fun j hj =>
  ⟨fun hi=>by obtain ⟨a,_,h⟩:=hs _ hi; exact (gap_out hk (by omega) (gj j hj)).1 h,fun hi=>by obtain ⟨a,_,h⟩:=hs _ hi; exact (gap_out hk (by omega) (gj j hj)).2 h⟩
 have st:∀ j:Nat,j+1 < 65→(b+j) * k.lo < (b+j) * k.hi+1∧(b+j) * k.hi+1 < (b+((j+1:Nat):Int)) * k.lo:=fun j hj=>by
  have h1:=gp_succ.1 (gj j (by omega))
  have h2:=Int.mul_le_mul_of_nonneg_left hk.2.1 (show 0≤b+j by omega)
  rw [show b+((j+1:Nat):Int)=b+j+1 by omega]
  omega
 rcases h with h | h
 ·have:=cn_count hl 65 (fun j=>(b+j) * k.lo) (fun j=>(b+j) * k.hi+1) h fun j hj=>⟨(no j (by omega)).1,st j hj⟩
  omega
 ·have:=cn_count' hl 65 (fun j=>-((b+j) * k.lo)) (fun j=>-((b+j) * k.hi+1)) h fun j hj=>by
   have:=st j hj
   exact ⟨(no j (by omega)).2,by omega,by omega⟩
  omega
def OverS (k:Sn) (r:List Sn) (y:Int):Prop:=∃ c,k.lo≤c∧c≤k.hi∧In r (y * c)
theorem div_in {c y lo hi:Int} (hc:1≤c):(-((-lo) / c)≤y∧y≤hi / c)↔lo≤y * c∧y * c≤hi:=by
 rw [Int.le_ediv_iff_mul_le (by omega)]
 have:-((-lo) / c)≤y↔lo≤y * c:=by
  have h:-y≤(-lo) / c↔-y * c≤-lo:=Int.le_ediv_iff_mul_le (by omega)
  rw [Int.neg_mul] at h
  omega
 rw [this]
theorem In_overL {x:Sn}:∀ (n:Nat) (c y:Int),1≤c→(In (overL x n c) y↔∃ d,c≤d∧d < c+n∧x.lo≤y * d∧y * d≤x.hi)
 | 0,c,y,hc=>⟨fun h=>absurd h In_nil,fun ⟨d,h1,h2,_⟩=>by omega⟩
 | n+1,c,y,hc=>by
  unfold overL
  rw [In_append,In_some,div_in hc,In_overL n (c+1) y (by omega)]
  constructor
  ·rintro (h | ⟨d,h1,h2,h3⟩)
   ·exact ⟨c,Int.le_refl _,by omega,h⟩
   ·exact ⟨d,by omega,by omega,h3⟩
  ·rintro ⟨d,h1,h2,h3⟩
   by_cases he:d=c
   ·subst he; exact .inl h3
   ·exact .inr ⟨d,by omega,by omega,h3⟩
theorem In_over {k:Sn} (hk:KOv k) {r:List Sn} {y:Int}:In (r.flatMap fun x=>overL x (k.hi+1 - k.lo).toNat k.lo) y↔OverS k r y:=by
 rw [In_flat]
 constructor
 ·rintro ⟨x,hx,h⟩
  obtain ⟨d,h1,h2,h3,h4⟩:=(In_overL _ _ _ hk.1).1 h
  exact ⟨d,h1,by omega,x,hx,h3,h4⟩
 ·rintro ⟨c,h1,h2,x,hx,h3,h4⟩
  exact ⟨x,hx,(In_overL _ _ _ hk.1).2 ⟨c,h1,by have:=hk.2.1; omega,h3,h4⟩⟩
theorem overL_ne {x:Sn}:∀ (n:Nat) (c:Int),∀ s∈overL x n c,s.lo≤s.hi
 | 0,_,s,h=>by cases h
 | n+1,c,s,h=>by
  rcases List.mem_append.1 h with h | h
  ·exact some_ne s h
  ·exact overL_ne n _ s h
end Go.VS

namespace Go.VS
open Go Go.Proofs
set_option maxHeartbeats 0
set_option linter.unusedSimpArgs false
set_option linter.unusedVariables false
section
variable {α:Type} {C:Cfg} {objs:List (Nat × Ob)} {t e:TypeId} {ty te:Ty} {f:α→VS.D} {sz nxt k:Nat} {s:GS α}
end
end Go.VS

namespace Go.VS
open Go
set_option maxHeartbeats 0
def Bd (l:List Sn):Prop:=∀ s∈l,-2305843009213693952≤s.lo∧s.lo≤s.hi∧s.hi≤2305843009213693952
section
variable {β:Type} (F:List Sn→β) {v:List Sn} {c x:Sn}
end
section
variable {p q:GS Sn} (hp:p.l.length≤1073741824) (hq:q.l.length≤1073741824) (bp:Bd p.l) (bq:Bd q.l)
include hp hq bp bq
end
open Classical in
noncomputable def Jn (l:GS Sn):GS Sn:=if l.l.length≤1073741824∧Bd l.l then (if l.l.length < 2 then l else GS.some (can zx l.l)) else GS.nil
end Go.VS

namespace Go.VS
open Go
set_option maxHeartbeats 0
end Go.VS

namespace Go.VS
open Go Go.Proofs
set_option maxHeartbeats 0
set_option linter.unusedSimpArgs false
set_option linter.unusedVariables false
end Go.VS

namespace Go.VS
open Go Go.Proofs
set_option maxHeartbeats 0
set_option linter.unusedSimpArgs false
set_option linter.unusedVariables false
end Go.VS

namespace Go.VS
open Go Go.Proofs
set_option maxHeartbeats 0
set_option linter.unusedSimpArgs false
set_option linter.unusedVariables false
end Go.VS

namespace Go.VS
open Go Go.Proofs
set_option maxHeartbeats 0
set_option linter.unusedSimpArgs false
set_option linter.unusedVariables false
end Go.VS

namespace Go.VS
open Go Go.Proofs
set_option maxHeartbeats 0
set_option linter.unusedSimpArgs false
set_option linter.unusedVariables false
end Go.VS

namespace Go.VS
open Go
set_option maxHeartbeats 0
end Go.VS

namespace Go.VS
open Go
set_option maxHeartbeats 0
end Go.VS

namespace Go.VS
open Go Go.Proofs
set_option maxHeartbeats 0
set_option linter.unusedSimpArgs false
set_option linter.unusedVariables false
end Go.VS

namespace Go.VS
open Go
set_option maxHeartbeats 0
section
variable (x:Sn)
end
end Go.VS

namespace Go.VS
open Go
set_option maxHeartbeats 0
end Go.VS

namespace Go.VS
open Go
set_option maxHeartbeats 0
section
variable {k:Sn} (hk:KOk k)
include hk
end
end Go.VS

namespace Go.VS
open Go
set_option maxHeartbeats 0
theorem times_res {r:GS Sn} {k:Sn} (hr:Ok r.l) (hk:KOk k):Res (TimesS k r.l) (zb r k):=by
 have hbx:=ok_bx hr
 have ne:∀ s∈r.l.flatMap (timesL k),s.lo≤s.hi:=flat_ne fun x hx s hs=>(halves_bd hk (Int.le_refl 0) (hbx x hx) s hs).2.1
 have sound:∀ y,In (r.l.flatMap (timesL k)) y→TimesS k r.l y:=fun y hy=>by
  obtain ⟨x,hx,h⟩:=In_flat.1 hy
  obtain ⟨a,a1,a2,a3⟩:=halves_sound hk (Int.le_refl 0) (by rw [timesL_halves] at h; exact h)
  exact ⟨a,⟨x,hx,a1,a2⟩,a3⟩
 have g:=Times_gr hr hk
 by_cases hm:64 < (can zx (r.l.flatMap (timesL k))).length
 ·right
  rcases g with ⟨_,h,_⟩ | ⟨_,h⟩
  ·omega
  ·exact h
 ·refine (g.res ne).congr fun y=>⟨sound y,fun ⟨a,⟨x,hx,a1,a2⟩,a3⟩=>?_⟩
  have hxx:=hbx x hx
  have hc:=can_rg gcmp_lo ne
  have hsd:∀ y,In (can zx (r.l.flatMap (timesL k))) y→TimesS k r.l y:=fun y hy=>sound y ((hc.2 y).1 hy)
  have has:∀ y,In (timesL k x) y→In (can zx (r.l.flatMap (timesL k))) y:=fun y hy=>(hc.2 y).2 (In_flat.2 ⟨x,hx,hy⟩)
  refine In_flat.2 ⟨x,hx,?_⟩
  rw [timesL_halves]
  refine halves_all hk (by omega) (by omega) (Classical.byContradiction fun hn=>hm ?_) (Classical.byContradiction fun hn=>hm ?_) a1 a2 a3
  ·have hn1:¬ (x.hi < max x.lo 0+(2049:Nat)):=fun h=>hn (.inl h)
   have hn2:Gp k (max x.lo 0+(2049:Nat) - 1):=Classical.byContradiction fun h=>hn (.inr ⟨by omega,h⟩)
   have hg:Gp k (max x.lo 0+64):=Classical.byContradiction fun h=>gp_mono hk (show max x.lo 0+64≤max x.lo 0+(2049:Nat) - 1 by omega) h hn2
   refine many_gaps hk hc.1 hsd (b:=max x.lo 0) (by omega) hg (.inl fun j hj=>has _ ?_)
   exact In_append.2 (.inl (prodL_has hk 2049 _ _ (by omega) (by omega) (by omega) (by omega)))
  ·have hn1:¬ (-x.lo < max (-x.hi) 0+(2049:Nat)):=fun h=>hn (.inl h)
   have hn2:Gp k (max (-x.hi) 0+(2049:Nat) - 1):=Classical.byContradiction fun h=>hn (.inr ⟨by omega,h⟩)
   have hg:Gp k (max (-x.hi) 0+64):=Classical.byContradiction fun h=>gp_mono hk (show max (-x.hi) 0+64≤max (-x.hi) 0+(2049:Nat) - 1 by omega) h hn2
   refine many_gaps hk hc.1 hsd (b:=max (-x.hi) 0) (by omega) hg (.inr fun j hj=>has _ ?_)
   refine In_append.2 (.inr (In_neg.2 ?_))
   rw [Int.neg_neg]
   exact prodL_has hk 2049 _ _ (by omega) (by omega) (by omega) (by omega)
theorem over_res {r:GS Sn} {k:Sn} (hr:Ok r.l) (hk:KOv k):Res (OverS k r.l) (zk r k) :=
 ((Over_gr hr hk).res (flat_ne fun x _=>overL_ne _ _)).congr fun y=>In_over hk
theorem yd {r:GS Sn} {k:Sn} (hr:Ok r.l) (hk:0≤k.lo∧k.lo≤k.hi∧k.hi≤1000):Tkn (zb r k).1 (zb r k).2:=tk_res (times_res hr hk)
theorem tk_Over {r:GS Sn} {k:Sn} (hr:Ok r.l) (hk:1≤k.lo∧k.lo≤k.hi∧k.hi≤1000∧k.hi - k.lo≤99):Tkn (zk r k).1 (zk r k).2:=tk_res (over_res hr hk)
section
variable {L:Bool} {S:Int→Prop} {a:GS Sn} {k:Sn}
theorem Tk.times (hk:KOk k) (ha:Tk L S a):Tk (takeL L (zb a k).2) (fun y=>∃ z,S z∧PB k z y) (takeR (zb a k).1 (zb a k).2):=by
 refine Tk.lift ?_
 rcases ha with h | ⟨ha,ra⟩
 ·exact .inl h
 exact .inr ((times_res ha hk).congr fun y=>by unfold TimesS; simp only [ra.2])
theorem Tk.over (hk:KOv k) (ha:Tk L S a):Tk (takeL L (zk a k).2) (fun y=>∃ c,k.lo≤c∧c≤k.hi∧S (y * c)) (takeR (zk a k).1 (zk a k).2):=by
 refine Tk.lift ?_
 rcases ha with h | ⟨ha,ra⟩
 ·exact .inl h
 exact .inr ((over_res ha hk).congr fun y=>by unfold OverS; simp only [ra.2])
end
theorem err_has' {r:GS Sn} (h:Ok r.l) (n:Int):((zi r n).2 != 0)=false:=by rw [has_ok h]; rfl
theorem over_k3 {k:Sn} (h1:¬ (k.lo < 1)) (h2:¬ (k.lo > k.hi)) (h3:¬ (k.hi > 1000)) (h:decide ((w64 (k.hi - k.lo)) > 99)=false):1≤k.lo∧k.lo≤k.hi∧k.hi≤1000∧k.hi - k.lo≤99:=by
 have h:=of_decide_eq_false h
 rw [y9 (by omega) (by omega)] at h
 omega
end Go.VS

namespace Go.VS
open Go
abbrev tL0 (r:GS Sn) (k:Sn):Bool:=(takeL false ((zk r k).2))
abbrev tv1 (r:GS Sn) (k:Sn):GS Sn:=(takeR ((zk r k).1) ((zk r k).2))
abbrev tL2 (r:GS Sn) (k:Sn):Bool:=(takeL false ((zb r (⟨k.lo,k.lo⟩:Sn)).2))
abbrev tv3 (r:GS Sn) (k:Sn):GS Sn:=(takeR ((zb r (⟨k.lo,k.lo⟩:Sn)).1) ((zb r (⟨k.lo,k.lo⟩:Sn)).2))
abbrev tL4 (r:GS Sn) (k:Sn):Bool:=(takeL (tL2 r k) ((zk (tv3 r k) (⟨k.lo,k.lo⟩:Sn)).2))
abbrev tv5 (r:GS Sn) (k:Sn):GS Sn:=(takeR ((zk (tv3 r k) (⟨k.lo,k.lo⟩:Sn)).1) ((zk (tv3 r k) (⟨k.lo,k.lo⟩:Sn)).2))
abbrev tL6 (r:GS Sn) (k:Sn):Bool:=(takeL (tL4 r k) ((zb r (⟨1,1⟩:Sn)).2))
abbrev tv7 (r:GS Sn):GS Sn:=(takeR ((zb r (⟨1,1⟩:Sn)).1) ((zb r (⟨1,1⟩:Sn)).2))
abbrev tL8 (r:GS Sn) (k:Sn):Bool:=(takeL (tL6 r k) ((zb r k).2))
abbrev tv9 (r:GS Sn) (k:Sn):GS Sn:=(takeR ((zb r k).1) ((zb r k).2))
abbrev tL10 (r:GS Sn) (k:Sn):Bool:=(takeL false ((zk r (⟨k.lo,k.lo⟩:Sn)).2))
abbrev tv11 (r:GS Sn) (k:Sn):GS Sn:=(takeR ((zk r (⟨k.lo,k.lo⟩:Sn)).1) ((zk r (⟨k.lo,k.lo⟩:Sn)).2))
abbrev tL12 (r:GS Sn) (k:Sn):Bool:=(takeL (tL10 r k) ((zb (tv11 r k) (⟨k.lo,k.lo⟩:Sn)).2))
abbrev tv13 (r:GS Sn) (k:Sn):GS Sn:=(takeR ((zb (tv11 r k) (⟨k.lo,k.lo⟩:Sn)).1) ((zb (tv11 r k) (⟨k.lo,k.lo⟩:Sn)).2))

end Go.VS

namespace Go.VS
open Go
set_option maxHeartbeats 0
theorem holds_t7 {L z:Bool} (h:L=true):holdsB L z=true:=holds_of (.inl h)
theorem one_ok {k:Sn} (hk:1≤k.lo∧k.lo≤k.hi∧k.hi≤1000∧k.hi - k.lo≤99):KOk (⟨k.lo,k.lo⟩:Sn)∧KOv (⟨k.lo,k.lo⟩:Sn)∧KOk k:=⟨⟨by simp only; omega,Int.le_refl _,by simp only; omega⟩,⟨by simp only; omega,Int.le_refl _,by simp only; omega,by simp only; omega⟩,⟨by omega,by omega,by omega⟩⟩
theorem pb_one {c a y:Int}:PB (⟨c,c⟩:Sn) a y↔y=a * c:=by
 unfold PB
 constructor
 ·rintro (⟨_,h1,h2⟩ | ⟨_,h1,h2⟩) <;> simp only at h1 h2 <;> omega
 ·intro h
  rcases Int.le_total 0 a with h0 | h0
  ·exact .inl ⟨h0,by simp only; omega,by simp only; omega⟩
  ·exact .inr ⟨h0,by simp only; omega,by simp only; omega⟩
theorem mul_inj {a b c:Int} (hc:1≤c) (h:a * c=b * c):a=b:=Int.eq_of_mul_eq_mul_right (by omega) h
theorem quot_3 {r:GS Sn} {k:Sn} (hr:Ok r.l):holdsB (tL6 r k) (r_Same (tv7 r) r)=true:=by
 have t7:Tk (tL6 r k) _ (tv7 r):=Tk.times (k:=(⟨1,1⟩:Sn)) ⟨by decide,by decide,by decide⟩ (Tk.base (L:=tL4 r k) hr)
 refine Tk.same t7 (Tk.base hr) fun y=>?_
 simp only [pb_one,Int.mul_one]
 exact ⟨fun ⟨z,h1,h2⟩=>by rw [h2]; exact h1,fun h=>⟨y,h,rfl⟩⟩
section
variable {r:GS Sn} {k:Sn} (hr:Ok r.l) (hk:1≤k.lo∧k.lo≤k.hi∧k.hi≤1000∧k.hi - k.lo≤99)
include hr hk
theorem q_tv3 (L:Bool):Tk (takeL L (zb r (⟨k.lo,k.lo⟩:Sn)).2) (fun y=>∃ z,In r.l z∧y=z * k.lo) (tv3 r k):=by
 have h:=Tk.times (L:=L) (one_ok hk).1 (Tk.base (L:=L) hr)
 refine h.elim .inl fun ⟨h1,h2⟩=>.inr ⟨h1,h2.congr fun y=>?_⟩
 simp only [pb_one]
theorem quot_2:holdsB (tL4 r k) (r_Same (tv5 r k) r)=true:=by
 have t5:Tk (tL4 r k) _ (tv5 r k):=Tk.over (one_ok hk).2.1 (q_tv3 hr hk false)
 refine Tk.same t5 (Tk.base hr) fun y=>?_
 constructor
 ·rintro ⟨c,h1,h2,z,h3,h4⟩
  simp only at h1 h2
  have:c=k.lo:=by omega
  subst this
  rw [mul_inj hk.1 h4]; exact h3
 ·intro h
  exact ⟨k.lo,Int.le_refl _,Int.le_refl _,y,h,rfl⟩
theorem quot_4 (h:(zq (tv3 r k) (tv9 r k)).1=false):holdsB (tL8 r k) false=true:=by
 have t9:Tk (tL8 r k) _ (tv9 r k):=Tk.times (one_ok hk).2.2 (Tk.base (L:=tL6 r k) hr)
 have t3:Tk (tL8 r k) _ (tv3 r k):=(((q_tv3 hr hk false).up _).up _).up _
 rcases Tk.within t3 t9 with h1 | h1
 ·exact holds_t7 h1
 ·have h2:=h1.2 fun y ⟨z,h3,h4⟩=>⟨z,h3,by
   rw [h4]
   unfold PB
   rcases Int.le_total 0 z with h0 | h0
   ·exact .inl ⟨h0,Int.le_refl _,Int.mul_le_mul_of_nonneg_left hk.2.1 h0⟩
   ·exact .inr ⟨h0,Int.mul_le_mul_of_nonpos_left h0 hk.2.1,Int.le_refl _⟩⟩
  rw [h] at h2; cases h2
theorem quot_5 (h:(zq (tv13 r k) r).1=false):holdsB (tL12 r k) false=true:=by
 have t11:Tk (tL10 r k) _ (tv11 r k):=Tk.over (one_ok hk).2.1 (Tk.base (L:=false) hr)
 have t13:Tk (tL12 r k) _ (tv13 r k):=Tk.times (one_ok hk).1 t11
 rcases Tk.within t13 (Tk.base hr) with h1 | h1
 ·exact holds_t7 h1
 ·have h2:=h1.2 fun y ⟨z,⟨c,h3,h4,h5⟩,h6⟩=>by
   have h6:=pb_one.1 h6
   simp only at h3 h4
   have:c=k.lo:=by omega
   subst this
   rw [h6]; exact h5
  rw [h] at h2; cases h2
theorem quot_has (x:Int):tL0 r k=true ∨ ((zi (tv1 r k) x).1=true↔(-1099511627776≤x∧x≤1099511627776)∧∃ c,k.lo≤c∧c≤k.hi∧In r.l (x * c)):=by
 have t1:Tk (tL0 r k) _ (tv1 r k):=Tk.over hk (Tk.base (L:=false) hr)
 rcases t1 with h | ⟨h1,h2⟩
 ·exact .inl h
 right
 rw [has_ok h1]
 simp only [inB_iff]
 constructor
 ·intro h
  exact ⟨bd_in h1.2.1 h,(h2.2 x).1 h⟩
 ·rintro ⟨_,h⟩
  exact (h2.2 x).2 h
end
end Go.VS

namespace Go.VS
open Go Go.Proofs
set_option maxHeartbeats 0
set_option linter.unusedSimpArgs false
set_option linter.unusedVariables false
def sd50000 (ν0 ν1 ν2:Nat) (μ0:Int) (μ1:Sn) (μ2:Int) (μ3:GS Sn) (μ4:Bool) (μ5:Bool) (μ6:Bool):St:=⟨194,[(82,B false),(81,B false),(80,I μ0),(79,B true),(78,B true),(77,B true),(76,I μ0),(75,B true),(74,B true),(73,I μ1.hi),(72,.lref ν0 0 2 1),(71,I μ2),(0,.sl μ3.nl (μ3.l.map Sn.D) (zsl μ3.nl 2) none),(2,I μ0),(4,.lref ν0 0 2 0),(7,.lref ν1 0 2 0),(9,B μ4),(11,B μ5),(12,I μ2)],[(ν0,⟨[.agg [I μ1.lo,I μ1.hi]],2,false⟩),(ν1,⟨[.agg [B μ6,B false]],2,false⟩)],ν2,ν0⟩

def sd50001 (ν0 ν1 ν2:Nat) (μ0:Int) (μ1:Sn) (μ2:Int) (μ3:GS Sn) (μ4:Bool) (μ5:Bool) (μ6:Bool):St:=⟨194,[(82,B false),(81,.tup []),(80,.tup []),(79,B false),(78,B false),(77,B false),(76,I μ0),(75,B true),(74,B true),(73,I μ1.hi),(72,.lref ν0 0 2 1),(71,I μ2),(0,.sl μ3.nl (μ3.l.map Sn.D) (zsl μ3.nl 2) none),(2,I μ0),(4,.lref ν0 0 2 0),(7,.lref ν1 0 2 0),(9,B μ4),(11,B μ5),(12,I μ2)],[(ν0,⟨[.agg [I μ1.lo,I μ1.hi]],2,false⟩),(ν1,⟨[.agg [B μ6,B false]],2,false⟩)],ν2,ν0⟩

def sd50002 (ν0 ν1 ν2:Nat) (μ0:Sn) (μ1:Int) (μ2:GS Sn) (μ3:Int) (μ4:Bool) (μ5:Bool) (μ6:Bool):St:=⟨194,[(82,B false),(81,.tup []),(80,.tup []),(79,B false),(78,B false),(77,.tup []),(76,.tup []),(75,B false),(74,B false),(73,I μ0.hi),(72,.lref ν0 0 2 1),(71,I μ1),(0,.sl μ2.nl (μ2.l.map Sn.D) (zsl μ2.nl 2) none),(2,I μ3),(4,.lref ν0 0 2 0),(7,.lref ν1 0 2 0),(9,B μ4),(11,B μ5),(12,I μ1)],[(ν0,⟨[.agg [I μ0.lo,I μ0.hi]],2,false⟩),(ν1,⟨[.agg [B μ6,B false]],2,false⟩)],ν2,ν0⟩

noncomputable def lp10_12:Code:=subC [1,1,1,1,1,1,1,1,0,1,0,0] (bodyC Tryz.f10)

inductive LR_l_RangesQuotients_12 where
 | x0 (xC:Bool) (xt:Int)
 | x1 (xC:Bool) (xt:Int)
 | x2 (xC:Bool) (xt:Int)
 | out
instance:Inhabited LR_l_RangesQuotients_12:=⟨.out⟩
def zK (r:GS Sn) (k:Sn) (x:Int):Nat→Bool→Int→LR_l_RangesQuotients_12
 | 0,_,_=>.out
 | w6+1,xC,xt =>
  bif decide (xt≤k.hi) then
   bif decide (x ≥ (-1099511627776)) then
    bif decide (x≤1099511627776) then
     bif ((zi r (w64 (x * xt))).1) then
      bif xC then
       zK r k x w6 true (w64 (xt+1))
      else
       zK r k x w6 true (w64 (xt+1))
     else
      bif xC then
       zK r k x w6 true (w64 (xt+1))
      else
       zK r k x w6 false (w64 (xt+1))
    else
     .x0 xC xt
   else
    .x1 xC xt
  else
   .x2 xC xt
def lr_l_RangesQuotients_12 (r:GS Sn) (k:Sn) (x:Int) (q12_0:Bool) (q12_1:Bool):LR_l_RangesQuotients_12→Exit × St
 | .x0 xC xt=>((.exit 0),(sd50000 0 1 2 x k xt r q12_0 xC q12_1))
 | .x1 xC xt=>((.exit 0),(sd50001 0 1 2 x k xt r q12_0 xC q12_1))
 | .x2 xC xt=>((.exit 0),(sd50002 0 1 2 k xt r x q12_0 xC q12_1))
 | .out=>(.normal,⟨0,[],[],0,0⟩)
def iv_l_RangesQuotients_12 (r:GS Sn) (k:Sn) (x:Int) (q12_0:Bool) (q12_1:Bool):LR_l_RangesQuotients_12→Prop
 | .x0 xC xt=>(k.lo≤xt∧xt≤k.hi+1)
 | .x1 xC xt=>(k.lo≤xt∧xt≤k.hi+1)
 | .x2 xC xt=>(k.lo≤xt∧xt≤k.hi+1)
 | .out=>True
def l_RangesQuotients_12_f_o1 (r:GS Sn) (x:Int) (xt:Int):List Ora:=[.dec true,.dec true,.dec true,.pure (.tup [B ((zi r (w64 (x * xt))).1),I ((zi r (w64 (x * xt))).2)])]
theorem lp_l_RangesQuotients_12 (r:GS Sn) (k:Sn) (x:Int) (q12_0:Bool) (q12_1:Bool):∀ (w6:Nat) (xC:Bool) (xt:Int) (hf12:zK r k x w6 xC xt ≠ .out) (hk:1≤k.lo∧k.lo≤k.hi∧k.hi≤1000∧k.hi - k.lo≤99) (hvr:r_Valid r=true) (hlr:r.l.length≤64) (hc0:k.lo≤xt∧xt≤k.hi+1),(lim cfg).loop 10 lp10_12 ⟨194,[(0,.sl r.nl (r.l.map Sn.D) (zsl r.nl 2) none),(2,I x),(4,.lref 0 0 2 0),(7,.lref 1 0 2 0),(9,B q12_0),(11,B xC),(12,I xt)],[(0,⟨[.agg [I k.lo,I k.hi]],2,false⟩),(1,⟨[.agg [B q12_1,B false]],2,false⟩)],2,0⟩=some (lr_l_RangesQuotients_12 r k x q12_0 q12_1 (zK r k x w6 xC xt)):=by
 intro w6
 induction w6 with
 | zero =>
  intro xC xt hf12 hk hvr hlr hc0
  exact absurd rfl hf12
 | succ w6 ih =>
  intro xC xt hf12 hk hvr hlr hc0
  unfold zK at hf12 ⊢
  revert hf12
  cases h12:decide (xt≤k.hi) with
  | true =>
   have g12:=of_decide_eq_true h12
   cases h13:decide (x ≥ (-1099511627776)) with
   | true =>
    have g13:=of_decide_eq_true h13
    cases h14:decide (x≤1099511627776) with
    | true =>
     have g14:=of_decide_eq_true h14
     have p1:=(T_ranges_Has r (w64 (x * xt)) (by omega))
     cases h15:((zi r (w64 (x * xt))).1) with
     | true =>
      have p2:=(show (((zi r (w64 (x * xt))).2) != 0)=false from (err_has' (zp.1 (by assumption)) _))
      rcases Bool.eq_false_or_eq_true xC with h16 | h16
      ·try simp only [cond_true,cond_false]
       rw [cond_t h16]
       intro hf12
       exact po_turn ((l_RangesQuotients_12_f_o1 r x xt)++[.dec true,.dec false,.rw 95 (B true)]) (Ai (congrArg B h16) (Ai p2 (Ai h15 (Ai p1 (Ai h14 (Ai h13 (Ai h12 trivial))))))) (ih true (w64 (xt+1)) hf12 (by omega) (by omega) (by omega) (by simp only [List.length_append,List.length_cons,List.length_nil,zO] at * <;> omega)) (by kernel_rfl)
      ·try simp only [cond_true,cond_false]
       rw [cond_f h16]
       intro hf12
       exact po_turn ((l_RangesQuotients_12_f_o1 r x xt)++[.dec true,.dec false,.rw 95 (B false)]) (Ai (congrArg B h16) (Ai p2 (Ai h15 (Ai p1 (Ai h14 (Ai h13 (Ai h12 trivial))))))) (ih true (w64 (xt+1)) hf12 (by omega) (by omega) (by omega) (by simp only [List.length_append,List.length_cons,List.length_nil,zO] at * <;> omega)) (by kernel_rfl)
     | false =>
      have p3:=(show (((zi r (w64 (x * xt))).2) != 0)=false from (err_has' (zp.1 (by assumption)) _))
      rcases Bool.eq_false_or_eq_true xC with h17 | h17
      ·try simp only [cond_true,cond_false]
       rw [cond_t h17]
       intro hf12
       exact po_turn ((l_RangesQuotients_12_f_o1 r x xt)++[.dec false,.dec false,.rw 95 (B true)]) (Ai (congrArg B h17) (Ai p3 (Ai h15 (Ai p1 (Ai h14 (Ai h13 (Ai h12 trivial))))))) (ih true (w64 (xt+1)) hf12 (by omega) (by omega) (by omega) (by simp only [List.length_append,List.length_cons,List.length_nil,zO] at * <;> omega)) (by kernel_rfl)
      ·try simp only [cond_true,cond_false]
       rw [cond_f h17]
       intro hf12
       exact po_turn ((l_RangesQuotients_12_f_o1 r x xt)++[.dec false,.dec false,.rw 95 (B false)]) (Ai (congrArg B h17) (Ai p3 (Ai h15 (Ai p1 (Ai h14 (Ai h13 (Ai h12 trivial))))))) (ih false (w64 (xt+1)) hf12 (by omega) (by omega) (by omega) (by simp only [List.length_append,List.length_cons,List.length_nil,zO] at * <;> omega)) (by kernel_rfl)
    | false =>
     have g14:=of_decide_eq_false h14
     intro hf12
     exact zy [.dec true,.dec true,.dec false] (Ai h14 (Ai h13 (Ai h12 trivial))) (by kernel_rfl)
   | false =>
    have g13:=of_decide_eq_false h13
    intro hf12
    exact zy [.dec true,.dec false] (Ai h13 (Ai h12 trivial)) (by kernel_rfl)
  | false =>
   have g12:=of_decide_eq_false h12
   intro hf12
   exact zy [.dec false] (Ai h12 trivial) (by kernel_rfl)
theorem ivt_l_RangesQuotients_12 (r:GS Sn) (k:Sn) (x:Int) (q12_0:Bool) (q12_1:Bool):∀ (w6:Nat) (xC:Bool) (xt:Int) (hf12:zK r k x w6 xC xt ≠ .out) (hk:1≤k.lo∧k.lo≤k.hi∧k.hi≤1000∧k.hi - k.lo≤99) (hvr:r_Valid r=true) (hlr:r.l.length≤64) (hc0:k.lo≤xt∧xt≤k.hi+1),iv_l_RangesQuotients_12 r k x q12_0 q12_1 (zK r k x w6 xC xt):=by
 intro w6
 induction w6 with
 | zero =>
  intro xC xt hf12 hk hvr hlr hc0
  exact absurd rfl hf12
 | succ w6 ih =>
  intro xC xt hf12 hk hvr hlr hc0
  unfold zK at hf12 ⊢
  revert hf12
  cases h12:decide (xt≤k.hi) with
  | true =>
   have g12:=of_decide_eq_true h12
   cases h13:decide (x ≥ (-1099511627776)) with
   | true =>
    have g13:=of_decide_eq_true h13
    cases h14:decide (x≤1099511627776) with
    | true =>
     have g14:=of_decide_eq_true h14
     cases h15:((zi r (w64 (x * xt))).1) with
     | true =>
      rcases Bool.eq_false_or_eq_true xC with h16 | h16
      ·try simp only [cond_true,cond_false]
       rw [cond_t h16]
       intro hf12
       exact ih true (w64 (xt+1)) hf12 (by omega) (by omega) (by omega) (by simp only [List.length_append,List.length_cons,List.length_nil,zO] at * <;> omega)
      ·try simp only [cond_true,cond_false]
       rw [cond_f h16]
       intro hf12
       exact ih true (w64 (xt+1)) hf12 (by omega) (by omega) (by omega) (by simp only [List.length_append,List.length_cons,List.length_nil,zO] at * <;> omega)
     | false =>
      rcases Bool.eq_false_or_eq_true xC with h17 | h17
      ·try simp only [cond_true,cond_false]
       rw [cond_t h17]
       intro hf12
       exact ih true (w64 (xt+1)) hf12 (by omega) (by omega) (by omega) (by simp only [List.length_append,List.length_cons,List.length_nil,zO] at * <;> omega)
      ·try simp only [cond_true,cond_false]
       rw [cond_f h17]
       intro hf12
       exact ih false (w64 (xt+1)) hf12 (by omega) (by omega) (by omega) (by simp only [List.length_append,List.length_cons,List.length_nil,zO] at * <;> omega)
    | false =>
     have g14:=of_decide_eq_false h14
     intro hf12
     exact hc0
   | false =>
    have g13:=of_decide_eq_false h13
    intro hf12
    exact hc0
  | false =>
   have g12:=of_decide_eq_false h12
   intro hf12
   exact hc0

def quotR:LR_l_RangesQuotients_12→Bool
 | .x0 v _=>v
 | .x1 v _=>v
 | .x2 v _=>v
 | .out=>false
theorem quot_loop {r:GS Sn} {k:Sn} {x:Int} (hr:Ok r.l) (hk:1≤k.lo∧k.lo≤k.hi∧k.hi≤1000∧k.hi - k.lo≤99):∀ (f:Nat) (v:Bool) (c:Int),1≤c→c≤k.hi+1→k.hi - c+1 < f→zK r k x f v c ≠ .out∧(quotR (zK r k x f v c)=true↔v=true ∨ ((-1099511627776≤x∧x≤1099511627776)∧∃ d,c≤d∧d≤k.hi∧In r.l (x * d)))
 | 0,v,c,h0,h1,h2=>by omega
 | f+1,v,c,h0,h1,h2=>by
  unfold zK
  by_cases hc:c≤k.hi
  ·rw [decide_eq_true hc,cond_true]
   by_cases x1:x ≥ -1099511627776
   ·rw [decide_eq_true x1,cond_true]
    by_cases x2:x≤1099511627776
    ·have hb:=mul_b (a:=x) (b:=c) (by omega) (by omega)
     rw [decide_eq_true x2,cond_true,has_ok hr,y9 (n:=x * c) (by omega) (by omega),y9 (n:=c+1) (by omega) (by omega)]
     have ih:=fun v'=>quot_loop (x:=x) hr hk f v' (c+1) (by omega) (by omega) (by omega)
     cases hin:inB r.l (x * c) with
     | true =>
      rw [cond_true,Bool.cond_self]
      refine ⟨(ih true).1,?_⟩
      rw [(ih true).2]
      exact ⟨fun _=>.inr ⟨⟨x1,x2⟩,c,Int.le_refl _,hc,inB_iff.1 hin⟩,fun _=>.inl rfl⟩
     | false =>
      have hn:=inB_false.1 hin
      have key:(v=true ∨ ((-1099511627776≤x∧x≤1099511627776)∧∃ d,c+1≤d∧d≤k.hi∧In r.l (x * d)))↔(v=true ∨ ((-1099511627776≤x∧x≤1099511627776)∧∃ d,c≤d∧d≤k.hi∧In r.l (x * d))):=by
       constructor
       ·rintro (h | ⟨h,d,d1,d2,d3⟩)
        ·exact .inl h
        ·exact .inr ⟨h,d,by omega,d2,d3⟩
       ·rintro (h | ⟨h,d,d1,d2,d3⟩)
        ·exact .inl h
        ·refine .inr ⟨h,d,?_,d2,d3⟩
         rcases Int.lt_or_eq_of_le d1 with h5 | h5
         ·omega
         ·rw [h5] at hn; exact absurd d3 hn
      rw [cond_false,← key]
      cases v with
      | true=>exact ih true
      | false=>exact ih false
    ·rw [decide_eq_false x2,cond_false]
     refine ⟨(by intro z; cases z),?_⟩
     simp only [quotR]
     exact ⟨.inl,fun h=>h.elim id fun h=>absurd h.1.2 x2⟩
   ·rw [decide_eq_false x1,cond_false]
    refine ⟨(by intro z; cases z),?_⟩
    simp only [quotR]
    exact ⟨.inl,fun h=>h.elim id fun h=>absurd h.1.1 x1⟩
  ·rw [decide_eq_false hc,cond_false]
   refine ⟨(by intro z; cases z),?_⟩
   simp only [quotR]
   exact ⟨.inl,fun h=>h.elim id fun ⟨_,d,d1,d2,_⟩=>by omega⟩
theorem quot_ne {r:GS Sn} {k:Sn} {x:Int} (hr:Ok r.l) (hk:1≤k.lo∧k.lo≤k.hi∧k.hi≤1000∧k.hi - k.lo≤99):zK r k x ((k.hi - k.lo).toNat+2) false k.lo ≠ .out:=(quot_loop hr hk _ _ _ (by omega) (by omega) (by omega)).1
theorem quot_1 {r:GS Sn} {k:Sn} {x:Int} {R:LR_l_RangesQuotients_12} {v:Bool} (hr:Ok r.l) (hk:1≤k.lo∧k.lo≤k.hi∧k.hi≤1000∧k.hi - k.lo≤99) (h:zK r k x ((k.hi - k.lo).toNat+2) false k.lo=R) (hv:quotR R=v):holdsB (tL0 r k) (((zi (tv1 r k) x).1) == v)=true:=by
 have q:=(quot_loop (x:=x) hr hk ((k.hi - k.lo).toNat+2) false k.lo (by omega) (by omega) (by omega)).2
 rw [h,hv] at q
 rcases quot_has hr hk x with h1 | h1
 ·exact holds_t7 h1
 ·refine holds_of (.inr ?_)
  have e:(zi (tv1 r k) x).1=v:=by
   rw [Bool.eq_iff_iff,h1,q]
   simp
  rw [e]; simp

noncomputable def lp10_100028:Code:=subC [1,1,1,1,1,1,1,1,1,1,1,1,1,1,1,1] (bodyC Tryz.f10)

def sd50004 (ν0 ν1 ν2 ν3 ν4 ν5:Nat) (μ0:VS.D) (μ1:VS.D) (μ2:VS.D) (μ3:VS.D) (μ4:VS.D) (μ5:VS.D) (μ6:VS.D) (μ7:VS.D) (μ8:VS.D) (μ9:VS.D) (μ10:VS.D) (μ11:VS.D) (μ12:VS.D) (μ13:VS.D) (μ14:VS.D) (μ15:VS.D) (μ16:VS.D) (μ17:VS.D) (μ18:VS.D) (μ19:VS.D) (μ20:VS.D) (μ21:VS.D) (μ22:VS.D) (μ23:VS.D) (μ24:VS.D) (μ25:VS.D) (μ26:VS.D) (μ27:VS.D) (μ28:VS.D) (μ29:VS.D) (μ30:VS.D) (μ31:VS.D) (μ32:VS.D) (μ33:VS.D) (μ34:VS.D) (μ35:VS.D) (μ36:VS.D) (μ37:VS.D) (μ38:VS.D) (μ39:VS.D) (μ40:VS.D) (μ41:VS.D) (μ42:VS.D) (μ43:VS.D) (μ44:VS.D) (μ45:VS.D) (μ46:VS.D) (μ47:VS.D) (μ48:VS.D) (μ49:VS.D) (μ50:VS.D) (μ51:VS.D) (μ52:VS.D) (μ53:VS.D) (μ54:VS.D) (μ55:VS.D) (μ56:VS.D) (μ57:VS.D) (μ58:VS.D) (μ59:VS.D) (μ60:VS.D) (μ61:VS.D) (μ62:VS.D) (μ63:VS.D) (μ64:VS.D) (μ65:VS.D) (μ66:VS.D) (μ67:VS.D) (μ68:VS.D) (μ69:VS.D) (μ70:VS.D) (μ71:VS.D) (μ72:VS.D) (μ73:VS.D) (μ74:VS.D) (μ75:VS.D) (μ76:VS.D) (μ77:VS.D) (μ78:VS.D) (μ79:VS.D) (μ80:VS.D) (μ81:VS.D) (μ82:VS.D) (μ83:VS.D) (μ84:GS Sn) (μ85:VS.D) (μ86:VS.D) (μ87:VS.D) (μ88:VS.D) (μ89:VS.D) (μ90:VS.D) (μ91:Sn) (μ92:Bool) (μ93:Bool):St:=⟨194,[(165,μ0),(164,μ1),(163,μ2),(162,μ3),(161,μ4),(160,μ5),(159,μ6),(158,μ7),(10,μ8),(19,μ9),(157,μ10),(156,μ11),(146,μ12),(155,μ13),(154,μ14),(153,μ15),(152,μ16),(151,μ17),(150,μ18),(149,μ19),(148,μ20),(147,μ21),(145,μ22),(144,μ23),(143,μ24),(142,μ25),(141,μ26),(140,μ27),(139,μ28),(138,μ29),(137,μ30),(136,μ31),(135,μ32),(134,μ33),(133,μ34),(132,μ35),(131,μ36),(130,μ37),(129,μ38),(128,μ39),(127,μ40),(126,μ41),(125,μ42),(124,μ43),(123,μ44),(122,μ45),(121,μ46),(120,μ47),(18,μ48),(119,μ49),(118,μ50),(117,μ51),(116,μ52),(115,μ53),(114,μ54),(113,μ55),(17,μ56),(112,μ57),(111,μ58),(16,μ59),(15,.lref ν0 0 2 0),(110,μ60),(109,μ61),(108,μ62),(107,μ63),(106,μ64),(105,μ65),(104,μ66),(103,μ67),(102,μ68),(101,μ69),(100,μ70),(99,μ71),(82,μ72),(81,μ73),(80,μ74),(79,μ75),(78,μ76),(77,μ77),(76,μ78),(75,μ79),(74,μ80),(73,μ81),(72,μ82),(71,μ83),(0,.sl μ84.nl (μ84.l.map Sn.D) (zsl μ84.nl 2) none),(2,μ85),(4,μ86),(7,μ87),(9,μ88),(11,μ89),(12,μ90)],[(ν1,⟨[.agg [I μ91.lo,I μ91.hi]],2,false⟩),(ν2,⟨[.agg [B μ92,B false]],2,false⟩),(ν0,⟨[.agg [I μ91.lo,I μ91.lo]],2,false⟩),(ν3,⟨[.agg [I 1,I 1]],2,false⟩),(ν4,⟨[.agg [B μ93,B false]],2,false⟩)],ν5,ν1⟩

theorem holds_5_6 (L:Bool) (z:Bool):(lim cfg).inl 38 [.lref 5 0 2 0,B z] [(5,⟨[.agg [B L,B false]],2,false⟩)] 6=some (B (holdsB L z),[(5,⟨[.agg [B L,B false]],2,false⟩)],6):=by
 unfold holdsB
 rcases Bool.eq_false_or_eq_true L with h1 | h1
 ·try simp only [cond_true,cond_false]
  rw [cond_t h1]
  exact zH [.dec false,.dec true] (Ai h1 (Ai (Eq.refl false) trivial)) (by kernel_rfl)
 ·try simp only [cond_true,cond_false]
  rw [cond_f h1]
  exact zH [.dec false,.dec false] (Ai h1 (Ai (Eq.refl false) trivial)) (by kernel_rfl)

theorem take_5_6 (L:Bool) (r:GS Sn) (e:Int) (hL:r.l.length≤9223372036854775807) (ht:Tkn r e):(lim cfg).inl 36 [.lref 5 0 2 0,.sl r.nl (r.l.map Sn.D) (zsl r.nl 2) none,I e] [(5,⟨[.agg [B L,B false]],2,false⟩)] 6=some (.sl ((takeR r e).nl) (((takeR r e).l).map Sn.D) (zsl ((takeR r e).nl) 2) none,[(5,⟨[.agg [B (takeL L e),B false]],2,false⟩)],6):=by
 unfold takeR takeL
 cases h1:(e == 2) with
 | true =>
  have g1:=eq_of_beq h1
  exact zH [.dec true] (Ai h1 trivial) (by kernel_rfl)
 | false =>
  have g1:=ne_of_beq_false h1
  exact zH [.dec false,.dec false,.pure (I (r_Check r)),.dec false] (Ai (show ((r_Check r) != 0)=false from (tk_r ht h1)) (Ai (T_r_Check r (by omega)) (Ai (show (e != 0)=false from (tk_e ht h1)) (Ai h1 trivial)))) (by kernel_rfl)

noncomputable def lp10_100020:Code:=subC [1,1,1,1,1,1,1,1,1,1] (bodyC Tryz.f10)

def sd50007 (ν0 ν1 ν2:Nat) (μ0:VS.D) (μ1:VS.D) (μ2:VS.D) (μ3:VS.D) (μ4:VS.D) (μ5:VS.D) (μ6:VS.D) (μ7:VS.D) (μ8:VS.D) (μ9:VS.D) (μ10:VS.D) (μ11:VS.D) (μ12:VS.D) (μ13:VS.D) (μ14:VS.D) (μ15:VS.D) (μ16:VS.D) (μ17:VS.D) (μ18:GS Sn) (μ19:VS.D) (μ20:VS.D) (μ21:VS.D) (μ22:VS.D) (μ23:VS.D) (μ24:Sn) (μ25:Bool):St:=⟨194,[(104,μ0),(103,μ1),(102,μ2),(101,μ3),(100,μ4),(99,μ5),(82,μ6),(81,μ7),(80,μ8),(79,μ9),(78,μ10),(77,μ11),(76,μ12),(75,μ13),(74,μ14),(73,μ15),(72,μ16),(71,μ17),(0,.sl μ18.nl (μ18.l.map Sn.D) (zsl μ18.nl 2) none),(2,μ19),(4,.lref ν0 0 2 0),(7,μ20),(9,μ21),(11,μ22),(12,μ23)],[(ν0,⟨[.agg [I μ24.lo,I μ24.hi]],2,false⟩),(ν1,⟨[.agg [B μ25,B false]],2,false⟩)],ν2,ν0⟩

def sd50005 (ν0 ν1 ν2 ν3 ν4 ν5:Nat) (μ0:GS Sn) (μ1:Sn) (μ2:VS.D) (μ3:VS.D) (μ4:VS.D) (μ5:VS.D) (μ6:VS.D) (μ7:VS.D) (μ8:VS.D) (μ9:VS.D) (μ10:VS.D) (μ11:VS.D) (μ12:VS.D) (μ13:VS.D) (μ14:VS.D) (μ15:VS.D) (μ16:VS.D) (μ17:VS.D) (μ18:VS.D) (μ19:VS.D) (μ20:VS.D) (μ21:VS.D) (μ22:VS.D) (μ23:VS.D) (μ24:VS.D) (μ25:Bool):St:=⟨194,[(165,B false),(164,B true),(163,B true),(162,B true),(161,I ((zq (tv3 μ0 μ1) (tv9 μ0 μ1)).2)),(160,B true),(159,B true),(158,.lref ν0 0 2 0),(10,I ((zq (tv3 μ0 μ1) (tv9 μ0 μ1)).2)),(19,B true),(157,I ((zq (tv3 μ0 μ1) (tv9 μ0 μ1)).2)),(156,B true),(146,.tup [B ((zq (tv3 μ0 μ1) (tv9 μ0 μ1)).1),I ((zq (tv3 μ0 μ1) (tv9 μ0 μ1)).2)]),(155,.tup [B ((zq (tv3 μ0 μ1) (tv9 μ0 μ1)).1),I ((zq (tv3 μ0 μ1) (tv9 μ0 μ1)).2)]),(154,.sl ((tv9 μ0 μ1).nl) (((tv9 μ0 μ1).l).map Sn.D) (zsl ((tv9 μ0 μ1).nl) 2) none),(153,I ((zb μ0 μ1).2)),(152,.sl (((zb μ0 μ1).1).nl) ((((zb μ0 μ1).1).l).map Sn.D) (zsl (((zb μ0 μ1).1).nl) 2) none),(151,.tup [.sl (((zb μ0 μ1).1).nl) ((((zb μ0 μ1).1).l).map Sn.D) (zsl (((zb μ0 μ1).1).nl) 2) none,I ((zb μ0 μ1).2)]),(150,.agg [I μ1.lo,I μ1.hi]),(149,.sl μ0.nl (μ0.l.map Sn.D) (zsl μ0.nl 2) none),(148,.lref ν0 0 2 0),(147,.sl ((tv3 μ0 μ1).nl) (((tv3 μ0 μ1).l).map Sn.D) (zsl ((tv3 μ0 μ1).nl) 2) none),(145,B false),(144,B false),(143,B true),(142,B (r_Same (tv7 μ0) μ0)),(141,.sl μ0.nl (μ0.l.map Sn.D) (zsl μ0.nl 2) none),(140,.sl ((tv7 μ0).nl) (((tv7 μ0).l).map Sn.D) (zsl ((tv7 μ0).nl) 2) none),(139,I ((zb μ0 (⟨1,1⟩:Sn)).2)),(138,.sl (((zb μ0 (⟨1,1⟩:Sn)).1).nl) ((((zb μ0 (⟨1,1⟩:Sn)).1).l).map Sn.D) (zsl (((zb μ0 (⟨1,1⟩:Sn)).1).nl) 2) none),(137,.tup [.sl (((zb μ0 (⟨1,1⟩:Sn)).1).nl) ((((zb μ0 (⟨1,1⟩:Sn)).1).l).map Sn.D) (zsl (((zb μ0 (⟨1,1⟩:Sn)).1).nl) 2) none,I ((zb μ0 (⟨1,1⟩:Sn)).2)]),(136,.agg [I 1,I 1]),(135,.sl μ0.nl (μ0.l.map Sn.D) (zsl μ0.nl 2) none),(134,.lref ν0 0 2 0),(133,.lref ν0 0 2 0),(132,B false),(131,B false),(130,B true),(129,B (r_Same (tv5 μ0 μ1) μ0)),(128,.sl μ0.nl (μ0.l.map Sn.D) (zsl μ0.nl 2) none),(127,.sl ((tv5 μ0 μ1).nl) (((tv5 μ0 μ1).l).map Sn.D) (zsl ((tv5 μ0 μ1).nl) 2) none),(126,I ((zk (tv3 μ0 μ1) (⟨μ1.lo,μ1.lo⟩:Sn)).2)),(125,.sl (((zk (tv3 μ0 μ1) (⟨μ1.lo,μ1.lo⟩:Sn)).1).nl) ((((zk (tv3 μ0 μ1) (⟨μ1.lo,μ1.lo⟩:Sn)).1).l).map Sn.D) (zsl (((zk (tv3 μ0 μ1) (⟨μ1.lo,μ1.lo⟩:Sn)).1).nl) 2) none),(124,.tup [.sl (((zk (tv3 μ0 μ1) (⟨μ1.lo,μ1.lo⟩:Sn)).1).nl) ((((zk (tv3 μ0 μ1) (⟨μ1.lo,μ1.lo⟩:Sn)).1).l).map Sn.D) (zsl (((zk (tv3 μ0 μ1) (⟨μ1.lo,μ1.lo⟩:Sn)).1).nl) 2) none,I ((zk (tv3 μ0 μ1) (⟨μ1.lo,μ1.lo⟩:Sn)).2)]),(123,.agg [I μ1.lo,I μ1.lo]),(122,.sl ((tv3 μ0 μ1).nl) (((tv3 μ0 μ1).l).map Sn.D) (zsl ((tv3 μ0 μ1).nl) 2) none),(121,.lref ν0 0 2 0),(120,.lref ν0 0 2 0),(18,.sl ((tv3 μ0 μ1).nl) (((tv3 μ0 μ1).l).map Sn.D) (zsl ((tv3 μ0 μ1).nl) 2) none),(119,.sl ((tv3 μ0 μ1).nl) (((tv3 μ0 μ1).l).map Sn.D) (zsl ((tv3 μ0 μ1).nl) 2) none),(118,I ((zb μ0 (⟨μ1.lo,μ1.lo⟩:Sn)).2)),(117,.sl (((zb μ0 (⟨μ1.lo,μ1.lo⟩:Sn)).1).nl) ((((zb μ0 (⟨μ1.lo,μ1.lo⟩:Sn)).1).l).map Sn.D) (zsl (((zb μ0 (⟨μ1.lo,μ1.lo⟩:Sn)).1).nl) 2) none),(116,.tup [.sl (((zb μ0 (⟨μ1.lo,μ1.lo⟩:Sn)).1).nl) ((((zb μ0 (⟨μ1.lo,μ1.lo⟩:Sn)).1).l).map Sn.D) (zsl (((zb μ0 (⟨μ1.lo,μ1.lo⟩:Sn)).1).nl) 2) none,I ((zb μ0 (⟨μ1.lo,μ1.lo⟩:Sn)).2)]),(115,.agg [I μ1.lo,I μ1.lo]),(114,.sl μ0.nl (μ0.l.map Sn.D) (zsl μ0.nl 2) none),(113,.lref ν0 0 2 0),(17,.lref ν0 0 2 0),(112,.lref ν0 0 2 0),(111,.agg [B false,B false]),(16,.lref ν1 0 2 0),(15,.lref ν2 0 2 0),(110,.agg [I 1,I 1]),(109,.agg [I μ1.lo,I μ1.lo]),(108,I μ1.lo),(107,.lref ν3 0 2 0),(106,I μ1.lo),(105,.lref ν3 0 2 0),(104,μ2),(103,μ3),(102,μ4),(101,μ5),(100,μ6),(99,μ7),(82,μ8),(81,μ9),(80,μ10),(79,μ11),(78,μ12),(77,μ13),(76,μ14),(75,μ15),(74,μ16),(73,μ17),(72,μ18),(71,μ19),(0,.sl μ0.nl (μ0.l.map Sn.D) (zsl μ0.nl 2) none),(2,μ20),(4,.lref ν3 0 2 0),(7,μ21),(9,μ22),(11,μ23),(12,μ24)],[(ν3,⟨[.agg [I μ1.lo,I μ1.hi]],2,false⟩),(ν4,⟨[.agg [B μ25,B false]],2,false⟩),(ν2,⟨[.agg [I μ1.lo,I μ1.lo]],2,false⟩),(ν1,⟨[.agg [I 1,I 1]],2,false⟩),(ν0,⟨[.agg [B (tL8 μ0 μ1),B false]],2,false⟩)],ν5,ν3⟩

theorem holds_4_5 (L:Bool) (z:Bool):(lim cfg).inl 38 [.lref 4 0 2 0,B z] [(4,⟨[.agg [B L,B false]],2,false⟩)] 5=some (B (holdsB L z),[(4,⟨[.agg [B L,B false]],2,false⟩)],5):=by
 unfold holdsB
 rcases Bool.eq_false_or_eq_true L with h1 | h1
 ·try simp only [cond_true,cond_false]
  rw [cond_t h1]
  exact zH [.dec false,.dec true] (Ai h1 (Ai (Eq.refl false) trivial)) (by kernel_rfl)
 ·try simp only [cond_true,cond_false]
  rw [cond_f h1]
  exact zH [.dec false,.dec false] (Ai h1 (Ai (Eq.refl false) trivial)) (by kernel_rfl)

theorem take_4_5 (L:Bool) (r:GS Sn) (e:Int) (hL:r.l.length≤9223372036854775807) (ht:Tkn r e):(lim cfg).inl 36 [.lref 4 0 2 0,.sl r.nl (r.l.map Sn.D) (zsl r.nl 2) none,I e] [(4,⟨[.agg [B L,B false]],2,false⟩)] 5=some (.sl ((takeR r e).nl) (((takeR r e).l).map Sn.D) (zsl ((takeR r e).nl) 2) none,[(4,⟨[.agg [B (takeL L e),B false]],2,false⟩)],5):=by
 unfold takeR takeL
 cases h1:(e == 2) with
 | true =>
  have g1:=eq_of_beq h1
  exact zH [.dec true] (Ai h1 trivial) (by kernel_rfl)
 | false =>
  have g1:=ne_of_beq_false h1
  exact zH [.dec false,.dec false,.pure (I (r_Check r)),.dec false] (Ai (show ((r_Check r) != 0)=false from (tk_r ht h1)) (Ai (T_r_Check r (by omega)) (Ai (show (e != 0)=false from (tk_e ht h1)) (Ai h1 trivial)))) (by kernel_rfl)

def sd50006 (ν0 ν1 ν2 ν3 ν4 ν5:Nat) (μ0:GS Sn) (μ1:Sn) (μ2:VS.D) (μ3:VS.D) (μ4:VS.D) (μ5:VS.D) (μ6:VS.D) (μ7:VS.D) (μ8:VS.D) (μ9:VS.D) (μ10:VS.D) (μ11:VS.D) (μ12:VS.D) (μ13:VS.D) (μ14:VS.D) (μ15:VS.D) (μ16:VS.D) (μ17:VS.D) (μ18:VS.D) (μ19:VS.D) (μ20:VS.D) (μ21:VS.D) (μ22:VS.D) (μ23:VS.D) (μ24:VS.D) (μ25:Bool):St:=⟨194,[(165,B false),(164,B true),(163,B false),(162,.tup []),(161,.tup []),(160,B false),(159,B false),(158,.lref ν0 0 2 0),(10,I ((zq (tv3 μ0 μ1) (tv9 μ0 μ1)).2)),(19,B false),(157,I ((zq (tv3 μ0 μ1) (tv9 μ0 μ1)).2)),(156,B false),(146,.tup [B ((zq (tv3 μ0 μ1) (tv9 μ0 μ1)).1),I ((zq (tv3 μ0 μ1) (tv9 μ0 μ1)).2)]),(155,.tup [B ((zq (tv3 μ0 μ1) (tv9 μ0 μ1)).1),I ((zq (tv3 μ0 μ1) (tv9 μ0 μ1)).2)]),(154,.sl ((tv9 μ0 μ1).nl) (((tv9 μ0 μ1).l).map Sn.D) (zsl ((tv9 μ0 μ1).nl) 2) none),(153,I ((zb μ0 μ1).2)),(152,.sl (((zb μ0 μ1).1).nl) ((((zb μ0 μ1).1).l).map Sn.D) (zsl (((zb μ0 μ1).1).nl) 2) none),(151,.tup [.sl (((zb μ0 μ1).1).nl) ((((zb μ0 μ1).1).l).map Sn.D) (zsl (((zb μ0 μ1).1).nl) 2) none,I ((zb μ0 μ1).2)]),(150,.agg [I μ1.lo,I μ1.hi]),(149,.sl μ0.nl (μ0.l.map Sn.D) (zsl μ0.nl 2) none),(148,.lref ν0 0 2 0),(147,.sl ((tv3 μ0 μ1).nl) (((tv3 μ0 μ1).l).map Sn.D) (zsl ((tv3 μ0 μ1).nl) 2) none),(145,B false),(144,B false),(143,B true),(142,B (r_Same (tv7 μ0) μ0)),(141,.sl μ0.nl (μ0.l.map Sn.D) (zsl μ0.nl 2) none),(140,.sl ((tv7 μ0).nl) (((tv7 μ0).l).map Sn.D) (zsl ((tv7 μ0).nl) 2) none),(139,I ((zb μ0 (⟨1,1⟩:Sn)).2)),(138,.sl (((zb μ0 (⟨1,1⟩:Sn)).1).nl) ((((zb μ0 (⟨1,1⟩:Sn)).1).l).map Sn.D) (zsl (((zb μ0 (⟨1,1⟩:Sn)).1).nl) 2) none),(137,.tup [.sl (((zb μ0 (⟨1,1⟩:Sn)).1).nl) ((((zb μ0 (⟨1,1⟩:Sn)).1).l).map Sn.D) (zsl (((zb μ0 (⟨1,1⟩:Sn)).1).nl) 2) none,I ((zb μ0 (⟨1,1⟩:Sn)).2)]),(136,.agg [I 1,I 1]),(135,.sl μ0.nl (μ0.l.map Sn.D) (zsl μ0.nl 2) none),(134,.lref ν0 0 2 0),(133,.lref ν0 0 2 0),(132,B false),(131,B false),(130,B true),(129,B (r_Same (tv5 μ0 μ1) μ0)),(128,.sl μ0.nl (μ0.l.map Sn.D) (zsl μ0.nl 2) none),(127,.sl ((tv5 μ0 μ1).nl) (((tv5 μ0 μ1).l).map Sn.D) (zsl ((tv5 μ0 μ1).nl) 2) none),(126,I ((zk (tv3 μ0 μ1) (⟨μ1.lo,μ1.lo⟩:Sn)).2)),(125,.sl (((zk (tv3 μ0 μ1) (⟨μ1.lo,μ1.lo⟩:Sn)).1).nl) ((((zk (tv3 μ0 μ1) (⟨μ1.lo,μ1.lo⟩:Sn)).1).l).map Sn.D) (zsl (((zk (tv3 μ0 μ1) (⟨μ1.lo,μ1.lo⟩:Sn)).1).nl) 2) none),(124,.tup [.sl (((zk (tv3 μ0 μ1) (⟨μ1.lo,μ1.lo⟩:Sn)).1).nl) ((((zk (tv3 μ0 μ1) (⟨μ1.lo,μ1.lo⟩:Sn)).1).l).map Sn.D) (zsl (((zk (tv3 μ0 μ1) (⟨μ1.lo,μ1.lo⟩:Sn)).1).nl) 2) none,I ((zk (tv3 μ0 μ1) (⟨μ1.lo,μ1.lo⟩:Sn)).2)]),(123,.agg [I μ1.lo,I μ1.lo]),(122,.sl ((tv3 μ0 μ1).nl) (((tv3 μ0 μ1).l).map Sn.D) (zsl ((tv3 μ0 μ1).nl) 2) none),(121,.lref ν0 0 2 0),(120,.lref ν0 0 2 0),(18,.sl ((tv3 μ0 μ1).nl) (((tv3 μ0 μ1).l).map Sn.D) (zsl ((tv3 μ0 μ1).nl) 2) none),(119,.sl ((tv3 μ0 μ1).nl) (((tv3 μ0 μ1).l).map Sn.D) (zsl ((tv3 μ0 μ1).nl) 2) none),(118,I ((zb μ0 (⟨μ1.lo,μ1.lo⟩:Sn)).2)),(117,.sl (((zb μ0 (⟨μ1.lo,μ1.lo⟩:Sn)).1).nl) ((((zb μ0 (⟨μ1.lo,μ1.lo⟩:Sn)).1).l).map Sn.D) (zsl (((zb μ0 (⟨μ1.lo,μ1.lo⟩:Sn)).1).nl) 2) none),(116,.tup [.sl (((zb μ0 (⟨μ1.lo,μ1.lo⟩:Sn)).1).nl) ((((zb μ0 (⟨μ1.lo,μ1.lo⟩:Sn)).1).l).map Sn.D) (zsl (((zb μ0 (⟨μ1.lo,μ1.lo⟩:Sn)).1).nl) 2) none,I ((zb μ0 (⟨μ1.lo,μ1.lo⟩:Sn)).2)]),(115,.agg [I μ1.lo,I μ1.lo]),(114,.sl μ0.nl (μ0.l.map Sn.D) (zsl μ0.nl 2) none),(113,.lref ν0 0 2 0),(17,.lref ν0 0 2 0),(112,.lref ν0 0 2 0),(111,.agg [B false,B false]),(16,.lref ν1 0 2 0),(15,.lref ν2 0 2 0),(110,.agg [I 1,I 1]),(109,.agg [I μ1.lo,I μ1.lo]),(108,I μ1.lo),(107,.lref ν3 0 2 0),(106,I μ1.lo),(105,.lref ν3 0 2 0),(104,μ2),(103,μ3),(102,μ4),(101,μ5),(100,μ6),(99,μ7),(82,μ8),(81,μ9),(80,μ10),(79,μ11),(78,μ12),(77,μ13),(76,μ14),(75,μ15),(74,μ16),(73,μ17),(72,μ18),(71,μ19),(0,.sl μ0.nl (μ0.l.map Sn.D) (zsl μ0.nl 2) none),(2,μ20),(4,.lref ν3 0 2 0),(7,μ21),(9,μ22),(11,μ23),(12,μ24)],[(ν3,⟨[.agg [I μ1.lo,I μ1.hi]],2,false⟩),(ν4,⟨[.agg [B μ25,B false]],2,false⟩),(ν2,⟨[.agg [I μ1.lo,I μ1.lo]],2,false⟩),(ν1,⟨[.agg [I 1,I 1]],2,false⟩),(ν0,⟨[.agg [B (tL8 μ0 μ1),B false]],2,false⟩)],ν5,ν3⟩

def l_RangesQuotients_c28 (r:GS Sn) (k:Sn):Bool :=
 bif ((zq (tv13 r k) r).1) then
  true
 else
  true

theorem R_l_RangesQuotients_c28 (r:GS Sn) (k:Sn) (qC20_0:Bool) (qC28_0:Bool) (d28_0:VS.D) (d28_1:VS.D) (d28_2:VS.D) (d28_3:VS.D) (d28_4:VS.D) (d28_5:VS.D) (d28_6:VS.D) (d28_7:VS.D) (d28_8:VS.D) (d28_9:VS.D) (d28_10:VS.D) (d28_11:VS.D) (d28_12:VS.D) (d28_13:VS.D) (d28_14:VS.D) (d28_15:VS.D) (d28_16:VS.D) (d28_17:VS.D) (d28_18:VS.D) (d28_19:VS.D) (d28_20:VS.D) (d28_21:VS.D) (d28_22:VS.D) (d28_23:VS.D) (d28_24:VS.D) (d28_25:VS.D) (d28_26:VS.D) (d28_27:VS.D) (d28_28:VS.D) (d28_29:VS.D) (d28_30:VS.D) (d28_31:VS.D) (d28_32:VS.D) (d28_33:VS.D) (d28_34:VS.D) (d28_35:VS.D) (d28_36:VS.D) (d28_37:VS.D) (d28_38:VS.D) (d28_39:VS.D) (d28_40:VS.D) (d28_41:VS.D) (d28_42:VS.D) (d28_43:VS.D) (d28_44:VS.D) (d28_45:VS.D) (d28_46:VS.D) (d28_47:VS.D) (d28_48:VS.D) (d28_49:VS.D) (d28_50:VS.D) (d28_51:VS.D) (d28_52:VS.D) (d28_53:VS.D) (d28_54:VS.D) (d28_55:VS.D) (d28_56:VS.D) (d28_57:VS.D) (d28_58:VS.D) (d28_59:VS.D) (d28_60:VS.D) (d28_61:VS.D) (d28_62:VS.D) (d28_63:VS.D) (d28_64:VS.D) (d28_65:VS.D) (d28_66:VS.D) (d28_67:VS.D) (d28_68:VS.D) (d28_69:VS.D) (d28_70:VS.D) (d28_71:VS.D) (d28_72:VS.D) (d28_73:VS.D) (d28_74:VS.D) (d28_75:VS.D) (d28_76:VS.D) (d28_77:VS.D) (d28_78:VS.D) (d28_79:VS.D) (d28_80:VS.D) (d28_81:VS.D) (d28_82:VS.D) (d28_83:VS.D) (d28_84:VS.D) (d28_85:VS.D) (d28_86:VS.D) (d28_87:VS.D) (d28_88:VS.D) (d28_89:VS.D) (hk:1≤k.lo∧k.lo≤k.hi∧k.hi≤1000∧k.hi - k.lo≤99) (hvr:r_Valid r=true) (hlr:r.l.length≤64):RestOK cfg 10 lp10_100028 (sd50004 2 0 1 3 4 5 d28_0 d28_1 d28_2 d28_3 d28_4 d28_5 d28_6 d28_7 d28_8 d28_9 d28_10 d28_11 d28_12 d28_13 d28_14 d28_15 d28_16 d28_17 d28_18 d28_19 d28_20 d28_21 d28_22 d28_23 d28_24 d28_25 d28_26 d28_27 d28_28 d28_29 d28_30 d28_31 d28_32 d28_33 d28_34 d28_35 d28_36 d28_37 d28_38 d28_39 d28_40 d28_41 d28_42 d28_43 d28_44 d28_45 d28_46 d28_47 d28_48 d28_49 d28_50 d28_51 d28_52 d28_53 d28_54 d28_55 d28_56 d28_57 d28_58 d28_59 d28_60 d28_61 d28_62 d28_63 d28_64 d28_65 d28_66 d28_67 d28_68 d28_69 d28_70 d28_71 d28_72 d28_73 d28_74 d28_75 d28_76 d28_77 d28_78 d28_79 d28_80 d28_81 d28_82 d28_83 r d28_84 d28_85 d28_86 d28_87 d28_88 d28_89 k qC20_0 qC28_0) (B (l_RangesQuotients_c28 r k)):=by
 unfold l_RangesQuotients_c28
 cases h21:((zq (tv13 r k) r).1) with
 | true =>
  exact po_rest [.pure (.tup [.sl (((zk r (⟨k.lo,k.lo⟩:Sn)).1).nl) ((((zk r (⟨k.lo,k.lo⟩:Sn)).1).l).map Sn.D) (zsl (((zk r (⟨k.lo,k.lo⟩:Sn)).1).nl) 2) none,I ((zk r (⟨k.lo,k.lo⟩:Sn)).2)]),.inl (.sl ((tv11 r k).nl) (((tv11 r k).l).map Sn.D) (zsl ((tv11 r k).nl) 2) none) [(5,⟨[.agg [B (tL10 r k),B false]],2,false⟩)] 6,.pure (.tup [.sl (((zb (tv11 r k) (⟨k.lo,k.lo⟩:Sn)).1).nl) ((((zb (tv11 r k) (⟨k.lo,k.lo⟩:Sn)).1).l).map Sn.D) (zsl (((zb (tv11 r k) (⟨k.lo,k.lo⟩:Sn)).1).nl) 2) none,I ((zb (tv11 r k) (⟨k.lo,k.lo⟩:Sn)).2)]),.inl (.sl ((tv13 r k).nl) (((tv13 r k).l).map Sn.D) (zsl ((tv13 r k).nl) 2) none) [(5,⟨[.agg [B (tL12 r k),B false]],2,false⟩)] 6,.pure (.tup [B ((zq (tv13 r k) r).1),I ((zq (tv13 r k) r).2)]),.dec true,.dec true,.inl (B (holdsB (tL12 r k) true)) [(5,⟨[.agg [B (tL12 r k),B false]],2,false⟩)] 6,.dec true] [] (Ai (show (holdsB (tL12 r k) true)=true from (holds_of (.inr rfl))) (Ai (holds_5_6 (tL12 r k) true) (Ai (show (((zq (tv13 r k) r).2) == 0)=true from (err_within0 (ok_take (yd (ok_take (tk_Over (zp.1 (by assumption)) (by first | omega | (dsimp only; omega)))) (by first | omega | (dsimp only; omega)))) (zp.1 (by assumption)))) (Ai h21 (Ai (T_ranges_Within (tv13 r k) r (Nat.le_trans (ok64 (ok_take (yd (ok_take (tk_Over (zp.1 (by assumption)) (by first | omega | (dsimp only; omega)))) (by first | omega | (dsimp only; omega))))) (by decide)) (by omega) (by omega)) (Ai (take_5_6 (tL10 r k) ((zb (tv11 r k) (⟨k.lo,k.lo⟩:Sn)).1) ((zb (tv11 r k) (⟨k.lo,k.lo⟩:Sn)).2) (tkn_len (yd (ok_take (tk_Over (zp.1 (by assumption)) (by first | omega | (dsimp only; omega)))) (by first | omega | (dsimp only; omega)))) (yd (ok_take (tk_Over (zp.1 (by assumption)) (by first | omega | (dsimp only; omega)))) (by first | omega | (dsimp only; omega)))) (Ai (T_ranges_Times (tv11 r k) (⟨k.lo,k.lo⟩:Sn) (Nat.le_trans (ok64 (ok_take (tk_Over (zp.1 (by assumption)) (by first | omega | (dsimp only; omega))))) (by decide)) (Nat.le_trans (ok64 (ok_take (tk_Over (zp.1 (by assumption)) (by first | omega | (dsimp only; omega))))) (by decide))) (Ai (take_5_6 false ((zk r (⟨k.lo,k.lo⟩:Sn)).1) ((zk r (⟨k.lo,k.lo⟩:Sn)).2) (tkn_len (tk_Over (zp.1 (by assumption)) (by first | omega | (dsimp only; omega)))) (tk_Over (zp.1 (by assumption)) (by first | omega | (dsimp only; omega)))) (Ai (T_ranges_Over r (⟨k.lo,k.lo⟩:Sn) (by omega) (by omega)) trivial))))))))) (by kernel_rfl)
 | false =>
  exact po_rest [.pure (.tup [.sl (((zk r (⟨k.lo,k.lo⟩:Sn)).1).nl) ((((zk r (⟨k.lo,k.lo⟩:Sn)).1).l).map Sn.D) (zsl (((zk r (⟨k.lo,k.lo⟩:Sn)).1).nl) 2) none,I ((zk r (⟨k.lo,k.lo⟩:Sn)).2)]),.inl (.sl ((tv11 r k).nl) (((tv11 r k).l).map Sn.D) (zsl ((tv11 r k).nl) 2) none) [(5,⟨[.agg [B (tL10 r k),B false]],2,false⟩)] 6,.pure (.tup [.sl (((zb (tv11 r k) (⟨k.lo,k.lo⟩:Sn)).1).nl) ((((zb (tv11 r k) (⟨k.lo,k.lo⟩:Sn)).1).l).map Sn.D) (zsl (((zb (tv11 r k) (⟨k.lo,k.lo⟩:Sn)).1).nl) 2) none,I ((zb (tv11 r k) (⟨k.lo,k.lo⟩:Sn)).2)]),.inl (.sl ((tv13 r k).nl) (((tv13 r k).l).map Sn.D) (zsl ((tv13 r k).nl) 2) none) [(5,⟨[.agg [B (tL12 r k),B false]],2,false⟩)] 6,.pure (.tup [B ((zq (tv13 r k) r).1),I ((zq (tv13 r k) r).2)]),.dec false,.inl (B (holdsB (tL12 r k) false)) [(5,⟨[.agg [B (tL12 r k),B false]],2,false⟩)] 6,.dec true] [] (Ai (show (holdsB (tL12 r k) false)=true from (quot_5 (zp.1 (by assumption)) (by omega) h21)) (Ai (holds_5_6 (tL12 r k) false) (Ai h21 (Ai (T_ranges_Within (tv13 r k) r (Nat.le_trans (ok64 (ok_take (yd (ok_take (tk_Over (zp.1 (by assumption)) (by first | omega | (dsimp only; omega)))) (by first | omega | (dsimp only; omega))))) (by decide)) (by omega) (by omega)) (Ai (take_5_6 (tL10 r k) ((zb (tv11 r k) (⟨k.lo,k.lo⟩:Sn)).1) ((zb (tv11 r k) (⟨k.lo,k.lo⟩:Sn)).2) (tkn_len (yd (ok_take (tk_Over (zp.1 (by assumption)) (by first | omega | (dsimp only; omega)))) (by first | omega | (dsimp only; omega)))) (yd (ok_take (tk_Over (zp.1 (by assumption)) (by first | omega | (dsimp only; omega)))) (by first | omega | (dsimp only; omega)))) (Ai (T_ranges_Times (tv11 r k) (⟨k.lo,k.lo⟩:Sn) (Nat.le_trans (ok64 (ok_take (tk_Over (zp.1 (by assumption)) (by first | omega | (dsimp only; omega))))) (by decide)) (Nat.le_trans (ok64 (ok_take (tk_Over (zp.1 (by assumption)) (by first | omega | (dsimp only; omega))))) (by decide))) (Ai (take_5_6 false ((zk r (⟨k.lo,k.lo⟩:Sn)).1) ((zk r (⟨k.lo,k.lo⟩:Sn)).2) (tkn_len (tk_Over (zp.1 (by assumption)) (by first | omega | (dsimp only; omega)))) (tk_Over (zp.1 (by assumption)) (by first | omega | (dsimp only; omega)))) (Ai (T_ranges_Over r (⟨k.lo,k.lo⟩:Sn) (by omega) (by omega)) trivial)))))))) (by kernel_rfl)

def yl (r:GS Sn) (k:Sn):Bool :=
 bif ((zq (tv3 r k) (tv9 r k)).1) then
  (l_RangesQuotients_c28 r k)
 else
  (l_RangesQuotients_c28 r k)

theorem R_l_RangesQuotients_c20 (r:GS Sn) (k:Sn) (qC20_0:Bool) (d20_0:VS.D) (d20_1:VS.D) (d20_2:VS.D) (d20_3:VS.D) (d20_4:VS.D) (d20_5:VS.D) (d20_6:VS.D) (d20_7:VS.D) (d20_8:VS.D) (d20_9:VS.D) (d20_10:VS.D) (d20_11:VS.D) (d20_12:VS.D) (d20_13:VS.D) (d20_14:VS.D) (d20_15:VS.D) (d20_16:VS.D) (d20_17:VS.D) (d20_18:VS.D) (d20_19:VS.D) (d20_20:VS.D) (d20_21:VS.D) (d20_22:VS.D) (hk:1≤k.lo∧k.lo≤k.hi∧k.hi≤1000∧k.hi - k.lo≤99) (hvr:r_Valid r=true) (hlr:r.l.length≤64):RestOK cfg 10 lp10_100020 (sd50007 0 1 2 d20_0 d20_1 d20_2 d20_3 d20_4 d20_5 d20_6 d20_7 d20_8 d20_9 d20_10 d20_11 d20_12 d20_13 d20_14 d20_15 d20_16 d20_17 r d20_18 d20_19 d20_20 d20_21 d20_22 k qC20_0) (B (yl r k)):=by
 unfold yl
 cases h20:((zq (tv3 r k) (tv9 r k)).1) with
 | true =>
  exact po_restT (b:=lp10_100028) (st':=(sd50005 4 3 2 0 1 5 r k d20_0 d20_1 d20_2 d20_3 d20_4 d20_5 d20_6 d20_7 d20_8 d20_9 d20_10 d20_11 d20_12 d20_13 d20_14 d20_15 d20_16 d20_17 d20_18 d20_19 d20_20 d20_21 d20_22 qC20_0)) [.pure (.tup [.sl (((zb r (⟨k.lo,k.lo⟩:Sn)).1).nl) ((((zb r (⟨k.lo,k.lo⟩:Sn)).1).l).map Sn.D) (zsl (((zb r (⟨k.lo,k.lo⟩:Sn)).1).nl) 2) none,I ((zb r (⟨k.lo,k.lo⟩:Sn)).2)]),.inl (.sl ((tv3 r k).nl) (((tv3 r k).l).map Sn.D) (zsl ((tv3 r k).nl) 2) none) [(4,⟨[.agg [B (tL2 r k),B false]],2,false⟩)] 5,.pure (.tup [.sl (((zk (tv3 r k) (⟨k.lo,k.lo⟩:Sn)).1).nl) ((((zk (tv3 r k) (⟨k.lo,k.lo⟩:Sn)).1).l).map Sn.D) (zsl (((zk (tv3 r k) (⟨k.lo,k.lo⟩:Sn)).1).nl) 2) none,I ((zk (tv3 r k) (⟨k.lo,k.lo⟩:Sn)).2)]),.inl (.sl ((tv5 r k).nl) (((tv5 r k).l).map Sn.D) (zsl ((tv5 r k).nl) 2) none) [(4,⟨[.agg [B (tL4 r k),B false]],2,false⟩)] 5,.pure (B (r_Same (tv5 r k) r)),.rw 129 (B (r_Same (tv5 r k) r)),.inl (B (holdsB (tL4 r k) (r_Same (tv5 r k) r))) [(4,⟨[.agg [B (tL4 r k),B false]],2,false⟩)] 5,.dec true,.pure (.tup [.sl (((zb r (⟨1,1⟩:Sn)).1).nl) ((((zb r (⟨1,1⟩:Sn)).1).l).map Sn.D) (zsl (((zb r (⟨1,1⟩:Sn)).1).nl) 2) none,I ((zb r (⟨1,1⟩:Sn)).2)]),.inl (.sl ((tv7 r).nl) (((tv7 r).l).map Sn.D) (zsl ((tv7 r).nl) 2) none) [(4,⟨[.agg [B (tL6 r k),B false]],2,false⟩)] 5,.pure (B (r_Same (tv7 r) r)),.rw 142 (B (r_Same (tv7 r) r)),.inl (B (holdsB (tL6 r k) (r_Same (tv7 r) r))) [(4,⟨[.agg [B (tL6 r k),B false]],2,false⟩)] 5,.dec true,.pure (.tup [.sl (((zb r k).1).nl) ((((zb r k).1).l).map Sn.D) (zsl (((zb r k).1).nl) 2) none,I ((zb r k).2)]),.inl (.sl ((tv9 r k).nl) (((tv9 r k).l).map Sn.D) (zsl ((tv9 r k).nl) 2) none) [(4,⟨[.agg [B (tL8 r k),B false]],2,false⟩)] 5,.pure (.tup [B ((zq (tv3 r k) (tv9 r k)).1),I ((zq (tv3 r k) (tv9 r k)).2)]),.dec true,.dec true,.inl (B (holdsB (tL8 r k) true)) [(4,⟨[.agg [B (tL8 r k),B false]],2,false⟩)] 5,.dec true,.cut] (Ai (show (holdsB (tL8 r k) true)=true from (holds_of (.inr rfl))) (Ai (holds_4_5 (tL8 r k) true) (Ai (show (((zq (tv3 r k) (tv9 r k)).2) == 0)=true from (err_within0 (ok_take (yd (zp.1 (by assumption)) (by first | omega | (dsimp only; omega)))) (ok_take (yd (zp.1 (by assumption)) (by first | omega | (dsimp only; omega)))))) (Ai h20 (Ai (T_ranges_Within (tv3 r k) (tv9 r k) (Nat.le_trans (ok64 (ok_take (yd (zp.1 (by assumption)) (by first | omega | (dsimp only; omega))))) (by decide)) (Nat.le_trans (ok64 (ok_take (yd (zp.1 (by assumption)) (by first | omega | (dsimp only; omega))))) (by decide)) (Nat.le_trans (ok64 (ok_take (yd (zp.1 (by assumption)) (by first | omega | (dsimp only; omega))))) (by decide))) (Ai (take_4_5 (tL6 r k) ((zb r k).1) ((zb r k).2) (tkn_len (yd (zp.1 (by assumption)) (by first | omega | (dsimp only; omega)))) (yd (zp.1 (by assumption)) (by first | omega | (dsimp only; omega)))) (Ai (T_ranges_Times r k (by omega) (by omega)) (Ai (show (holdsB (tL6 r k) (r_Same (tv7 r) r))=true from (quot_3 (zp.1 (by assumption)))) (Ai (holds_4_5 (tL6 r k) (r_Same (tv7 r) r)) (Ai (Eq.refl (B (r_Same (tv7 r) r))) (Ai (T_r_Same (tv7 r) r (Nat.le_trans (ok64 (ok_take (yd (zp.1 (by assumption)) (by first | omega | (dsimp only; omega))))) (by decide))) (Ai (take_4_5 (tL4 r k) ((zb r (⟨1,1⟩:Sn)).1) ((zb r (⟨1,1⟩:Sn)).2) (tkn_len (yd (zp.1 (by assumption)) (by first | omega | (dsimp only; omega)))) (yd (zp.1 (by assumption)) (by first | omega | (dsimp only; omega)))) (Ai (T_ranges_Times r (⟨1,1⟩:Sn) (by omega) (by omega)) (Ai (show (holdsB (tL4 r k) (r_Same (tv5 r k) r))=true from (quot_2 (zp.1 (by assumption)) (by omega))) (Ai (holds_4_5 (tL4 r k) (r_Same (tv5 r k) r)) (Ai (Eq.refl (B (r_Same (tv5 r k) r))) (Ai (T_r_Same (tv5 r k) r (Nat.le_trans (ok64 (ok_take (tk_Over (ok_take (yd (zp.1 (by assumption)) (by first | omega | (dsimp only; omega)))) (by first | omega | (dsimp only; omega))))) (by decide))) (Ai (take_4_5 (tL2 r k) ((zk (tv3 r k) (⟨k.lo,k.lo⟩:Sn)).1) ((zk (tv3 r k) (⟨k.lo,k.lo⟩:Sn)).2) (tkn_len (tk_Over (ok_take (yd (zp.1 (by assumption)) (by first | omega | (dsimp only; omega)))) (by first | omega | (dsimp only; omega)))) (tk_Over (ok_take (yd (zp.1 (by assumption)) (by first | omega | (dsimp only; omega)))) (by first | omega | (dsimp only; omega)))) (Ai (T_ranges_Over (tv3 r k) (⟨k.lo,k.lo⟩:Sn) (Nat.le_trans (ok64 (ok_take (yd (zp.1 (by assumption)) (by first | omega | (dsimp only; omega))))) (by decide)) (Nat.le_trans (ok64 (ok_take (yd (zp.1 (by assumption)) (by first | omega | (dsimp only; omega))))) (by decide))) (Ai (take_4_5 false ((zb r (⟨k.lo,k.lo⟩:Sn)).1) ((zb r (⟨k.lo,k.lo⟩:Sn)).2) (tkn_len (yd (zp.1 (by assumption)) (by first | omega | (dsimp only; omega)))) (yd (zp.1 (by assumption)) (by first | omega | (dsimp only; omega)))) (Ai (T_ranges_Times r (⟨k.lo,k.lo⟩:Sn) (by omega) (by omega)) trivial))))))))))))))))))))) (R_l_RangesQuotients_c28 r k qC20_0 (tL8 r k) (B false) (B true) (B true) (B true) (I ((zq (tv3 r k) (tv9 r k)).2)) (B true) (B true) (.lref 4 0 2 0) (I ((zq (tv3 r k) (tv9 r k)).2)) (B true) (I ((zq (tv3 r k) (tv9 r k)).2)) (B true) (.tup [B ((zq (tv3 r k) (tv9 r k)).1),I ((zq (tv3 r k) (tv9 r k)).2)]) (.tup [B ((zq (tv3 r k) (tv9 r k)).1),I ((zq (tv3 r k) (tv9 r k)).2)]) (.sl ((tv9 r k).nl) (((tv9 r k).l).map Sn.D) (zsl ((tv9 r k).nl) 2) none) (I ((zb r k).2)) (.sl (((zb r k).1).nl) ((((zb r k).1).l).map Sn.D) (zsl (((zb r k).1).nl) 2) none) (.tup [.sl (((zb r k).1).nl) ((((zb r k).1).l).map Sn.D) (zsl (((zb r k).1).nl) 2) none,I ((zb r k).2)]) (.agg [I k.lo,I k.hi]) (.sl r.nl (r.l.map Sn.D) (zsl r.nl 2) none) (.lref 4 0 2 0) (.sl ((tv3 r k).nl) (((tv3 r k).l).map Sn.D) (zsl ((tv3 r k).nl) 2) none) (B false) (B false) (B true) (B (r_Same (tv7 r) r)) (.sl r.nl (r.l.map Sn.D) (zsl r.nl 2) none) (.sl ((tv7 r).nl) (((tv7 r).l).map Sn.D) (zsl ((tv7 r).nl) 2) none) (I ((zb r (⟨1,1⟩:Sn)).2)) (.sl (((zb r (⟨1,1⟩:Sn)).1).nl) ((((zb r (⟨1,1⟩:Sn)).1).l).map Sn.D) (zsl (((zb r (⟨1,1⟩:Sn)).1).nl) 2) none) (.tup [.sl (((zb r (⟨1,1⟩:Sn)).1).nl) ((((zb r (⟨1,1⟩:Sn)).1).l).map Sn.D) (zsl (((zb r (⟨1,1⟩:Sn)).1).nl) 2) none,I ((zb r (⟨1,1⟩:Sn)).2)]) (.agg [I 1,I 1]) (.sl r.nl (r.l.map Sn.D) (zsl r.nl 2) none) (.lref 4 0 2 0) (.lref 4 0 2 0) (B false) (B false) (B true) (B (r_Same (tv5 r k) r)) (.sl r.nl (r.l.map Sn.D) (zsl r.nl 2) none) (.sl ((tv5 r k).nl) (((tv5 r k).l).map Sn.D) (zsl ((tv5 r k).nl) 2) none) (I ((zk (tv3 r k) (⟨k.lo,k.lo⟩:Sn)).2)) (.sl (((zk (tv3 r k) (⟨k.lo,k.lo⟩:Sn)).1).nl) ((((zk (tv3 r k) (⟨k.lo,k.lo⟩:Sn)).1).l).map Sn.D) (zsl (((zk (tv3 r k) (⟨k.lo,k.lo⟩:Sn)).1).nl) 2) none) (.tup [.sl (((zk (tv3 r k) (⟨k.lo,k.lo⟩:Sn)).1).nl) ((((zk (tv3 r k) (⟨k.lo,k.lo⟩:Sn)).1).l).map Sn.D) (zsl (((zk (tv3 r k) (⟨k.lo,k.lo⟩:Sn)).1).nl) 2) none,I ((zk (tv3 r k) (⟨k.lo,k.lo⟩:Sn)).2)]) (.agg [I k.lo,I k.lo]) (.sl ((tv3 r k).nl) (((tv3 r k).l).map Sn.D) (zsl ((tv3 r k).nl) 2) none) (.lref 4 0 2 0) (.lref 4 0 2 0) (.sl ((tv3 r k).nl) (((tv3 r k).l).map Sn.D) (zsl ((tv3 r k).nl) 2) none) (.sl ((tv3 r k).nl) (((tv3 r k).l).map Sn.D) (zsl ((tv3 r k).nl) 2) none) (I ((zb r (⟨k.lo,k.lo⟩:Sn)).2)) (.sl (((zb r (⟨k.lo,k.lo⟩:Sn)).1).nl) ((((zb r (⟨k.lo,k.lo⟩:Sn)).1).l).map Sn.D) (zsl (((zb r (⟨k.lo,k.lo⟩:Sn)).1).nl) 2) none) (.tup [.sl (((zb r (⟨k.lo,k.lo⟩:Sn)).1).nl) ((((zb r (⟨k.lo,k.lo⟩:Sn)).1).l).map Sn.D) (zsl (((zb r (⟨k.lo,k.lo⟩:Sn)).1).nl) 2) none,I ((zb r (⟨k.lo,k.lo⟩:Sn)).2)]) (.agg [I k.lo,I k.lo]) (.sl r.nl (r.l.map Sn.D) (zsl r.nl 2) none) (.lref 4 0 2 0) (.lref 4 0 2 0) (.lref 4 0 2 0) (.agg [B false,B false]) (.lref 3 0 2 0) (.agg [I 1,I 1]) (.agg [I k.lo,I k.lo]) (I k.lo) (.lref 0 0 2 0) (I k.lo) (.lref 0 0 2 0) d20_0 d20_1 d20_2 d20_3 d20_4 d20_5 d20_6 d20_7 d20_8 d20_9 d20_10 d20_11 d20_12 d20_13 d20_14 d20_15 d20_16 d20_17 d20_18 (.lref 0 0 2 0) d20_19 d20_20 d20_21 d20_22 (by omega) (by omega) (by omega)) (by kernel_rfl)
 | false =>
  exact po_restT (b:=lp10_100028) (st':=(sd50006 4 3 2 0 1 5 r k d20_0 d20_1 d20_2 d20_3 d20_4 d20_5 d20_6 d20_7 d20_8 d20_9 d20_10 d20_11 d20_12 d20_13 d20_14 d20_15 d20_16 d20_17 d20_18 d20_19 d20_20 d20_21 d20_22 qC20_0)) [.pure (.tup [.sl (((zb r (⟨k.lo,k.lo⟩:Sn)).1).nl) ((((zb r (⟨k.lo,k.lo⟩:Sn)).1).l).map Sn.D) (zsl (((zb r (⟨k.lo,k.lo⟩:Sn)).1).nl) 2) none,I ((zb r (⟨k.lo,k.lo⟩:Sn)).2)]),.inl (.sl ((tv3 r k).nl) (((tv3 r k).l).map Sn.D) (zsl ((tv3 r k).nl) 2) none) [(4,⟨[.agg [B (tL2 r k),B false]],2,false⟩)] 5,.pure (.tup [.sl (((zk (tv3 r k) (⟨k.lo,k.lo⟩:Sn)).1).nl) ((((zk (tv3 r k) (⟨k.lo,k.lo⟩:Sn)).1).l).map Sn.D) (zsl (((zk (tv3 r k) (⟨k.lo,k.lo⟩:Sn)).1).nl) 2) none,I ((zk (tv3 r k) (⟨k.lo,k.lo⟩:Sn)).2)]),.inl (.sl ((tv5 r k).nl) (((tv5 r k).l).map Sn.D) (zsl ((tv5 r k).nl) 2) none) [(4,⟨[.agg [B (tL4 r k),B false]],2,false⟩)] 5,.pure (B (r_Same (tv5 r k) r)),.rw 129 (B (r_Same (tv5 r k) r)),.inl (B (holdsB (tL4 r k) (r_Same (tv5 r k) r))) [(4,⟨[.agg [B (tL4 r k),B false]],2,false⟩)] 5,.dec true,.pure (.tup [.sl (((zb r (⟨1,1⟩:Sn)).1).nl) ((((zb r (⟨1,1⟩:Sn)).1).l).map Sn.D) (zsl (((zb r (⟨1,1⟩:Sn)).1).nl) 2) none,I ((zb r (⟨1,1⟩:Sn)).2)]),.inl (.sl ((tv7 r).nl) (((tv7 r).l).map Sn.D) (zsl ((tv7 r).nl) 2) none) [(4,⟨[.agg [B (tL6 r k),B false]],2,false⟩)] 5,.pure (B (r_Same (tv7 r) r)),.rw 142 (B (r_Same (tv7 r) r)),.inl (B (holdsB (tL6 r k) (r_Same (tv7 r) r))) [(4,⟨[.agg [B (tL6 r k),B false]],2,false⟩)] 5,.dec true,.pure (.tup [.sl (((zb r k).1).nl) ((((zb r k).1).l).map Sn.D) (zsl (((zb r k).1).nl) 2) none,I ((zb r k).2)]),.inl (.sl ((tv9 r k).nl) (((tv9 r k).l).map Sn.D) (zsl ((tv9 r k).nl) 2) none) [(4,⟨[.agg [B (tL8 r k),B false]],2,false⟩)] 5,.pure (.tup [B ((zq (tv3 r k) (tv9 r k)).1),I ((zq (tv3 r k) (tv9 r k)).2)]),.dec false,.inl (B (holdsB (tL8 r k) false)) [(4,⟨[.agg [B (tL8 r k),B false]],2,false⟩)] 5,.dec true,.cut] (Ai (show (holdsB (tL8 r k) false)=true from (quot_4 (zp.1 (by assumption)) (by omega) h20)) (Ai (holds_4_5 (tL8 r k) false) (Ai h20 (Ai (T_ranges_Within (tv3 r k) (tv9 r k) (Nat.le_trans (ok64 (ok_take (yd (zp.1 (by assumption)) (by first | omega | (dsimp only; omega))))) (by decide)) (Nat.le_trans (ok64 (ok_take (yd (zp.1 (by assumption)) (by first | omega | (dsimp only; omega))))) (by decide)) (Nat.le_trans (ok64 (ok_take (yd (zp.1 (by assumption)) (by first | omega | (dsimp only; omega))))) (by decide))) (Ai (take_4_5 (tL6 r k) ((zb r k).1) ((zb r k).2) (tkn_len (yd (zp.1 (by assumption)) (by first | omega | (dsimp only; omega)))) (yd (zp.1 (by assumption)) (by first | omega | (dsimp only; omega)))) (Ai (T_ranges_Times r k (by omega) (by omega)) (Ai (show (holdsB (tL6 r k) (r_Same (tv7 r) r))=true from (quot_3 (zp.1 (by assumption)))) (Ai (holds_4_5 (tL6 r k) (r_Same (tv7 r) r)) (Ai (Eq.refl (B (r_Same (tv7 r) r))) (Ai (T_r_Same (tv7 r) r (Nat.le_trans (ok64 (ok_take (yd (zp.1 (by assumption)) (by first | omega | (dsimp only; omega))))) (by decide))) (Ai (take_4_5 (tL4 r k) ((zb r (⟨1,1⟩:Sn)).1) ((zb r (⟨1,1⟩:Sn)).2) (tkn_len (yd (zp.1 (by assumption)) (by first | omega | (dsimp only; omega)))) (yd (zp.1 (by assumption)) (by first | omega | (dsimp only; omega)))) (Ai (T_ranges_Times r (⟨1,1⟩:Sn) (by omega) (by omega)) (Ai (show (holdsB (tL4 r k) (r_Same (tv5 r k) r))=true from (quot_2 (zp.1 (by assumption)) (by omega))) (Ai (holds_4_5 (tL4 r k) (r_Same (tv5 r k) r)) (Ai (Eq.refl (B (r_Same (tv5 r k) r))) (Ai (T_r_Same (tv5 r k) r (Nat.le_trans (ok64 (ok_take (tk_Over (ok_take (yd (zp.1 (by assumption)) (by first | omega | (dsimp only; omega)))) (by first | omega | (dsimp only; omega))))) (by decide))) (Ai (take_4_5 (tL2 r k) ((zk (tv3 r k) (⟨k.lo,k.lo⟩:Sn)).1) ((zk (tv3 r k) (⟨k.lo,k.lo⟩:Sn)).2) (tkn_len (tk_Over (ok_take (yd (zp.1 (by assumption)) (by first | omega | (dsimp only; omega)))) (by first | omega | (dsimp only; omega)))) (tk_Over (ok_take (yd (zp.1 (by assumption)) (by first | omega | (dsimp only; omega)))) (by first | omega | (dsimp only; omega)))) (Ai (T_ranges_Over (tv3 r k) (⟨k.lo,k.lo⟩:Sn) (Nat.le_trans (ok64 (ok_take (yd (zp.1 (by assumption)) (by first | omega | (dsimp only; omega))))) (by decide)) (Nat.le_trans (ok64 (ok_take (yd (zp.1 (by assumption)) (by first | omega | (dsimp only; omega))))) (by decide))) (Ai (take_4_5 false ((zb r (⟨k.lo,k.lo⟩:Sn)).1) ((zb r (⟨k.lo,k.lo⟩:Sn)).2) (tkn_len (yd (zp.1 (by assumption)) (by first | omega | (dsimp only; omega)))) (yd (zp.1 (by assumption)) (by first | omega | (dsimp only; omega)))) (Ai (T_ranges_Times r (⟨k.lo,k.lo⟩:Sn) (by omega) (by omega)) trivial)))))))))))))))))))) (R_l_RangesQuotients_c28 r k qC20_0 (tL8 r k) (B false) (B true) (B false) (.tup []) (.tup []) (B false) (B false) (.lref 4 0 2 0) (I ((zq (tv3 r k) (tv9 r k)).2)) (B false) (I ((zq (tv3 r k) (tv9 r k)).2)) (B false) (.tup [B ((zq (tv3 r k) (tv9 r k)).1),I ((zq (tv3 r k) (tv9 r k)).2)]) (.tup [B ((zq (tv3 r k) (tv9 r k)).1),I ((zq (tv3 r k) (tv9 r k)).2)]) (.sl ((tv9 r k).nl) (((tv9 r k).l).map Sn.D) (zsl ((tv9 r k).nl) 2) none) (I ((zb r k).2)) (.sl (((zb r k).1).nl) ((((zb r k).1).l).map Sn.D) (zsl (((zb r k).1).nl) 2) none) (.tup [.sl (((zb r k).1).nl) ((((zb r k).1).l).map Sn.D) (zsl (((zb r k).1).nl) 2) none,I ((zb r k).2)]) (.agg [I k.lo,I k.hi]) (.sl r.nl (r.l.map Sn.D) (zsl r.nl 2) none) (.lref 4 0 2 0) (.sl ((tv3 r k).nl) (((tv3 r k).l).map Sn.D) (zsl ((tv3 r k).nl) 2) none) (B false) (B false) (B true) (B (r_Same (tv7 r) r)) (.sl r.nl (r.l.map Sn.D) (zsl r.nl 2) none) (.sl ((tv7 r).nl) (((tv7 r).l).map Sn.D) (zsl ((tv7 r).nl) 2) none) (I ((zb r (⟨1,1⟩:Sn)).2)) (.sl (((zb r (⟨1,1⟩:Sn)).1).nl) ((((zb r (⟨1,1⟩:Sn)).1).l).map Sn.D) (zsl (((zb r (⟨1,1⟩:Sn)).1).nl) 2) none) (.tup [.sl (((zb r (⟨1,1⟩:Sn)).1).nl) ((((zb r (⟨1,1⟩:Sn)).1).l).map Sn.D) (zsl (((zb r (⟨1,1⟩:Sn)).1).nl) 2) none,I ((zb r (⟨1,1⟩:Sn)).2)]) (.agg [I 1,I 1]) (.sl r.nl (r.l.map Sn.D) (zsl r.nl 2) none) (.lref 4 0 2 0) (.lref 4 0 2 0) (B false) (B false) (B true) (B (r_Same (tv5 r k) r)) (.sl r.nl (r.l.map Sn.D) (zsl r.nl 2) none) (.sl ((tv5 r k).nl) (((tv5 r k).l).map Sn.D) (zsl ((tv5 r k).nl) 2) none) (I ((zk (tv3 r k) (⟨k.lo,k.lo⟩:Sn)).2)) (.sl (((zk (tv3 r k) (⟨k.lo,k.lo⟩:Sn)).1).nl) ((((zk (tv3 r k) (⟨k.lo,k.lo⟩:Sn)).1).l).map Sn.D) (zsl (((zk (tv3 r k) (⟨k.lo,k.lo⟩:Sn)).1).nl) 2) none) (.tup [.sl (((zk (tv3 r k) (⟨k.lo,k.lo⟩:Sn)).1).nl) ((((zk (tv3 r k) (⟨k.lo,k.lo⟩:Sn)).1).l).map Sn.D) (zsl (((zk (tv3 r k) (⟨k.lo,k.lo⟩:Sn)).1).nl) 2) none,I ((zk (tv3 r k) (⟨k.lo,k.lo⟩:Sn)).2)]) (.agg [I k.lo,I k.lo]) (.sl ((tv3 r k).nl) (((tv3 r k).l).map Sn.D) (zsl ((tv3 r k).nl) 2) none) (.lref 4 0 2 0) (.lref 4 0 2 0) (.sl ((tv3 r k).nl) (((tv3 r k).l).map Sn.D) (zsl ((tv3 r k).nl) 2) none) (.sl ((tv3 r k).nl) (((tv3 r k).l).map Sn.D) (zsl ((tv3 r k).nl) 2) none) (I ((zb r (⟨k.lo,k.lo⟩:Sn)).2)) (.sl (((zb r (⟨k.lo,k.lo⟩:Sn)).1).nl) ((((zb r (⟨k.lo,k.lo⟩:Sn)).1).l).map Sn.D) (zsl (((zb r (⟨k.lo,k.lo⟩:Sn)).1).nl) 2) none) (.tup [.sl (((zb r (⟨k.lo,k.lo⟩:Sn)).1).nl) ((((zb r (⟨k.lo,k.lo⟩:Sn)).1).l).map Sn.D) (zsl (((zb r (⟨k.lo,k.lo⟩:Sn)).1).nl) 2) none,I ((zb r (⟨k.lo,k.lo⟩:Sn)).2)]) (.agg [I k.lo,I k.lo]) (.sl r.nl (r.l.map Sn.D) (zsl r.nl 2) none) (.lref 4 0 2 0) (.lref 4 0 2 0) (.lref 4 0 2 0) (.agg [B false,B false]) (.lref 3 0 2 0) (.agg [I 1,I 1]) (.agg [I k.lo,I k.lo]) (I k.lo) (.lref 0 0 2 0) (I k.lo) (.lref 0 0 2 0) d20_0 d20_1 d20_2 d20_3 d20_4 d20_5 d20_6 d20_7 d20_8 d20_9 d20_10 d20_11 d20_12 d20_13 d20_14 d20_15 d20_16 d20_17 d20_18 (.lref 0 0 2 0) d20_19 d20_20 d20_21 d20_22 (by omega) (by omega) (by omega)) (by kernel_rfl)

def l_RangesQuotients (r:GS Sn) (k:Sn) (x:Int):Bool :=
 bif (r_Valid r) then
  bif decide (k.lo < 1) then
   true
  else
   bif decide (k.lo > k.hi) then
    true
   else
    bif decide (k.hi > 1000) then
     true
    else
     bif decide ((w64 (k.hi - k.lo)) > 99) then
      true
     else
      match zK r k x ((k.hi - k.lo).toNat+2) false k.lo with
      | .x0 xC xt =>
       bif xC then
        (yl r k)
       else
        (yl r k)
      | .x1 xC xt =>
       bif xC then
        (yl r k)
       else
        (yl r k)
      | .x2 xC xt =>
       bif xC then
        (yl r k)
       else
        (yl r k)
      | .out =>
       default
 else
  true

def l_RangesQuotients_o1 (r:GS Sn) (k:Sn) (x:Int):List Ora:=[.pure (B true),.dec true,.pure (B (r_Valid r)),.dec true,.dec false,.dec false,.dec false,.dec false,.pure (.tup [.sl (((zk r k).1).nl) ((((zk r k).1).l).map Sn.D) (zsl (((zk r k).1).nl) 2) none,I ((zk r k).2)]),.inl (.sl ((tv1 r k).nl) (((tv1 r k).l).map Sn.D) (zsl ((tv1 r k).nl) 2) none) [(1,⟨[.agg [B (tL0 r k),B false]],2,false⟩)] 2,.pure (.tup [B ((zi (tv1 r k) x).1),I ((zi (tv1 r k) x).2)]),.rw 65 (B ((zi (tv1 r k) x).1)),.dec false]

theorem take_1_2 (L:Bool) (r:GS Sn) (e:Int) (hL:r.l.length≤9223372036854775807) (ht:Tkn r e):(lim cfg).inl 36 [.lref 1 0 2 0,.sl r.nl (r.l.map Sn.D) (zsl r.nl 2) none,I e] [(1,⟨[.agg [B L,B false]],2,false⟩)] 2=some (.sl ((takeR r e).nl) (((takeR r e).l).map Sn.D) (zsl ((takeR r e).nl) 2) none,[(1,⟨[.agg [B (takeL L e),B false]],2,false⟩)],2):=by
 unfold takeR takeL
 cases h1:(e == 2) with
 | true =>
  have g1:=eq_of_beq h1
  exact zH [.dec true] (Ai h1 trivial) (by kernel_rfl)
 | false =>
  have g1:=ne_of_beq_false h1
  exact zH [.dec false,.dec false,.pure (I (r_Check r)),.dec false] (Ai (show ((r_Check r) != 0)=false from (tk_r ht h1)) (Ai (T_r_Check r (by omega)) (Ai (show (e != 0)=false from (tk_e ht h1)) (Ai h1 trivial)))) (by kernel_rfl)

def sd50008 (ν0 ν1 ν2:Nat) (μ0:GS Sn) (μ1:Sn) (μ2:Int) (μ3:Int) (μ4:Bool):St:=⟨194,[(104,B false),(103,B true),(102,B (((zi (tv1 μ0 μ1) μ2).1) == true)),(101,B true),(100,B ((zi (tv1 μ0 μ1) μ2).1)),(99,.lref ν0 0 2 0),(82,B false),(81,B false),(80,I μ2),(79,B true),(78,B true),(77,B true),(76,I μ2),(75,B true),(74,B true),(73,I μ1.hi),(72,.lref ν1 0 2 1),(71,I μ3),(0,.sl μ0.nl (μ0.l.map Sn.D) (zsl μ0.nl 2) none),(2,I μ2),(4,.lref ν1 0 2 0),(7,.lref ν0 0 2 0),(9,B ((zi (tv1 μ0 μ1) μ2).1)),(11,B μ4),(12,I μ3)],[(ν1,⟨[.agg [I μ1.lo,I μ1.hi]],2,false⟩),(ν0,⟨[.agg [B (tL0 μ0 μ1),B false]],2,false⟩)],ν2,ν1⟩

def sd50003 (ν0 ν1 ν2:Nat) (μ0:Int) (μ1:Sn) (μ2:Int) (μ3:GS Sn) (μ4:Bool):St:=⟨194,[(82,B false),(81,B false),(80,I μ0),(79,B true),(78,B true),(77,B true),(76,I μ0),(75,B true),(74,B true),(73,I μ1.hi),(72,.lref ν0 0 2 1),(71,I μ2),(0,.sl μ3.nl (μ3.l.map Sn.D) (zsl μ3.nl 2) none),(2,I μ0),(4,.lref ν0 0 2 0),(7,.lref ν1 0 2 0),(9,B ((zi (tv1 μ3 μ1) μ0).1)),(11,B μ4),(12,I μ2)],[(ν0,⟨[.agg [I μ1.lo,I μ1.hi]],2,false⟩),(ν1,⟨[.agg [B (tL0 μ3 μ1),B false]],2,false⟩)],ν2,ν0⟩

theorem holds_1_2 (L:Bool) (z:Bool):(lim cfg).inl 38 [.lref 1 0 2 0,B z] [(1,⟨[.agg [B L,B false]],2,false⟩)] 2=some (B (holdsB L z),[(1,⟨[.agg [B L,B false]],2,false⟩)],2):=by
 unfold holdsB
 rcases Bool.eq_false_or_eq_true L with h1 | h1
 ·try simp only [cond_true,cond_false]
  rw [cond_t h1]
  exact zH [.dec false,.dec true] (Ai h1 (Ai (Eq.refl false) trivial)) (by kernel_rfl)
 ·try simp only [cond_true,cond_false]
  rw [cond_f h1]
  exact zH [.dec false,.dec false] (Ai h1 (Ai (Eq.refl false) trivial)) (by kernel_rfl)

def sd50009 (ν0 ν1 ν2:Nat) (μ0:GS Sn) (μ1:Sn) (μ2:Int) (μ3:Int) (μ4:Bool):St:=⟨194,[(104,B false),(103,B true),(102,B (((zi (tv1 μ0 μ1) μ2).1) == false)),(101,B false),(100,B ((zi (tv1 μ0 μ1) μ2).1)),(99,.lref ν0 0 2 0),(82,B false),(81,B false),(80,I μ2),(79,B true),(78,B true),(77,B true),(76,I μ2),(75,B true),(74,B true),(73,I μ1.hi),(72,.lref ν1 0 2 1),(71,I μ3),(0,.sl μ0.nl (μ0.l.map Sn.D) (zsl μ0.nl 2) none),(2,I μ2),(4,.lref ν1 0 2 0),(7,.lref ν0 0 2 0),(9,B ((zi (tv1 μ0 μ1) μ2).1)),(11,B μ4),(12,I μ3)],[(ν1,⟨[.agg [I μ1.lo,I μ1.hi]],2,false⟩),(ν0,⟨[.agg [B (tL0 μ0 μ1),B false]],2,false⟩)],ν2,ν1⟩

def sd50011 (ν0 ν1 ν2:Nat) (μ0:GS Sn) (μ1:Sn) (μ2:Int) (μ3:Int) (μ4:Bool):St:=⟨194,[(104,B false),(103,B true),(102,B (((zi (tv1 μ0 μ1) μ2).1) == true)),(101,B true),(100,B ((zi (tv1 μ0 μ1) μ2).1)),(99,.lref ν0 0 2 0),(82,B false),(81,.tup []),(80,.tup []),(79,B false),(78,B false),(77,B false),(76,I μ2),(75,B true),(74,B true),(73,I μ1.hi),(72,.lref ν1 0 2 1),(71,I μ3),(0,.sl μ0.nl (μ0.l.map Sn.D) (zsl μ0.nl 2) none),(2,I μ2),(4,.lref ν1 0 2 0),(7,.lref ν0 0 2 0),(9,B ((zi (tv1 μ0 μ1) μ2).1)),(11,B μ4),(12,I μ3)],[(ν1,⟨[.agg [I μ1.lo,I μ1.hi]],2,false⟩),(ν0,⟨[.agg [B (tL0 μ0 μ1),B false]],2,false⟩)],ν2,ν1⟩

def sd50010 (ν0 ν1 ν2:Nat) (μ0:Int) (μ1:Sn) (μ2:Int) (μ3:GS Sn) (μ4:Bool):St:=⟨194,[(82,B false),(81,.tup []),(80,.tup []),(79,B false),(78,B false),(77,B false),(76,I μ0),(75,B true),(74,B true),(73,I μ1.hi),(72,.lref ν0 0 2 1),(71,I μ2),(0,.sl μ3.nl (μ3.l.map Sn.D) (zsl μ3.nl 2) none),(2,I μ0),(4,.lref ν0 0 2 0),(7,.lref ν1 0 2 0),(9,B ((zi (tv1 μ3 μ1) μ0).1)),(11,B μ4),(12,I μ2)],[(ν0,⟨[.agg [I μ1.lo,I μ1.hi]],2,false⟩),(ν1,⟨[.agg [B (tL0 μ3 μ1),B false]],2,false⟩)],ν2,ν0⟩

def sd50012 (ν0 ν1 ν2:Nat) (μ0:GS Sn) (μ1:Sn) (μ2:Int) (μ3:Int) (μ4:Bool):St:=⟨194,[(104,B false),(103,B true),(102,B (((zi (tv1 μ0 μ1) μ2).1) == false)),(101,B false),(100,B ((zi (tv1 μ0 μ1) μ2).1)),(99,.lref ν0 0 2 0),(82,B false),(81,.tup []),(80,.tup []),(79,B false),(78,B false),(77,B false),(76,I μ2),(75,B true),(74,B true),(73,I μ1.hi),(72,.lref ν1 0 2 1),(71,I μ3),(0,.sl μ0.nl (μ0.l.map Sn.D) (zsl μ0.nl 2) none),(2,I μ2),(4,.lref ν1 0 2 0),(7,.lref ν0 0 2 0),(9,B ((zi (tv1 μ0 μ1) μ2).1)),(11,B μ4),(12,I μ3)],[(ν1,⟨[.agg [I μ1.lo,I μ1.hi]],2,false⟩),(ν0,⟨[.agg [B (tL0 μ0 μ1),B false]],2,false⟩)],ν2,ν1⟩

def sd50014 (ν0 ν1 ν2:Nat) (μ0:GS Sn) (μ1:Sn) (μ2:Int) (μ3:Int) (μ4:Bool):St:=⟨194,[(104,B false),(103,B true),(102,B (((zi (tv1 μ0 μ1) μ2).1) == true)),(101,B true),(100,B ((zi (tv1 μ0 μ1) μ2).1)),(99,.lref ν0 0 2 0),(82,B false),(81,.tup []),(80,.tup []),(79,B false),(78,B false),(77,.tup []),(76,.tup []),(75,B false),(74,B false),(73,I μ1.hi),(72,.lref ν1 0 2 1),(71,I μ3),(0,.sl μ0.nl (μ0.l.map Sn.D) (zsl μ0.nl 2) none),(2,I μ2),(4,.lref ν1 0 2 0),(7,.lref ν0 0 2 0),(9,B ((zi (tv1 μ0 μ1) μ2).1)),(11,B μ4),(12,I μ3)],[(ν1,⟨[.agg [I μ1.lo,I μ1.hi]],2,false⟩),(ν0,⟨[.agg [B (tL0 μ0 μ1),B false]],2,false⟩)],ν2,ν1⟩

def sd50013 (ν0 ν1 ν2:Nat) (μ0:Sn) (μ1:Int) (μ2:GS Sn) (μ3:Int) (μ4:Bool):St:=⟨194,[(82,B false),(81,.tup []),(80,.tup []),(79,B false),(78,B false),(77,.tup []),(76,.tup []),(75,B false),(74,B false),(73,I μ0.hi),(72,.lref ν0 0 2 1),(71,I μ1),(0,.sl μ2.nl (μ2.l.map Sn.D) (zsl μ2.nl 2) none),(2,I μ3),(4,.lref ν0 0 2 0),(7,.lref ν1 0 2 0),(9,B ((zi (tv1 μ2 μ0) μ3).1)),(11,B μ4),(12,I μ1)],[(ν0,⟨[.agg [I μ0.lo,I μ0.hi]],2,false⟩),(ν1,⟨[.agg [B (tL0 μ2 μ0),B false]],2,false⟩)],ν2,ν0⟩

def sd50015 (ν0 ν1 ν2:Nat) (μ0:GS Sn) (μ1:Sn) (μ2:Int) (μ3:Int) (μ4:Bool):St:=⟨194,[(104,B false),(103,B true),(102,B (((zi (tv1 μ0 μ1) μ2).1) == false)),(101,B false),(100,B ((zi (tv1 μ0 μ1) μ2).1)),(99,.lref ν0 0 2 0),(82,B false),(81,.tup []),(80,.tup []),(79,B false),(78,B false),(77,.tup []),(76,.tup []),(75,B false),(74,B false),(73,I μ1.hi),(72,.lref ν1 0 2 1),(71,I μ3),(0,.sl μ0.nl (μ0.l.map Sn.D) (zsl μ0.nl 2) none),(2,I μ2),(4,.lref ν1 0 2 0),(7,.lref ν0 0 2 0),(9,B ((zi (tv1 μ0 μ1) μ2).1)),(11,B μ4),(12,I μ3)],[(ν1,⟨[.agg [I μ1.lo,I μ1.hi]],2,false⟩),(ν0,⟨[.agg [B (tL0 μ0 μ1),B false]],2,false⟩)],ν2,ν1⟩

theorem T_l_RangesQuotients (r:GS Sn) (k:Sn) (x:Int) (hLr:r.l.length≤9223372036854775807):(lim cfg).pure 10 [GS.D Sn.D 2 r,Sn.D k,I x]=some (B (l_RangesQuotients r k x)):=by
 unfold l_RangesQuotients
 cases h1:(r_Valid r) with
 | true =>
  have g1:=ok64 (zp.1 h1)
  cases h2:decide (k.lo < 1) with
  | true =>
   have g2:=of_decide_eq_true h2
   exact zo [.pure (B true),.dec true,.pure (B (r_Valid r)),.dec true,.dec true] (Ai h2 (Ai h1 (Ai (T_r_Valid r (by omega)) (Ai (Eq.refl true) (Ai sane_ok trivial))))) (by kernel_rfl)
  | false =>
   have g2:=of_decide_eq_false h2
   cases h3:decide (k.lo > k.hi) with
   | true =>
    have g3:=of_decide_eq_true h3
    exact zo [.pure (B true),.dec true,.pure (B (r_Valid r)),.dec true,.dec false,.dec true] (Ai h3 (Ai h2 (Ai h1 (Ai (T_r_Valid r (by omega)) (Ai (Eq.refl true) (Ai sane_ok trivial)))))) (by kernel_rfl)
   | false =>
    have g3:=of_decide_eq_false h3
    cases h4:decide (k.hi > 1000) with
    | true =>
     have g4:=of_decide_eq_true h4
     exact zo [.pure (B true),.dec true,.pure (B (r_Valid r)),.dec true,.dec false,.dec false,.dec true] (Ai h4 (Ai h3 (Ai h2 (Ai h1 (Ai (T_r_Valid r (by omega)) (Ai (Eq.refl true) (Ai sane_ok trivial))))))) (by kernel_rfl)
    | false =>
     have g4:=of_decide_eq_false h4
     cases h5:decide ((w64 (k.hi - k.lo)) > 99) with
     | true =>
      have g5:=of_decide_eq_true h5
      exact zo [.pure (B true),.dec true,.pure (B (r_Valid r)),.dec true,.dec false,.dec false,.dec false,.dec true] (Ai h5 (Ai h4 (Ai h3 (Ai h2 (Ai h1 (Ai (T_r_Valid r (by omega)) (Ai (Eq.refl true) (Ai sane_ok trivial)))))))) (by kernel_rfl)
     | false =>
      have hk:=over_k3 (by assumption) (by assumption) (by assumption) h5
      have p1:=(T_ranges_Over r k (by omega) (by omega))
      have p2:=(take_1_2 false ((zk r k).1) ((zk r k).2) (tkn_len (tk_Over (zp.1 (by assumption)) (by first | omega | (dsimp only; omega)))) (tk_Over (zp.1 (by assumption)) (by first | omega | (dsimp only; omega))))
      have p3:=(T_ranges_Has (tv1 r k) x (Nat.le_trans (ok64 (ok_take (tk_Over (zp.1 (by assumption)) (by first | omega | (dsimp only; omega))))) (by decide)))
      have p4:=(Eq.refl (B ((zi (tv1 r k) x).1)))
      have p5:=(show (((zi (tv1 r k) x).2) != 0)=false from (err_has' (ok_take (tk_Over (zp.1 (by assumption)) (by first | omega | (dsimp only; omega)))) _))
      cases h18:zK r k x ((k.hi - k.lo).toNat+2) false k.lo with
      | x0 xC xt =>
       try dsimp only
       have hv_h18:=ivt_l_RangesQuotients_12 r k x ((zi (tv1 r k) x).1) (tL0 r k) ((k.hi - k.lo).toNat+2) false k.lo (quot_ne (zp.1 (by assumption)) hk) (by omega) (by omega) (by omega) (by omega)
       rw [h18] at hv_h18
       have hv_h18_0:=hv_h18
       try dsimp only [iv_l_RangesQuotients_12] at hv_h18_0
       have p6:=(zF (q:=lr_l_RangesQuotients_12 r k x ((zi (tv1 r k) x).1) (tL0 r k)) (lp_l_RangesQuotients_12 r k x ((zi (tv1 r k) x).1) (tL0 r k) ((k.hi - k.lo).toNat+2) false k.lo (quot_ne (zp.1 (by assumption)) hk) (by omega) (by omega) (by omega) (by omega)) h18)
       rcases Bool.eq_false_or_eq_true xC with h19 | h19
       ·try simp only [cond_true,cond_false]
        rw [cond_t h19]
        exact po_tail (b:=lp10_100020) (st':=(sd50008 1 0 2 r k x xt xC)) ((l_RangesQuotients_o1 r k x)++[.loop (.exit 0) (sd50003 0 1 2 x k xt r xC),.rw 101 (B true),.rw 102 (B (((zi (tv1 r k) x).1) == true)),.inl (B (holdsB (tL0 r k) (((zi (tv1 r k) x).1) == true))) [(1,⟨[.agg [B (tL0 r k),B false]],2,false⟩)] 2,.dec true,.cut]) (Ai (show (holdsB (tL0 r k) (((zi (tv1 r k) x).1) == true))=true from (quot_1 (zp.1 (by assumption)) (by omega) (by assumption) (by exact h19))) (Ai (holds_1_2 (tL0 r k) (((zi (tv1 r k) x).1) == true)) (Ai (Eq.refl (B (((zi (tv1 r k) x).1) == true))) (Ai (congrArg B h19) (Ai p6 (Ai p5 (Ai p4 (Ai p3 (Ai p2 (Ai p1 (Ai h5 (Ai h4 (Ai h3 (Ai h2 (Ai h1 (Ai (T_r_Valid r (by omega)) (Ai (Eq.refl true) (Ai sane_ok trivial)))))))))))))))))) (R_l_RangesQuotients_c20 r k (tL0 r k) (B false) (B true) (B (((zi (tv1 r k) x).1) == true)) (B true) (B ((zi (tv1 r k) x).1)) (.lref 1 0 2 0) (B false) (B false) (I x) (B true) (B true) (B true) (I x) (B true) (B true) (I k.hi) (.lref 0 0 2 1) (I xt) (I x) (.lref 1 0 2 0) (B ((zi (tv1 r k) x).1)) (B xC) (I xt) (by omega) (by omega) (by omega)) (by kernel_rfl)
       ·try simp only [cond_true,cond_false]
        rw [cond_f h19]
        exact po_tail (b:=lp10_100020) (st':=(sd50009 1 0 2 r k x xt xC)) ((l_RangesQuotients_o1 r k x)++[.loop (.exit 0) (sd50003 0 1 2 x k xt r xC),.rw 101 (B false),.rw 102 (B (((zi (tv1 r k) x).1) == false)),.inl (B (holdsB (tL0 r k) (((zi (tv1 r k) x).1) == false))) [(1,⟨[.agg [B (tL0 r k),B false]],2,false⟩)] 2,.dec true,.cut]) (Ai (show (holdsB (tL0 r k) (((zi (tv1 r k) x).1) == false))=true from (quot_1 (zp.1 (by assumption)) (by omega) (by assumption) (by exact h19))) (Ai (holds_1_2 (tL0 r k) (((zi (tv1 r k) x).1) == false)) (Ai (Eq.refl (B (((zi (tv1 r k) x).1) == false))) (Ai (congrArg B h19) (Ai p6 (Ai p5 (Ai p4 (Ai p3 (Ai p2 (Ai p1 (Ai h5 (Ai h4 (Ai h3 (Ai h2 (Ai h1 (Ai (T_r_Valid r (by omega)) (Ai (Eq.refl true) (Ai sane_ok trivial)))))))))))))))))) (R_l_RangesQuotients_c20 r k (tL0 r k) (B false) (B true) (B (((zi (tv1 r k) x).1) == false)) (B false) (B ((zi (tv1 r k) x).1)) (.lref 1 0 2 0) (B false) (B false) (I x) (B true) (B true) (B true) (I x) (B true) (B true) (I k.hi) (.lref 0 0 2 1) (I xt) (I x) (.lref 1 0 2 0) (B ((zi (tv1 r k) x).1)) (B xC) (I xt) (by omega) (by omega) (by omega)) (by kernel_rfl)
      | x1 xC xt =>
       try dsimp only
       have hv_h18:=ivt_l_RangesQuotients_12 r k x ((zi (tv1 r k) x).1) (tL0 r k) ((k.hi - k.lo).toNat+2) false k.lo (quot_ne (zp.1 (by assumption)) hk) (by omega) (by omega) (by omega) (by omega)
       rw [h18] at hv_h18
       have hv_h18_0:=hv_h18
       try dsimp only [iv_l_RangesQuotients_12] at hv_h18_0
       have p7:=(zF (q:=lr_l_RangesQuotients_12 r k x ((zi (tv1 r k) x).1) (tL0 r k)) (lp_l_RangesQuotients_12 r k x ((zi (tv1 r k) x).1) (tL0 r k) ((k.hi - k.lo).toNat+2) false k.lo (quot_ne (zp.1 (by assumption)) hk) (by omega) (by omega) (by omega) (by omega)) h18)
       rcases Bool.eq_false_or_eq_true xC with h20 | h20
       ·try simp only [cond_true,cond_false]
        rw [cond_t h20]
        exact po_tail (b:=lp10_100020) (st':=(sd50011 1 0 2 r k x xt xC)) ((l_RangesQuotients_o1 r k x)++[.loop (.exit 0) (sd50010 0 1 2 x k xt r xC),.rw 101 (B true),.rw 102 (B (((zi (tv1 r k) x).1) == true)),.inl (B (holdsB (tL0 r k) (((zi (tv1 r k) x).1) == true))) [(1,⟨[.agg [B (tL0 r k),B false]],2,false⟩)] 2,.dec true,.cut]) (Ai (show (holdsB (tL0 r k) (((zi (tv1 r k) x).1) == true))=true from (quot_1 (zp.1 (by assumption)) (by omega) (by assumption) (by exact h20))) (Ai (holds_1_2 (tL0 r k) (((zi (tv1 r k) x).1) == true)) (Ai (Eq.refl (B (((zi (tv1 r k) x).1) == true))) (Ai (congrArg B h20) (Ai p7 (Ai p5 (Ai p4 (Ai p3 (Ai p2 (Ai p1 (Ai h5 (Ai h4 (Ai h3 (Ai h2 (Ai h1 (Ai (T_r_Valid r (by omega)) (Ai (Eq.refl true) (Ai sane_ok trivial)))))))))))))))))) (R_l_RangesQuotients_c20 r k (tL0 r k) (B false) (B true) (B (((zi (tv1 r k) x).1) == true)) (B true) (B ((zi (tv1 r k) x).1)) (.lref 1 0 2 0) (B false) (.tup []) (.tup []) (B false) (B false) (B false) (I x) (B true) (B true) (I k.hi) (.lref 0 0 2 1) (I xt) (I x) (.lref 1 0 2 0) (B ((zi (tv1 r k) x).1)) (B xC) (I xt) (by omega) (by omega) (by omega)) (by kernel_rfl)
       ·try simp only [cond_true,cond_false]
        rw [cond_f h20]
        exact po_tail (b:=lp10_100020) (st':=(sd50012 1 0 2 r k x xt xC)) ((l_RangesQuotients_o1 r k x)++[.loop (.exit 0) (sd50010 0 1 2 x k xt r xC),.rw 101 (B false),.rw 102 (B (((zi (tv1 r k) x).1) == false)),.inl (B (holdsB (tL0 r k) (((zi (tv1 r k) x).1) == false))) [(1,⟨[.agg [B (tL0 r k),B false]],2,false⟩)] 2,.dec true,.cut]) (Ai (show (holdsB (tL0 r k) (((zi (tv1 r k) x).1) == false))=true from (quot_1 (zp.1 (by assumption)) (by omega) (by assumption) (by exact h20))) (Ai (holds_1_2 (tL0 r k) (((zi (tv1 r k) x).1) == false)) (Ai (Eq.refl (B (((zi (tv1 r k) x).1) == false))) (Ai (congrArg B h20) (Ai p7 (Ai p5 (Ai p4 (Ai p3 (Ai p2 (Ai p1 (Ai h5 (Ai h4 (Ai h3 (Ai h2 (Ai h1 (Ai (T_r_Valid r (by omega)) (Ai (Eq.refl true) (Ai sane_ok trivial)))))))))))))))))) (R_l_RangesQuotients_c20 r k (tL0 r k) (B false) (B true) (B (((zi (tv1 r k) x).1) == false)) (B false) (B ((zi (tv1 r k) x).1)) (.lref 1 0 2 0) (B false) (.tup []) (.tup []) (B false) (B false) (B false) (I x) (B true) (B true) (I k.hi) (.lref 0 0 2 1) (I xt) (I x) (.lref 1 0 2 0) (B ((zi (tv1 r k) x).1)) (B xC) (I xt) (by omega) (by omega) (by omega)) (by kernel_rfl)
      | x2 xC xt =>
       try dsimp only
       have hv_h18:=ivt_l_RangesQuotients_12 r k x ((zi (tv1 r k) x).1) (tL0 r k) ((k.hi - k.lo).toNat+2) false k.lo (quot_ne (zp.1 (by assumption)) hk) (by omega) (by omega) (by omega) (by omega)
       rw [h18] at hv_h18
       have hv_h18_0:=hv_h18
       try dsimp only [iv_l_RangesQuotients_12] at hv_h18_0
       have p8:=(zF (q:=lr_l_RangesQuotients_12 r k x ((zi (tv1 r k) x).1) (tL0 r k)) (lp_l_RangesQuotients_12 r k x ((zi (tv1 r k) x).1) (tL0 r k) ((k.hi - k.lo).toNat+2) false k.lo (quot_ne (zp.1 (by assumption)) hk) (by omega) (by omega) (by omega) (by omega)) h18)
       rcases Bool.eq_false_or_eq_true xC with h21 | h21
       ·try simp only [cond_true,cond_false]
        rw [cond_t h21]
        exact po_tail (b:=lp10_100020) (st':=(sd50014 1 0 2 r k x xt xC)) ((l_RangesQuotients_o1 r k x)++[.loop (.exit 0) (sd50013 0 1 2 k xt r x xC),.rw 101 (B true),.rw 102 (B (((zi (tv1 r k) x).1) == true)),.inl (B (holdsB (tL0 r k) (((zi (tv1 r k) x).1) == true))) [(1,⟨[.agg [B (tL0 r k),B false]],2,false⟩)] 2,.dec true,.cut]) (Ai (show (holdsB (tL0 r k) (((zi (tv1 r k) x).1) == true))=true from (quot_1 (zp.1 (by assumption)) (by omega) (by assumption) (by exact h21))) (Ai (holds_1_2 (tL0 r k) (((zi (tv1 r k) x).1) == true)) (Ai (Eq.refl (B (((zi (tv1 r k) x).1) == true))) (Ai (congrArg B h21) (Ai p8 (Ai p5 (Ai p4 (Ai p3 (Ai p2 (Ai p1 (Ai h5 (Ai h4 (Ai h3 (Ai h2 (Ai h1 (Ai (T_r_Valid r (by omega)) (Ai (Eq.refl true) (Ai sane_ok trivial)))))))))))))))))) (R_l_RangesQuotients_c20 r k (tL0 r k) (B false) (B true) (B (((zi (tv1 r k) x).1) == true)) (B true) (B ((zi (tv1 r k) x).1)) (.lref 1 0 2 0) (B false) (.tup []) (.tup []) (B false) (B false) (.tup []) (.tup []) (B false) (B false) (I k.hi) (.lref 0 0 2 1) (I xt) (I x) (.lref 1 0 2 0) (B ((zi (tv1 r k) x).1)) (B xC) (I xt) (by omega) (by omega) (by omega)) (by kernel_rfl)
       ·try simp only [cond_true,cond_false]
        rw [cond_f h21]
        exact po_tail (b:=lp10_100020) (st':=(sd50015 1 0 2 r k x xt xC)) ((l_RangesQuotients_o1 r k x)++[.loop (.exit 0) (sd50013 0 1 2 k xt r x xC),.rw 101 (B false),.rw 102 (B (((zi (tv1 r k) x).1) == false)),.inl (B (holdsB (tL0 r k) (((zi (tv1 r k) x).1) == false))) [(1,⟨[.agg [B (tL0 r k),B false]],2,false⟩)] 2,.dec true,.cut]) (Ai (show (holdsB (tL0 r k) (((zi (tv1 r k) x).1) == false))=true from (quot_1 (zp.1 (by assumption)) (by omega) (by assumption) (by exact h21))) (Ai (holds_1_2 (tL0 r k) (((zi (tv1 r k) x).1) == false)) (Ai (Eq.refl (B (((zi (tv1 r k) x).1) == false))) (Ai (congrArg B h21) (Ai p8 (Ai p5 (Ai p4 (Ai p3 (Ai p2 (Ai p1 (Ai h5 (Ai h4 (Ai h3 (Ai h2 (Ai h1 (Ai (T_r_Valid r (by omega)) (Ai (Eq.refl true) (Ai sane_ok trivial)))))))))))))))))) (R_l_RangesQuotients_c20 r k (tL0 r k) (B false) (B true) (B (((zi (tv1 r k) x).1) == false)) (B false) (B ((zi (tv1 r k) x).1)) (.lref 1 0 2 0) (B false) (.tup []) (.tup []) (B false) (B false) (.tup []) (.tup []) (B false) (B false) (I k.hi) (.lref 0 0 2 1) (I xt) (I x) (.lref 1 0 2 0) (B ((zi (tv1 r k) x).1)) (B xC) (I xt) (by omega) (by omega) (by omega)) (by kernel_rfl)
      | out =>
       exact absurd h18 ((quot_ne (zp.1 (by assumption)) hk))
 | false =>
  exact zo [.pure (B true),.dec true,.pure (B (r_Valid r)),.dec false] (Ai h1 (Ai (T_r_Valid r (by omega)) (Ai (Eq.refl true) (Ai sane_ok trivial)))) (by kernel_rfl)
end Go.VS

namespace Go.VS
open Go Go.Proofs Go.RowKit Go.ChangeShapes Go.WideShapes
set_option maxRecDepth 100000
theorem laid_out:laidOutB Tryz.prog=true:=by kernel_rfl
theorem maps_rowed:mapsRowed Tryz.prog=true:=by kernel_rfl
theorem sl_full:∀ t e,t < Tryz.prog.types.size→Tryz.prog.underlying t=some (.slice e)→0 < Tryz.prog.cellsOf e:=slices_full_of Tryz.prog (by kernel_rfl)
theorem i64_min:IntKind.i64.min=-9223372036854775808:=by rfl
theorem i64_max:IntKind.i64.max=9223372036854775807:=by rfl
def R64 (n:Int):Prop:=-9223372036854775808≤n∧n≤9223372036854775807
section
variable {H:Type} {enc:TypeId × Value→H} {w:World} {base base':Nat} {sp:Nat→Bool} {held:Bool} {t:TypeId} {v:Value} {d:DataW H} {p:List MemPlace} {r:Reach}
theorem arg_rep (h:DataW.Trod enc Tryz.prog w base sp held t v d p) (hv:Value.okWide Tryz.prog w r base' t v) (ht:topT cfg 8 t=true) (hr:rowedT cfg 8 t=true) :
  ∃ ds,zM (memOf w) noLoc ds v.cells.toList∧Sh cfg 8 t ds:=by
 obtain ⟨n,hn⟩:=h
 exact trod_rep (C:=cfg) (fun t ty h=>tyTab_ok.find h) 8 n t _ _ hn ht hr (.inl (plain_arg hv))
theorem repL_one {M:Mem} {m:Loc} {d:D} {cs:List Value} (h:zM M m [d] cs):∃ v,cs=[v]∧Rep M m d v:=by
 simp only [zM] at h
 obtain ⟨v,r,h1,h2,rfl⟩:=h
 exact ⟨v,h1,h2⟩
theorem one_cell {x u:Value} (h:x.cells.toList=[u]) (hp:∀ cs,x ≠ .agg cs):x=u:=by
 cases x <;> simp [Value.cells] at h <;> first | exact h | exact absurd rfl (hp _)
theorem ok_notAgg (hv:Value.okWide Tryz.prog w r base' t v) (hs:∀ fs,Tryz.prog.underlying t ≠ some (.struct fs)) (ha:∀ n e,Tryz.prog.underlying t ≠ some (.array n e)):∀ cs,v ≠ .agg cs:=by
 rintro cs rfl
 unfold Value.okWide at hv
 split at hv
 ·rename_i h; exact hs _ h
 ·rename_i h; exact ha _ _ h
 ·unfold Cell.okWide at hv
  split at hv <;> try (rename_i h1 h2; cases h2; done)
  unfold Cell.ok at hv
  split at hv <;> first | (rename_i h1 h2; cases h2; done) | cases hv
theorem agg_of (hv:Value.okWide Tryz.prog w r base' t v) (hs:(∃ fs,Tryz.prog.underlying t=some (.struct fs)) ∨ (∃ n e,Tryz.prog.underlying t=some (.array n e))):∃ cs,v=.agg cs:=by
 unfold Value.okWide at hv
 rcases hs with ⟨fs,hs⟩ | ⟨n,e,hs⟩ <;> rw [hs] at hv <;> simp only [] at hv <;> obtain ⟨cs,rfl,_⟩:=hv <;> exact ⟨cs,rfl⟩
end
theorem sh3 {f:Nat} {ds:List D} (h:Sh cfg (f+1) 3 ds):∃ x:Int,ds=[I x]∧R64 x:=by
 rw [Sh,cfg_ty,cty3] at h
 simp only [ty3] at h
 obtain ⟨n,h1,h2,h3⟩:=h
 rw [i64_min] at h2
 rw [i64_max] at h3
 exact ⟨n,h1,h2,h3⟩
theorem sh25 {f:Nat} {ds:List D} (h:Sh cfg (f+2) 25 ds):∃ x:Sn,ds=[I x.lo,I x.hi]∧True:=by
 rw [Sh,cfg_ty,cty25] at h
 simp only [zS] at h
 obtain ⟨hl,hf⟩:=h
 obtain ⟨t0,q0,z0⟩:=hf (3,0) (by simp)
 obtain rfl:t0=ty3:=(Option.some.inj (cty3.symm.trans q0)).symm
 obtain ⟨x0,e0,r0⟩:=sh3 (f:=f+0) z0
 obtain ⟨t1,q1,z1⟩:=hf (3,1) (by simp)
 obtain rfl:t1=ty3:=(Option.some.inj (cty3.symm.trans q1)).symm
 obtain ⟨x1,e1,r1⟩:=sh3 (f:=f+0) z1
 rcases ds with _ | ⟨c0,_ | ⟨c1,_ | ⟨y,r⟩⟩⟩
 all_goals simp at hl
 simp [ty3] at e0
 simp [ty3] at e1
 exact ⟨⟨x0,x1⟩,by simp [*],trivial⟩
theorem sh23 {f:Nat} {ds:List D} (h:Sh cfg (f+3) 23 ds):∃ x:GS Sn,ds=[.sl x.nl (x.l.map Sn.D) (zsl x.nl 2) none]∧x.l.length≤9223372036854775807:=by
 rw [Sh,cfg_ty,cty23] at h
 simp only [ty23] at h
 rcases h with h | ⟨els,te,h1,h2,h3,h4⟩
 ·exact ⟨GS.nil,h,by simp [GS.nil]⟩
 ·obtain rfl:te=zS:=(Option.some.inj (cty25.symm.trans h1)).symm
  have key:∀ els:List D,(∀ d∈els,Sh cfg (f+2) 25 d.cells∧(zS.isAgg=true→d=.agg d.cells)∧(zS.isAgg=false→d.cells=[d]))→∃ l:List Sn,els=l.map Sn.D:=by
   intro els
   induction els with
   | nil=>intro _; exact ⟨[],rfl⟩
   | cons d els ih =>
    intro hd
    obtain ⟨l,hl⟩:=ih fun d' h'=>hd d' (List.mem_cons_of_mem _ h')
    obtain ⟨q1,q2,q3⟩:=hd d (by simp)
    obtain ⟨a,e,_⟩:=sh25 (f:=f+0) q1
    have hx:d=Sn.D a:=by rw [q2 rfl,e]; rfl
    exact ⟨a::l,by rw [List.map_cons,← hx,← hl]⟩
  obtain ⟨l,rfl⟩:=key els h4
  refine ⟨GS.some l,h2,?_⟩
  simp only [List.length_map,maxLen] at h3
  simp only [GS.some]
  omega
theorem arg23 {H:Type} {enc:TypeId × Value→H} {w:World} {base base':Nat} {sp:Nat→Bool} {held:Bool} {v:Value} {d:DataW H} {p:List MemPlace} {r:Reach} (h:DataW.Trod enc Tryz.prog w base sp held 23 v d p) (hv:Value.okWide Tryz.prog w r base' 23 v):∃ x:GS Sn,Rep (memOf w) noLoc (GS.D Sn.D 2 x) v∧x.l.length≤9223372036854775807:=by
 obtain ⟨ds,h1,h2⟩:=arg_rep h hv (by kernel_rfl) (by kernel_rfl)
 obtain ⟨x,rfl,hx⟩:=sh23 (f:=5) h2
 obtain ⟨u,e,hu⟩:=repL_one h1
 exact ⟨x,by rw [one_cell e (ok_notAgg hv (by rw [Tryz.underlying23]; simp) (by rw [Tryz.underlying23]; simp))]; exact hu,hx⟩
theorem arg25 {H:Type} {enc:TypeId × Value→H} {w:World} {base base':Nat} {sp:Nat→Bool} {held:Bool} {v:Value} {d:DataW H} {p:List MemPlace} {r:Reach} (h:DataW.Trod enc Tryz.prog w base sp held 25 v d p) (hv:Value.okWide Tryz.prog w r base' 25 v):∃ x:Sn,Rep (memOf w) noLoc (Sn.D x) v∧True:=by
 obtain ⟨ds,h1,h2⟩:=arg_rep h hv (by kernel_rfl) (by kernel_rfl)
 obtain ⟨x,rfl,hx⟩:=sh25 (f:=6) h2
 obtain ⟨cs,rfl⟩:=agg_of hv (.inl ⟨_,Tryz.underlying25⟩)
 refine ⟨x,?_,hx⟩
 simp only [Rep,Sn.D]
 exact ⟨cs,rfl,by simpa [Value.cells] using h1⟩
theorem arg3 {H:Type} {enc:TypeId × Value→H} {w:World} {base base':Nat} {sp:Nat→Bool} {held:Bool} {v:Value} {d:DataW H} {p:List MemPlace} {r:Reach} (h:DataW.Trod enc Tryz.prog w base sp held 3 v d p) (hv:Value.okWide Tryz.prog w r base' 3 v):∃ x:Int,Rep (memOf w) noLoc (I x) v∧R64 x:=by
 obtain ⟨ds,h1,h2⟩:=arg_rep h hv (by kernel_rfl) (by kernel_rfl)
 obtain ⟨x,rfl,hx⟩:=sh3 (f:=7) h2
 obtain ⟨u,e,hu⟩:=repL_one h1
 exact ⟨x,by rw [one_cell e (ok_notAgg hv (by rw [Tryz.underlying3]; simp) (by rw [Tryz.underlying3]; simp))]; exact hu,hx⟩
open Go.Lib in
theorem tab_ok {W : World} (h : laidMetH Tryz.prog [("math/bits.deBruijn32tab", YtmdmclbpnkdimaaGreatDoor.Rows.laid_math_bits_deBruijn32tab), ("math/bits.deBruijn64tab", YtmdmclbpnkdimaaGreatDoor.Rows.laid_math_bits_deBruijn64tab), ("internal/strconv.uint64pow10", YtmdmclbpnkdimaaGreatDoor.Rows.laid_internal_strconv_uint64pow10), ("unicode/utf8.acceptRanges", YtmdmclbpnkdimaaGreatDoor.Rows.laid_unicode_utf8_acceptRanges), ("strconv.ErrRange", YtmdmclbpnkdimaaGreatDoor.Rows.laid_strconv_ErrRange), ("strconv.ErrSyntax", YtmdmclbpnkdimaaGreatDoor.Rows.laid_strconv_ErrSyntax), ("unicode/utf8.first", YtmdmclbpnkdimaaGreatDoor.Rows.laid_unicode_utf8_first)] W) : TabOK cfg W := by
 obtain ⟨ps, h, _⟩ : laidMet Tryz.prog [("math/bits.deBruijn32tab", YtmdmclbpnkdimaaGreatDoor.Rows.laid_math_bits_deBruijn32tab), ("math/bits.deBruijn64tab", YtmdmclbpnkdimaaGreatDoor.Rows.laid_math_bits_deBruijn64tab), ("internal/strconv.uint64pow10", YtmdmclbpnkdimaaGreatDoor.Rows.laid_internal_strconv_uint64pow10), ("unicode/utf8.acceptRanges", YtmdmclbpnkdimaaGreatDoor.Rows.laid_unicode_utf8_acceptRanges), ("strconv.ErrRange", YtmdmclbpnkdimaaGreatDoor.Rows.laid_strconv_ErrRange), ("strconv.ErrSyntax", YtmdmclbpnkdimaaGreatDoor.Rows.laid_strconv_ErrSyntax), ("unicode/utf8.first", YtmdmclbpnkdimaaGreatDoor.Rows.laid_unicode_utf8_first)] W := h
 obtain ⟨_,_,_,_,_,q,_,_,_,_,h,_⟩:=h
 obtain ⟨_,_,_,_,_,q,_,_,_,_,h,_⟩:=h
 obtain ⟨g',t',cs,fuel,p,q,hg',ht',hvar,hd,_⟩:=h
 intro g cs' hc
 have hg:g=F1.gPow∧cs'=F1.powTab:=by
  have hc':(bif eqb g F1.gPow then some F1.powTab else none)=some cs':=hc
  cases he:eqb g F1.gPow with
  | false=>rw [he] at hc'; cases hc'
  | true=>rw [he] at hc'; cases hc'; exact ⟨yv.1 he,rfl⟩
 obtain ⟨rfl,rfl⟩:=hg
 obtain rfl:=Option.some.inj (F1.gPow_is.symm.trans hg')
 have hgt:(Tryz.prog.globals[F1.gPow]?).map (·.type)=some 166:=by kernel_rfl
 obtain rfl:=Option.some.inj (hgt.symm.trans ht')
 have hz:(YtmdmclbpnkdimaaGreatDoor.Rows.laid_internal_strconv_uint64pow10:DataW Unit)=Lib.tabData .u64 Lib.pow10Tab:=by kernel_rfl
 rw [hz] at hd
 have hcs:=cells_of_tab (n:=20) Tryz.underlying166 Tryz.underlying140 (by kernel_rfl) (by kernel_rfl) hd
 unfold World.var? at hvar
 rw [F1.gPow_is,Option.bind_some] at hvar
 split at hvar
 ·rename_i c t fr hh
  cases hvar
  exact ⟨t,fr,by rw [hh,F1.powTab_is,← hcs]⟩
 ·cases hvar
noncomputable def laidWorld (os:Os):World :=
 let n:=(World.settled Tryz.prog os).heap.size
 { World.holding Tryz.prog os ⟨#[.cells #[.string ⟨#[118,97,108,117,101,32,111,117,116,32,111,102,32,114,97,110,103,101]⟩] 174 (0,0),.cells #[.string ⟨#[105,110,118,97,108,105,100,32,115,121,110,116,97,120]⟩] 174 (0,0)],#[],[]⟩ with heap:=((((((((World.holding Tryz.prog os ⟨#[.cells #[.string ⟨#[118,97,108,117,101,32,111,117,116,32,111,102,32,114,97,110,103,101]⟩] 174 (0,0),.cells #[.string ⟨#[105,110,118,97,108,105,100,32,115,121,110,116,97,120]⟩] 174 (0,0)],#[],[]⟩).heap.modify 6 fun | .cells _ t fr=>.cells (#[.int .u8 0,.int .u8 1,.int .u8 28,.int .u8 2,.int .u8 29,.int .u8 14,.int .u8 24,.int .u8 3,.int .u8 30,.int .u8 22,.int .u8 20,.int .u8 15,.int .u8 25,.int .u8 17,.int .u8 4,.int .u8 8,.int .u8 31,.int .u8 27,.int .u8 13,.int .u8 23,.int .u8 21,.int .u8 19,.int .u8 16,.int .u8 7,.int .u8 26,.int .u8 12,.int .u8 18,.int .u8 6,.int .u8 11,.int .u8 5,.int .u8 10,.int .u8 9]) t fr | o=>o).modify 7 fun | .cells _ t fr=>.cells (#[.int .u8 0,.int .u8 1,.int .u8 56,.int .u8 2,.int .u8 57,.int .u8 49,.int .u8 28,.int .u8 3,.int .u8 61,.int .u8 58,.int .u8 42,.int .u8 50,.int .u8 38,.int .u8 29,.int .u8 17,.int .u8 4,.int .u8 62,.int .u8 47,.int .u8 59,.int .u8 36,.int .u8 45,.int .u8 43,.int .u8 51,.int .u8 22,.int .u8 53,.int .u8 39,.int .u8 33,.int .u8 30,.int .u8 24,.int .u8 18,.int .u8 12,.int .u8 5,.int .u8 63,.int .u8 55,.int .u8 48,.int .u8 27,.int .u8 60,.int .u8 41,.int .u8 37,.int .u8 16,.int .u8 46,.int .u8 35,.int .u8 44,.int .u8 21,.int .u8 52,.int .u8 32,.int .u8 23,.int .u8 11,.int .u8 54,.int .u8 26,.int .u8 40,.int .u8 15,.int .u8 34,.int .u8 20,.int .u8 31,.int .u8 10,.int .u8 25,.int .u8 14,.int .u8 19,.int .u8 9,.int .u8 13,.int .u8 8,.int .u8 7,.int .u8 6]) t fr | o=>o).modify 3 fun | .cells _ t fr=>.cells (#[.int .u64 1,.int .u64 10,.int .u64 100,.int .u64 1000,.int .u64 10000,.int .u64 100000,.int .u64 1000000,.int .u64 10000000,.int .u64 100000000,.int .u64 1000000000,.int .u64 10000000000,.int .u64 100000000000,.int .u64 1000000000000,.int .u64 10000000000000,.int .u64 100000000000000,.int .u64 1000000000000000,.int .u64 10000000000000000,.int .u64 100000000000000000,.int .u64 1000000000000000000,.int .u64 10000000000000000000]) t fr | o=>o).modify 5 fun | .cells _ t fr=>.cells (#[.int .u8 128,.int .u8 191,.int .u8 160,.int .u8 191,.int .u8 128,.int .u8 159,.int .u8 144,.int .u8 191,.int .u8 128,.int .u8 143,.int .u8 0,.int .u8 0,.int .u8 0,.int .u8 0,.int .u8 0,.int .u8 0,.int .u8 0,.int .u8 0,.int .u8 0,.int .u8 0,.int .u8 0,.int .u8 0,.int .u8 0,.int .u8 0,.int .u8 0,.int .u8 0,.int .u8 0,.int .u8 0,.int .u8 0,.int .u8 0,.int .u8 0,.int .u8 0]) t fr | o=>o).modify 2 fun | .cells _ t fr=>.cells (#[.iface 172 (.pointer (some ⟨n+0,0,none⟩))]) t fr | o=>o).modify 1 fun | .cells _ t fr=>.cells (#[.iface 172 (.pointer (some ⟨n+1,0,none⟩))]) t fr | o=>o).modify 4 fun | .cells _ t fr=>.cells ((Go.Pinned.utf8FirstZ.map fun z=>Value.int .u8 (Int.ofNat z)).toArray) t fr | o=>o) }
end Go.VS

namespace Go.VS
open Go
theorem law_quotients (r:GS Sn) (k:Sn) (x:Int):r.l.length≤9223372036854775807→True→R64 x→(lim cfg).pure 10 [GS.D Sn.D 2 r,Sn.D k,I x]=some (B true):=fun h1 _ _=>by
 rw [T_l_RangesQuotients r k x h1]
 have h:l_RangesQuotients r k x=true:=by
  unfold l_RangesQuotients
  cases hv:r_Valid r with
  | false=>rfl
  | true =>
   simp only [cond_true]
   by_cases h1:k.lo < 1
   ·rw [decide_eq_true h1]; rfl
   ·rw [decide_eq_false h1]
    by_cases h2:k.lo > k.hi
    ·rw [decide_eq_true h2]; rfl
    ·rw [decide_eq_false h2]
     by_cases h3:k.hi > 1000
     ·rw [decide_eq_true h3]; rfl
     ·rw [decide_eq_false h3]
      cases h4:decide ((w64 (k.hi - k.lo)) > 99) with
      | true=>rfl
      | false =>
       have hk:=over_k3 h1 h2 h3 h4
       simp only [cond_false]
       cases hq:zK r k x ((k.hi - k.lo).toNat+2) false k.lo with
       | x0 v c=>simp [yl,l_RangesQuotients_c28,Bool.cond_self]
       | x1 v c=>simp [yl,l_RangesQuotients_c28,Bool.cond_self]
       | x2 v c=>simp [yl,l_RangesQuotients_c28,Bool.cond_self]
       | out=>exact absurd hq (quot_ne (zp.1 hv) hk)
 rw [h]
end Go.VS

